/- Plain safety of scripts and configurations. What is decoded is valid. Runs of an engine. -/
import Derived.Test.YtkmkhldmflebkaaGreatCzam
set_option linter.all false
namespace Go.Proofs.YtkmkhldmflebkaaGreat
section
open Go
theorem aaI.agr {α:Type} {x y:Option α} {P:α→Prop} (h1:aaI x P) (h2:x=y):aaI (agr x y) P:=by subst h2; rw [acL]; exact h1
theorem apn {l:List Int} {i n:Int} (h:l.length≤1000000) (hi:0≤i) (hi2:i≤1000000000):aaI (aez l i n) fun o =>o.1.1=acy (wi (Int.tdiv (aaf l (Int.tmod i l.length)) (wi (1+Int.tmod (wi (Int.tdiv i l.length)) 7)))) n∨(l=[]∧o.1.1=0):=by
 unfold aez
 refine aaI.ite (fun h0 =>.some_ (.inr ⟨List.length_eq_zero_iff.1 (by omega),rfl⟩)) fun h0 =>?_
 have h1:=Int.tmod_nonneg (b:=(l.length:Int)) (a:=i) (by omega)
 have h2:=Int.tmod_lt_of_pos i (b:=(l.length:Int)) (by omega)
 have h3:0≤Int.tdiv i (l.length:Int):=Int.tdiv_nonneg hi (by omega)
 have h4:Int.tdiv i (l.length:Int)≤i:=Int.tdiv_le_self _ hi
 have h5:wi (Int.tdiv i (l.length:Int))=Int.tdiv i (l.length:Int):=aa2 (aae (by omega))
 have h6:=asx (a:=Int.tdiv i (l.length:Int)) (b:=7) (by omega) (by omega)
 have h7:wi (1+Int.tmod (wi (Int.tdiv i (l.length:Int))) 7)=1+Int.tmod (Int.tdiv i (l.length:Int)) 7:=by rw [h5]; exact aa2 (aae (by omega))
 refine .guard h0 fun _ =>.guard (by omega) fun _ =>.guard h0 fun _ =>.guard (by rw [h7]; omega) fun _ =>?_
 rw [abn]
 exact .some_ (.inl rfl)
theorem ael {l:List Int} {i n:Int} (h:l.length≤1000000) (hi:0≤i) (hi2:i≤1000000000) (h1:1≤n) (h2:n≤1000000000):aaI (aez l i n) fun o =>0≤o.1.1∧o.1.1<n:=by
 refine (apn h hi hi2).mono fun o ho =>?_
 rcases ho with e | ⟨_,e⟩
 ·rw [e]; exact am8 h1 (by omega)
 ·rw [e]; omega
theorem aie {l:List EntV} {v:EntV} {i:Int} (hl:l.length≤1000000) (hi:0≤i∧i≤(l.length:Int)) (hv:Rg v.value) (hr:∀ u∈l,Rg u.value):aaI (ajm l v i) fun o =>o.1.1.length=l.length+1∧∀ u∈o.1.1,Rg u.value:=by
 unfold ajm
 refine .guard hi fun _ =>.guard (by simp; omega) fun _ =>.guard (by simp; omega) fun _ =>.guard hi fun _ =>.guard (by simp; omega) fun _ =>.some_ ⟨by simp; omega,fun u hu =>?_⟩
 simp only [List.nil_append,List.mem_append,List.mem_singleton] at hu
 rcases hu with (hu | rfl) | hu
 ·exact hr u (List.mem_of_mem_take hu)
 ·exact hv
 ·exact hr u (List.mem_of_mem_drop hu)
def asr (K:Nat) (l:List EntV):Prop:=l.length≤K∧∀ v∈l,Rg v.value
theorem arn {raw:List Int} {at_ n:Int} (h:raw.length≤1000000) (ha:0≤at_) (ha2:at_≤1000000) (h1:1≤n) (h2:n≤100):aaI (aqK raw at_ n) fun o =>asr (n.toNat+3) o.1.1:=by
 unfold aqK
 refine aaI.bind (P:=fun z =>(z.1.length:Int)=n∧∀ v∈z.1,Rg v.value) (ab8 (fun x =>0≤x.2.1∧x.2.1≤n∧(x.1.length:Int)=x.2.1∧∀ v∈x.1,Rg v.value) (fun x =>(n-x.2.1).toNat) (fun self x ⟨q0,q1,q2,q3⟩ ih =>?_) _ _ ⟨Int.le_refl 0,by show (0:Int)≤n; omega,rfl,fun v hv =>by cases hv⟩ (by show (n-0).toNat<_; omega)) fun z hz =>?_
 rotate_left
 ·refine aaI.ite (fun hlt =>?_) fun hlt =>.some_ ⟨by show (x.1.length:Int)=n; omega,q3⟩
  have e1:wi (at_+x.2.1)=at_+x.2.1:=aa2 (aae (by omega))
  have e2:wi (x.2.1+1)=x.2.1+1:=aa2 (aae (by omega))
  rw [show aps x.2.1=some (((⟨0,x.2.1⟩:EntV),()),()) from rfl,Option.bind_some,e1,e2]
  refine (ael h (by omega) (by omega) (by omega) (by omega)).bind fun r hr =>?_
  refine (aie (by omega) ⟨hr.1,by omega⟩ (aae (x:=x.2.1) (by omega)) q3).bind fun o ho =>?_
  exact ih _ ⟨by show 0≤x.2.1+1; omega,by show x.2.1+1≤n; omega,by show (o.1.1.length:Int)=x.2.1+1; omega,ho.2⟩ (by show (n-(x.2.1+1)).toNat<(n-x.2.1).toNat; omega)
 have e1:wi (at_+n)=at_+n:=aa2 (aae (by omega))
 have e2:wi (n+1)=n+1:=aa2 (aae (by omega))
 have e3:wi (at_+n+1)=at_+n+1:=aa2 (aae (by omega))
 rw [e1,e2,e3]
 refine (ael h (by omega) (by omega) (by omega) (by omega)).bind fun r7 hr7 =>?_
 refine (aie (by omega) ⟨hr7.1,by omega⟩ (aae (by decide)) hz.2).bind fun r8 hr8 =>?_
 refine (ael (n:=3) h (by omega) (by omega) (by decide) (by decide)).bind fun r9 hr9 =>?_
 refine aaI.bind (P:=fun z =>asr (n.toNat+3) z.1) (ab8 (fun x =>0≤x.2.1∧x.2.1≤2∧(x.1.length:Int)+x.2.1≤n+3∧n+1≤(x.1.length:Int)∧∀ v∈x.1,Rg v.value) (fun x =>x.2.1.toNat) (fun self x ⟨q0,q1,q2,q4,q3⟩ ih =>?_) _ _ ⟨hr9.1,by show r9.1.1≤2; omega,by show (r8.1.1.length:Int)+r9.1.1≤n+3; omega,by show n+1≤(r8.1.1.length:Int); omega,hr8.2⟩ (by show r9.1.1.toNat<_; omega)) fun z hz =>.some_ hz
 refine aaI.ite (fun hlt =>?_) fun hlt =>.some_ ⟨by show x.1.length≤n.toNat+3; omega,q3⟩
 have f1:wi (at_+n+x.2.1)=at_+n+x.2.1:=aa2 (aae (by omega))
 have f2:wi (at_+x.2.1)=at_+x.2.1:=aa2 (aae (by omega))
 have f3:wi ((x.1.length:Int)+1)=(x.1.length:Int)+1:=aa2 (aae (by omega))
 have f4:wi (x.2.1-1)=x.2.1-1:=aa2 (aae (by omega))
 rw [f1,f2,f3,f4]
 refine (ael h (by omega) (by omega) (by omega) (by omega)).bind fun r13 hr13 =>?_
 rw [show aps r13.1.1=some (((⟨0,r13.1.1⟩:EntV),()),()) from rfl,Option.bind_some]
 refine (ael h (by omega) (by omega) (by omega) (by omega)).bind fun r15 hr15 =>?_
 refine (aie (by omega) ⟨hr15.1,by omega⟩ (aae (x:=r13.1.1) (by omega)) q3).bind fun o ho =>?_
 exact ih _ ⟨by show 0≤x.2.1-1; omega,by show x.2.1-1≤2; omega,by show (o.1.1.length:Int)+(x.2.1-1)≤n+3; omega,by show n+1≤(o.1.1.length:Int); omega,ho.2⟩ (by show (x.2.1-1).toNat<x.2.1.toNat; omega)
theorem ayb {b:List Int} (hb:b.length≤1000000):aaI (aj8 b) fun o =>asr 65536 o.1.1:=by
 unfold aj8
 refine aaI.bind (P:=fun z =>asr 65536 z.1) (ab8 (fun x =>0≤x.2.1∧x.2.1≤(b.length:Int)+2∧x.1.length≤65536∧∀ v∈x.1,Rg v.value) (fun x =>((b.length:Int)+2-x.2.1).toNat) (fun self x ⟨q0,q1,q2,q3⟩ ih =>?_) _ _ ⟨Int.le_refl 0,by show (0:Int)≤(b.length:Int)+2; omega,Nat.zero_le _,fun v hv =>by cases hv⟩ (by show ((b.length:Int)+2-0).toNat<_; omega)) fun z hz =>.some_ hz
 have e1:wi (x.2.1+1)=x.2.1+1:=aa2 (aae (by omega))
 have e2:wi (x.2.1+2)=x.2.1+2:=aa2 (aae (by omega))
 rw [e1,e2]
 refine aaI.ite (fun h1 =>aaI.ite (fun h2 =>.guard (by omega) fun _ =>.guard (by omega) fun _ =>.guard rfl fun _ =>.guard rfl fun _ =>?_) fun _ =>.some_ ⟨q2,q3⟩) fun _ =>.some_ ⟨q2,q3⟩
 have nx:∀ u:EntV,Rg u.value→aaI (self (x.1++[u],x.2.1+2,())) fun z =>asr 65536 z.1:=fun u hu =>ih _ ⟨by show 0≤x.2.1+2; omega,by show x.2.1+2≤(b.length:Int)+2; omega,by simp; omega,fun v hv =>by
  rcases List.mem_append.1 hv with hv | hv
  ·exact q3 v hv
  ·rw [List.mem_singleton] at hv; subst hv; exact hu⟩ (by show ((b.length:Int)+2-(x.2.1+2)).toNat<((b.length:Int)+2-x.2.1).toNat; omega)
 refine aaI.ite (fun _ =>.guard (by simp; omega) fun _ =>nx _ rg0) fun _ =>aaI.ite (fun _ =>.guard (by simp; omega) fun _ =>nx _ rg0) fun _ =>.guard (by simp; omega) fun _ =>nx _ (aaG _)
theorem aoR {b:List Int} {n:Int} (hb:b.length≤1000000) (hn:0≤n):aaI (amT b n) fun o =>asr n.toNat o.1.1:=by
 unfold amT
 refine (ayb hb).bind fun r hr =>aaI.ite (fun h =>.guard (by omega) fun _ =>.some_ ⟨by show (r.1.1.take n.toNat).length≤n.toNat; simp; omega,fun v hv =>hr.2 v (List.mem_of_mem_take hv)⟩) fun h =>.some_ ⟨by show r.1.1.length≤n.toNat; omega,hr.2⟩
section
variable {c:Cfg}
theorem DecOk.ok (h:DecOk c):CfgOk c:=by
 have:=h.w; have:=h.l; have:=h.k; have:=h.t; have:=h.q
 refine ⟨by omega,by omega,by omega,by omega,by omega,by omega,by omega,by omega,by omega,by omega,by have:=h.sn; omega,fun s hs =>?_,fun p hp x hx =>?_⟩
 ·obtain ⟨h1,h2,h3⟩:=h.ss s hs
  have:=h.pn
  exact ⟨aae (by omega),aae (by omega),aae (by omega)⟩
 ·have:=h.pn
  rcases h.ps p hp x hx with h0 | h0 | h0
  ·exact ⟨aae (by omega),aae (by omega),fun h1 =>absurd h0.1 h1⟩
  ·exact ⟨aae (by omega),aae (by omega),fun _ h1 =>absurd h0.1 h1⟩
  ·exact ⟨aae (by omega),aae (by omega),fun _ _ =>h0.2.1⟩
end
theorem apC {b:List Int} (hb:∀ x∈b,0≤x∧x≤255) (hl:b.length≤1000000):aaI (akR b) fun o =>DecOk o.1.1:=by
 unfold akR
 exact (apz hb hl).bind fun r h =>.some_ h
theorem asr.take {K:Nat} {l:List EntV} (h:asr K l) (n:Nat):asr K (l.take n):=⟨by rw [List.length_take]; have:=h.1; omega,fun v hv =>h.2 v (List.mem_of_mem_take hv)⟩
theorem amm {K:Nat} {x:EngV} (h:EngP K x) {l:List EntV} {m:Nat} (hl:asr m l) (hK1:1≤K) (hK:K+5*m≤700000000):aaI (akB x l) fun o =>EngP (K+5*m) o.2.1∧o.2.1.e.c=x.e.c:=by
 have h1:=hl.1
 obtain ⟨g1,g2,_,_⟩:=avH l K x h hl.2 hK1 (by omega)
 exact ⟨_,run_eq' h hl.2 hK1 (by omega),g1.le (by omega),g2⟩
theorem arU {c:Cfg} (hc:CfgOk c):aaI (amU c) fun o =>o.1.1.length=40*c.subs.length∧∀ v∈o.1.1,Rg v.value:=by
 have w1:=hc.w1
 have w2:=hc.w2
 have hs:=hc.sl
 unfold amU
 have e0:wi (40*((c.subs.length:Nat):Int))=40*((c.subs.length:Nat):Int):=aa2 (aae (by omega))
 rw [e0]
 refine aaI.bind (P:=fun z =>z.1.length=40*c.subs.length∧∀ v∈z.1,Rg v.value) (ab8 (fun x =>0≤x.2.1∧x.2.1≤40*(c.subs.length:Int)∧(x.1.length:Int)=x.2.1∧∀ v∈x.1,Rg v.value) (fun x =>(40*(c.subs.length:Int)-x.2.1).toNat) (fun self x ⟨q0,q1,q2,q3⟩ ih =>?_) _ _ ⟨Int.le_refl 0,by show (0:Int)≤40*(c.subs.length:Int); omega,rfl,fun v hv =>by cases hv⟩ (by show (40*(c.subs.length:Int)-0).toNat<_; omega)) fun z hz =>.some_ hz
 refine aaI.ite (fun hlt =>?_) fun hlt =>.some_ ⟨by show x.1.length=40*c.subs.length; omega,q3⟩
 have e2:wi (x.2.1+1)=x.2.1+1:=aa2 (aae (by omega))
 rw [show aps c.workers=some (((⟨0,c.workers⟩:EntV),()),()) from rfl,Option.bind_some,e2]
 refine .guard (by simp; omega) fun _ =>ih _ ⟨by show 0≤x.2.1+1; omega,by show x.2.1+1≤40*(c.subs.length:Int); omega,by simp; omega,fun v hv =>?_⟩ (by show (40*(c.subs.length:Int)-(x.2.1+1)).toNat<(40*(c.subs.length:Int)-x.2.1).toNat; omega)
 rcases List.mem_append.1 hv with hv | hv
 ·exact q3 v hv
 ·rw [List.mem_singleton] at hv; subst hv; exact aae (by show -1000000000000≤c.workers∧c.workers≤1000000000000; omega)
end
end Go.Proofs.YtkmkhldmflebkaaGreat
