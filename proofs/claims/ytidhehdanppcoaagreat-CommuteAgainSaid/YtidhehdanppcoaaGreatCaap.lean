/- Who has a task,in the program's memory: what each line that touches a task does. Who has a task: Run,a worker,the client. Who has a task: what holds of an engine between its entries. Levels along waits: what covers a task,and what keeps it covered. No program occurs here. Waits,walks and levels: what holds between steps,and how each kind of step keeps it. No program occurs here. What the events say of levels and waits,and when an engine's events are good. Levels: what the events say of them is what the cells hold. -/
import Derived.Test.YtidhehdanppcoaaGreatCaao
import Derived.Test.YtidhehdanppcoaaGreatCaaa
set_option linter.all false
namespace Go.Proofs.YtidhehdanppcoaaGreat
section
open Go Go.RowKit
set_option maxRecDepth 100000
variable [Tb]
section
variable {c:Cfg} {e e1 e':EnvP} {v v1 v':Vw} {t u k x:Int}
theorem aEq (h:DecOk c) {f:Int} (hf:0≤f∧f<5) (ht:TOk c t):0≤acU (aav c) t f∧acU (aav c) t f<aaU c:=by
 have e1:=adH h (t:=t) hf
 have e3:=ag0 h
 have h4:=h.h
 have ht:0≤t∧t<c.tasks:=ht
 rw [e1,if_pos ht]
 unfold aaU
 omega
theorem asd (h:DecOk c) (hl:(e.m.cells.length:Int)=aaU c) {f:Int} (hf:0≤f∧f<5) (ht:TOk c t):(e.pt k (acU (aav c) t f) x).gt (acU (aav c) t f)=x:=by
 have:=aEq h hf ht
 rw [aho,if_pos ⟨rfl,by omega⟩]
theorem avA (h:DecOk c) {f:Int} (hf:0≤f∧f<5) (ht:TOk c t) (hu:u≠t):(e.pt k (acU (aav c) t f) x).gt (acU (aav c) u f)=e.gt (acU (aav c) u f):=by
 rw [aho,if_neg]
 intro h'
 exact hu (aHc h hf ht h'.1)
theorem anu (h:DecOk c) (hl:(e.m.cells.length:Int)=aaU c) (ht:TOk c t):Stt c (e.pt k (aaN (aav c) t) x) t=x:=asd h hl (f:=0) (by omega) ht
theorem atM (h:DecOk c) (ht:TOk c t):Of1 c e (e.pt k (aaN (aav c) t) x) t :=
 ⟨fun u hu =>avA h (f:=0) (by omega) ht hu,fun u =>alZ h (f:=2) (by omega) (by omega) (by omega),at0 h (by omega) (by omega),rfl,fun _ _ _ =>rfl,[],by show e.evs=_; simp,fun y hy =>by cases hy⟩
theorem apr:Of1 c e e t:=⟨fun _ _ =>rfl,fun _ =>rfl,rfl,rfl,fun _ _ _ =>rfl,[],by simp,fun y hy =>by cases hy⟩
theorem Of1.em {w o y:Int} (h:Of1 c e e' t) (hk:u=t∨(k≠1∧k≠3∧k≠5∧k≠10)):Of1 c e (e'.em k w u o y) t:=by
 obtain ⟨m,hm,hp⟩:=h.ev
 refine ⟨h.st,h.jo,h.nx,h.rl,h.rc,m++[⟨k,w,u,o,y⟩],by show e'.evs++[_]=_; rw [hm,List.append_assoc],fun x hx =>?_⟩
 rcases List.mem_append.1 hx with hx | hx
 ·exact hp x hx
 ·rw [List.mem_singleton.1 hx]; exact hk
theorem ayZ {r:RecP} (ht:0≤t) (hx:x≠t) (h0:0≤x):(e.pr t r).rc x=e.rc x:=by
 show atL _ (e.recs.set t.toNat r) x=atL _ e.recs x
 unfold atL
 rw [List.getElem?_set_ne (by omega)]
theorem aqB {r:RecP} (ht:TOk c t) (hr:(e.recs.length:Int)=c.tasks):(e.pr t r).rc t=r:=by
 have ht:0≤t∧t<c.tasks:=ht
 exact aml (by omega)
theorem Of1.pr {r:RecP} (h:Of1 c e e' t) (ht:TOk c t):Of1 c e (e'.pr t r) t :=
 ⟨h.st,h.jo,h.nx,by show (e'.recs.set _ _).length=_; rw [List.length_set]; exact h.rl,fun x hx h0 =>by rw [ayZ ht.1 hx h0]; exact h.rc x hx h0,h.ev⟩
theorem Of1.wt (h:Of1 c e e' t) (hd:DecOk c):Of1 c e (e'.pt k (ad9 (aav c) u) x) t :=
  ⟨fun y hy =>by rw [show Stt c (e'.pt k (ad9 (aav c) u) x) y=Stt c e' y from alZ hd (f:=0) (by omega) (by omega) (by omega)]; exact h.st y hy,
   fun y =>by rw [show Jo c (e'.pt k (ad9 (aav c) u) x) y=Jo c e' y from alZ hd (f:=2) (by omega) (by omega) (by omega)]; exact h.jo y,
   by rw [show (e'.pt k (ad9 (aav c) u) x).gt 0=e'.gt 0 from at0 hd (by omega) (by omega)]; exact h.nx,h.rl,h.rc,h.ev⟩
theorem aB3 {s0 s:Nat→Ts} {l:List Int} {p:Ph} (ht:TOk c t) (o:Of1 c e e' t)
  (h0:∀ (a:Ab) (m:Nat),LA a→a.T=c.tasks→a.S=Stt c e→a.J=Jo c e→a.wa=rcw e→a.hd m=v.1→a.ph m=v.2→a.ts t=s0 m)
  (m0:∀ m m',(s0 m).mine=some m'→m'=m) (w0:∀ m u,s0 m≠.wait u) (f0:∀ m,s0 m≠.fresh) (f1:∀ m,s m≠.fresh) (ho:∀ m,(s0 m).over→(s m).over)
  (hsn:(acM kSn e.evs t=if rcs e t=true then 1 else 0)→acM kSn e'.evs t=if rcs e' t=true then 1 else 0)
  (hk:∀ m,aJf (s0 m) (Stt c e t) (rcw e t) (Jo c e t) (rcs e t) (acM kKn e.evs t) (acM kFn e.evs t)→aJf (s m) (Stt c e' t) (rcw e' t) (Jo c e t) (rcs e' t) (acM kKn e'.evs t) (acM kFn e'.evs t))
  (hl:∀ m,v.1.Nodup→(t∈v.1→s0 m=.run m)→∀ x∈l,(x=t∧s m=.run m)∨(x≠t∧x∈v.1)) (hn:∀ m,v.1.Nodup→(t∈v.1→s0 m=.run m)→l.Nodup)
  (h4:∀ m m',s m=.fin m'→m'=m∧p=.f t) (h5:∀ x,x≠t→v.2≠.f x)
  (hp:∀ (a:Ab) (m:Nat),LA a→a.T=c.tasks→a.J=Jo c e→a.wa=rcw e→a.hd m=v.1→a.ph m=v.2→a.ts t=s0 m →
   Ab.phOk { a with S:=upd a.S t (Stt c e' t),wa:=upd a.wa t (rcw e' t),st:=upd a.st t (rcs e' t),kn:=upd a.kn t (acM kKn e'.evs t),sn:=upd a.sn t (acM kSn e'.evs t),fn:=upd a.fn t (acM kFn e'.evs t),ts:=upd a.ts t (s m) } m l p) :
  Lw c e e' v (l,p):=aDN (s0:=.done) (s:=.done) ht o fun a m la hT hS hJ hw hst hkn hsn' hfn hh hph =>by
 have e0:=h0 a m la hT hS hJ hw hh hph
 have hok:a.ok t:=⟨ht.1,by rw [hT]; exact ht.2⟩
 obtain ⟨c1,c2,c3⟩:=la.cl t hok
 rw [e0,hS,hw,hJ,hst,hkn,hfn] at c3
 rw [hsn',hst] at c1
 rw [e0] at c2
 have q1:v.1.Nodup:=by rw [← hh]; exact la.nd m
 have q2:t∈v.1→s0 m=.run m:=fun k =>by rw [← e0]; rw [← hh] at k; exact (la.hd m t k).2
 refine ⟨s m,fun m' k =>m0 m m' (by rw [← e0]; exact k),fun u k =>absurd (e0.symm.trans k) (w0 m u),fun k =>ho m (by rw [← e0]; exact k),⟨hsn c1,⟨fun k =>absurd k (f1 m),fun k =>absurd (c2.2 k) (f0 m)⟩,hk m c3⟩,fun x hx =>?_,hn m q1 q2,h4 m,fun x hx k =>h5 x hx (hph.symm.trans k),hp a m la hT hJ hw hh hph e0⟩
 rw [hh]; exact hl m q1 q2 x hx
section
variable {l:List Int}
theorem amV (h:(l++[t]).Nodup):l.Nodup∧t ∉ l:=by
 rw [List.nodup_append] at h
 exact ⟨h.1,fun k =>h.2.2 t k t (List.mem_singleton.2 rfl) rfl⟩
theorem ayN {m:Nat} {a:Ab} (la:LA a) (hh:a.hd m=l) (ht:t∈l):a.ts t=.run m:=(la.hd m t (by rw [hh]; exact ht)).2
theorem okA {a:Ab} (hT:a.T=c.tasks) (ht:TOk c t):a.ok t:=⟨ht.1,by rw [hT]; exact ht.2⟩
theorem azV {x:Int} (hn:(l++[t]).Nodup) (hx:x∈l):x≠t∧x∈l++[t]:=⟨fun k =>(amV hn).2 (k▸hx),List.mem_append_left _ hx⟩
theorem aGr (hd:DecOk c) (hl:(e.m.cells.length:Int)=aaU c) (ht:TOk c t):Lw c e (e.pt k (aaN (aav c) t) 4) (l++[t],.n) (l,.f t):=by
 refine aB3 (s0:=fun m =>.run m) (s:=fun m =>.fin m) ht (atM hd ht) (fun a m la hT hS hJ hw hh hp =>ayN la hh (by simp)) (fun m m' k =>(Option.some.inj k).symm) (fun m u k =>by cases k) (fun m k =>by cases k) (fun m k =>by cases k) (fun m k =>k) (fun k =>k)
  (fun m k =>?_) (fun m hn _ x hx =>.inr (azV hn hx)) (fun m hn _ =>(amV hn).1) (fun m m' k =>⟨(Ts.fin.inj k).symm,rfl⟩) (fun x hx k =>by cases k) fun a m la hT hJ hw hh hp e0 =>⟨okA hT ht,abh⟩
 exact ⟨anu hd hl ht,k.2⟩
theorem aFL (hd:DecOk c) (hl:(e.m.cells.length:Int)=aaU c) (ht:TOk c t):Lw c e (e.pt k (aaN (aav c) t) 3) (l++[t],.j t u) (l,.b t u):=by
 refine aB3 (s0:=fun m =>.run m) (s:=fun m =>.bm m) ht (atM hd ht) (fun a m la hT hS hJ hw hh hp =>ayN la hh (by simp)) (fun m m' k =>(Option.some.inj k).symm) (fun m u k =>by cases k) (fun m k =>by cases k) (fun m k =>by cases k) (fun m k =>k) (fun k =>k)
  (fun m k =>?_) (fun m hn _ x hx =>.inr (azV hn hx)) (fun m hn _ =>(amV hn).1) (fun m m' k =>by cases k) (fun x hx k =>by cases k) fun a m la hT hJ hw hh hp e0 =>⟨okA hT ht,abh,?_⟩
 ·exact ⟨anu hd hl ht,k.2⟩
 ·have:=la.ph m
  rw [hp] at this
  simp only [abh]
  have h2:a.wa t=u:=this.2
  rw [hw] at h2
  exact h2
theorem aFK:Lw c e e (l,.b t u) (l,.r t) :=
 auP (fun x hx =>hx) (fun h =>h) (fun x k =>by cases k) fun a m la hT hJ hw hh hp =>by
  have:=la.ph m
  rw [hp] at this
  exact ⟨this.1,this.2.1⟩
theorem aGF (hd:DecOk c) (hl:(e.m.cells.length:Int)=aaU c) (ht:TOk c t):Lw c e (e.pt k (aaN (aav c) t) 2) (l,.r t) (l++[t],.n):=by
 refine aB3 (s0:=fun m =>.bm m) (s:=fun m =>.run m) ht (atM hd ht) (fun a m la hT hS hJ hw hh hp =>?_) (fun m m' k =>(Option.some.inj k).symm) (fun m u k =>by cases k) (fun m k =>by cases k) (fun m k =>by cases k) (fun m k =>k) (fun k =>k)
  (fun m k =>?_) (fun m hn q x hx =>?_) (fun m hn q =>?_) (fun m m' k =>by cases k) (fun x hx k =>by cases k) fun a m la hT hJ hw hh hp e0 =>trivial
 ·have:=la.ph m
  rw [hp] at this
  exact this.2
 ·exact ⟨anu hd hl ht,k.2⟩
 ·rcases List.mem_append.1 hx with hx | hx
  ·exact .inr ⟨fun k =>(by have:=q (k▸hx); cases this),hx⟩
  ·exact .inl ⟨List.mem_singleton.1 hx,rfl⟩
 ·exact List.nodup_append.2 ⟨hn,by simp,fun a ha b hb k =>by
   rw [List.mem_singleton.1 hb] at k
   have:=q (k▸ha)
   cases this⟩
theorem aEU (hd:DecOk c) (hl:(e.m.cells.length:Int)=aaU c) (hu:TOk c u) (hx:x≠0) (hb:x≤4294967296) (H:∀ (a:Ab) (m:Nat),LA a→a.T=c.tasks→a.wa=rcw e→a.hd m=v.1→a.ph m=v.2→∀ w,TOk c w→x=w+1→a.ts w=.wait u) :
  Lw c e (e.pt k (acB (aav c) u) x) v v:=fun m vs hv h =>by
 obtain ⟨rl,ts,la⟩:=h
 have:=la.setJ (u:=u) (v:=x) hx hb fun w hw =>H _ m la rfl rfl (by show (vs m).1=_; rw [hv]) (by show (vs m).2=_; rw [hv]) w hw
 rw [aoK hv]
 refine ⟨rl,ts,?_⟩
 have e1:Stt c (e.pt k (acB (aav c) u) x)=Stt c e:=funext fun t =>alZ hd (f:=0) (by omega) (by omega) (by omega)
 have e2:Jo c (e.pt k (acB (aav c) u) x)=upd (Jo c e) u x:=funext fun t =>by
  by_cases ht:t=u
  ·subst ht; rw [abh]; exact asd hd hl (f:=2) (by omega) hu
  ·rw [abc ht]; exact avA hd (f:=2) (by omega) hu ht
 have e3:(e.pt k (acB (aav c) u) x).gt 0=e.gt 0:=at0 hd (by omega) (by omega)
 have e4:aiH c (e.pt k (acB (aav c) u) x) ts vs={ aiH c e ts vs with J:=upd (Jo c e) u x }:=by
  unfold aiH; rw [e1,e2,e3]; rfl
 rw [e4]; exact this
theorem aIw (hd:DecOk c) (hl:(e.m.cells.length:Int)=aaU c) (hu:TOk c u):Lw c e (e.pt k (acB (aav c) u) (t+1)) (l,.b t u) (l,.n):=fun m vs hv hh =>by
 obtain ⟨rl,ts,la⟩:=hh
 have hph:=la.ph m
 have e2:(aiH c e ts vs).ph m=.b t u:=by show (vs m).2=_; rw [hv]
 have e1:(aiH c e ts vs).hd m=l:=by show (vs m).1=_; rw [hv]
 rw [e2] at hph
 obtain ⟨k1,k2,k3⟩:=hph
 obtain ⟨c1,c2,c3⟩:=la.cl t k1
 rw [k2] at c2 c3
 have hk1:0≤t:=k1.1
 have h1:=la.put (m:=m) (t:=t) k1 (s:=.wait u) (S:=Stt c e t) (wa:=rcw e t) (st:=rcs e t) (kn:=acM kKn e.evs t) (sn:=acM kSn e.evs t) (fn:=acM kFn e.evs t) (l:=l) (p:=.n)
  (fun m' k =>by rw [k2] at k; exact (Option.some.inj k).symm) (fun u k =>by rw [k2] at k; cases k) (fun k =>by rw [k2] at k; cases k)
  ⟨c1,⟨fun k =>(by cases k),fun k =>(by have:=c2.2 k; cases this)⟩,c3.1,c3.2.1,c3.2.2.1,c3.2.2.2,k3⟩
  (fun x hx =>.inr ⟨fun k =>(by
   have:=(la.hd m x (by rw [e1]; exact hx)).2
   rw [k,k2] at this; cases this),by rw [e1]; exact hx⟩) (by have:=la.nd m; rw [e1] at this; exact this) (fun m' k =>(by cases k)) (fun x hx k =>(by rw [e2] at k; cases k)) trivial
 have h2:=h1.setJ (u:=u) (v:=t+1) (by omega) (by have hk2:t<c.tasks:=k1.2; have:=hd.t; omega) fun w hw k =>by
  have:w=t:=by omega
  subst this; exact abh
 have q:∀ {α:Type} {f:Int→α},upd f t (f t)=f:=fun {α f} =>funext fun y =>by
  unfold upd; split
  ·rename_i h; rw [h]
  ·rfl
 have e3:Stt c (e.pt k (acB (aav c) u) (t+1))=Stt c e:=funext fun t =>alZ hd (f:=0) (by omega) (by omega) (by omega)
 have e4:Jo c (e.pt k (acB (aav c) u) (t+1))=upd (Jo c e) u (t+1):=funext fun x =>by
  by_cases ht:x=u
  ·subst ht; rw [abh]; exact asd hd hl (f:=2) (by omega) hu
  ·rw [abc ht]; exact avA hd (f:=2) (by omega) hu ht
 have e5:(e.pt k (acB (aav c) u) (t+1)).gt 0=e.gt 0:=at0 hd (by omega) (by omega)
 refine ⟨rl,upd ts t (.wait u),?_⟩
 rw [avU]
 have e6:({ aiH c (e.pt k (acB (aav c) u) (t+1)) (upd ts t (.wait u)) vs with hd:=aez (fun m =>(vs m).1) m (l,Ph.n).1,ph:=aez (fun m =>(vs m).2) m (l,Ph.n).2 }:Ab)={ aiH c e ts vs with S:=upd (Stt c e) t (Stt c e t),wa:=upd (rcw e) t (rcw e t),st:=upd (rcs e) t (rcs e t),kn:=upd (acM kKn e.evs) t (acM kKn e.evs t),sn:=upd (acM kSn e.evs) t (acM kSn e.evs t),fn:=upd (acM kFn e.evs) t (acM kFn e.evs t),ts:=upd ts t (.wait u),hd:=aez (fun m =>(vs m).1) m l,ph:=aez (fun m =>(vs m).2) m .n,J:=upd (Jo c e) u (t+1) }:=by
  unfold aiH
  rw [q,q,q,q,q,q,e3,e4,e5]; rfl
 rw [e6]
 exact h2
theorem aDL (hd:DecOk c) (ht:TOk c t) (o:Of1 c e e' t) (hin:t∈l) (hS:Stt c e' t=Stt c e t) (hs:rcs e' t=rcs e t) (hk:acM kKn e'.evs t=acM kKn e.evs t) (hn:acM kSn e'.evs t=acM kSn e.evs t) (hf:acM kFn e'.evs t=acM kFn e.evs t) {p:Ph} (hp:p=.n∨p=.j t (rcw e' t)):Lw c e e' (l,.n) (l,p):=by
 refine aB3 (s0:=fun m =>.run m) (s:=fun m =>.run m) ht o (fun a m la hT hS hJ hw hh hp =>ayN la hh hin) (fun m m' k =>(Option.some.inj k).symm) (fun m u k =>by cases k) (fun m k =>by cases k) (fun m k =>by cases k) (fun m k =>k) (fun k =>by rw [hn,hs]; exact k)
  (fun m k =>?_) (fun m hn _ x hx =>?_) (fun m hn _ =>hn) (fun m m' k =>by cases k) (fun x hx k =>by cases k) fun a m la hT hJ hw hh hph e0 =>?_
 ·rw [hS,hs,hk,hf]; exact k
 ·by_cases hx2:x=t
  ·exact .inl ⟨hx2,rfl⟩
  ·exact .inr ⟨hx2,hx⟩
 ·rcases hp with rfl | rfl
  ·trivial
  ·exact ⟨hin,abh⟩
theorem aD7 (o:Of1 c e e' t) (hp:v=(l,.f t)) (ht:TOk c t) (hj:Jo c e t≠0) (hS:Stt c e' t=Stt c e t) (hw:rcw e' t=rcw e t) (hs:rcs e' t=rcs e t) (hk:acM kKn e'.evs t=acM kKn e.evs t) (hn:acM kSn e'.evs t=acM kSn e.evs t) (hf:acM kFn e'.evs t=acM kFn e.evs t+1)
  {s:Nat→Ts} {p:Ph} (hsp:(∀ m,s m=.fg m)∧p=.g t∨(∀ m,s m=.done)∧p=.n):Lw c e e' v (l,p):=by
 subst hp
 refine aB3 (s0:=fun m =>.fin m) (s:=s) ht o (fun a m la hT hS hJ hw hh hp =>?_) (fun m m' k =>(Option.some.inj k).symm) (fun m u k =>by cases k) (fun m k =>by cases k) (fun m k =>?_) (fun m k =>k.elim) (fun k =>by rw [hn,hs]; exact k)
  (fun m k =>?_) (fun m hn q x hx =>.inr ⟨fun k =>(by have:=q (k▸hx); cases this),hx⟩) (fun m hn _ =>hn) (fun m m' k =>?_) (fun x hx k =>?_) fun a m la hT hJ hw2 hh hph e0 =>?_
 ·have:=la.ph m
  rw [hp] at this
  exact this.2
 ·rcases hsp with ⟨h1,_⟩ | ⟨h1,_⟩<;>rw [h1] at k<;>cases k
 ·rw [hS,hw,hs,hk,hf]
  rcases hsp with ⟨h1,_⟩ | ⟨h1,_⟩<;>rw [h1]
  ·exact ⟨k.1,k.2.1,k.2.2.1,by rw [k.2.2.2],hj⟩
  ·exact ⟨k.1,k.2.1,k.2.2.1,by rw [k.2.2.2],hj⟩
 ·rcases hsp with ⟨h1,_⟩ | ⟨h1,_⟩<;>rw [h1] at k<;>cases k
 ·cases k; exact hx rfl
 ·rcases hsp with ⟨h1,rfl⟩ | ⟨h1,rfl⟩
  ·refine ⟨okA hT ht,by simp only [abh]; exact h1 m,fun w hw3 hj2 =>?_⟩
   have h2:=la.j1 t w (okA hT ht) hw3 (by rw [e0]; exact id) hj2
   have h3:w≠t:=fun k =>by rw [k,e0] at h2; cases h2
   simp only [abc h3]; exact h2
  ·trivial
theorem aFP {w:Int} (hd:DecOk c) (hw:TOk c w) (h0:0≤Jo c e t) (hj:wi (wi (Jo c e t)-1)=w):Lw c e e (l,.g t) (l,.h t w) :=
 auP (fun x hx =>hx) (fun h =>h) (fun x k =>by cases k) fun a m la hT hJ hwa hh hp =>by
  have:=la.ph m
  rw [hp] at this
  have hb:=la.jb t this.1
  rw [hJ] at hb
  have ht:=hd.t
  have h1:0≤w∧w<c.tasks:=hw
  rw [aaM (x:=Jo c e t) (aas (by omega)),aaM (aas (by omega))] at hj
  exact ⟨this.1,this.2.1,okA hT hw,this.2.2 w (okA hT hw) (by rw [hJ]; omega)⟩
theorem aCU (hd:DecOk c) (hl:(e.m.cells.length:Int)=aaU c) {w:Int} (hw:TOk c w):Lw c e (e.pt k (aaN (aav c) w) 1) (l,.h t w) (l,.n) :=
 aDN (s0:=.done) (s:=.done) hw (atM hd hw) fun a m la hT hS hJ hwa hst hkn hsn hfn hh hp =>by
  have hph:=la.ph m
  rw [hp] at hph
  obtain ⟨k1,k2,k3,k4⟩:=hph
  obtain ⟨c1,c2,c3⟩:=la.cl w k3
  rw [k4] at c2 c3
  rw [hsn,hst] at c1
  rw [hS,hwa,hJ,hst,hkn,hfn] at c3
  refine ⟨.ready,fun m' k =>(by rw [k4] at k; cases k),fun u k =>?_,fun k =>(by rw [k4] at k; cases k),⟨c1,⟨fun k =>(by cases k),fun k =>(by have:=c2.2 k; cases this)⟩,anu hd hl hw,c3.2.2.1,c3.2.2.2.1⟩,fun x hx =>.inr ⟨fun k =>?_,by rw [hh]; exact hx⟩,?_,fun m' k =>(by cases k),fun x hx k =>(by rw [hp] at k; cases k),trivial⟩
  ·rw [k4] at k; cases k; exact ⟨k1,k2⟩
  ·have:=(la.hd m x (by rw [hh]; exact hx)).2
   rw [k,k4] at this; cases this
  ·have:=la.nd m; rw [hh] at this; exact this
theorem aBI (hd:DecOk c) (hl:(e.m.cells.length:Int)=aaU c) (ht:TOk c t) {w o y:Int}:Lw c e ((e.pt k (aaN (aav c) t) 1).em 3 w t o y) (l,.p t) (l,.n):=by
 refine aB3 (s0:=fun m =>.alloc m) (s:=fun m =>.ready) ht ((atM hd ht).em (.inl rfl)) (fun a m la hT hS hJ hw hh hp =>?_) (fun m m' k =>(Option.some.inj k).symm) (fun m u k =>by cases k) (fun m k =>?_) (fun m k =>by cases k) (fun m k =>k.elim) (fun k =>?_)
  (fun m k =>?_) (fun m hn q x hx =>.inr ⟨fun k =>(by have:=q (k▸hx); cases this),hx⟩) (fun m hn _ =>hn) (fun m m' k =>by cases k) (fun x hx k =>by cases k) fun a m la hT hJ hw hh hp e0 =>trivial
 ·have:=la.ph m
  rw [hp] at this
  exact this.2
 ·cases k
 ·show acM kSn (e.evs++[_]) t=_
  rw [ac3,ad0,if_neg (by intro h; have:=h.2; revert this; decide)]
  exact k
 ·refine ⟨anu hd hl ht,?_,?_⟩
  ·show acM kKn (e.evs++[_]) t=1
   rw [ac3,ad0,if_pos ⟨rfl,by decide⟩,k.2.2.1]
  ·show acM kFn (e.evs++[_]) t=0
   rw [ac3,ad0,if_neg (by intro h; have:=h.2; revert this; decide),k.2.2.2]
theorem aut (ht:TOk c t) {w o y:Int}:Lw c e (e.em 1 w t o y) (l,.p t) (l,.q t):=by
 refine aB3 (s0:=fun m =>.alloc m) (s:=fun m =>.acc m) ht (apr.em (.inl rfl)) (fun a m la hT hS hJ hw hh hp =>?_) (fun m m' k =>(Option.some.inj k).symm) (fun m u k =>by cases k) (fun m k =>by cases k) (fun m k =>by cases k) (fun m k =>k.elim) (fun k =>?_)
  (fun m k =>?_) (fun m hn q x hx =>.inr ⟨fun k =>(by have:=q (k▸hx); cases this),hx⟩) (fun m hn _ =>hn) (fun m m' k =>by cases k) (fun x hx k =>by cases k) fun a m la hT hJ hw hh hp e0 =>⟨okA hT ht,abh⟩
 ·have:=la.ph m
  rw [hp] at this
  exact this.2
 ·show acM kSn (e.evs++[_]) t=_
  rw [ac3,ad0,if_neg (by intro h; have:=h.2; revert this; decide)]
  exact k
 ·refine ⟨k.1,k.2.1,?_,?_⟩
  ·show acM kKn (e.evs++[_]) t=1
   rw [ac3,ad0,if_pos ⟨rfl,by decide⟩,k.2.2.1]
  ·show acM kFn (e.evs++[_]) t=0
   rw [ac3,ad0,if_neg (by intro h; have:=h.2; revert this; decide),k.2.2.2]
theorem aBZ (hd:DecOk c) (hl:(e.m.cells.length:Int)=aaU c) (ht:TOk c t):Lw c e (e.pt k (aaN (aav c) t) 1) (l,.q t) (l,.n):=by
 refine aB3 (s0:=fun m =>.acc m) (s:=fun m =>.ready) ht (atM hd ht) (fun a m la hT hS hJ hw hh hp =>?_) (fun m m' k =>(Option.some.inj k).symm) (fun m u k =>by cases k) (fun m k =>by cases k) (fun m k =>by cases k) (fun m k =>k.elim) (fun k =>k)
  (fun m k =>⟨anu hd hl ht,k.2.2.1,k.2.2.2⟩) (fun m hn q x hx =>.inr ⟨fun k =>(by have:=q (k▸hx); cases this),hx⟩) (fun m hn _ =>hn) (fun m m' k =>by cases k) (fun x hx k =>by cases k) fun a m la hT hJ hw hh hp e0 =>trivial
 have:=la.ph m
 rw [hp] at this
 exact this.2
theorem aoA (hd:DecOk c) (hl:(e.m.cells.length:Int)=aaU c) (hL:e.l=aav c) (ht:TOk c t) (hb:acN t e=true) {w:Int}:Lw c e (aeb w t e) (l,.n) (l++[t],.n):=fun m vs hv hh =>by
 have rl:=hh.rl
 have hb2:e.hit (aaN (aav c) t) 1=true:=by unfold acN at hb; rw [hL] at hb; exact hb
 have hg:Stt c e t=1:=(atZ hb2).1
 have hc:e.cas (aaN (aav c) t) 1 2=e.pt 3 (aaN (aav c) t) 2:=by
  show e.pt 3 _ (if e.m.gt _=1 then 2 else _)=_
  rw [if_pos hg]
 have rdy:∀ (a:Ab),LA a→a.T=c.tasks→a.S=Stt c e→a.ts t=.ready:=fun a la hT hS =>by
  have:=(la.cl t (okA hT ht)).2.2
  rw [hS,hg] at this
  revert this
  cases a.ts t<;>intro this<;>first | rfl | exact absurd this.1 (by decide)
 have main:∀ {e':EnvP},Of1 c e e' t→Stt c e' t=2→rcw e' t=rcw e t→rcs e' t=true→acM kKn e'.evs t=acM kKn e.evs t→acM kSn e'.evs t=(if rcs e t=true then acM kSn e.evs t else acM kSn e.evs t+1)→acM kFn e'.evs t=acM kFn e.evs t→Lw c e e' (l,.n) (l++[t],.n):=fun {e'} o h1 h2 h3 h4 h5 h6 =>by
  refine aB3 (s0:=fun m =>.ready) (s:=fun m =>.run m) ht o (fun a m la hT hS hJ hw hh hp =>rdy a la hT hS) (fun m m' k =>by cases k) (fun m u k =>by cases k) (fun m k =>by cases k) (fun m k =>by cases k) (fun m k =>k.elim) (fun k =>?_)
   (fun m k =>⟨h1,h3,by rw [h4]; exact k.2.1,by rw [h6]; exact k.2.2⟩) (fun m hn q x hx =>?_) (fun m hn q =>?_) (fun m m' k =>by cases k) (fun x hx k =>by cases k) fun a m la hT hJ hw hh hp e0 =>trivial
  ·rw [h5,h3,if_pos rfl]
   split
   ·rename_i k2; rw [if_pos k2] at k; exact k
   ·rename_i k2; rw [if_neg k2] at k; omega
  ·rcases List.mem_append.1 hx with hx | hx
   ·exact .inr ⟨fun k =>(by have:=q (k▸hx); cases this),hx⟩
   ·exact .inl ⟨List.mem_singleton.1 hx,rfl⟩
  ·exact List.nodup_append.2 ⟨hn,by simp,fun a ha b hb k =>by
    rw [List.mem_singleton.1 hb] at k
    have:=q (k▸ha)
    cases this⟩
 refine main ?_ ?_ ?_ ?_ ?_ ?_ ?_ m vs hv hh<;>unfold aeb<;>rw [if_pos hb,hL,hc]
 ·split
  ·exact (atM hd ht).em (.inl rfl)
  ·exact ((atM hd ht).pr ht).em (.inl rfl)
 ·split
  ·exact anu hd hl ht
  ·exact anu hd hl ht
 ·split
  ·rfl
  ·show (if 0≤t then ((e.pt 3 (aaN (aav c) t) 2).pr t _).rc t |>.waiting else -1)=_
   rw [aqB (e:=e.pt 3 (aaN (aav c) t) 2) ht rl]; rfl
 ·split
  ·rename_i k
   show (if 0≤t then (e.rc t).started else false)=true
   rw [if_pos ht.1]; exact k
  ·show (if 0≤t then ((e.pt 3 (aaN (aav c) t) 2).pr t _).rc t |>.started else false)=true
   rw [if_pos ht.1,aqB (e:=e.pt 3 (aaN (aav c) t) 2) ht rl]
 ·split
  ·show acM kKn (e.evs++[_]) t=_
   rw [ac3,ad0,if_neg (by intro h; have:=h.2; revert this; decide),Nat.add_zero]
  ·show acM kKn (e.evs++[_]) t=_
   rw [ac3,ad0,if_neg (by intro h; have:=h.2; revert this; decide),Nat.add_zero]
 ·have hr:rcs e t=(e.rc t).started:=if_pos ht.1
  rw [hr]
  split
  ·show acM kSn (e.evs++[_]) t=_
   rw [ac3,ad0,if_neg (by intro h; have:=h.2; revert this; decide),Nat.add_zero]
  ·show acM kSn (e.evs++[_]) t=_
   rw [ac3,ad0,if_pos ⟨rfl,by decide⟩]
 ·split
  ·show acM kFn (e.evs++[_]) t=_
   rw [ac3,ad0,if_neg (by intro h; have:=h.2; revert this; decide),Nat.add_zero]
  ·show acM kFn (e.evs++[_]) t=_
   rw [ac3,ad0,if_neg (by intro h; have:=h.2; revert this; decide),Nat.add_zero]
theorem aoz (hd:DecOk c) (hL:e.l=aav c) (hb:¬ acN t e=true) {w:Int}:Qs c e (aeb w t e):=by
 have hb2:¬ e.hit (aaN (aav c) t) 1=true:=by unfold acN at hb; rw [hL] at hb; exact hb
 have g:∀ a,(e.cas (aaN (aav c) t) 1 2).gt a=e.gt a:=fun a =>by rw [anJ,if_neg (fun k =>hb2 k.1)]
 unfold aeb
 rw [if_neg hb,hL]
 exact Qs.em (e':=e.cas (aaN (aav c) t) 1 2) ⟨fun t =>g _,fun t =>g _,fun t =>g _,g _,rfl,[],by show e.evs=_; simp,fun x hx =>by cases hx⟩ (by omega)
theorem azC (hd:DecOk c) (hl:(e.m.cells.length:Int)=aaU c) (hN:0≤e.gt 0∧e.gt 0≤1000000) (ht:c.tasks≤e.gt 0):Lw c e (abN e) v v:=fun m vs hv h =>by
 obtain ⟨rl,ts,la⟩:=h
 have:=la.next (n:=e.gt 0+1) (by show e.gt 0≤_; omega) ht
 rw [aoK hv]
 refine ⟨rl,ts,?_⟩
 have z0:∀ {t f:Int},0≤f∧f<5→f≠1→(abN e).gt (acU (aav c) t f)=e.gt (acU (aav c) t f):=fun {t f} hf hf1 =>by
  show (e.pt 6 0 _).gt _=_
  rw [aho,if_neg]
  intro k
  have:=awb hd (t:=t) hf hf1 (by omega)
  rw [k.1,aeW] at this
  omega
 have e0:(abN e).gt 0=e.gt 0+1:=by
  have:=ag0 hd
  have h4:=hd.h
  have h5:=hd.t
  show (e.pt 6 0 _).gt 0=_
  rw [aho,if_pos ⟨rfl,Int.le_refl 0,by rw [hl]; unfold aaU; omega⟩,aft (by omega)]
 have e4:aiH c (abN e) ts vs={ aiH c e ts vs with N:=e.gt 0+1 }:=by
  unfold aiH
  rw [e0,show Stt c (abN e)=Stt c e from funext fun t =>z0 (f:=0) (by omega) (by omega),show Jo c (abN e)=Jo c e from funext fun t =>z0 (f:=2) (by omega) (by omega)]
  rfl
 rw [e4]; exact this
theorem axB (hd:DecOk c) (hl:(e.m.cells.length:Int)=aaU c) (hN:0≤e.gt 0∧e.gt 0≤1000000) (ht:e.gt 0<c.tasks) {p q:Int}:Lw c e ((abN e).pr (e.gt 0) (awU p q)) (l,.n) (l,.p (e.gt 0)):=fun m vs hv h =>by
 obtain ⟨rl,ts,la⟩:=h
 have h1:(aiH c e ts vs).hd m=l:=by show (vs m).1=_; rw [hv]
 have h2:(aiH c e ts vs).ph m=.n:=by show (vs m).2=_; rw [hv]
 have:=la.alloc (m:=m) ht (l:=l) (fun x hx =>by rw [h1]; exact hx) (by have:=la.nd m; rw [h1] at this; exact this) h2
 have z0:∀ {t f:Int},0≤f∧f<5→f≠1→(abN e).gt (acU (aav c) t f)=e.gt (acU (aav c) t f):=fun {t f} hf hf1 =>by
  show (e.pt 6 0 _).gt _=_
  rw [aho,if_neg]
  intro k
  have:=awb hd (t:=t) hf hf1 (by omega)
  rw [k.1,aeW] at this
  omega
 have e0:(abN e).gt 0=e.gt 0+1:=by
  have:=ag0 hd
  have h4:=hd.h
  have h5:=hd.t
  show (e.pt 6 0 _).gt 0=_
  rw [aho,if_pos ⟨rfl,Int.le_refl 0,by rw [hl]; unfold aaU; omega⟩,aft (by omega)]
 have tk:TOk c (e.gt 0):=⟨hN.1,ht⟩
 have r1:rcw ((abN e).pr (e.gt 0) (awU p q))=upd (rcw e) (e.gt 0) (-1):=funext fun x =>by
  by_cases hx:x=e.gt 0
  ·rw [hx,abh]
   show (if 0≤e.gt 0 then (((abN e).pr (e.gt 0) (awU p q)).rc (e.gt 0)).waiting else -1)=-1
   rw [if_pos hN.1,aqB (e:=abN e) tk rl]; rfl
  ·rw [abc hx]; unfold rcw
   split
   ·rename_i h0; rw [ayZ hN.1 hx h0]; rfl
   ·rfl
 have r2:rcs ((abN e).pr (e.gt 0) (awU p q))=upd (rcs e) (e.gt 0) false:=funext fun x =>by
  by_cases hx:x=e.gt 0
  ·rw [hx,abh]
   show (if 0≤e.gt 0 then (((abN e).pr (e.gt 0) (awU p q)).rc (e.gt 0)).started else false)=false
   rw [if_pos hN.1,aqB (e:=abN e) tk rl]; rfl
  ·rw [abc hx]; unfold rcs
   split
   ·rename_i h0; rw [ayZ hN.1 hx h0]; rfl
   ·rfl
 refine ⟨by show ((e.recs.set _ _).length:Int)=_; rw [List.length_set]; exact rl,upd ts (e.gt 0) (.alloc m),?_⟩
 rw [avU]
 have e4:({ aiH c ((abN e).pr (e.gt 0) (awU p q)) (upd ts (e.gt 0) (.alloc m)) vs with hd:=aez (fun m =>(vs m).1) m (l,Ph.p (e.gt 0)).1,ph:=aez (fun m =>(vs m).2) m (l,Ph.p (e.gt 0)).2 }:Ab)={ aiH c e ts vs with N:=e.gt 0+1,st:=upd (rcs e) (e.gt 0) false,wa:=upd (rcw e) (e.gt 0) (-1),ts:=upd ts (e.gt 0) (.alloc m),hd:=aez (fun m =>(vs m).1) m l,ph:=aez (fun m =>(vs m).2) m (.p (e.gt 0)) }:=by
  unfold aiH
  rw [r1,r2,show ((abN e).pr (e.gt 0) (awU p q)).gt 0=e.gt 0+1 from e0,show Stt c ((abN e).pr (e.gt 0) (awU p q))=Stt c e from funext fun t =>z0 (f:=0) (by omega) (by omega),show Jo c ((abN e).pr (e.gt 0) (awU p q))=Jo c e from funext fun t =>z0 (f:=2) (by omega) (by omega)]
  rfl
 rw [e4]; exact this
end
end
def vwR (r:RunS):Vw:=match r.c with
 | .next =>(r.stack,.n)
 | .s2 _ =>(r.stack,.p r.id)
 | .s3 _ =>(r.stack,.n)
 | .s4 _ =>(r.stack,.n)
 | .s5 =>(r.stack,.n)
 | .j2 =>(r.stack,.j (aaA r.stack) r.child)
 | .j3 =>(r.stack.dropLast,.b (aaA r.stack) r.child)
 | .j4 =>(r.stack.dropLast,.n)
 | .j5 _ =>(r.stack.dropLast,.n)
 | .j6 =>(r.stack.dropLast,.r (aaA r.stack))
 | .j7 =>(r.stack,.n)
 | .f2 =>(r.stack.dropLast,.f (aaA r.stack))
 | .f3 =>(r.stack.dropLast,.g (aaA r.stack))
 | .f4 .l1 =>(r.stack.dropLast,.h (aaA r.stack) r.waiter)
 | .f4 .l2 =>(r.stack.dropLast,.h (aaA r.stack) r.waiter)
 | .f4 .l3 =>(r.stack.dropLast,.n)
 | .f4 (.l4 _ _) =>(r.stack.dropLast,.n)
 | .f5 _ _ =>(r.stack.dropLast,.n)
 | .f6 =>(r.stack.dropLast,.n)
def vwO:Rs RunS→Vw
 | .go r =>vwR r
 | .fin _ _ =>([],.n)
section
variable {c:Cfg} {e e':EnvP} {w:Int} {v:Vw}
def aBk (c:Cfg) (e:EnvP) (v:Vw) (o:Rs RunS×EnvP):Prop:=Lw c e o.2 v (vwO o.1)∧o.1.Q (fun r =>r.stack≠[]) fun _ _ =>True
theorem aBk.ite {P:Prop} [Decidable P] {a b:Rs RunS×EnvP} (h1:P→aBk c e v a) (h2:¬ P→aBk c e v b):aBk c e v (if P then a else b):=by
 split
 ·exact h1 ‹_›
 ·exact h2 ‹_›
theorem ayw {l:List Int} (h:l≠[]):l.dropLast++[aaA l]=l:=by
 have e1:aaA l=l.getLast h:=by unfold aaA; rw [List.getLast?_eq_some_getLast h]; rfl
 rw [e1]
 exact List.dropLast_concat_getLast h
theorem auL {l:List Int} (h:l≠[]):aaA l∈l:=by
 have h1:aaA l∈l.dropLast++[aaA l]:=by simp
 rwa [ayw h] at h1
theorem apF {r:RunS} (h:Lw c e e' v (r.stack.dropLast,.n)) (hs:r.stack≠[]):aBk c e v (ag7 r e'):=by
 unfold ag7 aBk
 by_cases h1:r.stack.length=1
 ·rw [if_pos h1]
  have:r.stack.dropLast=[]:=List.eq_nil_of_length_eq_zero (by rw [List.length_dropLast]; omega)
  rw [this] at h
  exact ⟨h,trivial⟩
 ·rw [if_neg h1]
  refine ⟨h,fun k =>?_⟩
  have:r.stack.dropLast.length=0:=by rw [show r.stack.dropLast=[] from k]; rfl
  rw [List.length_dropLast] at this
  have:r.stack.length≠0:=fun k =>hs (List.eq_nil_of_length_eq_zero k)
  omega
theorem ayY {t:Int} {r:RecP} (ht:TOk c t) (hr:(e.recs.length:Int)=c.tasks):rcs (e.pr t r) t=r.started:=by
 unfold rcs; rw [if_pos ht.1,aqB ht hr]
theorem ayX {t:Int} {r:RecP} (ht:TOk c t) (hr:(e.recs.length:Int)=c.tasks):rcw (e.pr t r) t=r.waiting:=by
 unfold rcw; rw [if_pos ht.1,aqB ht hr]
theorem aDM {t:Int} (ht:TOk c t):rcs e t=(e.rc t).started:=if_pos ht.1
theorem aDW {a o x:Int} (hm:¬ e.hit a o=true):Qs c e (e.cas a o x):=by
 have g:∀ b,(e.cas a o x).gt b=e.gt b:=fun b =>by rw [anJ,if_neg (fun k =>hm k.1)]
 exact ⟨fun t =>g _,fun t =>g _,fun t =>g _,g _,rfl,[],by show e.evs=_; simp,fun x hx =>by cases hx⟩
theorem aD4 {a o x:Int} (hm:e.hit a o=true):e.cas a o x=e.pt 3 a x:=by
 show e.pt 3 _ (if e.m.gt _=o then x else _)=_
 rw [if_pos (atZ hm).1]
theorem aIv (h:DecOk c) {t f o:Int} (hf:0≤f∧f<5) (hm:e.hit (acU (aav c) t f) o=true):TOk c t:=by
 have h1:=(atZ hm).2
 have e1:=adH h (t:=t) hf
 by_cases ht:0≤t∧t<c.tasks
 ·exact ht
 ·rw [e1,if_neg ht] at h1; omega
theorem aB6 (hd:DecOk c) {t:Int} {l:List Int} {r:RecP} (ht:TOk c t) (hr:(e.recs.length:Int)=c.tasks) (hin:t∈l) (hs:r.started=(e.rc t).started) {p:Ph} (hp:p=.n∨p=.j t r.waiting):Lw c e (e.pr t r) (l,.n) (l,p) :=
 aDL hd ht (apr.pr ht) hin rfl (by rw [ayY ht hr,aDM ht,hs]) rfl rfl rfl (by rw [ayX ht hr]; exact hp)
theorem ay3 (hd:DecOk c) {t k x:Int} {l:List Int} {r:RecP} (ht:TOk c t) (hr:(e.recs.length:Int)=c.tasks) (hin:t∈l) (hs:r.started=(e.rc t).started) {p:Ph} (hp:p=.n∨p=.j t r.waiting):Lw c e ((e.pt k (ad9 (aav c) t) x).pr t r) (l,.n) (l,p) :=
 aDL hd ht ((apr.wt hd).pr ht) hin (alZ hd (f:=0) (by omega) (by omega) (by omega)) (by rw [ayY (e:=e.pt k (ad9 (aav c) t) x) ht hr,aDM ht,hs]) rfl rfl rfl (by rw [ayX (e:=e.pt k (ad9 (aav c) t) x) ht hr]; exact hp)
theorem aI5 {t:Int} {l:List Int} {v':Vw} (hf:¬ TOk c t):Lw c e e (l,.f t) v':=fun m vs hv h =>by
 obtain ⟨rl,ts,la⟩:=h
 have:=la.ph m
 have e2:(aiH c e ts vs).ph m=.f t:=by show (vs m).2=_; rw [hv]
 rw [e2] at this
 exact absurd this.1 hf
theorem aIN (hf:∀ x,v.2=.f x→¬ TOk c x):Lw c e e v ([],.n):=by
 obtain ⟨l,p⟩:=v
 cases p with
 | f t =>exact aI5 (hf t rfl)
 | _ =>exact .drop (fun x hx =>by cases hx) (fun _ =>.nil) (fun x k =>by cases k)
theorem aGw {x:RecP} {i:Ins}:(asp x i).started=x.started:=by
 unfold asp
 repeat' split
 all_goals rfl
theorem aIc {t:Int} {r:RunS} (h:MI c e) (hl:(e.m.cells.length:Int)=aaU c) (hN:0≤e.gt 0∧e.gt 0≤1000000) (hr:(e.recs.length:Int)=c.tasks) (ht:TOk c t) (hc:r.c=.next) (hs:r.stack≠[]) (htop:aaA r.stack=t):aBk c e (r.stack,.n) (an4 w e r t (e.rc t) (e.prog (e.rc t))):=by
 have hp:vwR r=(r.stack,.n):=by unfold vwR; rw [hc]
 have hin:t∈r.stack:=htop▸auL hs
 have hgo:∀ {e':EnvP},Lw c e e' (r.stack,.n) (r.stack,.n)→aBk c e (r.stack,.n) (.go r,e'):=fun h =>⟨by show Lw c e _ _ (vwR r); rw [hp]; exact h,hs⟩
 unfold an4
 rw [h.l]
 refine .ite (fun _ =>hgo (ay3 (r:={ e.rc t with waiting := -1 }) h.d ht hr hin rfl (.inl rfl))) fun _ =>?_
 refine .ite (fun _ =>⟨?_,hs⟩) fun _ =>?_
 ·show Lw c e _ _ (r.stack.dropLast,.f (aaA r.stack))
  have:=aGr (e:=e) (k:=2) (l:=r.stack.dropLast) h.d hl ht
  rw [← htop,ayw hs] at this
  rw [← htop]; exact this
 refine .ite (fun _ =>hgo (aB6 h.d ht hr hin aGw (.inl rfl))) fun _ =>?_
 refine .ite (fun _ =>?_) fun _ =>?_
 ·have e1:wi (e.gt 0)=e.gt 0:=aaM (aas (by omega))
  rw [e1]
  refine .ite (fun hn =>⟨?_,hs⟩) fun hn =>hgo ?_
  ·have hn:TOk c (e.gt 0):=by unfold IsT at hn; rw [h.cc] at hn; exact hn
   refine Lw.trans (aB6 (r:={ e.rc t with pc:=wi ((e.rc t).pc+1),kids:=(e.rc t).kids++[e.gt 0] }) h.d ht hr hin rfl (.inl rfl)) ?_
   exact axB (e:=e.pr t _) h.d hl hN hn.2
  ·have hn:¬ TOk c (e.gt 0):=by unfold IsT at hn; rw [h.cc] at hn; exact hn
   refine Lw.em (by omega) (Lw.trans (aB6 (r:={ e.rc t with pc:=wi ((e.rc t).pc+1),kids:=(e.rc t).kids++[-1] }) h.d ht hr hin rfl (.inl rfl)) ?_)
   refine azC (e:=e.pr t _) h.d hl hN ?_
   show c.tasks≤e.gt 0
   exact Int.not_lt.1 fun k =>hn ⟨hN.1,k⟩
 ·refine .ite (fun _ =>hgo (aB6 (r:={ e.rc t with pc:=wi ((e.rc t).pc+1) }) h.d ht hr hin rfl (.inl rfl))) fun _ =>⟨?_,hs⟩
  have:=ay3 (e:=e) (k:=2) (x:=wu (wi (abn (e.rc t).kids (abX (e.prog (e.rc t)) (e.rc t).pc).a+1))) (r:={ e.rc t with pc:=wi ((e.rc t).pc+1),waiting:=abn (e.rc t).kids (abX (e.prog (e.rc t)) (e.rc t).pc).a }) h.d ht hr hin rfl (.inr rfl)
  rw [← htop] at this ⊢
  exact this
theorem aJO {r:RunS} (h:MI c e) (hl:(e.m.cells.length:Int)=aaU c) (hN:0≤e.gt 0∧e.gt 0≤1000000) (hrl:(e.recs.length:Int)=c.tasks) (hr:aGK c r) (hs:r.stack≠[]):aBk c e (vwR r) (auB w e r):=by
 unfold auB
 refine .ite (fun ht =>⟨aIN fun x hx =>?_,trivial⟩) fun ht =>?_
 ·unfold IsT at ht
  rw [h.cc] at ht
  revert hx
  obtain ⟨stack,id,child,level,waiter,k⟩:=r
  cases k with
  | f2 =>intro k; cases k; exact ht
  | f4 s =>cases s<;>(intro k; cases k)
  | _ =>intro k; cases k
 replace ht:IsT e (aaA r.stack):=Classical.not_not.1 ht
 unfold IsT at ht
 rw [h.cc] at ht
 obtain ⟨stack,id,child,level,waiter,k⟩:=r
 replace ht:TOk c (aaA stack):=ht
 replace hs:stack≠[]:=hs
 have hst:=ayw hs
 have hin:=auL hs
 have ht2:0≤aaA stack∧aaA stack<c.tasks:=ht
 have htt:=h.d.t
 show aBk c e _ (adn w e _ (aaA stack))
 cases k with
 | next =>exact aIc h hl hN hrl ht rfl hs rfl
 | s2 s =>
  obtain ⟨h1,h2⟩:=hr
  simp only [adn,aeS]
  have hi:¬ ¬ IsT e id:=by unfold IsT; rw [h.cc]; exact fun h =>h h1
  rw [if_neg hi,h.l]
  cases s with
  | l1 =>exact ⟨Lw.q (.wr h.d (ajZ h.d)) .refl,hs⟩
  | l2 =>exact ⟨Lw.q (.since h.d) .refl,hs⟩
  | l3 =>exact ⟨aBI h.d hl h1,hs⟩
 | s3 s =>
  have:=apy (w:=w) (v:=level) (x:=id) h s hr.2
  simp only [adn]
  revert this
  rcases abw w level id e s with ⟨o,e'⟩
  intro this
  cases o with
  | go s =>exact ⟨Lw.q this .refl,hs⟩
  | fin c0 v0 =>
   simp only
   split
   ·exact ⟨Lw.q this .refl,hs⟩
   ·exact ⟨Lw.q this .refl,hs⟩
 | s4 s =>
  have:=as0 (w:=w) (v:=level) h s
  simp only [adn]
  revert this
  rcases adN w level e s with ⟨o,e'⟩
  intro this
  cases o with
  | go s =>exact ⟨Lw.q this .refl,hs⟩
  | fin c0 v0 =>exact ⟨Lw.q this .refl,hs⟩
 | s5 =>
  simp only [adn]
  split
  ·rename_i hb
   exact ⟨aoA h.d hl h.l hr hb,by show stack++[id]≠[]; simp⟩
  ·rename_i hb
   exact ⟨Lw.q (aoz h.d h.l hb) .refl,hs⟩
 | j2 =>
  simp only [adn]
  rw [h.l]
  refine ⟨?_,hs⟩
  have:=aFL (e:=e) (k:=2) (l:=stack.dropLast) (u:=child) h.d hl ht
  rw [hst] at this
  exact this
 | j3 =>
  simp only [adn]
  rw [h.l]
  have e1:wu (wi (aaA stack+1))=aaA stack+1:=by rw [aaM (x:=aaA stack+1) (aas (by omega)),aft (by omega)]
  rw [e1]
  refine .ite (fun hb =>⟨?_,hs⟩) fun hb =>⟨?_,hs⟩
  ·rw [aD4 hb]
   exact Lw.em (by omega) (aIw h.d hl (aIv h.d (f:=2) (by omega) hb))
  ·exact Lw.qr (aDW hb) aFK
 | j4 =>exact ⟨Lw.q .lk .refl,hs⟩
 | j5 s =>
  have:=aG6 (w:=w) (v:=level) h s hr
  simp only [adn]
  revert this
  rcases ad3 w level e s with ⟨o,e'⟩
  intro this
  cases o with
  | go s =>exact ⟨Lw.q this .refl,hs⟩
  | fin c0 v0 =>exact apF (Lw.em (by omega) (Lw.q this .refl)) hs
 | j6 =>
  simp only [adn]
  rw [h.l]
  refine ⟨?_,hs⟩
  have:=aGF (e:=e) (k:=2) (l:=stack.dropLast) h.d hl ht
  rw [hst] at this
  exact this
 | j7 =>
  simp only [adn]
  rw [h.l]
  exact ⟨Lw.em (by omega) (ay3 (r:={ e.rc (aaA stack) with waiting := -1 }) h.d ht hrl hin rfl (.inl rfl)),hs⟩
 | f2 =>
  simp only [adn]
  rw [h.l]
  have cz:∀ {e1:EnvP} {q:Int→Bool},(e1.evs=e.evs)→q 10=false→acM q (e1.em 10 w (aaA stack) 0 0).evs (aaA stack)=acM q e1.evs (aaA stack):=fun {e1 q} _ hq =>by
   show acM q (e1.evs++[_]) _=_
   rw [ac3,ad0,hq,if_neg (by rintro ⟨_,h⟩; cases h),Nat.add_zero]
  have co:∀ {e1:EnvP},acM kFn (e1.em 10 w (aaA stack) 0 0).evs (aaA stack)=acM kFn e1.evs (aaA stack)+1:=fun {e1} =>by
   show acM kFn (e1.evs++[_]) _=_
   rw [ac3,ad0,if_pos ⟨rfl,by decide⟩]
  refine .ite (fun hb =>apF ?_ hs) fun hb =>⟨?_,hs⟩
  ·rw [aD4 hb]
   refine Lw.trans (aEU (k:=3) (x:=4294967296) (v:=(stack.dropLast,.f (aaA stack))) h.d hl ht (by omega) (by omega) fun a m la hT hw hh hp w hw k =>?_) (aD7 (e:=e.pt 3 (acB (aav c) (aaA stack)) 4294967296) (v:=(stack.dropLast,.f (aaA stack))) (s:=fun _ =>.done) (apr.em (.inl rfl)) rfl ht ?_ rfl rfl rfl (cz rfl (by decide)) (cz rfl (by decide)) co (.inr ⟨fun _ =>rfl,rfl⟩))
   ·have hw:0≤w∧w<c.tasks:=hw
    omega
   ·rw [show Jo c (e.pt 3 (acB (aav c) (aaA stack)) 4294967296) (aaA stack)=4294967296 from asd h.d hl (f:=2) (by omega) ht]
    omega
  ·refine Lw.trans (Lw.q (aDW (x:=4294967296) hb) .refl) (aD7 (e:=e.cas (acB (aav c) (aaA stack)) 0 4294967296) (v:=(stack.dropLast,.f (aaA stack))) (s:=fun m =>.fg m) (apr.em (.inl rfl)) rfl ht ?_ rfl rfl rfl (cz rfl (by decide)) (cz rfl (by decide)) co (.inl ⟨fun _ =>rfl,rfl⟩))
   intro k
   have g:(e.cas (acB (aav c) (aaA stack)) 0 4294967296).gt (acB (aav c) (aaA stack))=e.gt (acB (aav c) (aaA stack)):=by rw [anJ,if_neg (fun k =>hb k.1)]
   replace k:e.gt (acB (aav c) (aaA stack))=0:=g▸k
   apply hb
   have hrg:=aEq h.d (f:=2) (by omega) ht
   have hrg:0≤acB (aav c) (aaA stack)∧acB (aav c) (aaA stack)<aaU c:=hrg
   show decide ((0≤acB (aav c) (aaA stack)∧acB (aav c) (aaA stack)<(e.m.cells.length:Int))∧ags e.m.cells (acB (aav c) (aaA stack))=0)=true
   rw [decide_eq_true_iff]
   refine ⟨by omega,?_⟩
   have k2:e.m.gt (acB (aav c) (aaA stack))=0:=k
   unfold MemV.gt at k2
   rw [if_pos (by omega)] at k2
   exact k2
 | f3 =>
  simp only [adn]
  rw [h.l]
  refine .ite (fun hn =>⟨?_,hs⟩) fun _ =>apF (Lw.q .lk (.drop (fun x hx =>hx) (fun h =>h) (fun x k =>by cases k))) hs
  unfold IsT at hn
  rw [h.cc] at hn
  exact Lw.qr .lk (aFP h.d hn (h.p _) rfl)
 | f4 s =>
  obtain ⟨h1,h2⟩:=hr
  have h1:TOk c waiter:=h1
  have hi:¬ ¬ IsT e waiter:=by unfold IsT; rw [h.cc]; exact fun h =>h h1
  simp only [adn]
  cases s with
  | l1 =>
   simp only [adg]
   rw [if_neg hi,h.l]
   exact ⟨Lw.q (.since h.d) .refl,hs⟩
  | l2 =>
   simp only [adg]
   rw [h.l]
   exact ⟨aCU h.d hl h1,hs⟩
  | l3 =>exact ⟨Lw.q .lk .refl,hs⟩
  | l4 v0 s =>
   have:=apy (w:=w) (v:=v0) (x:=waiter) h s h2
   simp only [adg]
   revert this
   rcases abw w v0 waiter e s with ⟨o,e'⟩
   intro this
   cases o with
   | go s =>exact ⟨Lw.q this .refl,hs⟩
   | fin c0 v1 =>
    simp only
    split
    ·exact ⟨Lw.q this .refl,hs⟩
    ·exact ⟨Lw.q this .refl,hs⟩
 | f5 v0 s =>
  have:=as0 (w:=w) (v:=v0) h s
  simp only [adn]
  revert this
  rcases adN w v0 e s with ⟨o,e'⟩
  intro this
  cases o with
  | go s =>exact ⟨Lw.q this .refl,hs⟩
  | fin c0 v0 =>exact apF (Lw.q this .refl) hs
 | f6 =>
  simp only [adn]
  refine .ite (fun hb =>⟨aoA h.d hl h.l hr hb,by show stack.dropLast++[waiter]≠[]; simp⟩) fun hb =>apF (Lw.q (aoz h.d h.l hb) .refl) hs
def vwW (k:WorkS):Vw:=match k.c with
 | .t7 s =>vwR s
 | _ =>([],.n)
def auu (k:WorkS):Prop:=match k.c with
 | .t7 s =>s.stack≠[]
 | _ =>True
def asM (c:Cfg) (e:EnvP) (v:Vw) (o:WorkS×EnvP):Prop:=Lw c e o.2 v (vwW o.1)∧auu o.1
theorem asM.ite {P:Prop} [Decidable P] {a b:WorkS×EnvP} (h1:P→asM c e v a) (h2:¬ P→asM c e v b):asM c e v (if P then a else b):=by
 split
 ·exact h1 ‹_›
 ·exact h2 ‹_›
theorem asM.ite1 {P:Prop} [Decidable P] {a b:WorkS} {e':EnvP} (h1:P→asM c e v (a,e')) (h2:¬ P→asM c e v (b,e')):asM c e v (if P then a else b,e'):=by
 split
 ·exact h1 ‹_›
 ·exact h2 ‹_›
theorem ayl {k:WorkS} (hk:auu k):auu { k with c:=abH w e k }∧vwW { k with c:=abH w e k }=vwW k:=by
 obtain ⟨a,b,d,x,g⟩:=k
 cases g with
 | top =>
  unfold abH
  simp only
  split
  ·exact ⟨trivial,rfl⟩
  ·exact ⟨trivial,rfl⟩
 | _ =>exact ⟨hk,rfl⟩
theorem aDC {k:WorkS} (h:MI c e) (hl:(e.m.cells.length:Int)=aaU c) (hN:0≤e.gt 0∧e.gt 0≤1000000) (hrl:(e.recs.length:Int)=c.tasks) (hk:asN c k) (hh:auu k):asM c e (vwW k) (abe w e k):=by
 have hB:=(auJ (w:=w) h hk).1
 have hB2:=ayl (w:=w) (e:=e) hh
 have z:∀ {e':EnvP},Qs c e e'→Lw c e e' ([],.n) ([],.n):=fun h =>Lw.q h .refl
 unfold abe
 revert hB hB2
 generalize abH w e k=kc
 intro h1 ⟨h2,h3⟩
 rw [← h3]
 cases kc with
 | top =>exact ⟨by rw [h3]; exact .refl,hh⟩
 | t1 t s =>
  have:=aEt (w:=w) (t:=t) h s h1.2
  simp only
  revert this
  rcases aba w t e s with ⟨o,e'⟩
  intro this
  cases o with
  | go s =>exact ⟨z this,trivial⟩
  | fin c0 v0 =>exact ⟨z this,trivial⟩
 | t2 s =>
  cases s with
  | pop s =>
   have:=aIm (w:=w) h s
   simp only [ai5]
   revert this
   rcases afF w e s with ⟨o,e'⟩
   intro this
   cases o with
   | go s =>exact ⟨z this,trivial⟩
   | fin c0 v0 =>
    simp only
    by_cases hc:c0=2
    ·rw [if_pos hc]; exact ⟨z this,trivial⟩
    ·rw [if_neg hc]; exact ⟨z this,trivial⟩
  | claim t =>
   simp only [ai5]
   by_cases hb:acN t e=true
   ·rw [if_pos hb]
    exact ⟨aoA (l:=[]) h.d hl h.l h1 hb,by show [t]≠[]; simp⟩
   ·rw [if_neg hb]
    exact ⟨z (aoz h.d h.l hb),trivial⟩
 | t3 s =>
  have:=aGp (w:=w) h s h1
  simp only
  revert this
  rcases aa3 w e s with ⟨o,e'⟩
  intro this
  cases o with
  | go s =>exact ⟨z this,trivial⟩
  | fin c0 v0 =>
   refine .ite1 (fun hc =>⟨z this,trivial⟩) fun _ =>.ite1 (fun _ =>⟨z this,trivial⟩) fun _ =>?_
   unfold an8
   split
   ·exact ⟨z this,trivial⟩
   ·exact ⟨z this,trivial⟩
 | t4 s =>
  have:=aFi (c:=c) (w:=w) (e:=e) s
  simp only
  revert this
  rcases aiL w e s with ⟨o,e'⟩
  intro this
  cases o with
  | go s =>exact ⟨z this,trivial⟩
  | fin c0 v0 =>exact .ite1 (fun hc =>⟨z this,trivial⟩) fun _ =>⟨z this,trivial⟩
 | t5 s =>
  have:=aEE (w:=k.victim) (v:=k.level) h s
  simp only
  rw [h.l]
  revert this
  rcases agD (aat (aav c) k.victim k.level) e s with ⟨o,e'⟩
  intro this
  cases o with
  | go s =>exact ⟨z this,trivial⟩
  | fin c0 v0 =>exact .ite (fun hc =>⟨z (this.em (by omega)),trivial⟩) fun _ =>.ite (fun _ =>⟨z this,trivial⟩) fun _ =>⟨z this,trivial⟩
 | t6 =>
  have h1:TOk c k.x:=h1
  simp only
  by_cases hb:acN k.x e=true
  ·rw [if_pos hb]
   exact ⟨aoA (l:=[]) h.d hl h.l h1 hb,by show [k.x]≠[]; simp⟩
  ·rw [if_neg hb]
   exact ⟨z (aoz h.d h.l hb),trivial⟩
 | t7 s =>
  have:=aJO (w:=w) h hl hN hrl h1 h2
  simp only
  revert this
  rcases auB w e s with ⟨o,e'⟩
  intro this
  cases o with
  | go s =>exact this
  | fin c0 v0 =>exact ⟨this.1,trivial⟩
 | t8 s =>
  have:=aEL (w:=w) h s
  simp only
  revert this
  rcases ac5 w e s with ⟨o,e'⟩
  intro this
  cases o with
  | go s =>exact ⟨z this,trivial⟩
  | fin c0 v0 =>exact ⟨z this,trivial⟩
 | t9 s =>
  have:=ayV (w:=k.victim) (v:=k.level) (a:=k.victim) (b:=k.level) h s
  simp only
  rw [h.l]
  revert this
  rcases aeB (aaF (aav c) k.victim) k.level (aat (aav c) k.victim k.level) e s with ⟨o,e'⟩
  intro this
  cases o with
  | go s =>exact ⟨z this,trivial⟩
  | fin c0 v0 =>exact ⟨z this,trivial⟩
def vwC (k:ClieS):Vw:=match k.c with
 | .n4 =>([],.p k.id)
 | .n5 =>([],.p k.id)
 | .n6 =>([],.p k.id)
 | .a6 _ =>([],.p k.id)
 | .n7 =>([],.q k.id)
 | _ =>([],.n)
theorem Lw.of_q {t:Int} {l:List Int} {v':Vw} (H:TOk c t→Lw c e e' (l,.q t) v'):Lw c e e' (l,.q t) v':=fun m vs hv h =>by
 obtain ⟨ts,la⟩:=h.la
 have:=la.ph m
 have e2:(aiH c e ts vs).ph m=.q t:=by show (vs m).2=_; rw [hv]
 rw [e2] at this
 exact H this.1 m vs hv h
theorem aEd {k:ClieS} {me:Int} (h:MI c e) (hl:(e.m.cells.length:Int)=aaU c) (hN:0≤e.gt 0∧e.gt 0≤1000000) (hrl:(e.recs.length:Int)=c.tasks) (hk:aBa c k):Lw c e (aiB c.subs me e k).2.2 (vwC k) (vwC (aiB c.subs me e k).2.1):=by
 have z:∀ {e':EnvP},Qs c e e'→Lw c e e' ([],.n) ([],.n):=fun h =>Lw.q h .refl
 have ite:∀ {P:Prop} [Decidable P] {a b:Bool×ClieS×EnvP} {v:Vw},(P→Lw c e a.2.2 v (vwC a.2.1))→(¬ P→Lw c e b.2.2 v (vwC b.2.1))→Lw c e (if P then a else b).2.2 v (vwC (if P then a else b).2.1):=fun h1 h2 =>by
  split
  ·exact h1 ‹_›
  ·exact h2 ‹_›
 unfold aiB
 refine ite (fun _ =>.refl) fun hi =>?_
 obtain ⟨i,id,acc,g⟩:=k
 obtain ⟨h0,h1⟩:=hk
 show Lw c e (aa8 c.subs me e ⟨i,id,acc,g⟩ (abZ c.subs i)).2.2 _ (vwC (aa8 c.subs me e ⟨i,id,acc,g⟩ (abZ c.subs i)).2.1)
 have e1:wi (e.gt 0)=e.gt 0:=aaM (aas (by omega))
 cases g with
 | n1 =>
  simp only [aa8]
  by_cases hh:e.hit 1 0=true
  ·rw [if_pos hh]; exact z (atS h)
  ·rw [if_neg hh]; exact z (atS h)
 | a1 =>
  simp only [aa8]
  by_cases hh:e.hit 1 0=true
  ·rw [if_pos hh]; exact z (atS h)
  ·rw [if_neg hh]; exact z (atS h)
 | n2 =>
  simp only [aa8]
  exact ite (fun _ =>Lw.em (by omega) (z .lk)) fun _ =>z .lk
 | n3 =>
  simp only [aa8]
  rw [e1]
  refine ite (fun hn =>?_) fun hn =>Lw.em (by omega) ?_
  ·have hn:TOk c (e.gt 0):=by unfold IsT at hn; rw [h.cc] at hn; exact hn
   exact axB h.d hl hN hn.2
  ·have hn:¬ TOk c (e.gt 0):=by unfold IsT at hn; rw [h.cc] at hn; exact hn
   exact azC h.d hl hN (Int.not_lt.1 fun k =>hn ⟨hN.1,k⟩)
 | n4 =>
  simp only [aa8]
  rw [h.l]
  exact Lw.q (.wr h.d (ajZ h.d)) .refl
 | n5 =>
  simp only [aa8]
  rw [h.l]
  exact Lw.q (.since h.d) .refl
 | n6 =>
  have h1:TOk c id:=h1
  have:=aw3 (d:=(abZ c.subs i).deadline) (t:=id) h .l1
  simp only [aa8]
  revert this
  rcases abS (abZ c.subs i).deadline id e .l1 with ⟨o,e'⟩
  intro this
  cases o with
  | go s =>exact Lw.q this .refl
  | fin c0 v0 =>exact ite (fun _ =>Lw.trans (Lw.q this .refl) (aut h1)) fun _ =>Lw.q this (.drop (fun x hx =>hx) (fun h =>h) (fun x k =>by cases k))
 | a6 s =>
  have h2:TOk c id:=h1.1
  have:=aw3 (d:=(abZ c.subs i).deadline) (t:=id) h s
  simp only [aa8]
  revert this
  rcases abS (abZ c.subs i).deadline id e s with ⟨o,e'⟩
  intro this
  cases o with
  | go s =>exact Lw.q this .refl
  | fin c0 v0 =>exact ite (fun _ =>Lw.trans (Lw.q this .refl) (aut h2)) fun _ =>Lw.q this (.drop (fun x hx =>hx) (fun h =>h) (fun x k =>by cases k))
 | n7 =>
  simp only [aa8]
  rw [h.l]
  exact Lw.of_q fun ht =>aBZ h.d hl ht
 | n8 =>
  simp only [aa8]
  exact ite (fun _ =>z (az5 h)) fun _ =>z (az5 h)
 | n9 =>
  have:=as0 (w:=me) (v:=(abZ c.subs i).level) h (.l1 0)
  simp only [aa8]
  revert this
  rcases adN me (abZ c.subs i).level e (.l1 0) with ⟨o,e'⟩
  intro this
  cases o with
  | go s =>exact z this
  | fin c0 v0 =>exact z this
 | a9 t =>
  have:=as0 (w:=me) (v:=(abZ c.subs i).level) h t
  simp only [aa8]
  revert this
  rcases adN me (abZ c.subs i).level e t with ⟨o,e'⟩
  intro this
  cases o with
  | go s =>exact z this
  | fin c0 v0 =>exact z this
end
section
variable {c:Cfg} {N:Nat} {e e':EnvP} {vs:Nat→Vw} {w:WorkerV MV} {l:ClientV MV} {v:Vw}
theorem Rz.nx (h:Rz c e e'):e'.gt 0=e.gt 0:=by
 rcases h with h | ⟨t,v,h⟩
 ·exact h.nx
 ·exact h.nx
theorem Rz.evs (h:Rz c e e'):∃ l,e'.evs=e.evs++l:=by
 rcases h with h | ⟨t,v,h⟩
 ·obtain ⟨l,hl,_⟩:=h.ev; exact ⟨l,hl⟩
 ·obtain ⟨k,w,o,l,_,hl,_⟩:=h.ev; exact ⟨_,hl⟩
theorem Tr.nx {p q:aoE} (h:Tr c e e' p q) (h0:0≤e.gt 0∧e.gt 0≤1000000):e'.gt 0≤e.gt 0+1:=by
 have al:∀ {e':EnvP},Al c e e'→e'.gt 0≤e.gt 0+1:=fun h =>by
  rcases h.nx with k | k
  ·rw [k,aft (by omega)]; omega
  ·omega
 cases h with
 | same _ h =>rw [h.nx]; omega
 | drop _ h =>rw [h.nx]; omega
 | al h =>exact al h
 | al1 _ h =>exact al h.a
 | w0 _ _ h =>rw [h.nx]; omega
 | an _ _ h =>rw [h.nx]; omega
theorem Tr.evs {p q:aoE} (h:Tr c e e' p q):∃ l,e'.evs=e.evs++l:=by
 cases h with
 | same _ h =>exact h.evs
 | drop _ h =>exact h.evs
 | al h =>obtain ⟨l,hl,_⟩:=h.ev; exact ⟨l,hl⟩
 | al1 _ h =>obtain ⟨l,hl,_⟩:=h.a.ev; exact ⟨l,hl⟩
 | w0 _ _ h =>exact ⟨[],by rw [h.ev]; simp⟩
 | an _ _ h =>obtain ⟨l,k,w,o,_,_,hl⟩:=h.ev; exact ⟨_,by rw [hl,List.append_assoc]⟩
structure DL (c:Cfg) (N:Nat) (e:EnvP) (vs:Nat→Vw):Prop where
 ei:EI c (1+3*N) e
 m:MI c e
 n:(e.m.cells.length:Int)=aaU c
 nx:e.gt 0≤N
 li:LI c e vs
def WL (c:Cfg) (N:Nat) (j:Int) (w:WorkerV MV) (v:Vw):Prop:=∃ k,w=ahi (aav c) j k∧ahg (1+3*N) (mnC c) k∧asN c k∧auu k∧vwW k=v
def CL (c:Cfg) (l:ClientV MV) (v:Vw):Prop:=∃ k,l=ap2 c.subs c.workers k∧aBa c k∧vwC k=v
theorem WL.next {j:Int} (hw:WL c N j w v):WL c (N+1) j w v:=by
 obtain ⟨k,h1,h2,h3⟩:=hw
 exact ⟨k,h1,h2.up (by omega),h3⟩
theorem DL.next (h:DL c N e vs):DL c (N+1) e vs:=⟨h.ei.up (by omega),h.m,h.n,by have:=h.nx; omega,h.li⟩
theorem DL.clk {k:ClkV} (h:DL c N e vs):DL c N { e with k:=k } vs:=by
 obtain ⟨rl,ts,la⟩:=h.li
 exact ⟨h.ei.clk,h.m.ex,h.n,h.nx,rl,ts,la⟩
theorem DL.stp (h:DL c N e vs) (hN:N≤100000) (s:Stp 2 e e') {p q:aoE} (t:Tr c e e' p q) {m:Nat} {v':Vw} (x:Lw c e e' (vs m) v'):DL c (N+1) e' (aez vs m v'):=by
 have s1:=h.ei.stp (by omega) s
 have en:1+3*N+3=1+3*(N+1):=by omega
 rw [en] at s1
 have h0:=h.m.p 0
 have h1:=h.nx
 have h2:=t.nx ⟨h0,by omega⟩
 exact ⟨s1,t.i,by rw [(aDR s.m h.ei.ct (by omega)).2]; exact h.n,by omega,x m vs rfl h.li⟩
theorem aEk (h:DL c N e vs) (hN:N≤100000) {j:Nat} (hw:WL c N j w (vs j)) :
  aaB (aah w e) fun o =>∃ v',DL c (N+1) o.2.2.1 (aez vs j v')∧WL c (N+1) j o.2.1 v'∧∃ l,o.2.2.1.evs=e.evs++l:=by
 obtain ⟨k,rfl,hk,hg,hh,hv⟩:=hw
 rw [← h.ei.many] at hk
 have h0:=h.m.p 0
 have hx:=h.nx
 have h1:=av1 (w:=(j:Int)) h.ei.ok (by omega) k hk
 have h2:=ayk (w:=(j:Int)) h.ei.ok k
 have h3:=ayj (w:=(j:Int)) h.ei.ok k hk (by omega)
 have h4:=ayi (w:=(j:Int)) h.m h.n hg
 have h5:=aDC (w:=(j:Int)) h.m h.n ⟨h0,by omega⟩ h.li.rl hg hh
 rw [h.ei.many] at h3
 rw [h.ei.l] at h1
 rw [hv] at h5
 exact ⟨_,h1,_,h.stp hN h2 h4.1 h5.1,⟨_,rfl,h3.up (by omega),h4.2,h5.2,rfl⟩,h4.1.evs⟩
theorem aGA (h:DL c N e vs) (hN:N≤100000) {m:Nat} (hc:CL c l (vs m)):aaB (aao l e) fun o =>∃ v',DL c (N+1) o.2.2.1 (aez vs m v')∧CL c o.2.1 v'∧∃ l,o.2.2.1.evs=e.evs++l:=by
 obtain ⟨k,rfl,hk,hv⟩:=hc
 have h0:=h.m.p 0
 have hx:=h.nx
 have h1:=axq (subs:=c.subs) (me:=c.workers) h.ei.ok (by omega) k hk.1
 have h2:=aAu (subs:=c.subs) (me:=c.workers) h.ei.ok k
 have h4:=aAt (me:=c.workers) h.m h.n hk
 have h5:=aEd (me:=c.workers) h.m h.n ⟨h0,by omega⟩ h.li.rl hk
 rw [hv] at h5
 exact ⟨_,h1,_,h.stp hN h2 h4.1 h5,⟨_,rfl,h4.2,rfl⟩,h4.1.evs⟩
theorem aG4 {j:Int}:WL c 0 j (ahi (aav c) j ⟨0,0,0,0,.top⟩) ([],.n):=⟨_,rfl,trivial,trivial,trivial,rfl⟩
theorem aIZ:CL c (ap2 c.subs c.workers ⟨0,0,false,.n1⟩) ([],.n):=⟨_,rfl,⟨Int.le_refl 0,trivial⟩,rfl⟩
theorem aAC (h:DecOk c):((am5 c).m.cells.length:Int)=aaU c:=by
 show ((List.replicate (aaU c).toNat (0:Int)).length:Int)=_
 have:=ag0 h
 have h4:=h.h
 have h5:=h.t
 rw [List.length_replicate]
 have:0≤aaU c:=by unfold aaU; omega
 omega
theorem aIU (h:DecOk c):DL c 0 (am5 c) fun _ =>([],.n):=by
 have ht:=h.t
 refine ⟨aIT h,aIi h,aAC h,by rw [at1]; exact Int.le_refl 0,?_,fun _ =>.fresh,?_⟩
 ·show ((List.replicate c.tasks.toNat _).length:Int)=_
  rw [List.length_replicate]; omega
 ·have e1:aiH c (am5 c) (fun _ =>.fresh) (fun _ =>([],.n))=⟨c.tasks,0,fun _ =>0,fun _ =>0,rcw (am5 c),rcs (am5 c),fun _ =>0,fun _ =>0,fun _ =>0,fun _ =>.fresh,fun _ =>[],fun _ =>.n⟩:=by
   unfold aiH
   rw [at1,show Stt c (am5 c)=fun _ =>0 from funext fun t =>at1,show Jo c (am5 c)=fun _ =>0 from funext fun t =>at1]
   rfl
  rw [e1]
  refine aIt fun t h0 h1 =>?_
  show (if 0≤t then ((am5 c).rc t).started else false)=false
  rw [if_pos h0]
  have:(am5 c).rc t=ayc:=List.eq_of_mem_replicate (asD (α:=RecP) (d:=(dfR 26:TR 26)) ⟨h0,by show t<((List.replicate c.tasks.toNat ayc).length:Int); rw [List.length_replicate]; omega⟩)
  rw [this]; rfl
def JL (c:Cfg) (N:Nat) (e:EnvP) (ws:List (WorkerV MV)) (cl:ClientV MV):Prop :=
 ∃ vs,DL c N e vs∧(∀ (j:Nat) w,ws[j]?=some w→WL c N j w (vs j))∧CL c cl (vs ws.length)
structure EngI (c:Cfg) (I:Nat→EnvP→List (WorkerV MV)→ClientV MV→Prop):Prop where
 w:∀ {N:Nat} {e:EnvP} {ws:List (WorkerV MV)} {cl:ClientV MV} {j:Nat} {w:WorkerV MV},I N e ws cl→N≤100000→ws[j]?=some w→aaB (aah w e) fun o =>I (N+1) o.2.2.1 (ws.set j o.2.1) cl∧∃ l,o.2.2.1.evs=e.evs++l
 c:∀ {N:Nat} {e:EnvP} {ws:List (WorkerV MV)} {cl:ClientV MV},I N e ws cl→N≤100000→aaB (aao cl e) fun o =>I (N+1) o.2.2.1 ws o.2.1∧∃ l,o.2.2.1.evs=e.evs++l
 n:∀ {N:Nat} {e:EnvP} {ws:List (WorkerV MV)} {cl:ClientV MV},I N e ws cl→I (N+1) e ws cl
 k:∀ {N:Nat} {e:EnvP} {ws:List (WorkerV MV)} {cl:ClientV MV} {k:ClkV},I N e ws cl→I N { e with k:=k } ws cl
 ev:∀ {N:Nat} {e:EnvP} {ws:List (WorkerV MV)} {cl:ClientV MV},I N e ws cl→e.evs.length≤1+3*N
theorem at3 {α:Type} {ws:List α} {j:Nat} {w:α} (h:ws[j]?=some w):j<ws.length:=by
 rcases Nat.lt_or_ge j ws.length with k | k
 ·exact k
 ·rw [List.getElem?_eq_none k] at h; cases h
theorem aw1:EngI c (JL c) where
 w {N e ws cl j w} h hN hj:=by
  obtain ⟨vs,h1,h2,h3⟩:=h
  have hl:=at3 hj
  refine (aEk h1 hN (h2 j w hj)).mono fun o ⟨v',g1,g2,g3⟩ =>⟨⟨_,g1,fun i u hu =>?_,?_⟩,g3⟩
  ·by_cases hij:i=j
   ·subst hij
    rw [List.getElem?_set_self hl] at hu
    rw [aa5,← Option.some.inj hu]
    exact g2
   ·rw [List.getElem?_set_ne (fun k =>hij k.symm)] at hu
    rw [abI hij]
    exact (h2 i u hu).next
  ·rw [List.length_set,abI (by omega)]; exact h3
 c {N e ws cl} h hN:=by
  obtain ⟨vs,h1,h2,h3⟩:=h
  refine (aGA h1 hN h3).mono fun o ⟨v',g1,g2,g3⟩ =>⟨⟨_,g1,fun i u hu =>?_,by rw [aa5]; exact g2⟩,g3⟩
  have:=at3 hu
  rw [abI (by omega)]; exact (h2 i u hu).next
 n {N e ws cl} h:=by
  obtain ⟨vs,h1,h2,h3⟩:=h
  exact ⟨vs,h1.next,fun i u hu =>(h2 i u hu).next,h3⟩
 k {N e ws cl k} h:=by
  obtain ⟨vs,h1,h2,h3⟩:=h
  exact ⟨vs,h1.clk,h2,h3⟩
 ev {N e ws cl} h:=by
  obtain ⟨vs,h1,h2,h3⟩:=h
  exact h1.ei.ok.ev
theorem aw0 (h:DecOk c) {ws:List (WorkerV MV)} (hw:∀ (j:Nat) w,ws[j]?=some w→w=ahi (aav c) j ⟨0,0,0,0,.top⟩):JL c 0 (am5 c) ws (ap2 c.subs c.workers ⟨0,0,false,.n1⟩) :=
 ⟨_,aIU h,fun j w hj =>by rw [hw j w hj]; exact aG4,aIZ⟩
end
end
section
inductive WS where
 | no
 | set (u:Int)
 | wk (u T:Int) (m:Int)
 | st (u T:Int)
structure IA where
 L:Int→Int
 dn:Int→Prop
 U:Int→WS
inductive CZ (a:IA) (Z:Int→Prop) (p:Int):Int→Prop
 | z {x:Int}:Z x→CZ a Z p x
 | d {x:Int}:a.dn x→CZ a Z p x
 | n {x:Int}:p≤a.L x→a.U x=.no→CZ a Z p x
 | s {x u:Int}:p≤a.L x→a.U x=.set u→CZ a Z p x
 | k {x u T:Int} {m:Int}:p≤a.L x→a.U x=.wk u T m→p≤T→CZ a Z p x
 | t {x u T:Int}:p≤a.L x→a.U x=.st u T→p≤T→CZ a Z p x
 | k2 {x u T:Int} {m:Int}:p≤a.L x→a.U x=.wk u T m→CZ a Z p u→CZ a Z p x
 | t2 {x u T:Int}:p≤a.L x→a.U x=.st u T→CZ a Z p u→CZ a Z p x
abbrev CV (a:IA) (p x:Int):Prop:=CZ a (fun _ =>False) p x
section
variable {a b:IA} {Z Y:Int→Prop} {p q x y u T:Int}
theorem CZ.low (h:CZ a Z p x) (hq:q≤p):CZ a Z q x:=by
 induction h with
 | z h =>exact .z h
 | d h =>exact .d h
 | n h1 h2 =>exact .n (Int.le_trans hq h1) h2
 | s h1 h2 =>exact .s (Int.le_trans hq h1) h2
 | k h1 h2 h3 =>exact .k (Int.le_trans hq h1) h2 (Int.le_trans hq h3)
 | t h1 h2 h3 =>exact .t (Int.le_trans hq h1) h2 (Int.le_trans hq h3)
 | k2 h1 h2 _ ih =>exact .k2 (Int.le_trans hq h1) h2 ih
 | t2 h1 h2 _ ih =>exact .t2 (Int.le_trans hq h1) h2 ih
theorem CZ.sub (h:CZ a Z p x) (hz:∀ y,Z y→CZ a Y p y):CZ a Y p x:=by
 induction h with
 | z h =>exact hz _ h
 | d h =>exact .d h
 | n h1 h2 =>exact .n h1 h2
 | s h1 h2 =>exact .s h1 h2
 | k h1 h2 h3 =>exact .k h1 h2 h3
 | t h1 h2 h3 =>exact .t h1 h2 h3
 | k2 h1 h2 _ ih =>exact .k2 h1 h2 ih
 | t2 h1 h2 _ ih =>exact .t2 h1 h2 ih
inductive UP (L:Int):WS→WS→Prop
 | same (s:WS):UP L s s
 | no (s:WS):UP L s .no
 | set (u:Int):UP L .no (.set u)
 | load (u:Int) (m:Int) {T:Int}:L≤T→UP L (.set u) (.wk u T m)
 | settle (u T:Int) (m:Int):UP L (.wk u T m) (.st u T)
structure IP (a b:IA):Prop where
 L:∀ x,a.L x≤b.L x
 dn:∀ x,a.dn x→b.dn x
 U:∀ x,UP (a.L x) (a.U x) (b.U x)
theorem IP.refl:IP a a:=⟨fun _ =>Int.le_refl _,fun _ h =>h,fun _ =>.same _⟩
theorem CZ.step (h:CZ a Z p x) (s:IP a b):CZ b Z p x:=by
 induction h with
 | z h =>exact .z h
 | d h =>exact .d (s.dn _ h)
 | @n x h1 h2 =>
  have hl:=Int.le_trans h1 (s.L x)
  have hu:=s.U x
  rw [h2] at hu
  generalize hw:b.U x=w at hu
  cases hu with
  | same _ =>exact .n hl hw
  | no _ =>exact .n hl hw
  | set u =>exact .s hl hw
 | @s x u h1 h2 =>
  have hl:=Int.le_trans h1 (s.L x)
  have hu:=s.U x
  rw [h2] at hu
  generalize hw:b.U x=w at hu
  cases hu with
  | same _ =>exact .s hl hw
  | no _ =>exact .n hl hw
  | load _ m hT =>exact .k hl hw (Int.le_trans h1 hT)
 | @k x u T m h1 h2 h3 =>
  have hl:=Int.le_trans h1 (s.L x)
  have hu:=s.U x
  rw [h2] at hu
  generalize hw:b.U x=w at hu
  cases hu with
  | same _ =>exact .k hl hw h3
  | no _ =>exact .n hl hw
  | settle _ _ _ =>exact .t hl hw h3
 | @t x u T h1 h2 h3 =>
  have hl:=Int.le_trans h1 (s.L x)
  have hu:=s.U x
  rw [h2] at hu
  generalize hw:b.U x=w at hu
  cases hu with
  | same _ =>exact .t hl hw h3
  | no _ =>exact .n hl hw
 | @k2 x u T m h1 h2 _ ih =>
  have hl:=Int.le_trans h1 (s.L x)
  have hu:=s.U x
  rw [h2] at hu
  generalize hw:b.U x=w at hu
  cases hu with
  | same _ =>exact .k2 hl hw ih
  | no _ =>exact .n hl hw
  | settle _ _ _ =>exact .t2 hl hw ih
 | @t2 x u T h1 h2 _ ih =>
  have hl:=Int.le_trans h1 (s.L x)
  have hu:=s.U x
  rw [h2] at hu
  generalize hw:b.U x=w at hu
  cases hu with
  | same _ =>exact .t2 hl hw ih
  | no _ =>exact .n hl hw
theorem CZ.fin (h:CZ a (·=y) p x) (h1:p≤a.L y) (h2:a.U y=.no):CV a p x:=h.sub fun w hw =>by subst hw; exact .n h1 h2
theorem CZ.next (h:CZ a (·=y) p x) (h1:p≤a.L y) (h2:a.U y=.no∨a.U y=.set u∨(∃ T m,a.U y=.wk u T m)∨∃ T,a.U y=.st u T):CZ a (·=u) p x:=h.sub fun w hw =>by
 subst hw
 rcases h2 with h2 | h2 | ⟨T,m,h2⟩ | ⟨T,h2⟩
 ·exact .n h1 h2
 ·exact .s h1 h2
 ·exact .k2 h1 h2 (.z rfl)
 ·exact .t2 h1 h2 (.z rfl)
def IA.ok (a:IA):Prop:=∀ x u T,a.U x=.st u T→CV a T u
inductive Chain (a:IA) (u:Int):Int→Prop
 | here:Chain a u u
 | next {x v T:Int}:Chain a u x→a.U x=.st v T→Chain a u v
end
inductive Iv where
 | n
 | j2 (t u:Int)
 | j4 (t u:Int)
 | j5 (t u T z:Int) (r:Bool)
def WS.ch:WS→Option Int
 | .no =>none
 | .set u =>some u
 | .wk u _ _ =>some u
 | .st u _ =>some u
structure IvS where
 a:IA
 W:Int→Int
 ew:Int→Option (Int×Int×Option Int)
 vi:Int→Iv
def asV {α:Type} (f:Int→α) (i:Int) (v:α) (x:Int):α:=if x=i then v else f x
def asU {α:Type} (f:Int→α) (i:Int) (v:α) (x:Int):α:=if x=i then v else f x
theorem aeJ {α:Type} {f:Int→α} {i:Int} {v:α}:asV f i v i=v:=if_pos rfl
theorem agz {α:Type} {f:Int→α} {i x:Int} {v:α} (h:x≠i):asV f i v x=f x:=if_neg h
theorem ahw {α:Type} {f:Int→α} {i:Int} {v:α}:asU f i v i=v:=if_pos rfl
theorem akF {α:Type} {f:Int→α} {i x:Int} {v:α} (h:x≠i):asU f i v x=f x:=if_neg h
structure IV2 (s:IvS):Prop where
 g1:∀ t u m T,s.ew t=some (u,m,some T)→s.a.U t=.st u T
 g2:∀ t u T m,s.a.U t=.wk u T m→s.ew t=some (u,m,none)∧∃ z r,s.vi m=.j5 t u T z r
 g3:∀ t u m,s.ew t=some (u,m,none)→(s.vi m=.j4 t u∧s.a.U t=.set u)∨∃ T z r,s.vi m=.j5 t u T z r∧s.a.U t=.wk u T m
 g4:∀ t u,(s.a.U t).ch=some u→s.W t=u+1
 g5:∀ t u T,s.a.U t=.st u T→∃ m,s.ew t=some (u,m,some T)
 ok:s.a.ok
 wk:∀ m t u T z r,s.vi m=.j5 t u T z r→s.a.U t=.wk u T m→CZ s.a (·=z) T u∧(r=true→T≤s.a.L z)
 dn:∀ y,s.a.dn y→s.a.U y=.no
section
variable {s:IvS}
theorem azA {a b:IA} (h:a.ok) (hp:IP a b) (hn:∀ x u T,b.U x=.st u T→a.U x=.st u T):b.ok:=fun x u T e =>(h x u T (hn x u T e)).step hp
theorem IV2.up (h:IV2 s) {L:Int→Int} (hl:∀ x,s.a.L x≤L x):IV2 { s with a:={ s.a with L:=L } }:=by
 have hp:IP s.a { s.a with L:=L }:=⟨hl,fun _ h =>h,fun _ =>.same _⟩
 exact ⟨h.g1,h.g2,h.g3,h.g4,h.g5,azA h.ok hp fun _ _ _ e =>e,fun m t u T z r e1 e2 =>⟨(h.wk m t u T z r e1 e2).1.step hp,fun hr =>Int.le_trans ((h.wk m t u T z r e1 e2).2 hr) (hl z)⟩,h.dn⟩
theorem IV2.fin (h:IV2 s) {t:Int} (ht:s.a.U t=.no):IV2 { s with a:={ s.a with dn:=fun x =>x=t∨s.a.dn x } }:=by
 have hp:IP s.a { s.a with dn:=fun x =>x=t∨s.a.dn x }:=⟨fun _ =>Int.le_refl _,fun _ h =>.inr h,fun _ =>.same _⟩
 refine ⟨h.g1,h.g2,h.g3,h.g4,h.g5,azA h.ok hp fun _ _ _ e =>e,fun m t u T z r e1 e2 =>⟨(h.wk m t u T z r e1 e2).1.step hp,(h.wk m t u T z r e1 e2).2⟩,fun y hy =>?_⟩
 rcases hy with rfl | hy
 ·exact ht
 ·exact h.dn y hy
theorem IV2.chg (h:IV2 s) {t:Int} {w:WS} {W:Int→Int} {o:Option (Int×Int×Option Int)} {m:Int} {v:Iv}
  (hu:UP (s.a.L t) (s.a.U t) w) (hW:∀ x,x≠t→(s.a.U x).ch≠none→W x=s.W x) (hWt:∀ u,w.ch=some u→W t=u+1)
  (c1:∀ u k T,o=some (u,k,some T)→w=.st u T) (c5:∀ u T,w=.st u T→(∃ k,o=some (u,k,some T))∧CV s.a T u)
  (c2:∀ u T k,w=.wk u T k→o=some (u,k,none)∧∃ z r,asU s.vi m v k=.j5 t u T z r)
  (c3:∀ u k,o=some (u,k,none)→(asU s.vi m v k=.j4 t u∧w=.set u)∨∃ T z r,asU s.vi m v k=.j5 t u T z r∧w=.wk u T k)
  (cw:∀ t' u T z r,v=.j5 t' u T z r→asV s.a.U t w t'=.wk u T m→CZ s.a (·=z) T u∧(r=true→T≤s.a.L z))
  (ck:∀ u T k,w=.wk u T k→k=m∨w=s.a.U t) (cm:∀ x u,x≠t→s.ew x=some (u,m,none)→False) (hd:¬ s.a.dn t) :
  IV2 { a:={ s.a with U:=asV s.a.U t w },W:=W,ew:=asV s.ew t o,vi:=asU s.vi m v }:=by
 have hp:IP s.a { s.a with U:=asV s.a.U t w }:=⟨fun _ =>Int.le_refl _,fun _ h =>h,fun x =>by
  by_cases hx:x=t
  ·subst hx; rw [show ({ s.a with U:=asV s.a.U x w }:IA).U x=w from aeJ]; exact hu
  ·rw [show ({ s.a with U:=asV s.a.U t w }:IA).U x=s.a.U x from agz hx]; exact .same _⟩
 refine ⟨fun x u k T e =>?_,fun x u T k e =>?_,fun x u k e =>?_,fun x u e =>?_,fun x u T e =>?_,fun x u T e =>?_,fun k x u T z r e1 e2 =>?_,fun y hy =>?_⟩
 ·by_cases hx:x=t
  ·subst hx
   simp only [aeJ] at e ⊢
   exact c1 u k T e
  ·simp only [agz hx] at e ⊢
   exact h.g1 x u k T e
 ·by_cases hx:x=t
  ·subst hx
   simp only [aeJ] at e ⊢
   exact c2 u T k e
  ·simp only [agz hx] at e ⊢
   obtain ⟨e1,z,r,e2⟩:=h.g2 x u T k e
   have hk:k≠m:=fun hk =>cm x u hx (hk▸e1)
   exact ⟨e1,z,r,by rw [akF hk]; exact e2⟩
 ·by_cases hx:x=t
  ·subst hx
   simp only [aeJ] at e ⊢
   exact c3 u k e
  ·simp only [agz hx] at e ⊢
   have hk:k≠m:=fun hk =>cm x u hx (hk▸e)
   rw [akF hk]
   exact h.g3 x u k e
 ·by_cases hx:x=t
  ·subst hx
   simp only [aeJ] at e ⊢
   exact hWt u e
  ·simp only [agz hx] at e ⊢
   rw [hW x hx (by rw [e]; exact fun k =>by cases k)]
   exact h.g4 x u e
 ·by_cases hx:x=t
  ·subst hx
   simp only [aeJ] at e ⊢
   exact (c5 u T e).1
  ·simp only [agz hx] at e ⊢
   exact h.g5 x u T e
 ·by_cases hx:x=t
  ·subst hx
   simp only [aeJ] at e
   exact (c5 u T e).2.step hp
  ·simp only [agz hx] at e
   exact (h.ok x u T e).step hp
 ·by_cases hk:k=m
  ·subst hk
   simp only [ahw] at e1
   exact ⟨(cw x u T z r e1 e2).1.step hp,(cw x u T z r e1 e2).2⟩
  ·simp only [akF hk] at e1
   by_cases hx:x=t
   ·subst hx
    simp only [aeJ] at e2
    rcases ck u T k e2 with g | g
    ·exact absurd g hk
    ·rw [e2] at g
     exact ⟨(h.wk k x u T z r e1 g.symm).1.step hp,(h.wk k x u T z r e1 g.symm).2⟩
   ·simp only [agz hx] at e2
    exact ⟨(h.wk k x u T z r e1 e2).1.step hp,(h.wk k x u T z r e1 e2).2⟩
 ·have hy:s.a.dn y:=hy
  have hyt:y≠t:=fun e =>hd (e▸hy)
  simp only [agz hyt]
  exact h.dn y hy
theorem IV2.free (h:IV2 s) {m:Int} (hv:s.vi m=.n∨∃ t u,s.vi m=.j2 t u):∀ x u,s.ew x=some (u,m,none)→False:=fun x u e =>by
 rcases h.g3 x u m e with ⟨e1,_⟩ | ⟨T,z,r,e1,_⟩<;>rw [e1] at hv<;>(rcases hv with k | ⟨_,_,k⟩<;>cases k)
theorem IV2.walk (h:IV2 s) {m:Int} {t u T z y:Int} {r r':Bool} (hv:s.vi m=.j5 t u T z r) (hw:s.a.U t=.wk u T m→CZ s.a (·=y) T u∧(r'=true→T≤s.a.L y)):IV2 { s with vi:=asU s.vi m (.j5 t u T y r') }:=by
 refine ⟨h.g1,fun t' u' T' k e =>?_,fun t' u' k e =>?_,h.g4,h.g5,h.ok,fun k t' u' T' z' q e1 e2 =>?_,h.dn⟩
 ·obtain ⟨e1,z',q,e2⟩:=h.g2 t' u' T' k e
  by_cases hk:k=m
  ·subst hk
   rw [hv] at e2
   cases e2
   exact ⟨e1,y,r',ahw⟩
  ·exact ⟨e1,z',q,by show asU s.vi m _ k=_; rw [akF hk]; exact e2⟩
 ·rcases h.g3 t' u' k e with ⟨e1,e2⟩ | ⟨T',z',q,e1,e2⟩
  ·have hk:k≠m:=fun hk =>by rw [hk,hv] at e1; cases e1
   exact .inl ⟨by show asU s.vi m _ k=_; rw [akF hk]; exact e1,e2⟩
  ·by_cases hk:k=m
   ·subst hk
    rw [hv] at e1
    cases e1
    exact .inr ⟨T,y,r',ahw,e2⟩
   ·exact .inr ⟨T',z',q,by show asU s.vi m _ k=_; rw [akF hk]; exact e1,e2⟩
 ·by_cases hk:k=m
  ·subst hk
   have e1:asU s.vi k (.j5 t u T y r') k=_:=e1
   rw [ahw] at e1
   cases e1
   exact hw e2
  ·have e1:asU s.vi m _ k=_:=e1
   rw [akF hk] at e1
   exact h.wk k t' u' T' z' q e1 e2
theorem IV2.raised (h:IV2 s) {m:Int} {t u T z:Int} {r:Bool} (hv:s.vi m=.j5 t u T z r) (hl:T≤s.a.L z):IV2 { s with vi:=asU s.vi m (.j5 t u T z true) }:=h.walk hv fun e =>⟨(h.wk m t u T z r hv e).1,fun _ =>hl⟩
theorem IV2.next (h:IV2 s) {m:Int} {t u T z y:Int} (hv:s.vi m=.j5 t u T z true) (hW:s.W z=y+1):IV2 { s with vi:=asU s.vi m (.j5 t u T y false) }:=h.walk hv fun e =>by
 obtain ⟨h1,h2⟩:=h.wk m t u T z true hv e
 refine ⟨h1.next (h2 rfl) ?_,fun k =>by cases k⟩
 have g:=h.g4 z
 cases hu:s.a.U z with
 | no =>exact .inl rfl
 | set c =>have:=g c (by rw [hu]; rfl); exact .inr (.inl (by rw [show c=y by omega]))
 | wk c T' m' =>have:=g c (by rw [hu]; rfl); exact .inr (.inr (.inl ⟨T',m',by rw [show c=y by omega]⟩))
 | st c T' =>have:=g c (by rw [hu]; rfl); exact .inr (.inr (.inr ⟨T',by rw [show c=y by omega]⟩))
theorem IV2.begin (h:IV2 s) {m:Int} {t u:Int} (hv:s.vi m=.n) (ht:s.a.U t=.no) (he:s.ew t=none) (hd:¬ s.a.dn t):IV2 { a:={ s.a with U:=asV s.a.U t (.set u) },W:=asV s.W t (u+1),ew:=asV s.ew t none,vi:=asU s.vi m (.j2 t u) } :=
 h.chg (by rw [ht]; exact .set u) (fun x hx _ =>agz hx) (fun c e =>by cases e; exact aeJ) (fun _ _ _ e =>by cases e) (fun _ _ e =>by cases e) (fun _ _ _ e =>by cases e) (fun _ _ e =>by cases e) (fun _ _ _ _ _ e =>by cases e) (fun _ _ _ e =>by cases e) (fun x u _ e =>h.free (.inl hv) x u e) hd
theorem IV2.miss (h:IV2 s) {m:Int} {t u x:Int} (hv:s.vi m=.j2 t u) (hd:¬ s.a.dn t):IV2 { a:={ s.a with U:=asV s.a.U t .no },W:=asV s.W t x,ew:=asV s.ew t none,vi:=asU s.vi m .n } :=
 h.chg (.no _) (fun x hx _ =>agz hx) (fun c e =>by cases e) (fun _ _ _ e =>by cases e) (fun _ _ e =>by cases e) (fun _ _ _ e =>by cases e) (fun _ _ e =>by cases e) (fun _ _ _ _ _ e =>by cases e) (fun _ _ _ e =>by cases e) (fun x u _ e =>h.free (.inr ⟨_,_,hv⟩) x u e) hd
theorem IV2.load (h:IV2 s) {m:Int} {t u c:Int} (hv:s.vi m=.j4 t u) (he:s.ew t=some (c,m,none)) (hd:¬ s.a.dn t):IV2 { a:={ s.a with U:=asV s.a.U t (.wk u (s.a.L t) m) },W:=s.W,ew:=asV s.ew t (some (u,m,none)),vi:=asU s.vi m (.j5 t u (s.a.L t) u false) }:=by
 have hu:s.a.U t=.set u:=by
  rcases h.g3 t c m he with ⟨e1,e2⟩ | ⟨T,z,r,e1,_⟩
  ·rw [hv] at e1; cases e1; exact e2
  ·rw [hv] at e1; cases e1
 refine h.chg (by rw [hu]; exact .load u m (Int.le_refl _)) (fun x hx _ =>rfl) (fun c e =>h.g4 t c (by rw [hu]; exact e)) (fun _ _ _ e =>by cases e) (fun _ _ e =>by cases e) (fun c T k e =>by cases e; exact ⟨rfl,u,false,ahw⟩) (fun c k e =>by cases e; exact .inr ⟨_,u,false,ahw,rfl⟩) (fun t' u' T z r e _ =>by cases e; exact ⟨.z rfl,fun k =>by cases k⟩) (fun c T k e =>by cases e; exact .inl rfl) (fun x w hx e =>?_) hd
 rcases h.g3 x w m e with ⟨e1,_⟩ | ⟨T,z,r,e1,_⟩
 ·rw [hv] at e1; cases e1; exact hx rfl
 ·rw [hv] at e1; cases e1
theorem IV2.settle (h:IV2 s) {m:Int} {t u T z c:Int} (hv:s.vi m=.j5 t u T z true) (hz:s.a.U z=.no) (he:s.ew t=some (c,m,none)) (hd:¬ s.a.dn t):c=u∧IV2 { a:={ s.a with U:=asV s.a.U t (.st u T) },W:=s.W,ew:=asV s.ew t (some (u,m,some T)),vi:=asU s.vi m .n }:=by
 have hu:s.a.U t=.wk u T m∧c=u:=by
  rcases h.g3 t c m he with ⟨e1,e2⟩ | ⟨T',z',r,e1,e2⟩
  ·rw [hv] at e1; cases e1
  ·rw [hv] at e1; cases e1; exact ⟨e2,rfl⟩
 obtain ⟨h1,h2⟩:=h.wk m t u T z true hv hu.1
 refine ⟨hu.2,h.chg (by rw [hu.1]; exact .settle u T m) (fun x hx _ =>rfl) (fun c e =>h.g4 t c (by rw [hu.1]; exact e)) (fun c k T' e =>by cases e; rfl) (fun c T' e =>by cases e; exact ⟨⟨m,rfl⟩,h1.fin (h2 rfl) hz⟩) (fun _ _ _ e =>by cases e) (fun _ _ e =>by cases e) (fun _ _ _ _ _ e =>by cases e) (fun _ _ _ e =>by cases e) (fun x w hx e =>?_) hd⟩
 rcases h.g3 x w m e with ⟨e1,_⟩ | ⟨T',z',r,e1,_⟩
 ·rw [hv] at e1; cases e1
 ·rw [hv] at e1; cases e1; exact hx rfl
end
end
section
open Go Go.RowKit
set_option maxRecDepth 100000
variable [Tb]
def aIr (t d:Int) (x:Ev):Int:=if x.task=t∧(x.kind=1∨x.kind=3∨x.kind=11∨x.kind=12) then x.level else d
def lev (l:List Ev) (t:Int):Int:=l.foldl (aIr t) (-1)
abbrev EW:=Option (Int×Int×Option Int)
def ewF (t:Int) (d:EW) (x:Ev):EW :=
 if x.task=t∧x.kind=6 then some (x.other,x.worker,none)
 else if x.task=t∧x.kind=7 then match d with
  | some (u,m,none) =>if m=x.worker then some (u,m,some x.level) else d
  | _ =>d
 else if x.task=t∧x.kind=9 then none else d
def ewt (l:List Ev) (t:Int):EW:=l.foldl (ewF t) none
def fnE (l:List Ev) (t:Int):Prop:=acM kFn l t≠0
def anE (l:List Ev) (t:Int):Prop:=acM kKn l t≠0
def NoL (x:Ev):Prop:=x.kind≠1∧x.kind≠3∧x.kind≠11∧x.kind≠12
def NoW (x:Ev):Prop:=x.kind≠6∧x.kind≠7∧x.kind≠9∧x.kind≠10
section
variable {c:Cfg} {l m:List Ev} {x:Ev} {t u:Int}
theorem azL:lev (l++m) t=m.foldl (aIr t) (lev l t):=List.foldl_append
theorem aF7:ewt (l++m) t=m.foldl (ewF t) (ewt l t):=List.foldl_append
theorem arX:lev (l++[x]) t=aIr t (lev l t) x:=azL
theorem aFR {d:Int} (h:NoL x):aIr t d x=d:=if_neg fun k =>by unfold NoL at h; omega
theorem aIO {d:EW} (h:NoW x):ewF t d x=d:=by
 unfold ewF NoW at *
 rw [if_neg (fun k =>h.1 k.2),if_neg (fun k =>h.2.1 k.2),if_neg (fun k =>h.2.2.1 k.2)]
theorem azM {d:Int} (h:x.task≠t):aIr t d x=d:=if_neg fun k =>h k.1
theorem avz {α:Type} {f:α→Ev→α} {P:Ev→Prop} (hf:∀ d x,P x→f d x=d):∀ {m:List Ev} {d:α},(∀ x∈m,P x)→m.foldl f d=d
 | [],_,_ =>rfl
 | x::m,d,h =>by
  show m.foldl f (f d x)=d
  rw [hf d x (h x (List.mem_cons_self ..))]
  exact avz hf fun y hy =>h y (List.mem_cons_of_mem _ hy)
theorem alQ (h:∀ x∈m,NoL x):lev (l++m) t=lev l t:=by rw [azL]; exact avz (fun _ _ =>aFR) h
theorem axc (h:∀ x∈m,NoW x):ewt (l++m) t=ewt l t:=by rw [aF7]; exact avz (fun _ _ =>aIO) h
theorem aD6 (h:∀ x∈m,NoW x):fnE (l++m) t↔fnE l t:=by
 unfold fnE
 rw [ac3,aow (l:=m) fun x hx _ =>?_,Nat.add_zero]
 have:=(h x hx).2.2.2
 unfold kFn; rw [decide_eq_false_iff_not]; exact this
theorem aAY (h:∀ x∈m,NoL x):anE (l++m) t↔anE l t:=by
 unfold anE
 rw [ac3,aow (l:=m) fun x hx _ =>?_,Nat.add_zero]
 have:=h x hx
 unfold kKn; rw [decide_eq_false_iff_not]; unfold NoL at this; omega
inductive Ech (l:List Ev) (u:Int):Int→Prop
 | here:Ech l u u
 | next {x v k T:Int}:Ech l u x→ewt l x=some (v,k,some T)→Ech l u v
def Hol (c:Cfg) (l:List Ev):Prop:=(∀ t,TOk c t → -1≤lev l t)∧∀ t u k T y,ewt l t=some (u,k,some T)→Ech l u y→fnE l y∨T≤lev l y
def aJi (l:List Ev) (x:Ev):Prop:=x.kind=11∨x.kind=12→lev l x.task ≠ -1∧lev l x.task<x.level
def aqi (c:Cfg) (l:List Ev):Prop:=∀ p x r,l=p++x::r→aJi p x∧Hol c (p++[x])
theorem Ech.congr (h:∀ t,ewt m t=ewt l t) {y:Int} (hc:Ech m u y):Ech l u y:=by
 induction hc with
 | here =>exact .here
 | next _ e ih =>exact .next ih (by rw [← h]; exact e)
theorem Hol.same (h:Hol c l) (hw:∀ x∈m,NoW x) (hl:∀ x∈m,NoL x):Hol c (l++m):=⟨fun t ht =>by rw [alQ hl]; exact h.1 t ht,fun t u k T y e c =>by
 rw [axc hw] at e
 rcases h.2 t u k T y e (c.congr fun t =>axc hw) with g | g
 ·exact .inl ((aD6 hw).2 g)
 ·exact .inr (by rw [alQ hl]; exact g)⟩
theorem Hol.back (h:Hol c (l++m)) (hw:∀ x∈m,NoW x) (hl:∀ x∈m,NoL x):Hol c l:=⟨fun t ht =>by have:=h.1 t ht; rw [alQ hl] at this; exact this,fun t u k T y e c =>by
 rcases h.2 t u k T y (by rw [axc hw]; exact e) (c.congr fun t =>(axc hw).symm) with g | g
 ·exact .inl ((aD6 hw).1 g)
 ·exact .inr (by rw [alQ hl] at g; exact g)⟩
theorem axJ {l p r:List Ev} {x y:Ev} (h:l++[y]=p++x::r):(r=[]∧p=l∧x=y)∨∃ r',l=p++x::r':=by
 rcases List.eq_nil_or_concat r with k | ⟨r',z,k⟩
 ·subst k
  have:=List.append_inj' h rfl
  exact .inl ⟨rfl,this.1.symm,(List.cons.inj this.2).1.symm⟩
 ·subst k
  rw [List.concat_eq_append,← List.cons_append,← List.append_assoc] at h
  exact .inr ⟨r',(List.append_inj' h rfl).1⟩
theorem aqi.one (h:aqi c l) (ho:aJi l x) (hh:Hol c (l++[x])):aqi c (l++[x]):=fun p y r e =>by
 rcases axJ e with ⟨rfl,rfl,rfl⟩ | ⟨r',e⟩
 ·exact ⟨ho,hh⟩
 ·exact h p y r' e
theorem aJT (h:NoL x):aJi l x:=fun k =>by unfold NoL at h; omega
theorem aqi.no:∀ {m l:List Ev},aqi c l→Hol c l→(∀ x∈m,NoW x)→(∀ x∈m,NoL x)→aqi c (l++m)
 | [],l,h,_,_,_ =>by rw [List.append_nil]; exact h
 | x::m,l,h,hh,hw,hl =>by
  have e:l++x::m=(l++[x])++m:=by rw [List.append_assoc]; rfl
  have h1:∀ y∈[x],NoW y:=fun y hy =>by rw [List.mem_singleton.1 hy]; exact hw x (List.mem_cons_self ..)
  have h2:∀ y∈[x],NoL y:=fun y hy =>by rw [List.mem_singleton.1 hy]; exact hl x (List.mem_cons_self ..)
  have g:=hh.same h1 h2
  rw [e]
  exact aqi.no (h.one (aJT (h2 x (List.mem_singleton.2 rfl))) g) g (fun y hy =>hw y (List.mem_cons_of_mem _ hy)) fun y hy =>hl y (List.mem_cons_of_mem _ hy)
theorem aqi.mid {a b:List Ev} (h:aqi c l) (hh:Hol c l) (ha:∀ x∈a,NoW x∧NoL x) (hb:∀ x∈b,NoW x∧NoL x) (ho:aJi l x) (hh':Hol c (l++(a++x::b))):aqi c (l++(a++x::b)):=by
 have e:l++(a++x::b)=((l++a)++[x])++b:=by simp
 rw [e] at hh' ⊢
 have h3:=hh'.back (fun x hx =>(hb x hx).1) (fun x hx =>(hb x hx).2)
 refine aqi.no ((h.no hh (fun x hx =>(ha x hx).1) (fun x hx =>(ha x hx).2)).one (fun k =>?_) h3) h3 (fun x hx =>(hb x hx).1) (fun x hx =>(hb x hx).2)
 rw [alQ fun x hx =>(ha x hx).2]
 exact ho k
end
def Hd (v:Vw) (t:Int):Prop:=t∈v.1∨match v.2 with
 | .j x _ =>x=t
 | .b x _ =>x=t
 | .r x =>x=t
 | .f x =>x=t
 | _ =>False
structure LX (c:Cfg) (e:EnvP) (pub:Nat→aoE):Prop where
 a1:∀ t,TOk c t→anE e.evs t→lev e.evs t=Lv c e t
 a2:∀ t,¬ anE e.evs t→lev e.evs t=-1
 pb:∀ m t v,pub m=some (t,v,true)→Lv c e t=v
section
variable {c:Cfg} {e e':EnvP} {vs:Nat→Vw} {pub:Nat→aoE} {m m':Nat} {t u v:Int}
theorem aF1 {a:Ab} (la:LA a) {m:Nat} (h:Hd (a.hd m,a.ph m) t):a.ok t∧(a.ts t=.run m∨a.ts t=.bm m∨a.ts t=.fin m):=by
 have hp:=la.ph m
 rcases h with h | h
 ·have:=la.hd m t h
  exact ⟨this.1,.inl this.2⟩
 ·revert h hp
  show (a.phOk m (a.hd m) (a.ph m))→(match a.ph m with | .j x _ =>x=t | .b x _ =>x=t | .r x =>x=t | .f x =>x=t | _ =>False)→_
  cases a.ph m with
  | j x u =>rintro ⟨h1,_⟩ rfl; have:=la.hd m x h1; exact ⟨this.1,.inl this.2⟩
  | b x u =>rintro ⟨h1,h2,_⟩ rfl; exact ⟨h1,.inr (.inl h2)⟩
  | r x =>rintro ⟨h1,h2⟩ rfl; exact ⟨h1,.inr (.inl h2)⟩
  | f x =>rintro ⟨h1,h2⟩ rfl; exact ⟨h1,.inr (.inr h2)⟩
  | _ =>exact fun _ k =>k.elim
theorem aIq (h:LI c e vs) (h1:Hd (vs m) t) (h2:Hd (vs m') t):m=m':=by
 obtain ⟨rl,ts,la⟩:=h
 obtain ⟨_,k1⟩:=aF1 la (m:=m) h1
 obtain ⟨_,k2⟩:=aF1 la (m:=m') h2
 have g1:((aiH c e ts vs).ts t).mine=some m:=by rcases k1 with k | k | k<;>rw [k]<;>rfl
 have g2:((aiH c e ts vs).ts t).mine=some m':=by rcases k2 with k | k | k<;>rw [k]<;>rfl
 exact Option.some.inj (g1.symm.trans g2)
theorem azK (h:LI c e vs) (h1:(vs m).2=.p t):TOk c t∧¬ anE e.evs t∧∀ m',(vs m').2=.p t→m'=m:=by
 obtain ⟨rl,ts,la⟩:=h
 have g:∀ m,(vs m).2=.p t→(aiH c e ts vs).ok t∧ts t=.alloc m:=fun m h1 =>by
  have:=la.ph m
  rw [show (aiH c e ts vs).ph m=_ from h1] at this
  exact this
 obtain ⟨k0,k1⟩:=g m h1
 obtain ⟨c1,c2,c3⟩:=la.cl t k0
 rw [show (aiH c e ts vs).ts t=.alloc m from k1] at c3
 have c4:acM kKn e.evs t=0:=c3.2.2.1
 refine ⟨k0,by unfold anE; omega,fun m' h2 =>?_⟩
 have:=(g m' h2).2
 rw [k1] at this
 exact (Ts.alloc.inj this).symm
theorem atw {x:Ev} (h:Pl c x):NoL x:=h.2
def Bo (c:Cfg) (e e':EnvP):Prop:=∀ t v,Rsd c e e' t v→anE e.evs t
def aKB (e e':EnvP):Prop:=∃ l,e'.evs=e.evs++l∧((∀ x∈l,NoL x)∨∃ a x b,l=a++x::b∧(∀ y∈a,NoL y)∧(∀ y∈b,NoL y)∧¬ NoL x∧aJi e.evs x)
theorem aI9 {l:List Ev} {k w o v:Int} (hk:k=1∨k=3):anE (l++[⟨k,w,t,o,v⟩]) t:=by
 unfold anE
 rw [ac3,ad0,if_pos ⟨rfl,by unfold kKn; rw [decide_eq_true_iff]; exact hk⟩]; omega
theorem aJa {l:List Ev} {k w o v:Int} (h:u≠t):anE (l++[⟨k,w,t,o,v⟩]) u↔anE l u:=by
 unfold anE
 rw [ac3,ad0,if_neg (fun k =>h k.1.symm),Nat.add_zero]
theorem LX.quiet (h:LX c e pub) {l:List Ev} (hl:e'.evs=e.evs++l) (hn:∀ x∈l,NoL x) (hv:∀ t,Lv c e' t=Lv c e t) {q:aoE} (hq:∀ t v,q=some (t,v,true)→Lv c e t=v) :
  LX c e' (aez pub m q)∧(∀ t,lev e.evs t≤lev e'.evs t)∧aKB e e':=by
 have e1:∀ t,lev e'.evs t=lev e.evs t:=fun t =>by rw [hl,alQ hn]
 have e2:∀ t,anE e'.evs t↔anE e.evs t:=fun t =>by rw [hl]; exact aAY hn
 refine ⟨⟨fun t ht ha =>by rw [e1,hv]; exact h.a1 t ht ((e2 t).1 ha),fun t ha =>by rw [e1]; exact h.a2 t fun k =>ha ((e2 t).2 k),fun j t v hj =>?_⟩,fun t =>by rw [e1]; exact Int.le_refl _,l,hl,.inl hn⟩
 rw [hv]
 by_cases k:j=m
 ·subst k; rw [aa5] at hj; exact hq t v hj
 ·rw [abI k] at hj; exact h.pb j t v hj
theorem LX.rz (h:LX c e pub) (hi:MI c e) (hli:LI c e vs) (hpv:∀ m t v b,pub m=some (t,v,b)→(vs m).2=.p t) (hb:Bo c e e') (q:Rz c e e') {p:aoE} (hp:p=none∨p=pub m) :
  LX c e' (aez pub m p)∧(∀ t,lev e.evs t≤lev e'.evs t)∧aKB e e':=by
 rcases q with q | ⟨t0,v0,q⟩
 ·obtain ⟨l,hl,hn⟩:=q.ev
  refine h.quiet hl (fun x hx =>atw (hn x hx)) q.lv fun t v k =>?_
  rcases hp with hp | hp
  ·rw [hp] at k; cases k
  ·rw [hp] at k; exact h.pb m t v k
 ·obtain ⟨k,w,o,l,hk,hl,hn⟩:=q.ev
  have ha:anE e.evs t0:=hb t0 v0 q
  have hn:∀ x∈l,NoL x:=fun x hx =>atw (hn x hx)
  have hlev:lev e.evs t0=Lv c e t0:=h.a1 t0 q.tk ha
  have hlv:=hi.p (abx (aav c) t0)
  have hup:=q.up
  have e0:e'.evs=(e.evs++[⟨k,w,t0,o,v0⟩])++l:=by rw [hl,List.append_assoc]; rfl
  have e1:lev e'.evs t0=v0:=by
   rw [e0,alQ hn,arX]
   exact if_pos ⟨rfl,by show k=1∨k=3∨k=11∨k=12; omega⟩
  have e2:∀ t,t≠t0→lev e'.evs t=lev e.evs t:=fun t ht =>by
   rw [e0,alQ hn,arX]
   exact azM fun k =>ht k.symm
  have e3:∀ t,anE e'.evs t↔anE e.evs t:=fun t =>by
   rw [e0,aAY hn]
   unfold anE
   rw [ac3,ad0,if_neg (fun k2 =>by have k2:=k2.2; unfold kKn at k2; rw [decide_eq_true_iff] at k2; omega),Nat.add_zero]
  refine ⟨⟨fun t ht k =>?_,fun t k =>?_,fun j t v hj =>?_⟩,fun t =>?_,_,hl,.inr ⟨[],⟨k,w,t0,o,v0⟩,l,rfl,fun y hy =>(by cases hy),hn,fun k2 =>?_,fun _ =>?_⟩⟩
  ·by_cases htt:t=t0
   ·subst htt; rw [e1,q.now]
   ·rw [e2 t htt,q.ot t htt]; exact h.a1 t ht ((e3 t).1 k)
  ·have k:¬ anE e.evs t:=fun k2 =>k ((e3 t).2 k2)
   have htt:t≠t0:=fun k2 =>k (k2▸ha)
   rw [e2 t htt]; exact h.a2 t k
  ·have hj:pub j=some (t,v,true):=by
    by_cases k:j=m
    ·subst k
     rw [aa5] at hj
     rcases hp with hp | hp
     ·rw [hp] at hj; cases hj
     ·rw [hp] at hj; exact hj
    ·rw [abI k] at hj; exact hj
   have htt:t≠t0:=fun k2 =>(azK hli (hpv j t v true hj)).2.1 (k2▸ha)
   rw [q.ot t htt]; exact h.pb j t v hj
  ·by_cases htt:t=t0
   ·subst htt; rw [e1,hlev]; have:Lv c e t<v0:=q.up; omega
   ·rw [e2 t htt]; exact Int.le_refl _
  ·have k2:k≠1∧k≠3∧k≠11∧k≠12:=k2
   omega
  ·show lev e.evs t0 ≠ -1∧lev e.evs t0<v0
   have:Lv c e t0<v0:=q.up
   have:0≤Lv c e t0:=hlv
   omega
theorem LX.step (h:LX c e pub) (hi:MI c e) (hli:LI c e vs) (hpv:∀ m t v b,pub m=some (t,v,b)→(vs m).2=.p t) (hb:Bo c e e') {p q:aoE} (hp:pub m=p) (T:Tr c e e' p q) :
  LX c e' (aez pub m q)∧(∀ t,lev e.evs t≤lev e'.evs t)∧aKB e e':=by
 cases T with
 | same _ r =>exact h.rz hi hli hpv hb r (.inr hp.symm)
 | drop _ r =>exact h.rz hi hli hpv hb r (.inl rfl)
 | al r =>
  obtain ⟨l,hl,hn⟩:=r.ev
  exact h.quiet hl (fun x hx =>atw (hn x hx)) r.lv fun t v k =>by cases k
 | al1 v r ht hv =>
  obtain ⟨l,hl,hn⟩:=r.a.ev
  exact h.quiet hl (fun x hx =>atw (hn x hx)) r.a.lv fun t v k =>by cases k
 | w0 t0 v0 r =>
  obtain ⟨k1,k2,k3⟩:=azK hli (hpv m t0 v0 false hp)
  refine ⟨⟨fun t ht k =>?_,fun t k =>?_,fun j t v hj =>?_⟩,fun t =>by rw [r.ev]; exact Int.le_refl _,[],by rw [r.ev]; simp,.inl fun x hx =>(by cases hx)⟩
  ·rw [r.ev] at k ⊢
   rw [r.ot t fun k4 =>k2 (k4▸k)]; exact h.a1 t ht k
  ·rw [r.ev] at k ⊢; exact h.a2 t k
  ·by_cases k:j=m
   ·subst k; rw [aa5] at hj; cases hj; exact r.now
   ·rw [abI k] at hj
    rw [r.ot t fun k4 =>k (k3 j (k4▸hpv j t v true hj))]; exact h.pb j t v hj
 | an t0 v0 r =>
  obtain ⟨k1,k2,k3⟩:=azK hli (hpv m t0 v0 true hp)
  obtain ⟨l,k,w,o,hk,hn,hl⟩:=r.ev
  have hn:∀ x∈l,NoL x:=fun x hx =>atw (hn x hx)
  have e1:lev e'.evs t0=v0:=by
   rw [hl,arX]
   exact if_pos ⟨rfl,by show k=1∨k=3∨k=11∨k=12; omega⟩
  have e2:∀ t,t≠t0→lev e'.evs t=lev e.evs t:=fun t ht =>by
   rw [hl,arX,azM (fun k =>ht k.symm),alQ hn]
  have e3:∀ t,t≠t0→(anE e'.evs t↔anE e.evs t):=fun t ht =>by
   rw [hl,aJa ht,aAY hn]
  have e4:anE e'.evs t0:=by rw [hl]; exact aI9 hk
  have hpb:=h.pb m t0 v0 hp
  have h0:=hi.p (abx (aav c) t0)
  refine ⟨⟨fun t ht k =>?_,fun t k =>?_,fun j t v hj =>?_⟩,fun t =>?_,l++[⟨k,w,t0,o,v0⟩],by rw [hl,List.append_assoc],.inr ⟨l,⟨k,w,t0,o,v0⟩,[],rfl,hn,fun y hy =>(by cases hy),fun k2 =>?_,fun k2 =>?_⟩⟩
  ·by_cases htt:t=t0
   ·subst htt; rw [e1,r.lv]; exact hpb.symm
   ·rw [e2 t htt,r.lv]; exact h.a1 t ht ((e3 t htt).1 k)
  ·have htt:t≠t0:=fun k2 =>k (k2▸e4)
   rw [e2 t htt]; exact h.a2 t fun k2 =>k ((e3 t htt).2 k2)
  ·by_cases k:j=m
   ·subst k; rw [aa5] at hj; cases hj
   ·rw [abI k] at hj; rw [r.lv]; exact h.pb j t v hj
  ·by_cases htt:t=t0
   ·subst htt
    rw [e1,h.a2 t k2]
    have:0≤Lv c e t:=h0
    omega
   ·rw [e2 t htt]; exact Int.le_refl _
  ·have k2:k≠1∧k≠3∧k≠11∧k≠12:=k2
   omega
  ·have k2:k=11∨k=12:=k2
   omega
end
end
end Go.Proofs.YtidhehdanppcoaaGreat
