/- The program's machines do what was said plainly,9: the client; what workers and the client leave. What a step of a machine depends on,and what it changes. What a step depends on: machines that run others and touch no record. What is decoded is valid. The program's environment made anew,at a valid configuration. What is decoded is valid,also with other numbers of tasks and places. An engine: what holds between the entries of a script. The cells of an engine's memory by kinds: what each may hold; what the places of the layout are. What a step leaves alone: levels and Next; the machines that run none inside. -/
import Derived.Test.YtidhehdanppcoaaGreatCaam
import Derived.Test.YtidhehdanppcoaaGreatCaal
import Derived.Test.YtidhehdanppcoaaGreatCaai
set_option linter.all false
namespace Go.Proofs.YtidhehdanppcoaaGreat
section
open Go Go.RowKit
set_option maxRecDepth 100000
@[reducible] def aAx (me id : Int) (s : Sub) : ClieC → Int × MV × Bool
 | .n1 =>(1,.nil,true)
 | .a1 =>(1,.attempt ⟨o0,me,false⟩,false)
 | .n2 =>(2,.nil,true)
 | .n3 =>(3,.nil,true)
 | .n4 =>(4,.nil,true)
 | .n5 =>(5,.nil,true)
 | .n6 =>(6,.nil,true)
 | .a6 t =>(6,.insert (ar3 s.deadline id t),false)
 | .n7 =>(7,.nil,true)
 | .n8 =>(8,.nil,true)
 | .n9 =>(9,.nil,true)
 | .a9 t =>(9,.wake (as2 me s.level t),false)
@[reducible] def ap2 (subs : List Sub) (me : Int) (k : ClieS) : ClientV MV :=
 ⟨subs,me,k.i,(aAx me k.id (abZ subs k.i) k.c).1,(aAx me k.id (abZ subs k.i) k.c).2.1,(aAx me k.id (abZ subs k.i) k.c).2.2,k.id,k.acc⟩
def aG0 (subs:List Sub) (me:Int) (res:Option ((Bool×Unit)×(ClientV MV×EnvP×Unit))) (r:Bool×ClieS×EnvP):Prop:=res=some ((r.1,()),(ap2 subs me r.2.1,r.2.2,()))
def aqp (subs:List Sub) (me i id ln:Int):MV :=
 if ln=1 then .attempt ⟨o0,me,false⟩ else if ln=3 then .alloc ⟨o0⟩ else if ln=6 then .insert ⟨o0,(abZ subs i).deadline,id,1,0,0,0,0⟩ else if ln=8 then .release ⟨o0⟩ else if ln=9 then .wake ⟨o0,me,(abZ subs i).level,1,0,0⟩ else .nil
section
variable [Tb] {K:Nat} {e:EnvP} {w:Int} {subs:List Sub} {me i id ln:Int} {m:MV} {f acc:Bool}
theorem aij (hi:0≤i∧i<(subs.length:Int)) (h:1≤ln∧ln≤9):ac9 ⟨subs,me,i,ln,m,f,id,acc⟩=some ((aqp subs me i id ln,()),(⟨subs,me,i,ln,m,f,id,acc⟩,())):=by
 unfold ac9
 simp only [hi,and_self,if_true,akN,aeL,ahn,afg,acV,bnd]
 rw [aaM (aas (show _∧_ by omega)),if_pos (by simp only [List.length_cons,List.length_nil]; omega)]
 have hv:ln=1∨ln=2∨ln=3∨ln=4∨ln=5∨ln=6∨ln=7∨ln=8∨ln=9:=by omega
 rcases hv with rfl | rfl | rfl | rfl | rfl | rfl | rfl | rfl | rfl<;>rfl
theorem ayE (x:AttemptV):(SR1.spl (MV.attempt x)).isNone=false:=rfl
theorem aEK (x:AllocV):(SR1.spl (MV.alloc x)).isNone=false:=rfl
theorem ayD (x:InsertV):(SR1.spl (MV.insert x)).isNone=false:=rfl
theorem aEJ (x:ReleaseV):(SR1.spl (MV.release x)).isNone=false:=rfl
theorem ayA (x:WakeV):(SR1.spl (MV.wake x)).isNone=false:=rfl
theorem aG0.ite {c:Prop} [Decidable c] {a b:Option ((Bool×Unit)×(ClientV MV×EnvP×Unit))} {r s:Bool×ClieS×EnvP} (h1:c→aG0 subs me a r) (h2:¬ c→aG0 subs me b s):aG0 subs me (if c then a else b) (if c then r else s):=by
 by_cases h:c
 ·rw [if_pos h,if_pos h]; exact h1 h
 ·rw [if_neg h,if_neg h]; exact h2 h
theorem axq (hK:EOk K e) (hk:K≤100000000) (k:ClieS) (hi0:0≤k.i):aG0 subs me (aao (ap2 subs me k) e) (aiB subs me e k):=by
 have hl:e.evs.length≤999999999:=by have:=hK.ev; omega
 obtain ⟨i,id,acc,c⟩:=k
 have hi0:0≤i:=hi0
 unfold aiB
 by_cases hov:(subs.length:Int)≤i
 ·rw [if_pos hov]
  simp only [aao,aax,hov,decide_true,bnd,if_true]
  rfl
 rw [if_neg hov]
 have hi:0≤i∧i<(subs.length:Int):=by omega
 have hm:∀ m v,aec { e with m:=m } v=some ((),({ e with m:=m,evs:=e.evs++[v] },())):=fun m v =>ace (e:={ e with m:=m }) hl
 cases c with
 | n1 =>
  obtain ⟨dn,x',h,ho,hd,hx⟩:=arW (e:=e) (w:=me) (b:=false)
  rw [Bool.or_false] at hd
  simp only [o0] at h hx
  simp only [aa8,aao,aax,hov,decide_false,bnd,Bool.not_true,Bool.not_false,Bool.false_eq_true,if_true,if_false,Int.reduceEq,aij hi (show (1:Int)≤1∧(1:Int)≤9 by decide),aqp,ayE,adI,aby,h]
  rcases Bool.eq_false_or_eq_true (e.hit 1 0) with hh | hh
  ·rw [hh] at hd
   subst hd
   have ho:=ho rfl
   simp only [hh,if_true] at ho ⊢
   simp only [ho,hi,and_self,aaT,aai,bnd,Bool.not_true,Bool.not_false,Bool.false_eq_true,if_true,if_false,Int.reduceEq]
   rfl
  ·rw [hh] at hd
   subst hd
   have hx:=hx rfl
   simp only [hh,hx,bnd,Bool.not_true,Bool.not_false,Bool.false_eq_true,if_true,if_false,Int.reduceEq]
   rfl
 | a1 =>
  obtain ⟨dn,x',h,ho,hd,hx⟩:=arW (e:=e) (w:=me) (b:=false)
  rw [Bool.or_false] at hd
  simp only [o0] at h hx
  simp only [aa8,aao,aax,hov,decide_false,bnd,Bool.not_true,Bool.not_false,Bool.false_eq_true,if_true,if_false,Int.reduceEq,ayE,adI,aby,h,o0]
  rcases Bool.eq_false_or_eq_true (e.hit 1 0) with hh | hh
  ·rw [hh] at hd
   subst hd
   have ho:=ho rfl
   simp only [hh,if_true] at ho ⊢
   simp only [ho,hi,and_self,aaT,aai,bnd,Bool.not_true,Bool.not_false,Bool.false_eq_true,if_true,if_false,Int.reduceEq]
   rfl
  ·rw [hh] at hd
   subst hd
   have hx:=hx rfl
   simp only [hh,hx,bnd,Bool.not_true,Bool.not_false,Bool.false_eq_true,if_true,if_false,Int.reduceEq]
   rfl
 | n2 =>
  simp only [aa8,aao,aax,hov,decide_false,bnd,Bool.not_true,Bool.not_false,Bool.false_eq_true,if_true,if_false,Int.reduceEq,aij hi (show (1:Int)≤2∧(2:Int)≤9 by decide),aqp,akI,aa7,hi,and_self,af6,abB,abM,aai,hm]
  rw [aci]
  exact aG0.ite (fun _ =>rfl) fun _ =>rfl
 | n3 =>
  obtain ⟨x',h,ho⟩:=auo (e:=e)
  simp only [aa8,aao,aax,hov,decide_false,bnd,Bool.not_true,Bool.not_false,Bool.false_eq_true,if_true,if_false,Int.reduceEq,aij hi (show (1:Int)≤3∧(3:Int)≤9 by decide),aqp,aEK,adI,aby,h,aaT,abM,aai,hi,and_self]
  by_cases ci:IsT e (wi (e.gt 0))
  ·rw [if_pos ci] at ho ⊢
   have hv:0≤wi (e.gt 0)∧wi (e.gt 0)<((abN e).recs.length:Int):=⟨ci.1,by have:=ci.2; have:=hK.ct; show _<(e.recs.length:Int); omega⟩
   simp only [ho,Int.reduceEq,if_false,hv,and_self,if_true]
   rfl
  ·rw [if_neg ci] at ho ⊢
   simp only [ho,if_true,ace (e:=abN e) hl,bnd]
   rfl
 | n4 =>
  simp only [aa8,aao,aax,hov,decide_false,bnd,Bool.not_true,Bool.not_false,Bool.false_eq_true,if_true,if_false,Int.reduceEq,aij hi (show (1:Int)≤4∧(4:Int)≤9 by decide),aqp,akI,aa7,hi,and_self,afD,abv,aai]
  rfl
 | n5 =>
  simp only [aa8,aao,aax,hov,decide_false,bnd,Bool.not_true,Bool.not_false,Bool.false_eq_true,if_true,if_false,Int.reduceEq,aij hi (show (1:Int)≤5∧(5:Int)≤9 by decide),aqp,akI,aa7,hi,and_self,ajk,arD,abv,aai]
  rfl
 | n6 =>
  have h:=aqS (e:=e) (d:=(abZ subs i).deadline) (t:=id) .l1
  have hn:=alY (e:=e) (d:=(abZ subs i).deadline) (t:=id) .l1
  revert h hn
  simp only [aa8,aao,aax,hov,decide_false,bnd,Bool.not_true,Bool.not_false,Bool.false_eq_true,if_true,if_false,Int.reduceEq,aij hi (show (1:Int)≤6∧(6:Int)≤9 by decide),aqp,ayD,adI,aby,o0]
  rcases abS (abZ subs i).deadline id e .l1 with ⟨r | ⟨c,y⟩,e'⟩<;>intro h hn
  ·simp only [aaV,o0] at h
   simp only [h,bnd,Bool.not_false,if_true]
   rfl
  ·simp only [aaV,o0] at h
   obtain ⟨x',h,ho⟩:=h
   have hl':e'.evs.length≤999999999:=by have h1:e'.evs.length≤e.evs.length+0:=hn.ev; have:=hK.ev; omega
   simp only [h,ho,aaT,aai,hi,and_self,ace hl',bnd,Bool.not_true,Bool.not_false,Bool.false_eq_true,if_true,if_false,Int.reduceEq,ne_eq]
   by_cases hc:c=0
   ·simp only [hc,not_true,if_true,if_false]; rfl
   ·simp only [hc,not_false_eq_true,if_true,if_false]; rfl
 | a6 t =>
  have h:=aqS (e:=e) (d:=(abZ subs i).deadline) (t:=id) t
  have hn:=alY (e:=e) (d:=(abZ subs i).deadline) (t:=id) t
  revert h hn
  simp only [aa8,aao,aax,hov,decide_false,bnd,Bool.not_true,Bool.not_false,Bool.false_eq_true,if_true,if_false,Int.reduceEq,ayD,adI,aby]
  rcases abS (abZ subs i).deadline id e t with ⟨r | ⟨c,y⟩,e'⟩<;>intro h hn
  ·simp only [aaV] at h
   simp only [h,bnd,Bool.not_false,if_true]
   rfl
  ·simp only [aaV] at h
   obtain ⟨x',h,ho⟩:=h
   have hl':e'.evs.length≤999999999:=by have h1:e'.evs.length≤e.evs.length+0:=hn.ev; have:=hK.ev; omega
   simp only [h,ho,aaT,aai,hi,and_self,ace hl',bnd,Bool.not_true,Bool.not_false,Bool.false_eq_true,if_true,if_false,Int.reduceEq,ne_eq]
   by_cases hc:c=0
   ·simp only [hc,not_true,if_true,if_false]; rfl
   ·simp only [hc,not_false_eq_true,if_true,if_false]; rfl
 | n7 =>
  simp only [aa8,aao,aax,hov,decide_false,bnd,Bool.not_true,Bool.not_false,Bool.false_eq_true,if_true,if_false,Int.reduceEq,aij hi (show (1:Int)≤7∧(7:Int)≤9 by decide),aqp,akI,aa7,hi,and_self,aeT,abv,aai]
  rfl
 | n8 =>
  obtain ⟨x',h,ho⟩:=aw7 (e:=e)
  simp only [aa8,aao,aax,hov,decide_false,bnd,Bool.not_true,Bool.not_false,Bool.false_eq_true,if_true,if_false,Int.reduceEq,aij hi (show (1:Int)≤8∧(8:Int)≤9 by decide),aqp,aEJ,adI,aby,h,aaT,acP,aax,aai,hi,and_self]
  cases acc<;>rfl
 | n9 =>
  have h:=ak6 (e:=e) (w:=me) (v:=(abZ subs i).level) hl (.l1 0)
  revert h
  simp only [aa8,aao,aax,hov,decide_false,bnd,Bool.not_true,Bool.not_false,Bool.false_eq_true,if_true,if_false,Int.reduceEq,aij hi (show (1:Int)≤9∧(9:Int)≤9 by decide),aqp,ayA,adI,aby,o0]
  rcases adN me (abZ subs i).level e (.l1 0) with ⟨r | ⟨c,y⟩,e'⟩<;>intro h
  ·simp only [aaV,o0] at h
   simp only [h,bnd,Bool.not_false,if_true]
   rfl
  ·simp only [aaV,o0] at h
   obtain ⟨x',h,ho⟩:=h
   simp only [h,ho,aaT,acP,aax,aai,hi,and_self,bnd,Bool.not_true,Bool.not_false,Bool.false_eq_true,if_true,if_false,Int.reduceEq]
   rfl
 | a9 t =>
  have h:=ak6 (e:=e) (w:=me) (v:=(abZ subs i).level) hl t
  revert h
  simp only [aa8,aao,aax,hov,decide_false,bnd,Bool.not_true,Bool.not_false,Bool.false_eq_true,if_true,if_false,Int.reduceEq,ayA,adI,aby]
  rcases adN me (abZ subs i).level e t with ⟨r | ⟨c,y⟩,e'⟩<;>intro h
  ·simp only [aaV] at h
   simp only [h,bnd,Bool.not_false,if_true]
   rfl
  ·simp only [aaV] at h
   obtain ⟨x',h,ho⟩:=h
   simp only [h,ho,aaT,acP,aax,aai,hi,and_self,bnd,Bool.not_true,Bool.not_false,Bool.false_eq_true,if_true,if_false,Int.reduceEq]
   rfl
theorem anq (hK:EOk K e) (k:WorkS) (hc:k.c≠.top):Stp 2 e (abe w e k).2:=by
 obtain ⟨cur,vi,lv,x,c⟩:=k
 cases c with
 | top =>exact absurd rfl hc
 | t1 t s =>
  have h:=aBw (e:=e) (w:=w) (t:=t) s
  revert h
  simp only [abe,abH]
  rcases aba w t e s with ⟨r | ⟨c,y⟩,e'⟩<;>intro h
  ·exact h.le (by decide)
  ·exact h.le (by decide)
 | t2 s =>
  have h:=aEr (w:=w) (fun t =>hK.st) s
  revert h
  simp only [abe,abH]
  rcases ai5 w e s with ⟨r | ⟨c,y⟩,e'⟩<;>intro h
  ·exact h.le (by decide)
  ·exact h.le (by decide)
 | t3 s =>
  have h:=aCY (e:=e) (w:=w) s
  revert h
  simp only [abe,abH]
  rcases aa3 w e s with ⟨r | ⟨c,y⟩,e'⟩<;>intro h
  ·exact h.le (by decide)
  ·exact h.le (by decide)
 | t4 s =>
  have h:=aww (e:=e) (w:=w) s
  revert h
  simp only [abe,abH]
  rcases aiL w e s with ⟨r | ⟨c,y⟩,e'⟩<;>intro h
  ·exact h.le (by decide)
  ·exact h.le (by decide)
 | t5 s =>
  have h:=awd (e:=e) (q:=aat e.l vi lv) s
  revert h
  simp only [abe,abH]
  rcases agD (aat e.l vi lv) e s with ⟨r | ⟨c,y⟩,e'⟩<;>intro h
  ·exact h.le (by decide)
  ·simp only
   split
   ·exact Stp.le (Stp.em h) (by decide)
   ·split<;>exact Stp.le h (by decide)
 | t6 =>exact (ame (w:=w) (t:=x) hK.st).le (by decide)
 | t7 s =>
  have h:=aHn (w:=w) hK s
  revert h
  simp only [abe,abH]
  rcases auB w e s with ⟨r | ⟨c,y⟩,e'⟩<;>intro h
  ·exact h.le (by decide)
  ·exact h.le (by decide)
 | t8 s =>
  have h:=aBJ (e:=e) (w:=w) s
  revert h
  simp only [abe,abH]
  rcases ac5 w e s with ⟨r | ⟨c,y⟩,e'⟩<;>intro h
  ·exact h.le (by decide)
  ·exact h.le (by decide)
 | t9 s =>
  have h:=awo (e:=e) (a:=aaF e.l vi) (b:=lv) (q:=aat e.l vi lv) s
  revert h
  simp only [abe,abH]
  rcases aeB (aaF e.l vi) lv (aat e.l vi lv) e s with ⟨r | ⟨c,y⟩,e'⟩<;>intro h
  ·exact h.le (by decide)
  ·exact h.le (by decide)
theorem asZ {cur vi lv x:Int}:abe w e ⟨cur,vi,lv,x,abH w e ⟨cur,vi,lv,x,.top⟩⟩=abe w e ⟨cur,vi,lv,x,.top⟩:=by
 unfold abH
 simp only
 by_cases ha:e.c.age=0
 ·simp only [abe,abH,ha,if_true]
 ·simp only [abe,abH,ha,if_false]
theorem ayk (hK:EOk K e) (k:WorkS):Stp 2 e (abe w e k).2:=by
 obtain ⟨cur,vi,lv,x,c⟩:=k
 cases c with
 | top =>
  rw [← asZ]
  exact anq hK _ (show abH w e ⟨cur,vi,lv,x,.top⟩≠.top from aoI)
 | _ =>exact anq hK _ (fun h =>by cases h)
theorem anp (hK:EOk K e) (k:WorkS) (hc:k.c≠.top) (hW:ahg K (abt e) k) (hK1:1≤K):ahg (K+1) (abt e) (abe w e k).1:=by
 obtain ⟨cur,vi,lv,x,c⟩:=k
 have hr0:∀ t,aJg (K+1) (aE2 t):=fun t =>⟨by simp [aE2],by simp [aE2]⟩
 cases c with
 | top =>exact absurd rfl hc
 | t1 t s =>
  simp only [abe,abH]
  split<;>trivial
 | t2 s =>
  simp only [abe,abH]
  split
  ·trivial
  ·simp only
   split
   ·exact hr0 _
   ·exact (rfl:aAk.direct=false)
 | t3 s =>
  simp only [abe,abH]
  split
  ·rename_i h; exact aCX hW h
  ·simp only
   split
   ·trivial
   ·split
    ·trivial
    ·unfold ahg an8
     simp only
     split<;>first | trivial | (rename_i h; split at h<;>cases h; trivial) | (rename_i h; split at h<;>cases h)
 | t4 s =>
  simp only [abe,abH]
  split
  ·rename_i h; exact aB5 hK.wk hW h
  ·simp only
   split<;>trivial
 | t5 s =>
  simp only [abe,abH]
  split
  ·trivial
  ·split
   ·trivial
   ·split<;>trivial
 | t6 =>
  simp only [abe,abH]
  split
  ·exact hr0 _
  ·trivial
 | t7 s =>
  simp only [abe,abH]
  split
  ·rename_i h
   have h1:=aHm hW.1 h
   exact ⟨h1.1,by have:=hW.2; omega⟩
  ·trivial
 | t8 s =>
  simp only [abe,abH]
  split<;>trivial
 | t9 s =>
  simp only [abe,abH]
  split<;>trivial
theorem ayj (hK:EOk K e) (k:WorkS) (hW:ahg K (abt e) k) (hK1:1≤K):ahg (K+1) (abt e) (abe w e k).1:=by
 obtain ⟨cur,vi,lv,x,c⟩:=k
 cases c with
 | top =>
  rw [← asZ]
  refine anp hK _ (show abH w e ⟨cur,vi,lv,x,.top⟩≠.top from aoI) ?_ hK1
  unfold abH
  simp only
  split<;>trivial
 | _ =>exact anp hK _ (fun h =>by cases h) hW hK1
theorem aAu (hK:EOk K e) (k:ClieS):Stp 2 e (aiB subs me e k).2.2:=by
 obtain ⟨i,id,acc,c⟩:=k
 unfold aiB
 split
 ·exact Stp.refl.le (by decide)
 cases c with
 | n1 =>exact Stp.le avr (by decide)
 | a1 =>exact Stp.le avr (by decide)
 | n2 =>
  simp only [aa8]
  split
  ·exact Stp.le (Stp.em Stp.lk) (by decide)
  ·exact Stp.le Stp.lk (by decide)
 | n3 =>
  simp only [aa8]
  split
  ·exact Stp.le (Stp.pr aoC fun K h =>Nat.zero_le _) (by decide)
  ·exact Stp.le (Stp.em aoC) (by decide)
 | n4 =>exact Stp.le (Stp.pt (by decide)) (Nat.zero_le _)
 | n5 =>exact Stp.le (Stp.pt (by decide)) (Nat.zero_le _)
 | n6 =>
  have h:=alY (e:=e) (d:=(abZ subs i).deadline) (t:=id) .l1
  revert h
  simp only [aa8]
  rcases abS (abZ subs i).deadline id e .l1 with ⟨r | ⟨c,y⟩,e'⟩<;>intro h
  ·exact Stp.le h (by decide)
  ·simp only
   split
   ·exact Stp.le (Stp.em h) (by decide)
   ·exact Stp.le h (by decide)
 | a6 t =>
  have h:=alY (e:=e) (d:=(abZ subs i).deadline) (t:=id) t
  revert h
  simp only [aa8]
  rcases abS (abZ subs i).deadline id e t with ⟨r | ⟨c,y⟩,e'⟩<;>intro h
  ·exact Stp.le h (by decide)
  ·simp only
   split
   ·exact Stp.le (Stp.em h) (by decide)
   ·exact Stp.le h (by decide)
 | n7 =>exact Stp.le (Stp.pt (by decide)) (Nat.zero_le _)
 | n8 =>
  simp only [aa8]
  split
  ·exact Stp.le avy (by decide)
  ·exact Stp.le (show Stp 0 e (aAw subs _ (ar7 e)).2.2 from avy) (by decide)
 | n9 =>
  have h:=aoJ (e:=e) (w:=me) (v:=(abZ subs i).level) (.l1 0)
  revert h
  simp only [aa8]
  rcases adN me (abZ subs i).level e (.l1 0) with ⟨r | ⟨c,y⟩,e'⟩<;>intro h<;>exact Stp.le h (by decide)
 | a9 t =>
  have h:=aoJ (e:=e) (w:=me) (v:=(abZ subs i).level) t
  revert h
  simp only [aa8]
  rcases adN me (abZ subs i).level e t with ⟨r | ⟨c,y⟩,e'⟩<;>intro h<;>exact Stp.le h (by decide)
end
end
section
open Go Go.RowKit
set_option maxRecDepth 100000
variable [Tb]
structure Dl where
 ad:Option (Int×Int)
 v:Int
 rd:List Int
 rs:List (Int×RecP)
 es:List Ev
def ark (l:List RecP) (rs:List (Int×RecP)):List RecP:=rs.foldl (fun l p =>l.set p.1.toNat p.2) l
def aJc (l es:List Ev):List Ev:=es.foldl (fun l x =>l++[x]) l
def Dl.mem (D:Dl) (m:MemV):MemV:=match D.ad with
 | none =>m
 | some (k,a) =>m.pt k a D.v
def ap (D:Dl) (e:EnvP):EnvP:={ e with m:=D.mem e.m,recs:=ark e.recs D.rs,evs:=aJc e.evs D.es }
def aDw (es:List Ev) (e:EnvP):EnvP:={ e with evs:=aJc e.evs es }
structure Bs (e f:EnvP):Prop where
 c:f.c=e.c
 l:f.l=e.l
 k:f.k=e.k
 n:f.m.cells.length=e.m.cells.length
 r:f.recs.length=e.recs.length
structure Ag (D:Dl) (e f:EnvP):Prop where
 b:Bs e f
 g:∀ k a,D.ad=some (k,a)→f.m.gt a=e.m.gt a
 q:∀ t∈D.rd,f.rc t=e.rc t
def Loc {X:Type} (P:Dl→Prop) (S:EnvP→X×EnvP) (e:EnvP):Prop:=∃ s D,S e=(s,ap D e)∧P D∧∀ f,Ag D e f→S f=(s,ap D f)
def aDB (e:EnvP) (D:Dl):Prop:=∀ k a,D.ad=some (k,a)→(k=1∧D.v=e.m.gt a)∨2≤k
structure Lf (e:EnvP) (w:Int) (D:Dl):Prop where
 rd:D.rd=[]
 rs:D.rs=[]
 es:∀ x∈D.es,x.worker=w
 k:aDB e D
section
variable {e f:EnvP} {X Y σ:Type} {S:EnvP→X×EnvP} {T:EnvP→Y×EnvP} {P:Dl→Prop} {w k a v:Int} {s:X}
theorem Bs.refl:Bs e e:=⟨rfl,rfl,rfl,rfl,rfl⟩
theorem Bs.hit (b:Bs e f) {o:Int} (g:f.m.gt a=e.m.gt a):f.m.hit a o=e.m.hit a o:=by
 unfold MemV.hit MemV.gt at *
 rw [b.n] at *
 by_cases h:0≤a∧a<(e.m.cells.length:Int)
 ·rw [if_pos h,if_pos h] at g; rw [g]
 ·rw [decide_eq_false (fun k =>h k.1),decide_eq_false (fun k =>h k.1)]
theorem aDv {l a b:List Ev}:aJc l (a++b)=aJc (aJc l a) b:=List.foldl_append
theorem aIp {es:List Ev} (g:f.m.gt a=e.m.gt a):aDw es (f.lk a)=ap ⟨some (1,a),e.m.gt a,[],[],es⟩ f:=by
 unfold EnvP.lk; rw [show f.m.gt a=e.m.gt a from g]; rfl
theorem axt {es:List Ev} {o:Int} (g:f.m.gt a=e.m.gt a):aDw es (f.cas a o v)=ap ⟨some (3,a),if e.m.gt a=o then v else e.m.gt a,[],[],es⟩ f:=by
 unfold EnvP.cas MemV.cas; rw [g]; rfl
theorem Loc.ldE {es:List Ev} (hx:∀ x∈es,x.worker=w) (h:∀ f,Bs e f→f.m.gt a=e.m.gt a→S f=(s,aDw es (f.lk a))):Loc (Lf e w) S e :=
 ⟨s,_,(h e .refl rfl).trans (by rw [aIp rfl]),⟨rfl,rfl,hx,fun _ _ q =>.inl (by cases q; exact ⟨rfl,rfl⟩)⟩,fun f b =>(h f b.b (b.g _ _ rfl)).trans (by rw [aIp (b.g _ _ rfl)])⟩
theorem Loc.ptE {es:List Ev} (hk:2≤k) (hx:∀ x∈es,x.worker=w) (h:∀ f,Bs e f→f.m.gt a=e.m.gt a→S f=(s,aDw es (f.pt k a v))):Loc (Lf e w) S e :=
 ⟨s,⟨some (k,a),v,[],[],es⟩,h e .refl rfl,⟨rfl,rfl,hx,fun _ _ q =>.inr (by cases q; exact hk)⟩,fun f b =>h f b.b (b.g _ _ rfl)⟩
theorem Loc.csE {o:Int} {es:List Ev} (hx:∀ x∈es,x.worker=w) (h:∀ f,Bs e f→f.m.gt a=e.m.gt a→S f=(s,aDw es (f.cas a o v))):Loc (Lf e w) S e :=
 ⟨s,_,(h e .refl rfl).trans (by rw [axt rfl]),⟨rfl,rfl,hx,fun _ _ q =>.inr (by cases q; decide)⟩,fun f b =>(h f b.b (b.g _ _ rfl)).trans (by rw [axt (b.g _ _ rfl)])⟩
theorem aiW:∀ x∈([]:List Ev),x.worker=w:=fun _ h =>by cases h
theorem ag6 {x:Ev} (h:x.worker=w):∀ y∈[x],y.worker=w:=fun y hy =>by rw [List.mem_singleton.1 hy]; exact h
theorem Loc.ld (_:S e=(s,e.lk a)) (h:∀ f,Bs e f→f.m.gt a=e.m.gt a→S f=(s,f.lk a)):Loc (Lf e w) S e:=.ldE aiW fun f b g =>(h f b g).trans rfl
theorem Loc.pt (_:S e=(s,e.pt k a v)) (h:∀ f,Bs e f→f.m.gt a=e.m.gt a→S f=(s,f.pt k a v)) (hk:2≤k:=by decide):Loc (Lf e w) S e:=.ptE hk aiW fun f b g =>(h f b g).trans rfl
theorem Loc.cs {o:Int} (_:S e=(s,e.cas a o v)) (h:∀ f,Bs e f→f.m.gt a=e.m.gt a→S f=(s,f.cas a o v)):Loc (Lf e w) S e:=.csE aiW fun f b g =>(h f b g).trans rfl
theorem Loc.ld1 {k' w' t' o' l':Int} (_:S e=(s,(e.lk a).em k' w' t' o' l')) (hw:w'=w) (h:∀ f,Bs e f→f.m.gt a=e.m.gt a→S f=(s,(f.lk a).em k' w' t' o' l')):Loc (Lf e w) S e:=.ldE (es:=[⟨k',w',t',o',l'⟩]) (ag6 hw) fun f b g =>(h f b g).trans rfl
theorem Loc.pt1 {k' w' t' o' l':Int} (_:S e=(s,(e.pt k a v).em k' w' t' o' l')) (hw:w'=w) (h:∀ f,Bs e f→f.m.gt a=e.m.gt a→S f=(s,(f.pt k a v).em k' w' t' o' l')) (hk:2≤k:=by decide):Loc (Lf e w) S e:=.ptE hk (es:=[⟨k',w',t',o',l'⟩]) (ag6 hw) fun f b g =>(h f b g).trans rfl
theorem Loc.cs1 {o k' w' t' o' l':Int} (_:S e=(s,(e.cas a o v).em k' w' t' o' l')) (hw:w'=w) (h:∀ f,Bs e f→f.m.gt a=e.m.gt a→S f=(s,(f.cas a o v).em k' w' t' o' l')):Loc (Lf e w) S e:=.csE (es:=[⟨k',w',t',o',l'⟩]) (ag6 hw) fun f b g =>(h f b g).trans rfl
theorem Loc.a0 (_:S e=(s,e)) (h:∀ f,Bs e f→S f=(s,f)):Loc (Lf e w) S e :=
 ⟨s,⟨none,0,[],[],[]⟩,h e .refl,⟨rfl,rfl,aiW,fun _ _ q =>by cases q⟩,fun f b =>h f b.b⟩
theorem Loc.map {S:EnvP→X×EnvP} (h:Loc (Lf e w) S e) (y:X→Y) (x:X→List Ev) (hx:∀ s,∀ z∈x s,z.worker=w) (hT:∀ f,Bs e f→T f=(y (S f).1,aDw (x (S f).1) (S f).2)):Loc (Lf e w) T e:=by
 obtain ⟨s,D,h1,h2,h3⟩:=h
 have g:∀ f,Bs e f→S f=(s,ap D f)→T f=(y s,ap { D with es:=D.es++x s } f):=fun f b hf =>by
  rw [hT f b,hf]
  show (y s,aDw (x s) (ap D f))=_
  unfold aDw ap
  simp only [aDv]
  rfl
 refine ⟨y s,{ D with es:=D.es++x s },g e .refl h1,⟨h2.rd,h2.rs,fun z hz =>?_,h2.k⟩,fun f hf =>g f hf.b (h3 f ⟨hf.b,hf.g,hf.q⟩)⟩
 rcases List.mem_append.1 hz with k | k
 ·exact h2.es z k
 ·exact hx s z k
theorem atG {q:QV} (s:OPushS):Loc (Lf e w) (fun e =>aei q v e s) e:=by
 cases s with
 | l1 =>exact .ld rfl fun f b g =>by simp only [aei,EnvP.gt,g]
 | l2 b =>exact .ld rfl fun f b g =>by simp only [aei,EnvP.gt,g]
 | l3 b =>exact .pt rfl fun f b g =>rfl
 | l4 b =>exact .pt rfl fun f b g =>rfl
theorem aCk {q:QV} (s:OPopS):Loc (Lf e w) (fun e =>akM q e s) e:=by
 cases s with
 | l3 b t =>exact .pt rfl fun f b g =>rfl
 | l6 b t =>exact .cs rfl fun f b g =>by simp only [akM,EnvP.hit,b.hit g]
 | l7 b t =>exact .pt rfl fun f b g =>rfl
 | l9 b t =>exact .pt rfl fun f b g =>rfl
 | _ =>exact .ld rfl fun f b g =>by simp only [akM,EnvP.gt,g]
theorem ayy {q:QV} (s:StealS):Loc (Lf e w) (fun e =>agD q e s) e:=by
 cases s with
 | l4 t x =>exact .cs rfl fun f b g =>by simp only [agD,EnvP.hit,b.hit g]
 | _ =>exact .ld rfl fun f b g =>by simp only [agD,EnvP.gt,g]
theorem atk {q:QV} {x y:Int} (s:ResetS):Loc (Lf e w) (fun e =>aeB x y q e s) e:=by
 cases s with
 | l1 =>exact .pt rfl fun f b g =>by simp only [aeB,EnvP.gt,g]
 | l4 =>exact .pt rfl fun f b g =>by simp only [aeB,EnvP.gt,g]
 | _ =>exact .ld rfl fun f b g =>by simp only [aeB,EnvP.gt,g]
theorem alX (b:Bs e f) {t:Int}:IsT f t↔IsT e t:=by unfold IsT; rw [b.c]
theorem axb (b:Bs e f) {t:Int}:asR f t v↔asR e t v:=by unfold asR; rw [b.c]
theorem au1 {t x:Int} (s:PublishS):Loc (Lf e w) (fun e =>aeS t x e s) e:=by
 by_cases h:IsT e t
 ·have h2:∀ f,Bs e f→¬ ¬ IsT f t:=fun f b k =>k ((alX b).2 h)
  cases s with
  | l1 =>exact .pt (if_neg (h2 e .refl)) fun f b g =>(if_neg (h2 f b)).trans (by simp only [b.l])
  | l2 =>exact .pt (if_neg (h2 e .refl)) fun f b g =>(if_neg (h2 f b)).trans (by simp only [b.l,b.k])
  | l3 =>exact .pt (if_neg (h2 e .refl)) fun f b g =>(if_neg (h2 f b)).trans (by simp only [b.l])
 ·exact .a0 (if_pos h) fun f b =>if_pos (fun k =>h ((alX b).1 k))
theorem aqT {d t:Int} (s:InsertS):Loc (Lf e w) (fun e =>abS d t e s) e:=by
 cases s with
 | l1 =>exact .ld rfl fun f b g =>by simp only [abS,EnvP.gt,g,b.c]
 | l2 n =>exact .pt rfl fun f b g =>by simp only [abS,EnvP.gt,g]
 | l3 n i k x =>exact .ld rfl fun f b g =>by simp only [abS,EnvP.gt,b.l,g]
 | l4 n i k x =>exact .pt rfl fun f b g =>by simp only [abS,b.l]
 | l5 n i k x =>exact .pt rfl fun f b g =>by simp only [abS,b.l]
 | l6 n i k x =>exact .pt rfl fun f b g =>rfl
theorem axP (s:RemoveS):Loc (Lf e w) (fun e =>acl w e s) e:=by
 cases s with
 | l1 =>exact .ld rfl fun f b g =>by simp only [acl,EnvP.gt,g]
 | l4 n x y =>exact .pt1 rfl rfl fun f b g =>rfl
 | l7 n i c x y z =>exact .pt rfl fun f b g =>by simp only [acl,b.l]
 | l8 n i c x y z =>exact .pt rfl fun f b g =>by simp only [acl,b.l]
 | _ =>exact .ld rfl fun f b g =>by simp only [acl,EnvP.gt,b.l,g]
theorem arh (b:Bs e f):af3 w f=af3 w e:=by unfold af3; rw [b.c,b.l]
theorem ayn (b:Bs e f) {j:Int}:ake v j f=ake v j e:=by unfold ake; rw [b.c,b.l]
theorem ayG (s:SleepS):Loc (Lf e w) (fun e =>ac5 w e s) e:=by
 cases s with
 | l1 =>exact .ld rfl fun f b g =>by simp only [ac5,EnvP.gt,b.l,g]
 | l2 ep =>exact .pt rfl fun f b g =>by simp only [ac5,EnvP.gt,arh b,g]
 | l3 ep =>exact .ld rfl fun f b g =>by simp only [ac5,EnvP.gt,g]
 | l4 ep x =>
  by_cases h1:e.gt (aaF e.l x)≠0
  ·exact .ld (if_pos h1) fun f b g =>by simp only [ac5,EnvP.gt,b.l,g]; exact if_pos h1
  by_cases h2:e.c.workers≤wi (x+1)
  ·exact .ld1 ((if_neg h1).trans (if_pos h2)) rfl fun f b g =>by simp only [ac5,EnvP.gt,b.l,b.c,b.k,g]; exact (if_neg h1).trans (if_pos h2)
  ·exact .ld ((if_neg h1).trans (if_neg h2)) fun f b g =>by simp only [ac5,EnvP.gt,b.l,b.c,g]; exact (if_neg h1).trans (if_neg h2)
 | l5 ep x y =>
  by_cases h1:e.gt (afL e.l w)≠ep
  ·exact .ld1 (if_pos h1) rfl fun f b g =>by simp only [ac5,EnvP.gt,b.l,g]; exact if_pos h1
  by_cases h2:e.c.patience≤wi (e.k.now-y)
  ·exact .ld1 ((if_neg h1).trans (if_pos h2)) rfl fun f b g =>by simp only [ac5,EnvP.gt,b.l,b.c,b.k,g]; exact (if_neg h1).trans (if_pos h2)
  ·exact .ld ((if_neg h1).trans (if_neg h2)) fun f b g =>by simp only [ac5,EnvP.gt,b.l,b.c,b.k,g]; exact (if_neg h1).trans (if_neg h2)
 | l6 ep x y =>exact .pt rfl fun f b g =>by simp only [ac5,EnvP.gt,arh b,g]
 | l7 ep x y =>exact .pt rfl fun f b g =>by simp only [ac5,EnvP.gt,arh b,g]
theorem ak7 (s:WakeS):Loc (Lf e w) (fun e =>adN w v e s) e:=by
 cases s with
 | l1 j =>exact .ld rfl fun f b g =>by simp only [adN,EnvP.gt,ayn b,b.c,g]
 | l2 j x =>exact .pt rfl fun f b g =>by simp only [adN,EnvP.gt,ayn b,g]
 | l3 j x =>exact .pt1 rfl rfl fun f b g =>by simp only [adN,EnvP.gt,b.l,g]
theorem atr {t:Int} (s:RaiseS):Loc (Lf e w) (fun e =>aea w t v e s) e:=by
 by_cases h:asR e t v
 ·have h2:∀ f,Bs e f→¬ ¬ asR f t v:=fun f b k =>k ((axb b).2 h)
  cases s with
  | l1 q =>exact .ld (if_neg (h2 e .refl)) fun f b g =>(if_neg (h2 f b)).trans (by simp only [EnvP.gt,b.l,g])
  | l2 q =>
   by_cases hh:e.hit (abx e.l t) q=true
   ·exact .cs1 ((if_neg (h2 e .refl)).trans (if_pos hh)) rfl fun f b g =>(if_neg (h2 f b)).trans (by simp only [EnvP.hit,b.l,b.hit g]; exact if_pos hh)
   ·exact .cs ((if_neg (h2 e .refl)).trans (if_neg hh)) fun f b g =>(if_neg (h2 f b)).trans (by simp only [EnvP.hit,b.l,b.hit g]; exact if_neg hh)
 ·exact .a0 (if_pos h) fun f b =>if_pos (fun k =>h ((axb b).1 k))
end
section
variable {e f:EnvP} {X Y σ:Type} {T:EnvP→Y×EnvP} {w k a v:Int}
theorem Loc.m0 {S:EnvP→X×EnvP} (h:Loc (Lf e w) S e) (y:X→Y) (hT:∀ f,Bs e f→T f=(y (S f).1,(S f).2)):Loc (Lf e w) T e:=.map h y (fun _ =>[]) (fun _ =>aiW) fun f b =>(hT f b).trans rfl
theorem Loc.gfE {S:EnvP→Rs σ×EnvP} {A:σ→Y} {B:Int→Int→Y} {E:Int→Int→List Ev} (h:Loc (Lf e w) S e) (hE:∀ c x,∀ z∈E c x,z.worker=w) (h1:∀ f,Bs e f→∀ s e',S f=(.go s,e')→T f=(A s,e')) (h2:∀ f,Bs e f→∀ c x e',S f=(.fin c x,e')→T f=(B c x,aDw (E c x) e')):Loc (Lf e w) T e :=
 .map h (fun r =>match r with
  | .go s =>A s
  | .fin c x =>B c x) (fun r =>match r with
  | .go _ =>[]
  | .fin c x =>E c x) (fun s =>by
   cases s with
   | go _ =>exact aiW
   | fin c x =>exact hE c x) fun f b =>by
  generalize hS:S f=p
  obtain ⟨r,e'⟩:=p
  cases r with
  | go s =>exact h1 f b s e' hS
  | fin c x =>exact h2 f b c x e' hS
theorem Loc.gf {S:EnvP→Rs σ×EnvP} {A:σ→Y} {B:Int→Int→Y} (h:Loc (Lf e w) S e) (h1:∀ f,Bs e f→∀ s e',S f=(.go s,e')→T f=(A s,e')) (h2:∀ f,Bs e f→∀ c x e',S f=(.fin c x,e')→T f=(B c x,e')):Loc (Lf e w) T e :=
 .gfE (E:=fun _ _ =>[]) h (fun _ _ =>aiW) h1 h2
theorem awW (b:Bs e f):abt f=abt e:=by unfold abt; rw [b.c]
theorem aqH {s i:Int} {bm:B16}:Loc (Lf e w) (fun e =>af5 w e s i bm) e:=by
 by_cases h1:abt e≤akj w (abt e) s i
 ·exact .a0 (if_pos h1) fun f b =>by unfold af5; rw [awW b]; exact if_pos h1
 by_cases h2:abt e≤akj w (abt e) s (wi (akj w (abt e) s i+1))
 ·exact .ld ((if_neg h1).trans (if_pos h2)) fun f b g =>by unfold af5; simp only [awW b,b.l,EnvP.gt,g]; exact (if_neg h1).trans (if_pos h2)
 ·exact .ld ((if_neg h1).trans (if_neg h2)) fun f b g =>by unfold af5; simp only [awW b,b.l,EnvP.gt,g]; exact (if_neg h1).trans (if_neg h2)
theorem ay5 (s:ProbeS):Loc (Lf e w) (fun e =>aiL w e s) e:=by
 cases s with
 | new =>exact .m0 (aqH (s:=at8 e.k (abt e)) (i:=0) (bm:=aI6)) id fun f b =>by simp only [aiL,awW b,b.k]; rfl
 | run s i bm =>exact aqH
theorem aBM {x y:Int}:Loc (Lf e w) (fun e =>((.fin 0 0:Rs σ),aBN x y e)) e:=.pt rfl fun f b g =>by unfold aBN; simp only [EnvP.gt,g]
theorem ajr {x:Int} (s:LPushS):Loc (Lf e w) (fun e =>abw w v x e s) e:=by
 cases s with
 | new =>exact .gf (A:=fun s =>.go (.push s)) (B:=fun c _ =>if c=3 then .fin 3 0 else .go .set) (atG (q:=aat e.l w v) (v:=x) .l1) (fun f b s e' h =>by simp only [abw,b.l,h]) fun f b c x e' h =>by simp only [abw,b.l,h]
 | push s =>exact .gf (A:=fun s =>.go (.push s)) (B:=fun c _ =>if c=3 then .fin 3 0 else .go .set) (atG (q:=aat e.l w v) (v:=x) s) (fun f b s e' h =>by simp only [abw,b.l,h]) fun f b c x e' h =>by simp only [abw,b.l,h]
 | set =>exact .m0 (aBM (σ:=LPushS) (x:=aaF e.l w) (y:=v)) id fun f b =>by simp only [abw,b.l]; rfl
theorem aCB (s:LPopS):Loc (Lf e w) (fun e =>afF w e s) e:=by
 cases s with
 | l1 x =>exact .ld rfl fun f b g =>by simp only [afF,EnvP.gt,b.l,g]
 | l2 v s =>exact .gf (A:=fun s =>.go (.l2 v s)) (B:=fun c x =>if c=1 then .fin 1 x else .go (.l3 v .l1)) (aCk (q:=aat e.l w v) s) (fun f b s e' h =>by simp only [afF,b.l,h]) fun f b c x e' h =>by simp only [afF,b.l,h]
 | l3 v s =>exact .gf (A:=fun s =>.go (.l3 v s)) (B:=fun _ _ =>.go (.l1 v)) (atk (x:=aaF e.l w) (y:=v) (q:=aat e.l w v) s) (fun f b s e' h =>by simp only [afF,b.l,h]) fun f b c x e' h =>by simp only [afF,b.l,h]
theorem cev {c k w' t o l:Int} (h:w'=w):∀ x∈(if c=3 then [⟨k,w',t,o,l⟩] else []:List Ev),x.worker=w:=by
 split
 ·exact ag6 h
 ·exact aiW
theorem aBo (s:WalkS):Loc (Lf e w) (fun e =>ad3 w v e s) e:=by
 cases s with
 | l1 t =>
  by_cases h:asR e t v
  ·have h2:∀ f,Bs e f→¬ ¬ asR f t v:=fun f b k =>k ((axb b).2 h)
   exact .gf (A:=fun s =>.go (.raise t s)) (B:=fun c _ =>.go (if c=1 then .l2 t else .l4 t)) (atr (t:=t) (v:=v) (.l1 0)) (fun f b s e' h =>by simp only [ad3]; rw [if_neg (h2 f b),h]) fun f b c x e' h =>by simp only [ad3]; rw [if_neg (h2 f b),h]
  ·exact .a0 (if_pos h) fun f b =>if_pos (fun k =>h ((axb b).1 k))
 | raise t s =>exact .gf (A:=fun s =>.go (.raise t s)) (B:=fun c _ =>.go (if c=1 then .l2 t else .l4 t)) (atr (t:=t) (v:=v) s) (fun f b s e' h =>by simp only [ad3,h]) fun f b c x e' h =>by simp only [ad3,h]
 | l2 t =>exact .ld rfl fun f b g =>by simp only [ad3,EnvP.gt,b.l,g]
 | push t s =>
  refine .gfE (A:=fun s =>.go (.push t s)) (B:=fun _ _ =>.go (.l4 t)) (E:=fun c _ =>if c=3 then [⟨19,w,t,0,v⟩] else []) (ajr (v:=v) (x:=t) s) (fun c _ =>cev rfl) (fun f b s e' h =>by simp only [ad3,h]) fun f b c x e' h =>?_
  simp only [ad3,h]
  split<;>rfl
 | l4 t =>exact .ld rfl fun f b g =>by simp only [ad3,EnvP.gt,b.l,g]
theorem aAg {t:Int} (s:EnterS):Loc (Lf e w) (fun e =>adg w t e s) e:=by
 cases s with
 | l1 =>
  by_cases h:IsT e t
  ·exact .pt (if_neg (fun k =>k h)) fun f b g =>(if_neg (fun k =>k ((alX b).2 h))).trans (by simp only [b.l,b.k])
  ·exact .a0 (if_pos h) fun f b =>if_pos (fun k =>h ((alX b).1 k))
 | l2 =>exact .pt rfl fun f b g =>by simp only [adg,b.l]
 | l3 =>exact .ld rfl fun f b g =>by simp only [adg,EnvP.gt,b.l,g]
 | l4 v s =>exact .gf (A:=fun s =>.go (.l4 v s)) (B:=fun c _ =>.fin c v) (ajr (v:=v) (x:=t) s) (fun f b s e' h =>by simp only [adg,h]) fun f b c x e' h =>by simp only [adg,h]
theorem ayu {t:Int} (s:SweepS):Loc (Lf e w) (fun e =>aba w t e s) e:=by
 cases s with
 | l1 =>
  by_cases h:¬ IsT e t∨e.c.age=0
  ·exact .a0 (if_pos h) fun f b =>if_pos (by rw [b.c]; exact h.imp (fun k q =>k ((alX b).1 q)) id)
  ·exact .ld (if_neg h) fun f b g =>(if_neg (fun k =>h (by rw [b.c] at k; exact k.imp (fun k q =>k ((alX b).2 q)) id))).trans (by simp only [EnvP.gt,b.l,g])
 | l2 =>exact .ld rfl fun f b g =>by simp only [aba,EnvP.gt,b.l,b.c,b.k,g]
 | l3 =>exact .ld rfl fun f b g =>by simp only [aba,EnvP.gt,b.l,b.c,g]
 | l4 q =>
  by_cases hh:e.hit (abx e.l t) q=true
  ·exact .cs1 (if_pos hh) rfl fun f b g =>by simp only [aba,EnvP.hit,b.l,b.hit g]; exact if_pos hh
  ·exact .cs (if_neg hh) fun f b g =>by simp only [aba,EnvP.hit,b.l,b.hit g]; exact if_neg hh
 | l5 q =>exact .pt rfl fun f b g =>by simp only [aba,b.l,b.k]
 | l6 q s =>
  refine .gfE (A:=fun s =>.go (.l6 q s)) (B:=fun _ _ =>.fin 1 0) (E:=fun c _ =>if c=3 then [⟨19,w,t,0,wi (wi q+1)⟩] else []) (ajr (v:=wi (wi q+1)) (x:=t) s) (fun c _ =>cev rfl) (fun f b s e' h =>by simp only [aba,h]) fun f b c x e' h =>?_
  simp only [aba,h]
  split<;>rfl
theorem apW (d:DrainS):Loc (Lf e w) (fun e =>aa3 w e d) e:=by
 obtain ⟨x,dir,p,last,cnt,k⟩:=d
 cases k with
 | l1 =>exact .ld rfl fun f b g =>by simp only [aa3,EnvP.gt,g]
 | l2 =>exact .cs rfl fun f b g =>by simp only [aa3,aqq,EnvP.hit,b.hit g]
 | l3 s =>exact .gf (A:=fun s =>.go { x:=x,direct:=dir,p:=p,last:=last,count:=cnt,c:=.l3 s }) (B:=fun c y =>if c=2 then .go { x:=x,direct:=dir,p:=p,last:=last,count:=cnt,c:=.l6 } else .go { x:=y,direct:=dir,p:=p,last:=last,count:=cnt,c:=.l4 }) (axP s) (fun f b s e' h =>by simp only [aa3,h]) fun f b c x e' h =>by simp only [aa3,h]
 | l4 =>exact .ld rfl fun f b g =>by simp only [aa3,EnvP.gt,b.l,g]
 | l5 s =>exact .gf (A:=fun s =>.go { x:=x,direct:=dir,p:=p,last:=last,count:=cnt,c:=.l5 s }) (B:=fun c _ =>if c=3 then .go { x:=x,direct:=true,p:=p,last:=last,count:=cnt,c:=.l6 } else if wi (cnt+1)<e.c.batch then .go { x:=x,direct:=dir,p:=p,last:=p,count:=wi (cnt+1),c:=.l3 .l1 } else .go { x:=x,direct:=dir,p:=p,last:=p,count:=wi (cnt+1),c:=.l6 }) (ajr (v:=p) (x:=x) s) (fun f b s e' h =>by simp only [aa3,b.c,h]) fun f b c x e' h =>by simp only [aa3,b.c,h]
 | l6 =>exact .pt rfl fun f b g =>by simp only [aa3,ar7]
 | l7 s =>exact .gf (A:=fun s =>.go { x:=x,direct:=dir,p:=p,last:=last,count:=cnt,c:=.l7 s }) (B:=fun _ _ =>al3 { x:=x,direct:=dir,p:=p,last:=last,count:=cnt,c:=.l7 s }) (ak7 (v:=last) s) (fun f b s e' h =>by simp only [aa3,h]) fun f b c x e' h =>by simp only [aa3,h]
end
end
section
open Go
variable [Tb]
theorem ahF (b:List Int) (l:List (List Int)) (hl:l.length≤1000000):aaB (apH b l) fun o =>o.1.1=true→b.length≤400∧∀ x∈l,x.length≤400:=by
 unfold apH
 refine aaB.bind (P:=fun z =>(∀ o,z=.inr o→o.1.1=false)∧(∀ y,z=.inl y→∀ x∈l,x.length≤400)) (acm (fun x =>0≤x.1∧x.1≤(l.length:Int)∧∀ i:Nat,(i:Int)<x.1→∀ y,l[i]?=some y→y.length≤400) (fun x =>((l.length:Int)-x.1).toNat) (fun self x ⟨q0,q1,q2⟩ ih =>?_) _ _ ⟨Int.le_refl 0,by show (0:Int)≤(l.length:Int); omega,fun i hi =>by omega⟩ (by show ((l.length:Int)-0).toNat<_; omega)) fun z hz =>?_
 rotate_left
 ·have e2:wi (x.1+1)=x.1+1:=aaM (aas (by omega))
  rw [e2]
  refine aaB.ite (fun hlt =>.guard ⟨q0,hlt⟩ fun _ =>aaB.ite (fun _ =>.some_ ⟨fun o e =>(by cases e; rfl),fun y e =>(by cases e)⟩) fun h4 =>ih _ ⟨by show 0≤x.1+1; omega,by show x.1+1≤(l.length:Int); omega,fun i hi y hy =>?_⟩ (by show ((l.length:Int)-(x.1+1)).toNat<((l.length:Int)-x.1).toNat; omega)) fun hlt =>.some_ ⟨fun o e =>(by cases e),fun y e x' hx' =>?_⟩
  ·by_cases hi2:(i:Int)<x.1
   ·exact q2 i hi2 y hy
   ·have hi3:i=x.1.toNat:=by have:(i:Int)<x.1+1:=hi; omega
    have h5:=ae0 (d:=([]:List Int)) (xs:=l) (i:=x.1) ⟨q0,hlt⟩
    rw [hi3,h5] at hy
    cases hy
    omega
  ·obtain ⟨i,hi,rfl⟩:=List.getElem_of_mem hx'
   exact q2 i (by omega) _ (List.getElem?_eq_getElem hi)
 ·rcases z with y | o
  ·refine .some_ fun e =>⟨?_,hz.2 y rfl⟩
   have:((b.length:Nat):Int)≤400:=of_decide_eq_true e
   omega
  ·exact .some_ fun e =>by rw [hz.1 o rfl] at e; cases e
structure DecOk (c:Cfg):Prop where
 w:1≤c.workers∧c.workers≤4
 l:1≤c.levels∧c.levels≤4
 k:1≤c.classes∧c.classes≤3∧c.classes≤c.levels
 t:1≤c.tasks∧c.tasks≤12
 q:1≤c.deque∧c.deque≤4
 h:1≤c.heap∧c.heap≤4
 b:1≤c.batch∧c.batch≤c.deque
 a:0≤c.age∧c.age≤5
 p:1≤c.patience∧c.patience≤8
 pn:1≤c.progs.length∧c.progs.length≤4
 pl:∀ x∈c.progs,x.length≤5
 ps:∀ x∈c.progs,∀ i∈x,(i.op=0∧1≤i.a∧i.a≤4∧i.b=0)∨(i.op=1∧0≤i.a∧i.a<(c.progs.length:Int)∧0≤i.b∧i.b<c.levels)∨(i.op=2∧0≤i.a∧i.a≤3∧i.b=0)
 sn:c.subs.length≤5
 ss:∀ s∈c.subs,(0≤s.prog∧s.prog<(c.progs.length:Int))∧(0≤s.level∧s.level<c.levels)∧0≤s.deadline∧s.deadline≤15
structure CodOk (N:Int) (r:CodV):Prop where
 by_:∀ x∈r.inn,0≤x∧x≤255
 ln:r.inn.length≤1000000
 at_:0≤r.at_∧r.at_≤N
theorem acf {N:Int} {r:CodV} {k:Int} (h:CodOk N r) (hN:N≤1000000) (h1:1≤k) (h2:k≤1000):aaB (abJ r k) fun o =>(0≤o.1.1∧o.1.1<k)∧CodOk (N+1) o.2.1:=by
 have ha:=h.at_
 have e1:wi (r.at_+1)=r.at_+1:=aaM (aas (by omega))
 unfold abJ
 rw [e1]
 refine aaB.ite (fun hlt =>.guard ⟨ha.1,hlt⟩ fun _ =>.guard (by omega) fun _ =>.some_ ⟨?_,h.by_,h.ln,by show 0≤r.at_+1; omega,by show r.at_+1≤N+1; omega⟩) fun _ =>.some_ ⟨⟨Int.le_refl 0,by show (0:Int)<k; omega⟩,h.by_,h.ln,by show 0≤r.at_+1; omega,by show r.at_+1≤N+1; omega⟩
 have hb:=h.by_ _ (asD (d:=dfR 17) (xs:=r.inn) (i:=r.at_) ⟨ha.1,hlt⟩)
 have e2:wi (ai1 r.inn r.at_)=ai1 r.inn r.at_:=aaM (aas (x:=ai1 r.inn r.at_) ⟨by have:=hb.1; exact Int.le_trans (by decide) this,by have:=hb.2; exact Int.le_trans this (by decide)⟩)
 rw [e2]
 exact ayr h1 hb.1
theorem CodOk.up {N M:Int} {r:CodV} (h:CodOk N r) (hl:N≤M):CodOk M r:=⟨h.by_,h.ln,h.at_.1,by have:=h.at_; omega⟩
def avW (n lv:Int) (i:Ins):Prop:=(i.op=0∧1≤i.a∧i.a≤4∧i.b=0)∨(i.op=1∧0≤i.a∧i.a<n∧0≤i.b∧i.b<lv)∨(i.op=2∧0≤i.a∧i.a≤3∧i.b=0)
def aKA (n lv:Int) (s:Sub):Prop:=(0≤s.prog∧s.prog<n)∧(0≤s.level∧s.level<lv)∧0≤s.deadline∧s.deadline≤15
structure NumOk (c:Cfg):Prop where
 w:1≤c.workers∧c.workers≤4
 l:1≤c.levels∧c.levels≤4
 k:1≤c.classes∧c.classes≤3∧c.classes≤c.levels
 t:1≤c.tasks∧c.tasks≤12
 q:1≤c.deque∧c.deque≤4
 h:1≤c.heap∧c.heap≤4
 b:1≤c.batch∧c.batch≤c.deque
 a:0≤c.age∧c.age≤5
 p:1≤c.patience∧c.patience≤8
theorem w1p {x:Int} (h:0≤x) (h2:x≤1000000):wi (1+x)=1+x:=aaM (aas (by omega))
theorem avF {b:List Int} (hb:∀ x∈b,0≤x∧x≤255) (hl:b.length≤1000000):aaB (aok b) fun o =>DecOk o.1.1:=by
 unfold aok
 refine (acf (N:=0) (k:=4) ⟨hb,hl,Int.le_refl 0,Int.le_refl 0⟩ (by decide) (by decide) (by decide)).bind fun r1 h1 =>?_
 refine (acf (k:=4) h1.2 (by decide) (by decide) (by decide)).bind fun r2 h2 =>?_
 have w1:=w1p h1.1.1 (by omega)
 have w2:=w1p h2.1.1 (by omega)
 rw [w1,w2]
 refine (acf h2.2 (by decide) (by split<;>omega) (by split<;>omega)).bind fun r3 h3 =>?_
 refine (acf (k:=12) h3.2 (by decide) (by decide) (by decide)).bind fun r4 h4 =>?_
 refine (acf (k:=4) h4.2 (by decide) (by decide) (by decide)).bind fun r5 h5 =>?_
 refine (acf (k:=4) h5.2 (by decide) (by decide) (by decide)).bind fun r6 h6 =>?_
 have h3':r3.1.1<3∧r3.1.1<1+r2.1.1:=by
  have:=h3.1.2
  split at this<;>omega
 have w3:=w1p h3.1.1 (by omega)
 have w4:=w1p h4.1.1 (by omega)
 have w5:=w1p h5.1.1 (by omega)
 have w6:=w1p h6.1.1 (by omega)
 rw [w3,w4,w5,w6]
 refine (acf h6.2 (by decide) (by omega) (by omega)).bind fun r7 h7 =>?_
 refine (acf (k:=6) h7.2 (by decide) (by decide) (by decide)).bind fun r8 h8 =>?_
 refine (acf (k:=8) h8.2 (by decide) (by decide) (by decide)).bind fun r9 h9 =>?_
 refine (acf (k:=4) h9.2 (by decide) (by decide) (by decide)).bind fun r10 h10 =>?_
 have w7:=w1p h7.1.1 (by omega)
 have w9:=w1p h9.1.1 (by omega)
 have w10:=w1p h10.1.1 (by omega)
 rw [w7,w9,w10]
 refine aaB.bind (P:=fun z =>CodOk 1000 z.2.1∧NumOk z.2.2.1∧z.2.2.1.levels=1+r2.1.1∧(z.2.2.1.progs.length:Int)=1+r10.1.1∧(∀ p∈z.2.2.1.progs,p.length≤5∧∀ i∈p,avW (1+r10.1.1) (1+r2.1.1) i)∧z.2.2.1.subs=[])
  (acm (fun x =>0≤x.1∧x.1≤1+r10.1.1∧CodOk (10+30*x.1) x.2.1∧NumOk x.2.2.1∧x.2.2.1.levels=1+r2.1.1∧(x.2.2.1.progs.length:Int)=x.1∧(∀ p∈x.2.2.1.progs,p.length≤5∧∀ i∈p,avW (1+r10.1.1) (1+r2.1.1) i)∧x.2.2.1.subs=[])
   (fun x =>(1+r10.1.1-x.1).toNat) (fun self x ⟨q0,q1,q2,q3,q4,q5,q6,q7⟩ ih =>?step) _ _ ⟨Int.le_refl 0,by show (0:Int)≤1+r10.1.1; omega,h10.2,?num,rfl,rfl,fun p hp =>(by cases hp),rfl⟩ (by show (1+r10.1.1-0).toNat<_; omega)) fun z hz =>?cont
 case step =>
  have f1:wi (x.1+1)=x.1+1:=aaM (aas (by omega))
  refine aaB.ite (fun hlt =>?_) fun hlt =>.some_ ⟨q2.up (by omega),q3,q4,by show (x.2.2.1.progs.length:Int)=_; omega,q6,q7⟩
  have hlen:(x.2.2.1.progs.length:Int)<10:=by omega
  rw [f1]
  refine (acf (k:=6) q2 (by omega) (by decide) (by decide)).bind fun r14 h14 =>?_
  refine aaB.bind (P:=fun z =>z.1.length≤5∧(∀ i∈z.1,avW (1+r10.1.1) (1+r2.1.1) i)∧CodOk (10+30*x.1+26) z.2.2.1)
   (acm (fun y =>0≤y.2.1∧(y.1.length:Int)+y.2.1=r14.1.1∧CodOk (10+30*x.1+1+5*(r14.1.1-y.2.1)) y.2.2.1∧∀ i∈y.1,avW (1+r10.1.1) (1+r2.1.1) i)
    (fun y =>y.2.1.toNat) (fun self y ⟨p0,p1,p2,p3⟩ ih =>?_) _ _ ⟨h14.1.1,by show ((0:Nat):Int)+r14.1.1=_; omega,h14.2.up (by show 10+30*x.1+1≤10+30*x.1+1+5*(r14.1.1-r14.1.1); omega),fun i hi =>(by cases hi)⟩ (by show r14.1.1.toNat<_; omega)) fun z hz =>?_
  ·refine .guard (by show (((x.2.2.1.progs.length+1:Nat)):Int)<_; omega) fun _ =>ih _ ⟨by show 0≤x.1+1; omega,by show x.1+1≤_; omega,hz.2.2.up (by show 10+30*x.1+26≤10+30*(x.1+1); omega),⟨q3.w,q3.l,q3.k,q3.t,q3.q,q3.h,q3.b,q3.a,q3.p⟩,q4,?_,?_,q7⟩ ?_
   ·show (((x.2.2.1.progs++[z.1]).length:Nat):Int)=x.1+1
    rw [List.length_append,List.length_singleton]; omega
   ·intro p hp
    rcases List.mem_append.1 hp with hp | hp
    ·exact q6 p hp
    ·rw [List.mem_singleton] at hp; subst hp; exact ⟨hz.1,hz.2.1⟩
   ·show (1+r10.1.1-(x.1+1)).toNat<(1+r10.1.1-x.1).toNat
    omega
  ·have f2:wi (y.2.1-1)=y.2.1-1:=aaM (aas (by omega))
   have hyl:y.1.length≤5:=by omega
   refine aaB.ite (fun hlt2 =>?_) fun hlt2 =>.some_ ⟨hyl,p3,p2.up (by omega)⟩
   rw [f2,q4]
   have nx:∀ (u:Ins) (r:CodV),avW (1+r10.1.1) (1+r2.1.1) u→CodOk (10+30*x.1+1+5*(r14.1.1-(y.2.1-1))) r→aaB (if (((y.1.length+([u]:List Ins).length:Nat)):Int)<1000000000000 then self (y.1++[u],y.2.1-1,r,()) else none) fun z =>z.1.length≤5∧(∀ i∈z.1,avW (1+r10.1.1) (1+r2.1.1) i)∧CodOk (10+30*x.1+26) z.2.2.1:=fun u r hu hr =>
    .guard (by show (((y.1.length+1:Nat)):Int)<_; omega) fun _ =>ih _ ⟨by show 0≤y.2.1-1; omega,by
     show (((y.1++[u]).length:Nat):Int)+(y.2.1-1)=_
     rw [List.length_append,List.length_singleton]; omega,hr,fun i hi =>by
     rcases List.mem_append.1 hi with hi | hi
     ·exact p3 i hi
     ·rw [List.mem_singleton] at hi; subst hi; exact hu⟩ (by show (y.2.1-1).toNat<y.2.1.toNat; omega)
   refine (acf (k:=3) p2 (by omega) (by decide) (by decide)).bind fun r18 h18 =>?_
   refine aaB.ite (fun e0 =>?_) fun e0 =>aaB.ite (fun e1 =>?_) fun e1 =>?_
   ·refine (acf (k:=4) h18.2 (by omega) (by decide) (by decide)).bind fun r19 h19 =>?_
    rw [w1p h19.1.1 (by omega)]
    exact nx _ _ (.inl ⟨e0,by show 1≤1+r19.1.1; omega,by show 1+r19.1.1≤4; omega,rfl⟩) (h19.2.up (by omega))
   ·refine (acf (k:=1+r10.1.1) h18.2 (by omega) (by omega) (by omega)).bind fun r20 h20 =>?_
    refine (acf (k:=1+r2.1.1) h20.2 (by omega) (by omega) (by omega)).bind fun r21 h21 =>?_
    exact nx _ _ (.inr (.inl ⟨e1,h20.1.1,h20.1.2,h21.1.1,h21.1.2⟩)) (h21.2.up (by omega))
   ·refine (acf (k:=4) h18.2 (by omega) (by decide) (by decide)).bind fun r22 h22 =>?_
    exact nx _ _ (.inr (.inr ⟨by show r18.1.1=2; omega,h22.1.1,by show r22.1.1≤3; omega,rfl⟩)) (h22.2.up (by omega))
 case num =>
  refine ⟨?_,?_,?_,?_,?_,?_,?_,?_,?_⟩
  ·exact ⟨by show 1≤1+r1.1.1; omega,by show 1+r1.1.1≤4; omega⟩
  ·exact ⟨by show 1≤1+r2.1.1; omega,by show 1+r2.1.1≤4; omega⟩
  ·exact ⟨by show 1≤1+r3.1.1; omega,by show 1+r3.1.1≤3; omega,by show 1+r3.1.1≤1+r2.1.1; omega⟩
  ·exact ⟨by show 1≤1+r4.1.1; omega,by show 1+r4.1.1≤12; omega⟩
  ·exact ⟨by show 1≤1+r5.1.1; omega,by show 1+r5.1.1≤4; omega⟩
  ·exact ⟨by show 1≤1+r6.1.1; omega,by show 1+r6.1.1≤4; omega⟩
  ·exact ⟨by show 1≤1+r7.1.1; omega,by show 1+r7.1.1≤1+r5.1.1; omega⟩
  ·exact ⟨h8.1.1,by show r8.1.1≤5; omega⟩
  ·exact ⟨by show 1≤1+r9.1.1; omega,by show 1+r9.1.1≤8; omega⟩
 case cont =>
  obtain ⟨g1,g2,g3,g4,g5,g6⟩:=hz
  refine (acf (k:=6) g1 (by decide) (by decide) (by decide)).bind fun r23 h23 =>?_
  refine aaB.bind (P:=fun y =>DecOk y.2.2.1)
   (acm (fun y =>0≤y.1∧(y.2.2.1.subs.length:Int)+y.1=r23.1.1∧CodOk (1001+5*(r23.1.1-y.1)) y.2.1∧NumOk y.2.2.1∧y.2.2.1.levels=1+r2.1.1∧(y.2.2.1.progs.length:Int)=1+r10.1.1∧(∀ p∈y.2.2.1.progs,p.length≤5∧∀ i∈p,avW (1+r10.1.1) (1+r2.1.1) i)∧∀ s∈y.2.2.1.subs,aKA (1+r10.1.1) (1+r2.1.1) s)
    (fun y =>y.1.toNat) (fun self y ⟨p0,p1,p2,p3,p4,p5,p6,p7⟩ ih =>?_) _ _ ⟨h23.1.1,by show ((z.2.2.1.subs.length:Nat):Int)+r23.1.1=r23.1.1; rw [g6]; show ((0:Nat):Int)+r23.1.1=r23.1.1; omega,h23.2.up (by show (1001:Int)≤1001+5*(r23.1.1-r23.1.1); omega),g2,g3,g4,g5,fun s hs =>by
     have hs2:s∈z.2.2.1.subs:=hs
     rw [g6] at hs2; cases hs2⟩ (by show r23.1.1.toNat<_; omega)) fun y hy =>.some_ hy
  have f2:wi (y.1-1)=y.1-1:=aaM (aas (by omega))
  have hyl:y.2.2.1.subs.length≤5:=by omega
  refine aaB.ite (fun hlt =>?_) fun hlt =>.some_ ⟨p3.w,p3.l,p3.k,p3.t,p3.q,p3.h,p3.b,p3.a,p3.p,by show 1≤y.2.2.1.progs.length∧y.2.2.1.progs.length≤4; omega,fun x hx =>(p6 x hx).1,fun x hx i hi =>by
   have:=(p6 x hx).2 i hi
   rw [p5,p4]; exact this,hyl,fun s hs =>by
   have:=p7 s hs
   rw [p5,p4]; exact this⟩
  rw [f2,p4]
  refine (acf (k:=1+r10.1.1) p2 (by omega) (by omega) (by omega)).bind fun r27 h27 =>?_
  refine (acf (k:=1+r2.1.1) h27.2 (by omega) (by omega) (by omega)).bind fun r28 h28 =>?_
  refine (acf (k:=16) h28.2 (by omega) (by omega) (by omega)).bind fun r29 h29 =>?_
  refine .guard (by show (((y.2.2.1.subs.length+1:Nat)):Int)<_; omega) fun _ =>ih _ ⟨by show 0≤y.1-1; omega,?_,h29.2.up (by show 1001+5*(r23.1.1-y.1)+1+1+1≤1001+5*(r23.1.1-(y.1-1)); omega),⟨p3.w,p3.l,p3.k,p3.t,p3.q,p3.h,p3.b,p3.a,p3.p⟩,p4,p5,p6,?_⟩ (by show (y.1-1).toNat<y.1.toNat; omega)
  ·show (((y.2.2.1.subs++[_]).length:Nat):Int)+(y.1-1)=_
   rw [List.length_append,List.length_singleton]; omega
  ·intro s hs
   rcases List.mem_append.1 hs with hs | hs
   ·exact p7 s hs
   ·rw [List.mem_singleton] at hs; subst hs
    exact ⟨h27.1,h28.1,h29.1.1,by show r29.1.1≤15; omega⟩
end
section
open Go Go.RowKit
set_option maxRecDepth 100000
variable [Tb]
theorem arO {α β:Type} (a:α) (f:α→Option β):(some a).bind f=f a:=rfl
structure LenOk (c:Cfg):Prop where
 ps:c.progs.length≤1000000
 pl:∀ p∈c.progs,p.length≤1000000
 ss:c.subs.length≤1000000
theorem att {lv np:Int}:∀ {ps:List (List Ins)},abA lv np ps=0→∀ p∈ps,p.length≤32
 | [],_,p,h =>by cases h
 | q::ps,h,p,hm =>by
  unfold abA at h
  split at h
  ·omega
  ·split at h
   ·rcases List.mem_cons.1 hm with e | e
    ·subst e; omega
    ·exact att h p e
   ·omega
theorem ak8 {c:Cfg} (h:afQ c=0):akw c=true∧c.progs.length≤32∧(∀ p∈c.progs,p.length≤32)∧c.subs.length≤64:=by
 unfold afQ at h
 split at h
 ·omega
 ·rename_i hn
  split at h
  ·omega
  ·rename_i hp
   have hp0:adK c=0:=by omega
   unfold adK at hp0
   split at hp0
   ·omega
   ·rename_i hl
    simp only [inB,Bool.not_eq_true',Bool.and_eq_false_iff,decide_eq_false_iff_not,not_or,Classical.not_not,Bool.not_eq_false,Bool.and_eq_true,decide_eq_true_eq] at hl
    refine ⟨by simpa using hn,by omega,att hp0,?_⟩
    unfold ahk at h
    split at h
    ·omega
    ·omega
theorem LenOk.of {c:Cfg} (h:afQ c=0):LenOk c:=by
 obtain ⟨_,h1,h2,h3⟩:=ak8 h
 exact ⟨by omega,fun p hp =>by have:=h2 p hp; omega,by omega⟩
abbrev ClS:=Int×Int×Int×Int×Int×Int×Int×Int×Int×List (List Ins)×List Sub×Unit
def clS (c:Cfg):ClS:=(c.workers,c.levels,c.classes,c.tasks,c.deque,c.heap,c.batch,c.age,c.patience,c.progs,c.subs,())
theorem ayI {α:Type} {xs:List α} {i:Nat} {x:α} (h:xs[i]?=some x):xs.set i x=xs:=by
 obtain ⟨hlt,rfl⟩:=List.getElem?_eq_some_iff.1 h
 simp
theorem axp {c:Cfg} (h:LenOk c):afh c=some ((c,()),()):=by
 have hg:aaB (afh c) fun o =>o.1.1=c:=by
  unfold afh
  have e0:ah5 c.progs=some ((c.progs,()),()):=by unfold ah5; rw [if_pos h.ps]
  rw [e0,arO]
  refine aaB.bind (P:=fun z =>z.2.1=clS c) (acm (fun x =>x.2.1=clS c∧0≤x.1∧x.1≤(c.progs.length:Int)) (fun x =>((c.progs.length:Int)-x.1).toNat) (fun self x ⟨q0,q1,q2⟩ ih =>?_) _ _ ⟨rfl,Int.le_refl 0,by show (0:Int)≤_; omega⟩ (by show ((c.progs.length:Int)-0).toNat<_; have:=h.ps; omega)) fun z hz =>?_
  rotate_left
  ·obtain ⟨i,s,u⟩:=x
   simp only at q0 q1 q2
   subst q0
   refine aaB.ite (fun hlt =>?_) fun _ =>.some_ rfl
   have hin:0≤i∧i<((c.progs.length:Nat):Int):=⟨q1,hlt⟩
   refine aaB.guard (show 0≤i∧i<(((clS c).2.2.2.2.2.2.2.2.2.1.length:Nat):Int) from hin) fun _ =>?_
   have hm:=h.pl _ (asD (d:=(dfR 18:List Ins)) hin)
   have e1:aj8 (aAR (clS c).2.2.2.2.2.2.2.2.2.1 i)=some ((aAR c.progs i,()),()):=by
    unfold aj8; exact if_pos hm
   rw [e1,arO]
   refine aaB.guard (show 0≤i∧i<(((clS c).2.2.2.2.2.2.2.2.2.1.length:Nat):Int) from hin) fun _ =>?_
   have e2:wi (i+1)=i+1:=aaM (aas (by have:=h.ps; omega))
   have e3:c.progs.set i.toNat (aAR c.progs i)=c.progs:=ayI (ae0 hin)
   rw [e2]
   refine ih _ ⟨?_,by show 0≤i+1; omega,by show i+1≤_; omega⟩ (by show ((c.progs.length:Int)-(i+1)).toNat<((c.progs.length:Int)-i).toNat; omega)
   show (c.workers,c.levels,c.classes,c.tasks,c.deque,c.heap,c.batch,c.age,c.patience,c.progs.set i.toNat (aAR c.progs i),c.subs,())=clS c
   rw [e3]; rfl
  ·rw [hz]
   have e4:ah4 (clS c).2.2.2.2.2.2.2.2.2.2.1=some ((c.subs,()),()):=by unfold ah4; exact if_pos h.ss
   rw [e4,arO]
   exact .some_ rfl
 obtain ⟨o,e,ho⟩:=hg
 rw [e]
 obtain ⟨⟨o1,⟨⟩⟩,⟨⟩⟩:=o
 simp only at ho
 rw [ho]
def aav (c:Cfg):LayV:={ workers:=c.workers,levels:=c.levels,classes:=c.classes,tasks:=c.tasks,deque:=c.deque,heap:=c.heap,sleepers:=4+c.heap,epochs:=4+c.heap+c.classes,bitmaps:=4+c.heap+c.classes+c.workers,queues:=4+c.heap+c.classes+c.workers+c.workers,table:=4+c.heap+c.classes+c.workers+c.workers+c.workers*c.levels*(2+c.deque) }
def aaU (c:Cfg):Int:=(aav c).table+5*c.tasks
theorem aCw {a b A B:Int} (ha:0≤a) (hA:a≤A) (hb:0≤b) (hB:b≤B):0≤a*b∧a*b≤A*B :=
 ⟨Int.mul_nonneg ha hb,Int.le_trans (Int.mul_le_mul_of_nonneg_right hA hb) (Int.mul_le_mul_of_nonneg_left hB (Int.le_trans ha hA))⟩
theorem arb {c:Cfg} (h:akw c=true):(0≤c.workers*c.levels∧c.workers*c.levels≤1024)∧(0≤c.workers*c.levels*(2+c.deque)∧c.workers*c.levels*(2+c.deque)≤67584):=by
 have hs:=aih h
 have h1:=aCw (a:=c.workers) (b:=c.levels) (A:=16) (B:=64) (by omega) (by omega) (by omega) (by omega)
 have h2:=aCw (a:=c.workers*c.levels) (b:=2+c.deque) (A:=1024) (B:=66) h1.1 (by omega) (by omega) (by omega)
 omega
theorem azQ {c:Cfg} (h:afQ c=0):alT c=some ((aav c,0,()),()):=by
 have hn:=(ak8 h).1
 have hs:=aih hn
 have ht:=arb hn
 unfold alT asw
 rw [arO]
 have e0:¬ afQ c≠0:=by omega
 simp only [if_neg e0]
 have e1:wi (4+c.heap)=4+c.heap:=aaM (aas (by omega))
 have e2:wi (4+c.heap+c.classes)=4+c.heap+c.classes:=aaM (aas (by omega))
 have e3:wi (4+c.heap+c.classes+c.workers)=4+c.heap+c.classes+c.workers:=aaM (aas (by omega))
 have e4:wi (4+c.heap+c.classes+c.workers+c.workers)=4+c.heap+c.classes+c.workers+c.workers:=aaM (aas (by omega))
 have e5:wi (c.workers*c.levels)=c.workers*c.levels:=aaM (aas (by omega))
 have e6:wi (2+c.deque)=2+c.deque:=aaM (aas (by omega))
 have e7:wi (c.workers*c.levels*(2+c.deque))=c.workers*c.levels*(2+c.deque):=aaM (aas (by omega))
 have e8:wi (4+c.heap+c.classes+c.workers+c.workers+c.workers*c.levels*(2+c.deque))=4+c.heap+c.classes+c.workers+c.workers+c.workers*c.levels*(2+c.deque):=aaM (aas (by omega))
 simp only [e1,e2,e3,e4,e5,e6,e7,e8]
 rfl
def ayc:RecP:=⟨0,-1,0,0,-1,[],false⟩
def am5 (c:Cfg):EnvP:=⟨c,aav c,⟨List.replicate (aaU c).toNat 0,⟨0,0,0,0⟩,0⟩,⟨0,0⟩,List.replicate c.tasks.toNat ayc,[]⟩
theorem awT {c:Cfg} (h:afQ c=0):aeE c=some ((am5 c,0,()),()):=by
 have hn:=(ak8 h).1
 have hs:=aih hn
 have ht:=arb hn
 have hg:aaB (aeE c) fun o =>o.1.1=am5 c∧o.1.2.1=0:=by
  unfold aeE
  rw [azQ h,arO]
  refine aaB.ite (fun e =>absurd rfl e) fun _ =>?_
  have c1:wi (5*c.tasks)=5*c.tasks:=aaM (aas (by omega))
  have c2:wi ((aav c).table+5*c.tasks)=aaU c:=aaM (aas (by unfold aav; simp only; omega))
  have e1:awL (aav c)=some ((aaU c,()),()):=by
   unfold awL
   have:wi (5*(aav c).tasks)=5*c.tasks:=c1
   rw [this,c2]
  rw [e1,arO]
  have hc:0≤aaU c∧aaU c≤131072:=by unfold aaU aav; simp only; omega
  have e2:aii (aaU c)=some ((⟨⟨0,0,0,0,0,0,0,0,0,[],[]⟩,⟨0,0,0,0,0,0,0,0,0,0,0⟩,⟨List.replicate (aaU c).toNat 0,⟨0,0,0,0⟩,0⟩,⟨0,0⟩,[],[]⟩,()),()):=by
   unfold aii apw asv
   have i1:(if aaU c<0 then (0:Int) else aaU c)=aaU c:=if_neg (by omega)
   have i2:(if 131072<aaU c then (131072:Int) else aaU c)=aaU c:=if_neg (by omega)
   have i3:0≤aaU c∧aaU c≤1099511627776:=by omega
   simp only [i1,i2,if_true,if_pos i3,arO]
  rw [e2,arO,axp (.of h),arO]
  simp only [if_true]
  refine aaB.bind (P:=fun z =>z.2.1=am5 c) (acm (fun x =>0≤x.1∧x.1≤c.tasks∧x.2.1={ am5 c with recs:=List.replicate x.1.toNat ayc }) (fun x =>(c.tasks-x.1).toNat) (fun self x ⟨q0,q1,q2⟩ ih =>?_) _ _ ⟨Int.le_refl 0,by show (0:Int)≤_; omega,rfl⟩ (by show (c.tasks-0).toNat<_; omega)) fun z hz =>.some_ ⟨hz,rfl⟩
  obtain ⟨i,e,u⟩:=x
  simp only at q0 q1 q2
  subst q2
  refine aaB.ite (fun hlt =>?_) fun hge =>.some_ ?_
  ·have hl:(List.replicate i.toNat ayc).length=i.toNat:=List.length_replicate
   refine aaB.guard ?_ fun _ =>?_
   ·show (((List.replicate i.toNat ayc).length+1:Nat):Int)<100000000000
    rw [hl]
    have hlt':i<c.tasks:=hlt
    omega
   ·have hlt':i<c.tasks:=hlt
    have e2:wi (i+1)=i+1:=aaM (aas (by omega))
    rw [e2]
    refine ih _ ⟨by show 0≤i+1; omega,by show i+1≤_; omega,?_⟩ (by show (c.tasks-(i+1)).toNat<(c.tasks-i).toNat; omega)
    show ({ am5 c with recs:=List.replicate i.toNat ayc++[ayc] }:EnvP)={ am5 c with recs:=List.replicate (i+1).toNat ayc }
    have e3:(i+1).toNat=i.toNat+1:=by omega
    rw [e3,List.replicate_succ']
  ·show ({ am5 c with recs:=List.replicate i.toNat ayc }:EnvP)=am5 c
   have:i=c.tasks:=by have hge':¬ i<c.tasks:=hge; omega
   rw [this]; rfl
 obtain ⟨o,e,ho1,ho2⟩:=hg
 rw [e]
 obtain ⟨⟨o1,o2,⟨⟩⟩,⟨⟩⟩:=o
 simp only at ho1 ho2
 rw [ho1,ho2]
end
section
open Go
variable [Tb]
theorem aBr {c:Cfg} (h:DecOk c) {t hp':Int} (ht:1≤t∧t≤12) (hh:1≤hp'∧hp'≤8):afQ { c with tasks:=t,heap:=hp' }=0:=by
 have hp:∀ ps:List (List Ins),(∀ x∈ps,x∈c.progs)→abA c.levels c.progs.length ps=0:=fun ps =>by
  induction ps with
  | nil =>intro _; rfl
  | cons p ps ih =>
   intro hm
   have h1:=h.pl p (hm p (List.mem_cons_self ..))
   unfold abA
   rw [if_neg (by omega),if_pos]
   ·exact ih fun x hx =>hm x (List.mem_cons_of_mem _ hx)
   ·refine List.all_eq_true.2 fun i hi =>?_
    have h2:=h.ps p (hm p (List.mem_cons_self ..)) i hi
    unfold aqs
    rcases h2 with ⟨a,b,d,e⟩ | ⟨a,b,d,e,f⟩ | ⟨a,b,d,e⟩
    ·rw [if_pos a]; simp only [inB,e,Bool.and_eq_true,decide_eq_true_eq,beq_self_eq_true,and_true]; omega
    ·rw [if_neg (by omega),if_pos a]; simp only [inB,Bool.and_eq_true,decide_eq_true_eq]; omega
    ·rw [if_neg (by omega),if_neg (by omega),if_pos a]; simp only [inB,e,Bool.and_eq_true,decide_eq_true_eq,beq_self_eq_true,and_true]; omega
 have hs:∀ ss:List Sub,(∀ x∈ss,x∈c.subs)→adE c.levels c.progs.length ss=0:=fun ss =>by
  induction ss with
  | nil =>intro _; rfl
  | cons s ss ih =>
   intro hm
   have h1:=h.ss s (hm s (List.mem_cons_self ..))
   have e:aoU c.levels c.progs.length s=0:=by
    unfold aoU
    have e1:inB s.prog 0 ((c.progs.length:Int)-1)=true:=by simp only [inB,Bool.and_eq_true,decide_eq_true_eq]; omega
    have e2:inB s.level 0 (c.levels-1)=true:=by simp only [inB,Bool.and_eq_true,decide_eq_true_eq]; omega
    have e3:inB s.deadline 0 16777215=true:=by simp only [inB,Bool.and_eq_true,decide_eq_true_eq]; omega
    rw [e1,e2,e3]; rfl
   unfold adE
   rw [if_pos e]
   exact ih fun x hx =>hm x (List.mem_cons_of_mem _ hx)
 have hn:akw { c with tasks:=t,heap:=hp' }=true:=by
  have:=h.w; have:=h.l; have:=h.k; have:=h.t; have:=h.q; have:=h.h; have:=h.b; have:=h.a; have:=h.p
  simp only [akw,inB,Bool.and_eq_true,decide_eq_true_eq]
  have e:(if c.levels<8 then c.levels else 8)=c.levels:=if_pos (by omega)
  rw [e]
  omega
 have hpa:adK { c with tasks:=t,heap:=hp' }=0:=by
  have:=h.pn
  unfold adK
  have e:inB (c.progs.length:Int) 1 32=true:=by simp only [inB,Bool.and_eq_true,decide_eq_true_eq]; omega
  rw [e]
  exact hp c.progs fun _ hx =>hx
 have hsa:ahk { c with tasks:=t,heap:=hp' }=0:=by
  have:=h.sn
  unfold ahk
  rw [if_neg (show ¬ 64<c.subs.length by omega)]
  exact hs c.subs fun _ hx =>hx
 unfold afQ
 rw [hn,hpa]
 exact hsa
theorem ah0 {c:Cfg} (h:DecOk c):afQ c=0:=by
 have:=h.h
 exact aBr h (t:=c.tasks) (hp':=c.heap) h.t (by omega)
theorem avI {b:List Int} (hb:∀ x∈b,0≤x∧x≤255) (hl:b.length≤1000000):aaB (afZ b) fun o =>DecOk o.1.1:=by
 have:=avF hb hl
 unfold afZ
 refine this.bind fun o ho =>.some_ ?_
 exact ho
end
section
open Go Go.RowKit
set_option maxRecDepth 100000
variable [Tb]
theorem afs (m:MemV):aaS m=some ((m.count,()),(m,())):=id rfl
theorem aFU (m:MemV):afY m=some ((m.last,()),(m,())):=id rfl
structure EI (c:Cfg) (K:Nat) (e:EnvP):Prop where
 ok:EOk K e
 l:e.l=aav c
 c:e.c=c
 ct:0≤e.m.count∧e.m.count≤K
 cl:e.m.cells.length≤1000000
def mnC (c:Cfg):Int:=if 16<c.workers then 16 else c.workers
def WI (c:Cfg) (K:Nat) (j:Int) (w:WorkerV MV):Prop:=∃ k,w=ahi (aav c) j k∧ahg K (mnC c) k
section
variable {c:Cfg} {K:Nat} {e:EnvP} {j:Int} {w:WorkerV MV} {l:ClientV MV}
theorem EI.many (h:EI c K e):abt e=mnC c:=by unfold abt mnC; rw [h.c]
theorem aDR {m m':MemV} (h:One m m') {K:Nat} (hc:0≤m.count∧m.count≤K) (hK:K≤1000000):(0≤m'.count∧m'.count≤((K+3:Nat):Int))∧m'.cells.length=m.cells.length:=by
 cases h with
 | no =>exact ⟨by omega,rfl⟩
 | yes k a v h hk =>
  refine ⟨?_,by simp⟩
  show 0≤wi (m.count+1)∧wi (m.count+1)≤_
  rw [aaM (aas (by omega))]
  omega
theorem EI.stp (h:EI c K e) (hK:K≤1000000) {e':EnvP} (s:Stp 2 e e'):EI c (K+3) e' :=
 have h1:=aDR s.m h.ct hK
 ⟨h.ok.step s,by rw [s.l]; exact h.l,by rw [s.c]; exact h.c,h1.1,by rw [h1.2]; exact h.cl⟩
theorem ahg.up {K L:Nat} (h:K≤L) {n:Int} {k:WorkS} (hw:ahg K n k):ahg L n k:=by
 obtain ⟨a,b,d,f,g⟩:=k
 cases g with
 | t7 s =>exact ⟨hw.1,Nat.le_trans hw.2 h⟩
 | t3 s =>exact hw
 | t4 s =>exact hw
 | _ =>trivial
theorem WI.up {K L:Nat} (h:K≤L) (hw:WI c K j w):WI c L j w:=by
 obtain ⟨k,h1,h2⟩:=hw
 exact ⟨k,h1,h2.up h⟩
theorem EI.up {L:Nat} (h:K≤L) (he:EI c K e):EI c L e:=⟨⟨he.ok.dq,he.ok.tk,he.ok.ct,he.ok.wk,by have:=he.ok.ev; omega,fun r hr =>by have:=he.ok.kd r hr; omega⟩,he.l,he.c,by have:=he.ct; omega,he.cl⟩
theorem EI.clk {k:ClkV} (he:EI c K e):EI c K { e with k:=k }:=⟨⟨he.ok.dq,he.ok.tk,he.ok.ct,he.ok.wk,he.ok.ev,he.ok.kd⟩,he.l,he.c,he.ct,he.cl⟩
theorem alJ {x:EntV} {n:Int} (hn:1≤n∧n≤1000) (h:x.kind=0):aaB (acp x n) fun o =>0≤o.1.1∧o.1.1<n:=by
 have h1:Int.tmod x.value n<n ∧ -n<Int.tmod x.value n:=by
  constructor
  ·exact Int.tmod_lt_of_pos _ (by omega)
  ·have h2:Int.tmod (-x.value) n<n:=Int.tmod_lt_of_pos _ (by omega)
   rw [Int.neg_tmod] at h2
   omega
 unfold acp
 rw [if_neg (fun h' =>h' h),if_neg (by omega),if_pos (by omega)]
 refine aaB.ite (fun hl =>?_) fun hl =>.some_ ⟨by show 0≤Int.tmod x.value n; omega,h1.1⟩
 rw [aaM (aas (by omega))]
 exact .some_ ⟨by show 0≤Int.tmod x.value n+n; omega,by show Int.tmod x.value n+n<n; omega⟩
end
theorem aIT {c:Cfg} (h:DecOk c):EI c 1 (am5 c):=by
 have hn:=(ak8 (ah0 h)).1
 have ht:=arb hn
 have h1:=h.w
 have h2:=h.l
 have h3:=h.k
 have h4:=h.t
 have h5:=h.q
 have h6:=h.h
 refine ⟨⟨?_,?_,?_,?_,Nat.zero_le _,fun r hr =>?_⟩,rfl,rfl,⟨Int.le_refl 0,by show (0:Int)≤1; omega⟩,?_⟩
 ·show 0≤c.deque∧c.deque≤65535; omega
 ·show c.tasks=((List.replicate c.tasks.toNat ayc).length:Int)
  rw [List.length_replicate]; omega
 ·show c.tasks=((List.replicate c.tasks.toNat ayc).length:Int)
  rw [List.length_replicate]; omega
 ·show 1≤c.workers; omega
 ·have:=List.eq_of_mem_replicate hr
  rw [this]
  exact Nat.zero_le _
 ·show (List.replicate (aaU c).toNat 0).length≤_
  rw [List.length_replicate]
  unfold aaU aav
  simp only
  omega
theorem axr {c:Cfg} (h:DecOk c):agQ c=some ((ap2 c.subs c.workers ⟨0,0,false,.n1⟩,()),()):=by
 unfold agQ
 rw [axp (.of (ah0 h)),bnd,if_pos rfl]
theorem akr {l:LayV} {j:Int}:adv j=some ((ahi l j ⟨0,0,0,0,.top⟩,()),()):=rfl
theorem aft {x:Int} (h:0≤x∧x≤1000000000000):wu x=x:=by
 show IntKind.u64.wrap x=x
 simp [IntKind.wrap,IntKind.signed,IntKind.bits,IntKind.min,IntKind.max]
 omega
def ckC (c:Cfg) (a:Int):Int :=
 if a<0 then 9 else if a=0 then 0 else if a<4 then 1 else if a<4+c.heap then 2 else if a<(aav c).queues then 3
 else if a<(aav c).table then (if (a-(aav c).queues) % (2+c.deque)<2 then 4 else 5)
 else if (a-(aav c).table) % 5=1 then 6 else 7
structure CellOk (c:Cfg) (a x:Int):Prop where
 p:0≤x
 s:ckC c a=2→ani x 65535<c.tasks
 r:ckC c a=5→x<c.tasks
 l:ckC c a=6→x<c.levels
def Fr (c:Cfg) (a:Int):Prop:=ckC c a≠0∧ckC c a≠2∧ckC c a≠5∧ckC c a≠6
theorem Fr.ok {c:Cfg} {a x:Int} (h:Fr c a) (hx:0≤x):CellOk c a x:=⟨hx,fun k =>absurd k h.2.1,fun k =>absurd k h.2.2.1,fun k =>absurd k h.2.2.2⟩
theorem aqt {c:Cfg} {a k:Int} (h:ckC c a=k) (hk:k=1∨k=3∨k=4∨k=7∨k=9):Fr c a:=by
 unfold Fr; rw [h]; omega
section
variable {c:Cfg}
theorem DecOk.rg (h:DecOk c):(0≤c.workers*c.levels∧c.workers*c.levels≤16)∧(0≤c.workers*c.levels*(2+c.deque)∧c.workers*c.levels*(2+c.deque)≤96):=by
 have h1:=h.w
 have h2:=h.l
 have h3:=h.q
 have e1:=aCw (a:=c.workers) (b:=c.levels) (A:=4) (B:=4) (by omega) (by omega) (by omega) (by omega)
 have e2:=aCw (a:=c.workers*c.levels) (b:=2+c.deque) (A:=16) (B:=6) e1.1 (by omega) (by omega) (by omega)
 omega
theorem af0:ckC c (-1)=9:=by unfold ckC; rw [if_pos (by omega)]
theorem ag0 (h:DecOk c):4+c.heap≤(aav c).queues∧(aav c).queues≤(aav c).table∧(aav c).table≤200∧(aav c).table=(aav c).queues+c.workers*c.levels*(2+c.deque):=by
 have h1:=h.w
 have h2:=h.l
 have h3:=h.q
 have h4:=h.h
 have h5:=h.k
 have e:=h.rg
 refine ⟨?_,?_,?_,?_⟩<;>show _<;>unfold aav<;>simp only<;>omega
theorem axn (h:DecOk c) {a:Int} (ha:1≤a∧a≤3):ckC c a=1:=by
 unfold ckC; rw [if_neg (by omega),if_neg (by omega),if_pos (by omega)]
theorem aAr (h:DecOk c) {t f:Int} (ht:0≤t) (hf:0≤f∧f<5):ckC c ((aav c).table+f+t*5)=if f=1 then 6 else 7:=by
 have e:=ag0 h
 have h4:=h.h
 unfold ckC
 rw [if_neg (by omega),if_neg (by omega),if_neg (by omega),if_neg (by omega),if_neg (by omega),if_neg (by omega)]
 by_cases hf1:f=1
 ·rw [if_pos (by omega),if_pos hf1]
 ·rw [if_neg (by omega),if_neg hf1]
theorem adH (h:DecOk c) {t f:Int} (hf:0≤f∧f<5):acU (aav c) t f=if 0≤t∧t<c.tasks then (aav c).table+f+t*5 else -1:=by
 have e:=ag0 h
 have h4:=h.t
 have h5:=h.h
 have h6:=h.rg
 unfold acU atP
 have e1:(aav c).tasks=c.tasks:=rfl
 rw [e1]
 by_cases h1:t<0
 ·rw [if_pos h1,if_neg (by omega)]
 rw [if_neg h1]
 by_cases h2:c.tasks≤t
 ·rw [if_pos h2,if_neg (by omega)]
 rw [if_neg h2,if_pos (by omega),aaM (x:=(aav c).table+f) (aas (by omega)),aaM (x:=t*5) (aas (by omega)),aaM (aas (by omega))]
theorem asq (h:DecOk c) {t f:Int} (hf:0≤f∧f<5):ckC c (acU (aav c) t f)=if 0≤t∧t<c.tasks then (if f=1 then 6 else 7) else 9:=by
 rw [adH h hf]
 split
 ·rename_i h1; rw [aAr h h1.1 hf]
 ·rw [af0]
theorem ar9 (h:DecOk c) {t f:Int} (hf:0≤f∧f<5) (hf1:f≠1):Fr c (acU (aav c) t f):=by
 refine aqt rfl ?_
 rw [asq h hf,if_neg hf1]
 split<;>omega
theorem agm (h:DecOk c) {t:Int}:Fr c (aaN (aav c) t):=ar9 h (by omega) (by omega)
theorem asa (h:DecOk c) {t:Int}:Fr c (acB (aav c) t):=ar9 h (by omega) (by omega)
theorem ar8 (h:DecOk c) {t:Int}:Fr c (ad9 (aav c) t):=ar9 h (by omega) (by omega)
theorem aos (h:DecOk c) {t:Int}:Fr c (ald (aav c) t):=ar9 h (by omega) (by omega)
theorem apQ (h:DecOk c) {a:Int} (ha:1≤a∧a≤3):Fr c a:=aqt (axn h ha) (by omega)
theorem aJG {i n a w:Int} (hn:n≤1000) (ha:0≤a∧a≤1000) (hw:w=1):atP i n a w=if 0≤i∧i<n then a+i else -1:=by
 subst hw
 unfold atP
 by_cases h1:i<0
 ·rw [if_pos h1,if_neg (by omega)]
 rw [if_neg h1]
 by_cases h2:n≤i
 ·rw [if_pos h2,if_neg (by omega)]
 rw [if_neg h2,if_pos (by omega),Int.mul_one,aaM (x:=i) (aas (by omega)),aaM (aas (by omega))]
theorem ap0 (h:DecOk c) {a:Int} (ha:4+c.heap≤a∧a<(aav c).queues):ckC c a=3:=by
 have h4:=h.h
 unfold ckC
 rw [if_neg (by omega),if_neg (by omega),if_neg (by omega),if_neg (by omega),if_pos (by omega)]
theorem apa:(aav c).queues=4+c.heap+c.classes+c.workers+c.workers:=rfl
theorem axv (h:DecOk c) {w:Int}:ckC c (afL (aav c) w)=3∨ckC c (afL (aav c) w)=9:=by
 have h1:=h.w
 have h4:=h.h
 have h5:=h.k
 unfold afL
 show ckC c (atP w c.workers (4+c.heap+c.classes) 1)=3∨ckC c (atP w c.workers (4+c.heap+c.classes) 1)=9
 rw [aJG (show c.workers≤1000 by omega) (show 0≤4+c.heap+c.classes∧4+c.heap+c.classes≤1000 by omega) rfl]
 split
 ·rename_i h'
  have h':0≤w∧w<c.workers:=h'
  refine .inl (ap0 h ?_)
  show 4+c.heap≤4+c.heap+c.classes+w∧4+c.heap+c.classes+w<_
  rw [apa]; omega
 ·exact .inr af0
theorem aCL (h:DecOk c) {w:Int}:Fr c (afL (aav c) w):=aqt rfl (by have:=axv h (w:=w); omega)
theorem auj (h:DecOk c) {w:Int}:ckC c (aaF (aav c) w)=3∨ckC c (aaF (aav c) w)=9:=by
 have h1:=h.w
 have h4:=h.h
 have h5:=h.k
 unfold aaF
 show ckC c (atP w c.workers (4+c.heap+c.classes+c.workers) 1)=3∨ckC c (atP w c.workers (4+c.heap+c.classes+c.workers) 1)=9
 rw [aJG (show c.workers≤1000 by omega) (show 0≤4+c.heap+c.classes+c.workers∧4+c.heap+c.classes+c.workers≤1000 by omega) rfl]
 split
 ·rename_i h'
  have h':0≤w∧w<c.workers:=h'
  refine .inl (ap0 h ?_)
  show 4+c.heap≤4+c.heap+c.classes+c.workers+w∧4+c.heap+c.classes+c.workers+w<_
  rw [apa]; omega
 ·exact .inr af0
theorem apR (h:DecOk c) {w:Int}:Fr c (aaF (aav c) w):=aqt rfl (by have:=auj h (w:=w); omega)
theorem ap8 (h:DecOk c) {w:Int}:ckC c (ahE (aav c) w)=3∨ckC c (ahE (aav c) w)=9:=by
 have h1:=h.w
 have h4:=h.h
 have h5:=h.k
 unfold ahE
 show ckC c (atP w c.classes (4+c.heap) 1)=3∨ckC c (atP w c.classes (4+c.heap) 1)=9
 rw [aJG (show c.classes≤1000 by omega) (show 0≤4+c.heap∧4+c.heap≤1000 by omega) rfl]
 split
 ·rename_i h'
  have h':0≤w∧w<c.classes:=h'
  refine .inl (ap0 h ?_)
  show 4+c.heap≤4+c.heap+w∧4+c.heap+w<_
  rw [apa]; omega
 ·exact .inr af0
theorem aox (h:DecOk c) {i:Int}:ckC c (aeN (aav c) i)=2∨ckC c (aeN (aav c) i)=9:=by
 have h4:=h.h
 unfold aeN
 show ckC c (atP i c.heap 4 1)=2∨ckC c (atP i c.heap 4 1)=9
 rw [aJG (show c.heap≤1000 by omega) (show (0:Int)≤4∧(4:Int)≤1000 by omega) rfl]
 split
 ·rename_i h'
  have h':0≤i∧i<c.heap:=h'
  refine .inl ?_
  unfold ckC
  rw [if_neg (by omega),if_neg (by omega),if_neg (by omega),if_pos (by omega)]
 ·exact .inr af0
theorem aFB (h:DecOk c) {i x:Int} (h1:0≤x) (h2:ani x 65535<c.tasks):CellOk c (aeN (aav c) i) x:=by
 have e:=aox h (i:=i)
 exact ⟨h1,fun _ =>h2,fun k =>by omega,fun k =>by omega⟩
def bq (c:Cfg) (k:Int):QV:=⟨(aav c).queues+k*(2+c.deque),(aav c).queues+k*(2+c.deque)+1,(aav c).queues+k*(2+c.deque)+2,c.deque⟩
theorem aKL {i n a w:Int} (hn:n≤10) (ha:0≤a∧a≤1000) (hw:0≤w∧w≤100):atP i n a w=if 0≤i∧i<n then a+i*w else -1:=by
 unfold atP
 by_cases h1:i<0
 ·rw [if_pos h1,if_neg (by omega)]
 rw [if_neg h1]
 by_cases h2:n≤i
 ·rw [if_pos h2,if_neg (by omega)]
 have h3:=aCw (a:=i) (b:=w) (A:=10) (B:=100) (by omega) (by omega) (by omega) (by omega)
 rw [if_neg h2,if_pos (by omega),aaM (x:=i*w) (aas (by omega)),aaM (aas (by omega))]
theorem ay0 (h:DecOk c) (w v:Int):(¬ ((0≤w∧w<c.workers)∧0≤v∧v<c.levels)∧aat (aav c) w v=⟨-1,-1,-1,0⟩)∨(((0≤w∧w<c.workers)∧0≤v∧v<c.levels)∧(0≤w*c.levels+v∧w*c.levels+v<c.workers*c.levels)∧aat (aav c) w v=bq c (w*c.levels+v)):=by
 have h1:=h.w
 have h2:=h.l
 have h3:=h.q
 have e:=ag0 h
 have h4:=h.h
 have e1:=aCw (a:=c.levels) (b:=2+c.deque) (A:=4) (B:=6) (by omega) (by omega) (by omega) (by omega)
 have e2:wi (c.levels*wi (2+c.deque))=c.levels*(2+c.deque):=by
  rw [aaM (x:=2+c.deque) (aas (by omega)),aaM (aas (by omega))]
 have e3:wi (2+c.deque)=2+c.deque:=aaM (aas (by omega))
 have ea:atP w c.workers (aav c).queues (c.levels*(2+c.deque))=if 0≤w∧w<c.workers then (aav c).queues+w*(c.levels*(2+c.deque)) else -1:=aKL (by omega) (by omega) (by omega)
 unfold aat
 show (¬ _∧(if atP w c.workers (aav c).queues (wi (c.levels*wi (2+c.deque)))<0 then _ else if atP v c.levels (atP w c.workers (aav c).queues (wi (c.levels*wi (2+c.deque)))) (wi (2+c.deque))<0 then _
  else QV.mk (atP v c.levels (atP w c.workers (aav c).queues (wi (c.levels*wi (2+c.deque)))) (wi (2+c.deque))) (wi (atP v c.levels (atP w c.workers (aav c).queues (wi (c.levels*wi (2+c.deque)))) (wi (2+c.deque))+1)) (wi (atP v c.levels (atP w c.workers (aav c).queues (wi (c.levels*wi (2+c.deque)))) (wi (2+c.deque))+2)) c.deque)=_)∨(_∧_∧(if atP w c.workers (aav c).queues (wi (c.levels*wi (2+c.deque)))<0 then _ else if atP v c.levels (atP w c.workers (aav c).queues (wi (c.levels*wi (2+c.deque)))) (wi (2+c.deque))<0 then _
  else QV.mk (atP v c.levels (atP w c.workers (aav c).queues (wi (c.levels*wi (2+c.deque)))) (wi (2+c.deque))) (wi (atP v c.levels (atP w c.workers (aav c).queues (wi (c.levels*wi (2+c.deque)))) (wi (2+c.deque))+1)) (wi (atP v c.levels (atP w c.workers (aav c).queues (wi (c.levels*wi (2+c.deque)))) (wi (2+c.deque))+2)) c.deque)=_)
 rw [e2,e3,ea]
 by_cases hw:0≤w∧w<c.workers
 ·rw [if_pos hw]
  have e4:=aCw (a:=w) (b:=c.levels*(2+c.deque)) (A:=4) (B:=24) (by omega) (by omega) (by omega) (by omega)
  have eb:atP v c.levels ((aav c).queues+w*(c.levels*(2+c.deque))) (2+c.deque)=if 0≤v∧v<c.levels then (aav c).queues+w*(c.levels*(2+c.deque))+v*(2+c.deque) else -1:=aKL (by omega) (by omega) (by omega)
  rw [if_neg (by omega),eb]
  by_cases hv:0≤v∧v<c.levels
  ·rw [if_pos hv]
   have e5:=aCw (a:=v) (b:=2+c.deque) (A:=4) (B:=6) (by omega) (by omega) (by omega) (by omega)
   have e6:=aCw (a:=w) (b:=c.levels) (A:=4) (B:=4) (by omega) (by omega) (by omega) (by omega)
   have e7:(w*c.levels+v)*(2+c.deque)=w*(c.levels*(2+c.deque))+v*(2+c.deque):=by rw [Int.add_mul,Int.mul_assoc]
   rw [if_neg (by omega)]
   refine .inr ⟨⟨hw,hv⟩,⟨by omega,?_⟩,?_⟩
   ·have:c.levels=1∨c.levels=2∨c.levels=3∨c.levels=4:=by omega
    rcases this with e | e | e | e<;>rw [e] at hv ⊢<;>omega
   ·unfold bq
    rw [e7,aaM (aas (by omega)),aaM (aas (by omega)),← Int.add_assoc]
  ·rw [if_neg hv,if_pos (by omega)]; exact .inl ⟨fun h =>hv h.2,rfl⟩
 ·rw [if_neg hw,if_pos (by omega)]; exact .inl ⟨fun h =>hw h.1,rfl⟩
theorem agH (h:DecOk c) (w v:Int):aat (aav c) w v=⟨-1,-1,-1,0⟩∨∃ k,0≤k∧k<c.workers*c.levels∧aat (aav c) w v=bq c k:=by
 rcases ay0 h w v with ⟨_,e⟩ | ⟨_,⟨e1,e2⟩,e⟩
 ·exact .inl e
 ·exact .inr ⟨_,e1,e2,e⟩
theorem aub (h:DecOk c) {k j:Int} (hk:0≤k∧k<c.workers*c.levels) (hj:0≤j∧j<2+c.deque):ckC c ((aav c).queues+k*(2+c.deque)+j)=if j<2 then 4 else 5:=by
 have e:=ag0 h
 have h4:=h.h
 have h3:=h.q
 have e1:(k+1)*(2+c.deque)≤c.workers*c.levels*(2+c.deque):=Int.mul_le_mul_of_nonneg_right (by omega) (by omega)
 have e2:(k+1)*(2+c.deque)=k*(2+c.deque)+(2+c.deque):=by rw [Int.add_mul,Int.one_mul]
 have e3:0≤k*(2+c.deque):=Int.mul_nonneg hk.1 (by omega)
 have e4:((aav c).queues+k*(2+c.deque)+j-(aav c).queues) % (2+c.deque)=j:=by
  have:(aav c).queues+k*(2+c.deque)+j-(aav c).queues=j+k*(2+c.deque):=by omega
  rw [this,Int.add_mul_emod_self_right,Int.emod_eq_of_lt hj.1 hj.2]
 unfold ckC
 rw [if_neg (by omega),if_neg (by omega),if_neg (by omega),if_neg (by omega),if_neg (by omega),if_pos (by omega),e4]
theorem aD5 (h:DecOk c) (w v:Int):Fr c (aat (aav c) w v).top:=by
 have h3:=h.q
 rcases agH h w v with e | ⟨k,h1,h2,e⟩<;>rw [e]
 ·exact aqt af0 (by omega)
 ·have:=aub h ⟨h1,h2⟩ (j:=0) (by omega)
  rw [Int.add_zero,if_pos (by omega)] at this
  exact aqt this (by omega)
theorem al2 (h:DecOk c) (w v:Int):Fr c (aat (aav c) w v).bottom:=by
 have h3:=h.q
 rcases agH h w v with e | ⟨k,h1,h2,e⟩<;>rw [e]
 ·exact aqt af0 (by omega)
 ·have:=aub h ⟨h1,h2⟩ (j:=1) (by omega)
  rw [if_pos (by omega)] at this
  exact aqt this (by omega)
theorem aoy (h:DecOk c) (w v:Int) {b:Int} (hb:0≤b):ckC c (agW (aat (aav c) w v) b)=5∨ckC c (agW (aat (aav c) w v) b)=9:=by
 have h3:=h.q
 rcases agH h w v with e | ⟨k,h1,h2,e⟩<;>rw [e]
 ·refine .inr ?_
  unfold agW
  rw [if_pos (by show (0:Int)<1; omega),af0]
 ·refine .inl ?_
  have e0:=ag0 h
  have h4:=h.h
  have h5:=h.rg
  have e1:=ayr (a:=b) (b:=c.deque) (by omega) hb
  have e2:k*(2+c.deque)≤c.workers*c.levels*(2+c.deque):=Int.mul_le_mul_of_nonneg_right (by omega) (by omega)
  have e3:0≤k*(2+c.deque):=Int.mul_nonneg h1 (by omega)
  unfold agW bq
  simp only
  rw [if_neg (by omega),aft (x:=c.deque) (by omega),aaM (x:=Int.tmod b c.deque) (aas (by omega)),aaM (aas (by omega))]
  have:=aub h ⟨h1,h2⟩ (j:=2+Int.tmod b c.deque) (by omega)
  rw [if_neg (by omega),← Int.add_assoc] at this
  exact this
theorem aFC (h:DecOk c) (w v:Int) {b x:Int} (hb:0≤b) (hx:0≤x∧x<c.tasks):CellOk c (agW (aat (aav c) w v) b) x:=by
 have e:=aoy h w v hb
 exact ⟨hx.1,fun k =>by omega,fun k =>hx.2,fun k =>by omega⟩
end
theorem ayh (x:Int):IntKind.u64.wrap x=x % 18446744073709551616:=by
 simp [IntKind.wrap,IntKind.signed,IntKind.bits]
theorem ahh (a:Int):0≤wu a:=(aG3 a).1
theorem awO (a b:Int):0≤orU a b:=ahh _
theorem anh (a b:Int):0≤ani a b:=ahh _
theorem aho {e:EnvP} {k a v b:Int}:(e.pt k a v).gt b=if b=a∧0≤a∧a<(e.m.cells.length:Int) then v else e.gt b:=by
 show (e.m.pt k a v).gt b=if _ then v else e.m.gt b
 unfold MemV.pt
 by_cases ha:0≤a∧a<(e.m.cells.length:Int)
 ·rw [if_pos ha]
  unfold MemV.gt
  simp only [List.length_set]
  by_cases hb:0≤b∧b<(e.m.cells.length:Int)
  ·rw [if_pos hb,if_pos hb]
   by_cases hab:b=a
   ·rw [if_pos ⟨hab,ha⟩,hab,ajL ha]
   ·rw [if_neg (fun h =>hab h.1)]
    show atL _ (e.m.cells.set a.toNat v) b=atL _ e.m.cells b
    unfold atL
    rw [List.getElem?_set_ne (by omega)]
  ·rw [if_neg hb,if_neg hb,if_neg (fun (h:b=a∧_) =>hb (by rw [h.1]; exact h.2))]
 ·rw [if_neg ha,if_neg (fun h =>ha h.2)]
theorem avu {e:EnvP} {a b:Int}:(e.lk a).gt b=e.gt b:=by
 have:(e.pt 1 a (e.gt a)).gt b=e.gt b:=by
  rw [aho]
  split
  ·rename_i h; rw [h.1]
  ·rfl
 exact this
structure MI (c:Cfg) (e:EnvP):Prop where
 d:DecOk c
 l:e.l=aav c
 cc:e.c=c
 ok:∀ a,CellOk c a (e.gt a)
def Pl (c:Cfg) (x:Ev):Prop:=(0≤x.task∧x.task<c.tasks)∧x.kind≠1∧x.kind≠3∧x.kind≠11∧x.kind≠12
abbrev Lv (c:Cfg) (e:EnvP) (t:Int):Int:=e.gt (abx (aav c) t)
structure Qt (c:Cfg) (e e':EnvP):Prop where
 i:MI c e'
 lv:∀ t,Lv c e' t=Lv c e t
 nx:e'.gt 0=e.gt 0
 ev:∃ l,e'.evs=e.evs++l∧∀ x∈l,Pl c x
section
variable {c:Cfg} {e e':EnvP} {a v k o t:Int}
theorem MI.p (h:MI c e) (a:Int):0≤e.gt a:=(h.ok a).p
theorem MI.lk (h:MI c e):MI c (e.lk a):=⟨h.d,h.l,h.cc,fun b =>by rw [avu]; exact h.ok b⟩
theorem MI.pt (h:MI c e) (hv:CellOk c a v):MI c (e.pt k a v):=⟨h.d,h.l,h.cc,fun b =>by
 rw [aho]
 split
 ·rename_i q; rw [q.1]; exact hv
 ·exact h.ok b⟩
theorem Qt.refl (h:MI c e):Qt c e e:=⟨h,fun _ =>rfl,rfl,[],by simp,fun x hx =>by cases hx⟩
theorem Qt.lk (h:MI c e):Qt c e (e.lk a):=⟨h.lk,fun _ =>avu,avu,[],by show e.evs=_; simp,fun x hx =>by cases hx⟩
theorem afM (h:DecOk c):ckC c (abx (aav c) t)=6∨(ckC c (abx (aav c) t)=9∧abx (aav c) t=-1):=by
 have e1:=asq h (t:=t) (f:=1) (by omega)
 have e2:=adH h (t:=t) (f:=1) (by omega)
 show ckC c (acU (aav c) t 1)=6∨(ckC c (acU (aav c) t 1)=9∧acU (aav c) t 1=-1)
 by_cases ht:0≤t∧t<c.tasks
 ·rw [e1,if_pos ht,if_pos rfl]; exact .inl rfl
 ·rw [e1,e2,if_neg ht,if_neg ht]; exact .inr ⟨rfl,rfl⟩
theorem aeW:ckC c 0=0:=by unfold ckC; rw [if_neg (by omega),if_pos rfl]
theorem Qt.wr (h:MI c e) (h0:ckC c a≠0) (h6:ckC c a≠6) (hv:CellOk c a v):Qt c e (e.pt k a v):=by
 refine ⟨h.pt hv,fun t =>?_,?_,[],by show e.evs=_; simp,fun x hx =>by cases hx⟩
 ·show (e.pt k a v).gt _=e.gt _
  rw [aho]
  split
  ·rename_i q
   rcases afM h.d (t:=t) with h1 | ⟨_,h1⟩
   ·rw [q.1] at h1; exact absurd h1 h6
   ·omega
  ·rfl
 ·rw [aho]
  split
  ·rename_i q
   rw [← q.1] at h0
   exact absurd aeW h0
  ·rfl
theorem Qt.fr (h:MI c e) (ha:Fr c a) (hv:0≤v):Qt c e (e.pt k a v):=.wr h ha.1 ha.2.2.2 (ha.ok hv)
theorem Qt.cas (h:MI c e) (ha:Fr c a) (hv:0≤v):Qt c e (e.cas a o v):=by
 refine Qt.fr h ha ?_
 show 0≤if _ then v else e.m.gt a
 split
 ·exact hv
 ·exact h.p a
theorem Qt.ring (h:MI c e) (w u:Int) {b:Int} (hb:0≤b) (hv:0≤v∧v<c.tasks):Qt c e (e.pt k (agW (aat (aav c) w u) b) v):=by
 have:=aoy h.d w u hb
 exact .wr h (by omega) (by omega) (aFC h.d w u hb hv)
def adO (c:Cfg) (k:Int):Prop:=0≤k∧ani k 65535<c.tasks
theorem Qt.slot (h:MI c e) {i:Int} (hv:adO c v):Qt c e (e.pt k (aeN (aav c) i) v):=by
 have:=aox h.d (i:=i)
 exact .wr h (by omega) (by omega) (aFB h.d hv.1 hv.2)
theorem Qt.em {w l:Int} (h:Qt c e e') (ht:0≤t∧t<c.tasks) (hk:k≠1∧k≠3∧k≠11∧k≠12):Qt c e (e'.em k w t o l):=by
 obtain ⟨m,hm,hp⟩:=h.ev
 refine ⟨⟨h.i.d,h.i.l,h.i.cc,h.i.ok⟩,h.lv,h.nx,m++[⟨k,w,t,o,l⟩],?_,fun x hx =>?_⟩
 ·show e'.evs++[_]=_
  rw [hm,List.append_assoc]
 ·rcases List.mem_append.1 hx with hx | hx
  ·exact hp x hx
  ·rw [List.mem_singleton.1 hx]
   exact ⟨ht,hk⟩
theorem Qt.pr {r:RecP} (h:Qt c e e'):Qt c e (e'.pr t r):=⟨⟨h.i.d,h.i.l,h.i.cc,h.i.ok⟩,h.lv,h.nx,h.ev⟩
theorem avt (h:MI c e) (w u:Int) {b:Int} (hb:0≤b):0≤wi (e.gt (agW (aat (aav c) w u) b))∧wi (e.gt (agW (aat (aav c) w u) b))<c.tasks:=by
 have h1:=h.ok (agW (aat (aav c) w u) b)
 have h2:=h.d.t
 have h3:e.gt (agW (aat (aav c) w u) b)<c.tasks:=by
  rcases aoy h.d w u hb with h4 | h4
  ·exact h1.r h4
  ·have:e.gt (agW (aat (aav c) w u) b)=0:=by
    show e.m.gt _=0
    unfold MemV.gt
    rw [if_neg]
    intro h5
    have h6:ckC c (agW (aat (aav c) w u) b)≠9:=by
     unfold ckC; repeat' split
     all_goals omega
    exact h6 h4
   omega
 have h4:=h1.p
 rw [aaM (aas (by omega))]
 exact ⟨h4,h3⟩
theorem aip (h:MI c e) (i:Int):adO c (e.gt (aeN (aav c) i)):=by
 have h1:=h.ok (aeN (aav c) i)
 have h2:=h.d.t
 refine ⟨h1.p,?_⟩
 rcases aox h.d (i:=i) with h4 | h4
 ·exact h1.s h4
 ·have:e.gt (aeN (aav c) i)=0:=by
   show e.m.gt _=0
   unfold MemV.gt
   rw [if_neg]
   intro h5
   have h6:ckC c (aeN (aav c) i)≠9:=by
    unfold ckC; repeat' split
    all_goals omega
   exact h6 h4
  rw [this]
  show ani 0 65535<_
  have:ani 0 65535=0:=by decide
  omega
theorem aw5 (h:MI c e) (t:Int):0≤Lv c e t∧Lv c e t<c.levels:=by
 have h1:=h.ok (abx (aav c) t)
 have h2:=h.d.l
 refine ⟨h1.p,?_⟩
 rcases afM h.d (t:=t) with h4 | ⟨_,h4⟩
 ·exact h1.l h4
 ·show e.m.gt (abx (aav c) t)<_
  rw [h4]
  unfold MemV.gt
  rw [if_neg (by omega)]
  omega
end
def Rs.Q {σ:Type} (P:σ→Prop) (F:Int→Int→Prop):Rs σ→Prop
 | .go s =>P s
 | .fin c v =>F c v
theorem Rs.Q.ite {σ:Type} {P:σ→Prop} {F:Int→Int→Prop} {p:Prop} [Decidable p] {a b:Rs σ} (h1:p→a.Q P F) (h2:¬ p→b.Q P F):(if p then a else b).Q P F:=by
 split
 ·exact h1 ‹_›
 ·exact h2 ‹_›
def TOk (c:Cfg) (t:Int):Prop:=0≤t∧t<c.tasks
def ano:OPushS→Prop
 | .l1 =>True
 | .l2 b =>0≤b
 | .l3 b =>0≤b
 | .l4 b =>0≤b
def aA7:OPopS→Prop
 | .l1 =>True
 | .l2 b =>0≤b
 | .l3 b _ =>0≤b
 | .l4 b _ =>0≤b
 | .l5 b _ =>0≤b
 | .l6 b _ =>0≤b
 | .l7 b _ =>0≤b
 | .l8 b _ =>0≤b
 | .l9 b _ =>0≤b
def avV (c:Cfg):StealS→Prop
 | .l1 =>True
 | .l2 t =>0≤t
 | .l3 t =>0≤t
 | .l4 _ v =>TOk c (wi v)
def aoF (c:Cfg):InsertS→Prop
 | .l1 =>True
 | .l2 _ =>True
 | .l3 _ _ k x =>adO c k∧adO c x
 | .l4 _ _ k x =>adO c k∧adO c x
 | .l5 _ _ k x =>adO c k∧adO c x
 | .l6 _ _ k x =>adO c k∧adO c x
def amo (c:Cfg):RemoveS→Prop
 | .l1 =>True
 | .l2 _ =>True
 | .l3 _ x =>adO c x
 | .l4 _ x y =>adO c x∧adO c y
 | .l5 _ _ _ x y z =>adO c x∧adO c y∧adO c z
 | .l6 _ _ _ x y z =>adO c x∧adO c y∧adO c z
 | .l7 _ _ _ x y z =>adO c x∧adO c y∧adO c z
 | .l8 _ _ _ x y z =>adO c x∧adO c y∧adO c z
section
variable {c:Cfg} {e:EnvP} {w v x:Int}
theorem aFu (h:MI c e) (hx:TOk c x) (s:OPushS) (hs:ano s):Qt c e (aei (aat (aav c) w v) x e s).2∧(aei (aat (aav c) w v) x e s).1.Q ano (fun _ _ =>True):=by
 have ht:=h.d.t
 cases s with
 | l1 =>exact ⟨.lk h,h.p _⟩
 | l2 b =>exact ⟨.lk h,.ite (fun _ =>trivial) fun _ =>hs⟩
 | l3 b =>exact ⟨.ring h _ _ hs (by rw [aft (by unfold TOk at hx; omega)]; exact hx),hs⟩
 | l4 b =>exact ⟨.fr h (al2 h.d _ _) (ahh _),trivial⟩
theorem aHO (h:MI c e) (s:OPopS) (hs:aA7 s):Qt c e (akM (aat (aav c) w v) e s).2∧(akM (aat (aav c) w v) e s).1.Q aA7 (fun r x =>r=1→TOk c x):=by
 cases s with
 | l1 =>exact ⟨.lk h,h.p _⟩
 | l2 b =>exact ⟨.lk h,.ite (fun _ =>fun h =>absurd h (by omega)) fun _ =>hs⟩
 | l3 b t =>exact ⟨.fr h (al2 h.d _ _) (ahh _),hs⟩
 | l4 b t =>exact ⟨.lk h,.ite (fun _ =>hs) fun _ =>.ite (fun _ =>hs) fun _ =>hs⟩
 | l5 b t =>exact ⟨.lk h,fun _ =>avt h _ _ (ahh _)⟩
 | l6 b t =>exact ⟨.cas h (aD5 h.d _ _) (ahh _),.ite (fun _ =>hs) fun _ =>hs⟩
 | l7 b t =>exact ⟨.fr h (al2 h.d _ _) hs,hs⟩
 | l8 b t =>exact ⟨.lk h,fun _ =>avt h _ _ (ahh _)⟩
 | l9 b t =>exact ⟨.fr h (al2 h.d _ _) hs,fun h =>absurd h (by omega)⟩
theorem aEF (h:MI c e) (s:StealS) (hs:avV c s):Qt c e (agD (aat (aav c) w v) e s).2∧(agD (aat (aav c) w v) e s).1.Q (avV c) (fun r x =>r=1→TOk c x):=by
 cases s with
 | l1 =>exact ⟨.lk h,h.p _⟩
 | l2 b =>exact ⟨.lk h,.ite (fun _ =>fun h =>absurd h (by omega)) fun _ =>hs⟩
 | l3 t =>exact ⟨.lk h,avt h _ _ hs⟩
 | l4 t u =>exact ⟨.cas h (aD5 h.d _ _) (ahh _),.ite (fun _ =>fun _ =>hs) fun _ =>fun h =>absurd h (by omega)⟩
theorem ayW {a b:Int} (h:MI c e) (s:ResetS):Qt c e (aeB (aaF (aav c) a) b (aat (aav c) w v) e s).2:=by
 cases s with
 | l1 =>exact .fr h (apR h.d) (anh _ _)
 | l2 =>exact .lk h
 | l3 x =>exact .lk h
 | l4 x =>exact .fr h (apR h.d) (awO _ _)
theorem aJL {a b:Int} (h:MI c e):Qt c e (aBN (aaF (aav c) a) b e):=.fr h (apR h.d) (awO _ _)
theorem akW {t:Int} (h:MI c e) (ht:TOk c t):Qt c e (aeb w t e):=by
 unfold aeb
 rw [h.l]
 split
 ·split
  ·exact (Qt.cas h (agm h.d) (by omega)).em ht (by omega)
  ·exact (Qt.cas h (agm h.d) (by omega)).pr.em ht (by omega)
 ·exact (Qt.cas h (agm h.d) (by omega)).em ht (by omega)
theorem atT {o:Int} (h:MI c e):Qt c e (aqq o e):=.cas h (apQ h.d (by omega)) (ahh _)
theorem az6 (h:MI c e):Qt c e (ar7 e):=.fr h (apQ h.d (by omega)) (by omega)
theorem ata (h:MI c e):ckC c (af3 w e)=3∨ckC c (af3 w e)=9:=by
 unfold af3
 rw [h.l]
 split
 ·exact .inr af0
 ·exact ap8 h.d
theorem av3 {j:Int} (h:MI c e):ckC c (ake v j e)=3∨ckC c (ake v j e)=9:=by
 unfold ake
 rw [h.l]
 split
 ·exact .inr af0
 ·exact ap8 h.d
theorem aoY (h:MI c e):Fr c (af3 w e):=aqt rfl (by have:=ata (w:=w) h; omega)
theorem aBp {j:Int} (h:MI c e):Fr c (ake v j e):=aqt rfl (by have:=av3 (v:=v) (j:=j) h; omega)
theorem TOk.zero (h:DecOk c):0≤(0:Int)∧0<c.tasks:=by have:=h.t; omega
theorem aEM (h:MI c e) (s:SleepS):Qt c e (ac5 w e s).2:=by
 have hz:=TOk.zero h.d
 cases s with
 | l1 =>exact .lk h
 | l2 ep =>exact .fr h (aoY h) (awO _ _)
 | l3 ep =>exact .lk h
 | l4 ep v =>
  simp only [ac5]
  split
  ·exact .lk h
  ·split
   ·exact (Qt.lk h).em hz (by omega)
   ·exact .lk h
 | l5 ep v s =>
  simp only [ac5]
  split
  ·exact (Qt.lk h).em hz (by omega)
  ·split
   ·exact (Qt.lk h).em hz (by omega)
   ·exact .lk h
 | l6 _ _ _ =>exact .fr h (aoY h) (anh _ _)
 | l7 _ _ _ =>exact .fr h (aoY h) (anh _ _)
theorem as1 (h:MI c e) (s:WakeS):Qt c e (adN w v e s).2:=by
 have hz:=TOk.zero h.d
 cases s with
 | l1 j =>exact .lk h
 | l2 j x =>exact .fr h (aBp h) (anh _ _)
 | l3 j x =>
  show Qt c e ((e.pt 6 (afL e.l x) _).em 18 w 0 x 0)
  rw [h.l]
  exact (Qt.fr h (aCL h.d) (ahh _)).em hz (by omega)
theorem aFj (h:MI c e) (s:ProbeS):Qt c e (aiL w e s).2:=by
 have g:∀ s i bm,Qt c e (af5 w e s i bm).2:=fun s i bm =>by
  unfold af5
  split
  ·exact .refl h
  ·simp only
   split
   ·exact .lk h
   ·exact .lk h
 cases s with
 | new =>exact g _ _ _
 | run s i bm =>exact g _ _ _
end
end
end Go.Proofs.YtidhehdanppcoaaGreat
