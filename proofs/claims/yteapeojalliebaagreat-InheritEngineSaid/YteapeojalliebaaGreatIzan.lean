/- The program's machines do what was said plainly,9: the client; what workers and the client leave. What is decoded is valid. The program's environment made anew,at a valid configuration. What is decoded is valid,also with other numbers of tasks and places. An engine: what holds between the entries of a script. The cells of an engine's memory by kinds: what each may hold; what the places of the layout are. What a step leaves alone: levels and Next; the machines that run none inside. The keys of the injector: what their low bits are. Raises; the machines that run others inside,up to Drain. -/
import Derived.Test.YteapeojalliebaaGreatIzam
import Derived.Test.YteapeojalliebaaGreatIzal
import Derived.Test.YteapeojalliebaaGreatIzai
set_option linter.all false
namespace Go.Proofs.YteapeojalliebaaGreat
section
open Go Go.RowKit
set_option maxRecDepth 100000
@[reducible] def aBN (me id : Int) (s : Sub) : ClieC → Int × MV × Bool
 | .n1 =>(1,.nil,true)
 | .a1 =>(1,.attempt ⟨o0,me,false⟩,false)
 | .n2 =>(2,.nil,true)
 | .n3 =>(3,.nil,true)
 | .n4 =>(4,.nil,true)
 | .n5 =>(5,.nil,true)
 | .n6 =>(6,.nil,true)
 | .a6 t =>(6,.insert (aty s.deadline id t),false)
 | .n7 =>(7,.nil,true)
 | .n8 =>(8,.nil,true)
 | .n9 =>(9,.nil,true)
 | .a9 t =>(9,.wake (aup me s.level t),false)
@[reducible] def atZ (subs : List Sub) (me : Int) (k : ClieS) : ClientV MV :=
 ⟨subs,me,k.i,(aBN me k.id (abH subs k.i) k.c).1,(aBN me k.id (abH subs k.i) k.c).2.1,(aBN me k.id (abH subs k.i) k.c).2.2,k.id,k.acc⟩
def aHW (subs:List Sub) (me:Int) (res:Option ((Bool×Unit)×(ClientV MV×EnvP×Unit))) (r:Bool×ClieS×EnvP):Prop:=res=some ((r.1,()),(atZ subs me r.2.1,r.2.2,()))
def arZ (subs:List Sub) (me i id ln:Int):MV :=
 if ln=1 then .attempt ⟨o0,me,false⟩ else if ln=3 then .alloc ⟨o0⟩ else if ln=6 then .insert ⟨o0,(abH subs i).deadline,id,1,0,0,0,0⟩ else if ln=8 then .release ⟨o0⟩ else if ln=9 then .wake ⟨o0,me,(abH subs i).level,1,0,0⟩ else .nil
section
variable [Tb] {K:Nat} {e:EnvP} {w:Int} {subs:List Sub} {me i id ln:Int} {m:MV} {f acc:Bool}
theorem ajg (hi:0≤i∧i<(subs.length:Int)) (h:1≤ln∧ln≤9):adx ⟨subs,me,i,ln,m,f,id,acc⟩=some ((arZ subs me i id ln,()),(⟨subs,me,i,ln,m,f,id,acc⟩,())):=by
 unfold adx
 simp only [hi,and_self,if_true,al7,afv,ain,agb,adc,bnd]
 rw [aaC (aai (show _∧_ by omega)),if_pos (by simp only [List.length_cons,List.length_nil]; omega)]
 have hv:ln=1∨ln=2∨ln=3∨ln=4∨ln=5∨ln=6∨ln=7∨ln=8∨ln=9:=by omega
 rcases hv with rfl | rfl | rfl | rfl | rfl | rfl | rfl | rfl | rfl<;>rfl
theorem azL (x:AttemptV):(SR1.spl (MV.attempt x)).isNone=false:=rfl
theorem aFL (x:AllocV):(SR1.spl (MV.alloc x)).isNone=false:=rfl
theorem azK (x:InsertV):(SR1.spl (MV.insert x)).isNone=false:=rfl
theorem aFK (x:ReleaseV):(SR1.spl (MV.release x)).isNone=false:=rfl
theorem azH (x:WakeV):(SR1.spl (MV.wake x)).isNone=false:=rfl
theorem aHW.ite {c:Prop} [Decidable c] {a b:Option ((Bool×Unit)×(ClientV MV×EnvP×Unit))} {r s:Bool×ClieS×EnvP} (h1:c→aHW subs me a r) (h2:¬ c→aHW subs me b s):aHW subs me (if c then a else b) (if c then r else s):=by
 by_cases h:c
 ·rw [if_pos h,if_pos h]; exact h1 h
 ·rw [if_neg h,if_neg h]; exact h2 h
theorem aEi (hK:EOk K e) (hk:K≤100000000) (k:ClieS) (hi0:0≤k.i):aHW subs me (aau (atZ subs me k) e) (anu subs me e k):=by
 have hl:e.evs.length≤999999999:=by have:=hK.ev; omega
 obtain ⟨i,id,acc,c⟩:=k
 have hi0:0≤i:=hi0
 unfold anu
 by_cases hov:(subs.length:Int)≤i
 ·rw [if_pos hov]
  simp only [aau,aax,hov,decide_true,bnd,if_true]
  rfl
 rw [if_neg hov]
 have hi:0≤i∧i<(subs.length:Int):=by omega
 have hm:∀ m v,aeJ { e with m:=m } v=some ((),({ e with m:=m,evs:=e.evs++[v] },())):=fun m v =>aco (e:={ e with m:=m }) hl
 cases c with
 | n1 =>
  obtain ⟨dn,x',h,ho,hd,hx⟩:=att (e:=e) (w:=me) (b:=false)
  rw [Bool.or_false] at hd
  simp only [o0] at h hx
  simp only [abR,aau,aax,hov,decide_false,bnd,Bool.not_true,Bool.not_false,Bool.false_eq_true,if_true,if_false,Int.reduceEq,ajg hi (show (1:Int)≤1∧(1:Int)≤9 by decide),arZ,azL,aef,abE,h]
  rcases Bool.eq_false_or_eq_true (e.hit 1 0) with hh | hh
  ·rw [hh] at hd
   subst hd
   have ho:=ho rfl
   simp only [hh,if_true] at ho ⊢
   simp only [ho,hi,and_self,aaU,aak,bnd,Bool.not_true,Bool.not_false,Bool.false_eq_true,if_true,if_false,Int.reduceEq]
   rfl
  ·rw [hh] at hd
   subst hd
   have hx:=hx rfl
   simp only [hh,hx,bnd,Bool.not_true,Bool.not_false,Bool.false_eq_true,if_true,if_false,Int.reduceEq]
   rfl
 | a1 =>
  obtain ⟨dn,x',h,ho,hd,hx⟩:=att (e:=e) (w:=me) (b:=false)
  rw [Bool.or_false] at hd
  simp only [o0] at h hx
  simp only [abR,aau,aax,hov,decide_false,bnd,Bool.not_true,Bool.not_false,Bool.false_eq_true,if_true,if_false,Int.reduceEq,azL,aef,abE,h,o0]
  rcases Bool.eq_false_or_eq_true (e.hit 1 0) with hh | hh
  ·rw [hh] at hd
   subst hd
   have ho:=ho rfl
   simp only [hh,if_true] at ho ⊢
   simp only [ho,hi,and_self,aaU,aak,bnd,Bool.not_true,Bool.not_false,Bool.false_eq_true,if_true,if_false,Int.reduceEq]
   rfl
  ·rw [hh] at hd
   subst hd
   have hx:=hx rfl
   simp only [hh,hx,bnd,Bool.not_true,Bool.not_false,Bool.false_eq_true,if_true,if_false,Int.reduceEq]
   rfl
 | n2 =>
  simp only [abR,aau,aax,hov,decide_false,bnd,Bool.not_true,Bool.not_false,Bool.false_eq_true,if_true,if_false,Int.reduceEq,ajg hi (show (1:Int)≤2∧(2:Int)≤9 by decide),arZ,al2,aba,hi,and_self,ag9,abG,abP,aak,hm]
  rw [acr]
  exact aHW.ite (fun _ =>rfl) fun _ =>rfl
 | n3 =>
  obtain ⟨x',h,ho⟩:=avQ (e:=e)
  simp only [abR,aau,aax,hov,decide_false,bnd,Bool.not_true,Bool.not_false,Bool.false_eq_true,if_true,if_false,Int.reduceEq,ajg hi (show (1:Int)≤3∧(3:Int)≤9 by decide),arZ,aFL,aef,abE,h,aaU,abP,aak,hi,and_self]
  by_cases ci:IsT e (wi (e.gt 0))
  ·rw [if_pos ci] at ho ⊢
   have hv:0≤wi (e.gt 0)∧wi (e.gt 0)<((abr e).recs.length:Int):=⟨ci.1,by have:=ci.2; have:=hK.ct; show _<(e.recs.length:Int); omega⟩
   simp only [ho,Int.reduceEq,if_false,hv,and_self,if_true]
   rfl
  ·rw [if_neg ci] at ho ⊢
   simp only [ho,if_true,aco (e:=abr e) hl,bnd]
   rfl
 | n4 =>
  simp only [abR,aau,aax,hov,decide_false,bnd,Bool.not_true,Bool.not_false,Bool.false_eq_true,if_true,if_false,Int.reduceEq,ajg hi (show (1:Int)≤4∧(4:Int)≤9 by decide),arZ,al2,aba,hi,and_self,agI,abA,aak]
  rfl
 | n5 =>
  simp only [abR,aau,aax,hov,decide_false,bnd,Bool.not_true,Bool.not_false,Bool.false_eq_true,if_true,if_false,Int.reduceEq,ajg hi (show (1:Int)≤5∧(5:Int)≤9 by decide),arZ,al2,aba,hi,and_self,aku,as8,abA,aak]
  rfl
 | n6 =>
  have h:=aso (e:=e) (d:=(abH subs i).deadline) (t:=id) .l1
  have hn:=anl (e:=e) (d:=(abH subs i).deadline) (t:=id) .l1
  revert h hn
  simp only [abR,aau,aax,hov,decide_false,bnd,Bool.not_true,Bool.not_false,Bool.false_eq_true,if_true,if_false,Int.reduceEq,ajg hi (show (1:Int)≤6∧(6:Int)≤9 by decide),arZ,azK,aef,abE,o0]
  rcases acy (abH subs i).deadline id e .l1 with ⟨r | ⟨c,y⟩,e'⟩<;>intro h hn
  ·simp only [aaV,o0] at h
   simp only [h,bnd,Bool.not_false,if_true]
   rfl
  ·simp only [aaV,o0] at h
   obtain ⟨x',h,ho⟩:=h
   have hl':e'.evs.length≤999999999:=by have h1:e'.evs.length≤e.evs.length+0:=hn.ev; have:=hK.ev; omega
   simp only [h,ho,aaU,aak,hi,and_self,aco hl',bnd,Bool.not_true,Bool.not_false,Bool.false_eq_true,if_true,if_false,Int.reduceEq,ne_eq]
   by_cases hc:c=0
   ·simp only [hc,not_true,if_true,if_false]; rfl
   ·simp only [hc,not_false_eq_true,if_true,if_false]; rfl
 | a6 t =>
  have h:=aso (e:=e) (d:=(abH subs i).deadline) (t:=id) t
  have hn:=anl (e:=e) (d:=(abH subs i).deadline) (t:=id) t
  revert h hn
  simp only [abR,aau,aax,hov,decide_false,bnd,Bool.not_true,Bool.not_false,Bool.false_eq_true,if_true,if_false,Int.reduceEq,azK,aef,abE]
  rcases acy (abH subs i).deadline id e t with ⟨r | ⟨c,y⟩,e'⟩<;>intro h hn
  ·simp only [aaV] at h
   simp only [h,bnd,Bool.not_false,if_true]
   rfl
  ·simp only [aaV] at h
   obtain ⟨x',h,ho⟩:=h
   have hl':e'.evs.length≤999999999:=by have h1:e'.evs.length≤e.evs.length+0:=hn.ev; have:=hK.ev; omega
   simp only [h,ho,aaU,aak,hi,and_self,aco hl',bnd,Bool.not_true,Bool.not_false,Bool.false_eq_true,if_true,if_false,Int.reduceEq,ne_eq]
   by_cases hc:c=0
   ·simp only [hc,not_true,if_true,if_false]; rfl
   ·simp only [hc,not_false_eq_true,if_true,if_false]; rfl
 | n7 =>
  simp only [abR,aau,aax,hov,decide_false,bnd,Bool.not_true,Bool.not_false,Bool.false_eq_true,if_true,if_false,Int.reduceEq,ajg hi (show (1:Int)≤7∧(7:Int)≤9 by decide),arZ,al2,aba,hi,and_self,afB,abA,aak]
  rfl
 | n8 =>
  obtain ⟨x',h,ho⟩:=ayg (e:=e)
  simp only [abR,aau,aax,hov,decide_false,bnd,Bool.not_true,Bool.not_false,Bool.false_eq_true,if_true,if_false,Int.reduceEq,ajg hi (show (1:Int)≤8∧(8:Int)≤9 by decide),arZ,aFK,aef,abE,h,aaU,ac6,aax,aak,hi,and_self]
  cases acc<;>rfl
 | n9 =>
  have h:=amp (e:=e) (w:=me) (v:=(abH subs i).level) hl (.l1 0)
  revert h
  simp only [abR,aau,aax,hov,decide_false,bnd,Bool.not_true,Bool.not_false,Bool.false_eq_true,if_true,if_false,Int.reduceEq,ajg hi (show (1:Int)≤9∧(9:Int)≤9 by decide),arZ,azH,aef,abE,o0]
  rcases aej me (abH subs i).level e (.l1 0) with ⟨r | ⟨c,y⟩,e'⟩<;>intro h
  ·simp only [aaV,o0] at h
   simp only [h,bnd,Bool.not_false,if_true]
   rfl
  ·simp only [aaV,o0] at h
   obtain ⟨x',h,ho⟩:=h
   simp only [h,ho,aaU,ac6,aax,aak,hi,and_self,bnd,Bool.not_true,Bool.not_false,Bool.false_eq_true,if_true,if_false,Int.reduceEq]
   rfl
 | a9 t =>
  have h:=amp (e:=e) (w:=me) (v:=(abH subs i).level) hl t
  revert h
  simp only [abR,aau,aax,hov,decide_false,bnd,Bool.not_true,Bool.not_false,Bool.false_eq_true,if_true,if_false,Int.reduceEq,azH,aef,abE]
  rcases aej me (abH subs i).level e t with ⟨r | ⟨c,y⟩,e'⟩<;>intro h
  ·simp only [aaV] at h
   simp only [h,bnd,Bool.not_false,if_true]
   rfl
  ·simp only [aaV] at h
   obtain ⟨x',h,ho⟩:=h
   simp only [h,ho,aaU,ac6,aax,aak,hi,and_self,bnd,Bool.not_true,Bool.not_false,Bool.false_eq_true,if_true,if_false,Int.reduceEq]
   rfl
theorem aoM (hK:EOk K e) (k:WorkS) (hc:k.c≠.top):Stp 2 e (acH w e k).2:=by
 obtain ⟨cur,vi,lv,x,c⟩:=k
 cases c with
 | top =>exact absurd rfl hc
 | t1 t s =>
  have h:=aCD (e:=e) (w:=w) (t:=t) s
  revert h
  simp only [acH,abU]
  rcases aa4 w t e s with ⟨r | ⟨c,y⟩,e'⟩<;>intro h
  ·exact h.le (by decide)
  ·exact h.le (by decide)
 | t2 s =>
  have h:=aFt (w:=w) (fun t =>hK.st) s
  revert h
  simp only [acH,abU]
  rcases alA w e s with ⟨r | ⟨c,y⟩,e'⟩<;>intro h
  ·exact h.le (by decide)
  ·exact h.le (by decide)
 | t3 s =>
  have h:=aD8 (e:=e) (w:=w) s
  revert h
  simp only [acH,abU]
  rcases abT w e s with ⟨r | ⟨c,y⟩,e'⟩<;>intro h
  ·exact h.le (by decide)
  ·exact h.le (by decide)
 | t4 s =>
  have h:=axN (e:=e) (w:=w) s
  revert h
  simp only [acH,abU]
  rcases akn w e s with ⟨r | ⟨c,y⟩,e'⟩<;>intro h
  ·exact h.le (by decide)
  ·exact h.le (by decide)
 | t5 s =>
  have h:=axu (e:=e) (q:=aaz e.l vi lv) s
  revert h
  simp only [acH,abU]
  rcases aiA (aaz e.l vi lv) e s with ⟨r | ⟨c,y⟩,e'⟩<;>intro h
  ·exact h.le (by decide)
  ·simp only
   split
   ·exact Stp.le (Stp.em h) (by decide)
   ·split<;>exact Stp.le h (by decide)
 | t6 =>exact (anw (w:=w) (t:=x) hK.st).le (by decide)
 | t7 s =>
  have h:=aIo (w:=w) hK s
  revert h
  simp only [acH,abU]
  rcases aui w e s with ⟨r | ⟨c,y⟩,e'⟩<;>intro h
  ·exact h.le (by decide)
  ·exact h.le (by decide)
 | t8 s =>
  have h:=aCQ (e:=e) (w:=w) s
  revert h
  simp only [acH,abU]
  rcases agD w e s with ⟨r | ⟨c,y⟩,e'⟩<;>intro h
  ·exact h.le (by decide)
  ·exact h.le (by decide)
 | t9 s =>
  have h:=axE (e:=e) (a:=aaK e.l vi) (b:=lv) (q:=aaz e.l vi lv) s
  revert h
  simp only [acH,abU]
  rcases agE (aaK e.l vi) lv (aaz e.l vi lv) e s with ⟨r | ⟨c,y⟩,e'⟩<;>intro h
  ·exact h.le (by decide)
  ·exact h.le (by decide)
theorem auo {cur vi lv x:Int}:acH w e ⟨cur,vi,lv,x,abU w e ⟨cur,vi,lv,x,.top⟩⟩=acH w e ⟨cur,vi,lv,x,.top⟩:=by
 unfold abU
 simp only
 by_cases ha:e.c.age=0
 ·simp only [acH,abU,ha,if_true]
 ·simp only [acH,abU,ha,if_false]
theorem aFl (hK:EOk K e) (k:WorkS):Stp 2 e (acH w e k).2:=by
 obtain ⟨cur,vi,lv,x,c⟩:=k
 cases c with
 | top =>
  rw [← auo]
  exact aoM hK _ (show abU w e ⟨cur,vi,lv,x,.top⟩≠.top from aqd)
 | _ =>exact aoM hK _ (fun h =>by cases h)
theorem aoL (hK:EOk K e) (k:WorkS) (hc:k.c≠.top) (hW:ai4 K (ab9 e) k) (hK1:1≤K):ai4 (K+1) (ab9 e) (acH w e k).1:=by
 obtain ⟨cur,vi,lv,x,c⟩:=k
 have hr0:∀ t,aJ6 (K+1) (aIr t):=fun t =>⟨by simp [aIr],by simp [aIr]⟩
 cases c with
 | top =>exact absurd rfl hc
 | t1 t s =>
  simp only [acH,abU]
  split<;>trivial
 | t2 s =>
  simp only [acH,abU]
  split
  ·trivial
  ·simp only
   split
   ·exact hr0 _
   ·exact (rfl:aFd.direct=false)
 | t3 s =>
  simp only [acH,abU]
  split
  ·rename_i h; exact aD7 hW h
  ·simp only
   split
   ·trivial
   ·split
    ·trivial
    ·unfold ai4 ay5
     simp only
     split<;>first | trivial | (rename_i h; split at h<;>cases h; trivial) | (rename_i h; split at h<;>cases h)
 | t4 s =>
  simp only [acH,abU]
  split
  ·rename_i h; exact aDa hK.wk hW h
  ·simp only
   split<;>trivial
 | t5 s =>
  simp only [acH,abU]
  split
  ·trivial
  ·split
   ·trivial
   ·split<;>trivial
 | t6 =>
  simp only [acH,abU]
  split
  ·exact hr0 _
  ·trivial
 | t7 s =>
  simp only [acH,abU]
  split
  ·rename_i h
   have h1:=aIn hW.1 h
   exact ⟨h1.1,by have:=hW.2; omega⟩
  ·trivial
 | t8 s =>
  simp only [acH,abU]
  split<;>trivial
 | t9 s =>
  simp only [acH,abU]
  split<;>trivial
theorem aFk (hK:EOk K e) (k:WorkS) (hW:ai4 K (ab9 e) k) (hK1:1≤K):ai4 (K+1) (ab9 e) (acH w e k).1:=by
 obtain ⟨cur,vi,lv,x,c⟩:=k
 cases c with
 | top =>
  rw [← auo]
  refine aoL hK _ (show abU w e ⟨cur,vi,lv,x,.top⟩≠.top from aqd) ?_ hK1
  unfold abU
  simp only
  split<;>trivial
 | _ =>exact aoL hK _ (fun h =>by cases h) hW hK1
theorem aHv (hK:EOk K e) (k:ClieS):Stp 2 e (anu subs me e k).2.2:=by
 obtain ⟨i,id,acc,c⟩:=k
 unfold anu
 split
 ·exact Stp.refl.le (by decide)
 cases c with
 | n1 =>exact Stp.le awL (by decide)
 | a1 =>exact Stp.le awL (by decide)
 | n2 =>
  simp only [abR]
  split
  ·exact Stp.le (Stp.em Stp.lk) (by decide)
  ·exact Stp.le Stp.lk (by decide)
 | n3 =>
  simp only [abR]
  split
  ·exact Stp.le (Stp.pr aqa fun K h =>Nat.zero_le _) (by decide)
  ·exact Stp.le (Stp.em aqa) (by decide)
 | n4 =>exact Stp.le (Stp.pt (by decide)) (Nat.zero_le _)
 | n5 =>exact Stp.le (Stp.pt (by decide)) (Nat.zero_le _)
 | n6 =>
  have h:=anl (e:=e) (d:=(abH subs i).deadline) (t:=id) .l1
  revert h
  simp only [abR]
  rcases acy (abH subs i).deadline id e .l1 with ⟨r | ⟨c,y⟩,e'⟩<;>intro h
  ·exact Stp.le h (by decide)
  ·simp only
   split
   ·exact Stp.le (Stp.em h) (by decide)
   ·exact Stp.le h (by decide)
 | a6 t =>
  have h:=anl (e:=e) (d:=(abH subs i).deadline) (t:=id) t
  revert h
  simp only [abR]
  rcases acy (abH subs i).deadline id e t with ⟨r | ⟨c,y⟩,e'⟩<;>intro h
  ·exact Stp.le h (by decide)
  ·simp only
   split
   ·exact Stp.le (Stp.em h) (by decide)
   ·exact Stp.le h (by decide)
 | n7 =>exact Stp.le (Stp.pt (by decide)) (Nat.zero_le _)
 | n8 =>
  simp only [abR]
  split
  ·exact Stp.le awS (by decide)
  ·exact Stp.le (show Stp 0 e (aBM subs _ (avr e)).2.2 from awS) (by decide)
 | n9 =>
  have h:=aqe (e:=e) (w:=me) (v:=(abH subs i).level) (.l1 0)
  revert h
  simp only [abR]
  rcases aej me (abH subs i).level e (.l1 0) with ⟨r | ⟨c,y⟩,e'⟩<;>intro h<;>exact Stp.le h (by decide)
 | a9 t =>
  have h:=aqe (e:=e) (w:=me) (v:=(abH subs i).level) t
  revert h
  simp only [abR]
  rcases aej me (abH subs i).level e t with ⟨r | ⟨c,y⟩,e'⟩<;>intro h<;>exact Stp.le h (by decide)
end
end
section
open Go
variable [Tb]
theorem aiE (b:List Int) (l:List (List Int)) (hl:l.length≤1000000):aaD (arf b l) fun o =>o.1.1=true→b.length≤400∧∀ x∈l,x.length≤400:=by
 unfold arf
 refine aaD.bind (P:=fun z =>(∀ o,z=.inr o→o.1.1=false)∧(∀ y,z=.inl y→∀ x∈l,x.length≤400)) (abj (fun x =>0≤x.1∧x.1≤(l.length:Int)∧∀ i:Nat,(i:Int)<x.1→∀ y,l[i]?=some y→y.length≤400) (fun x =>((l.length:Int)-x.1).toNat) (fun self x ⟨q0,q1,q2⟩ ih =>?_) _ _ ⟨Int.le_refl 0,by show (0:Int)≤(l.length:Int); omega,fun i hi =>by omega⟩ (by show ((l.length:Int)-0).toNat<_; omega)) fun z hz =>?_
 rotate_left
 ·have e2:wi (x.1+1)=x.1+1:=aaC (aai (by omega))
  rw [e2]
  refine aaD.ite (fun hlt =>.guard ⟨q0,hlt⟩ fun _ =>aaD.ite (fun _ =>.some_ ⟨fun o e =>(by cases e; rfl),fun y e =>(by cases e)⟩) fun h4 =>ih _ ⟨by show 0≤x.1+1; omega,by show x.1+1≤(l.length:Int); omega,fun i hi y hy =>?_⟩ (by show ((l.length:Int)-(x.1+1)).toNat<((l.length:Int)-x.1).toNat; omega)) fun hlt =>.some_ ⟨fun o e =>(by cases e),fun y e x' hx' =>?_⟩
  ·by_cases hi2:(i:Int)<x.1
   ·exact q2 i hi2 y hy
   ·have hi3:i=x.1.toNat:=by have:(i:Int)<x.1+1:=hi; omega
    have h5:=aff (d:=([]:List Int)) (xs:=l) (i:=x.1) ⟨q0,hlt⟩
    rw [hi3,h5] at hy
    cases hy
    omega
  ·obtain ⟨i,hi,rfl⟩:=List.getElem_of_mem hx'
   exact q2 i (by omega) _ (List.getElem?_eq_getElem hi)
 ·rcases z with y | o
  ·refine .some_ fun e =>⟨?_,hz.2 y rfl⟩
   have:((b.length:Nat):Int)≤400:=of_decide_eq_true e
   omega
  ·exact .some_ fun e =>by rw [hz.1 o rfl] at e; cases e
structure DecOk (c:Cfg):Prop where
 w:1≤c.workers∧c.workers≤4
 l:1≤c.levels∧c.levels≤4
 k:1≤c.classes∧c.classes≤3∧c.classes≤c.levels
 t:1≤c.tasks∧c.tasks≤12
 q:1≤c.deque∧c.deque≤4
 h:1≤c.heap∧c.heap≤4
 b:1≤c.batch∧c.batch≤c.deque
 a:0≤c.age∧c.age≤5
 p:1≤c.patience∧c.patience≤8
 pn:1≤c.progs.length∧c.progs.length≤4
 pl:∀ x∈c.progs,x.length≤5
 ps:∀ x∈c.progs,∀ i∈x,(i.op=0∧1≤i.a∧i.a≤4∧i.b=0)∨(i.op=1∧0≤i.a∧i.a<(c.progs.length:Int)∧0≤i.b∧i.b<c.levels)∨(i.op=2∧0≤i.a∧i.a≤3∧i.b=0)
 sn:c.subs.length≤5
 ss:∀ s∈c.subs,(0≤s.prog∧s.prog<(c.progs.length:Int))∧(0≤s.level∧s.level<c.levels)∧0≤s.deadline∧s.deadline≤15
structure CodOk (N:Int) (r:CodV):Prop where
 by_:∀ x∈r.inn,0≤x∧x≤255
 ln:r.inn.length≤1000000
 at_:0≤r.at_∧r.at_≤N
theorem acp {N:Int} {r:CodV} {k:Int} (h:CodOk N r) (hN:N≤1000000) (h1:1≤k) (h2:k≤1000):aaD (abK r k) fun o =>(0≤o.1.1∧o.1.1<k)∧CodOk (N+1) o.2.1:=by
 have ha:=h.at_
 have e1:wi (r.at_+1)=r.at_+1:=aaC (aai (by omega))
 unfold abK
 rw [e1]
 refine aaD.ite (fun hlt =>.guard ⟨ha.1,hlt⟩ fun _ =>.guard (by omega) fun _ =>.some_ ⟨?_,h.by_,h.ln,by show 0≤r.at_+1; omega,by show r.at_+1≤N+1; omega⟩) fun _ =>.some_ ⟨⟨Int.le_refl 0,by show (0:Int)<k; omega⟩,h.by_,h.ln,by show 0≤r.at_+1; omega,by show r.at_+1≤N+1; omega⟩
 have hb:=h.by_ _ (ar2 (d:=dfR 17) (xs:=r.inn) (i:=r.at_) ⟨ha.1,hlt⟩)
 have e2:wi (aj4 r.inn r.at_)=aj4 r.inn r.at_:=aaC (aai (x:=aj4 r.inn r.at_) ⟨by have:=hb.1; exact Int.le_trans (by decide) this,by have:=hb.2; exact Int.le_trans this (by decide)⟩)
 rw [e2]
 exact asH h1 hb.1
theorem CodOk.up {N M:Int} {r:CodV} (h:CodOk N r) (hl:N≤M):CodOk M r:=⟨h.by_,h.ln,h.at_.1,by have:=h.at_; omega⟩
def axe (n lv:Int) (i:Ins):Prop:=(i.op=0∧1≤i.a∧i.a≤4∧i.b=0)∨(i.op=1∧0≤i.a∧i.a<n∧0≤i.b∧i.b<lv)∨(i.op=2∧0≤i.a∧i.a≤3∧i.b=0)
def aLr (n lv:Int) (s:Sub):Prop:=(0≤s.prog∧s.prog<n)∧(0≤s.level∧s.level<lv)∧0≤s.deadline∧s.deadline≤15
structure NumOk (c:Cfg):Prop where
 w:1≤c.workers∧c.workers≤4
 l:1≤c.levels∧c.levels≤4
 k:1≤c.classes∧c.classes≤3∧c.classes≤c.levels
 t:1≤c.tasks∧c.tasks≤12
 q:1≤c.deque∧c.deque≤4
 h:1≤c.heap∧c.heap≤4
 b:1≤c.batch∧c.batch≤c.deque
 a:0≤c.age∧c.age≤5
 p:1≤c.patience∧c.patience≤8
theorem w1p {x:Int} (h:0≤x) (h2:x≤1000000):wi (1+x)=1+x:=aaC (aai (by omega))
theorem awY {b:List Int} (hb:∀ x∈b,0≤x∧x≤255) (hl:b.length≤1000000):aaD (apJ b) fun o =>DecOk o.1.1:=by
 unfold apJ
 refine (acp (N:=0) (k:=4) ⟨hb,hl,Int.le_refl 0,Int.le_refl 0⟩ (by decide) (by decide) (by decide)).bind fun r1 h1 =>?_
 refine (acp (k:=4) h1.2 (by decide) (by decide) (by decide)).bind fun r2 h2 =>?_
 have w1:=w1p h1.1.1 (by omega)
 have w2:=w1p h2.1.1 (by omega)
 rw [w1,w2]
 refine (acp h2.2 (by decide) (by split<;>omega) (by split<;>omega)).bind fun r3 h3 =>?_
 refine (acp (k:=12) h3.2 (by decide) (by decide) (by decide)).bind fun r4 h4 =>?_
 refine (acp (k:=4) h4.2 (by decide) (by decide) (by decide)).bind fun r5 h5 =>?_
 refine (acp (k:=4) h5.2 (by decide) (by decide) (by decide)).bind fun r6 h6 =>?_
 have h3':r3.1.1<3∧r3.1.1<1+r2.1.1:=by
  have:=h3.1.2
  split at this<;>omega
 have w3:=w1p h3.1.1 (by omega)
 have w4:=w1p h4.1.1 (by omega)
 have w5:=w1p h5.1.1 (by omega)
 have w6:=w1p h6.1.1 (by omega)
 rw [w3,w4,w5,w6]
 refine (acp h6.2 (by decide) (by omega) (by omega)).bind fun r7 h7 =>?_
 refine (acp (k:=6) h7.2 (by decide) (by decide) (by decide)).bind fun r8 h8 =>?_
 refine (acp (k:=8) h8.2 (by decide) (by decide) (by decide)).bind fun r9 h9 =>?_
 refine (acp (k:=4) h9.2 (by decide) (by decide) (by decide)).bind fun r10 h10 =>?_
 have w7:=w1p h7.1.1 (by omega)
 have w9:=w1p h9.1.1 (by omega)
 have w10:=w1p h10.1.1 (by omega)
 rw [w7,w9,w10]
 refine aaD.bind (P:=fun z =>CodOk 1000 z.2.1∧NumOk z.2.2.1∧z.2.2.1.levels=1+r2.1.1∧(z.2.2.1.progs.length:Int)=1+r10.1.1∧(∀ p∈z.2.2.1.progs,p.length≤5∧∀ i∈p,axe (1+r10.1.1) (1+r2.1.1) i)∧z.2.2.1.subs=[])
  (abj (fun x =>0≤x.1∧x.1≤1+r10.1.1∧CodOk (10+30*x.1) x.2.1∧NumOk x.2.2.1∧x.2.2.1.levels=1+r2.1.1∧(x.2.2.1.progs.length:Int)=x.1∧(∀ p∈x.2.2.1.progs,p.length≤5∧∀ i∈p,axe (1+r10.1.1) (1+r2.1.1) i)∧x.2.2.1.subs=[])
   (fun x =>(1+r10.1.1-x.1).toNat) (fun self x ⟨q0,q1,q2,q3,q4,q5,q6,q7⟩ ih =>?step) _ _ ⟨Int.le_refl 0,by show (0:Int)≤1+r10.1.1; omega,h10.2,?num,rfl,rfl,fun p hp =>(by cases hp),rfl⟩ (by show (1+r10.1.1-0).toNat<_; omega)) fun z hz =>?cont
 case step =>
  have f1:wi (x.1+1)=x.1+1:=aaC (aai (by omega))
  refine aaD.ite (fun hlt =>?_) fun hlt =>.some_ ⟨q2.up (by omega),q3,q4,by show (x.2.2.1.progs.length:Int)=_; omega,q6,q7⟩
  have hlen:(x.2.2.1.progs.length:Int)<10:=by omega
  rw [f1]
  refine (acp (k:=6) q2 (by omega) (by decide) (by decide)).bind fun r14 h14 =>?_
  refine aaD.bind (P:=fun z =>z.1.length≤5∧(∀ i∈z.1,axe (1+r10.1.1) (1+r2.1.1) i)∧CodOk (10+30*x.1+26) z.2.2.1)
   (abj (fun y =>0≤y.2.1∧(y.1.length:Int)+y.2.1=r14.1.1∧CodOk (10+30*x.1+1+5*(r14.1.1-y.2.1)) y.2.2.1∧∀ i∈y.1,axe (1+r10.1.1) (1+r2.1.1) i)
    (fun y =>y.2.1.toNat) (fun self y ⟨p0,p1,p2,p3⟩ ih =>?_) _ _ ⟨h14.1.1,by show ((0:Nat):Int)+r14.1.1=_; omega,h14.2.up (by show 10+30*x.1+1≤10+30*x.1+1+5*(r14.1.1-r14.1.1); omega),fun i hi =>(by cases hi)⟩ (by show r14.1.1.toNat<_; omega)) fun z hz =>?_
  ·refine .guard (by show (((x.2.2.1.progs.length+1:Nat)):Int)<_; omega) fun _ =>ih _ ⟨by show 0≤x.1+1; omega,by show x.1+1≤_; omega,hz.2.2.up (by show 10+30*x.1+26≤10+30*(x.1+1); omega),⟨q3.w,q3.l,q3.k,q3.t,q3.q,q3.h,q3.b,q3.a,q3.p⟩,q4,?_,?_,q7⟩ ?_
   ·show (((x.2.2.1.progs++[z.1]).length:Nat):Int)=x.1+1
    rw [List.length_append,List.length_singleton]; omega
   ·intro p hp
    rcases List.mem_append.1 hp with hp | hp
    ·exact q6 p hp
    ·rw [List.mem_singleton] at hp; subst hp; exact ⟨hz.1,hz.2.1⟩
   ·show (1+r10.1.1-(x.1+1)).toNat<(1+r10.1.1-x.1).toNat
    omega
  ·have f2:wi (y.2.1-1)=y.2.1-1:=aaC (aai (by omega))
   have hyl:y.1.length≤5:=by omega
   refine aaD.ite (fun hlt2 =>?_) fun hlt2 =>.some_ ⟨hyl,p3,p2.up (by omega)⟩
   rw [f2,q4]
   have nx:∀ (u:Ins) (r:CodV),axe (1+r10.1.1) (1+r2.1.1) u→CodOk (10+30*x.1+1+5*(r14.1.1-(y.2.1-1))) r→aaD (if (((y.1.length+([u]:List Ins).length:Nat)):Int)<1000000000000 then self (y.1++[u],y.2.1-1,r,()) else none) fun z =>z.1.length≤5∧(∀ i∈z.1,axe (1+r10.1.1) (1+r2.1.1) i)∧CodOk (10+30*x.1+26) z.2.2.1:=fun u r hu hr =>
    .guard (by show (((y.1.length+1:Nat)):Int)<_; omega) fun _ =>ih _ ⟨by show 0≤y.2.1-1; omega,by
     show (((y.1++[u]).length:Nat):Int)+(y.2.1-1)=_
     rw [List.length_append,List.length_singleton]; omega,hr,fun i hi =>by
     rcases List.mem_append.1 hi with hi | hi
     ·exact p3 i hi
     ·rw [List.mem_singleton] at hi; subst hi; exact hu⟩ (by show (y.2.1-1).toNat<y.2.1.toNat; omega)
   refine (acp (k:=3) p2 (by omega) (by decide) (by decide)).bind fun r18 h18 =>?_
   refine aaD.ite (fun e0 =>?_) fun e0 =>aaD.ite (fun e1 =>?_) fun e1 =>?_
   ·refine (acp (k:=4) h18.2 (by omega) (by decide) (by decide)).bind fun r19 h19 =>?_
    rw [w1p h19.1.1 (by omega)]
    exact nx _ _ (.inl ⟨e0,by show 1≤1+r19.1.1; omega,by show 1+r19.1.1≤4; omega,rfl⟩) (h19.2.up (by omega))
   ·refine (acp (k:=1+r10.1.1) h18.2 (by omega) (by omega) (by omega)).bind fun r20 h20 =>?_
    refine (acp (k:=1+r2.1.1) h20.2 (by omega) (by omega) (by omega)).bind fun r21 h21 =>?_
    exact nx _ _ (.inr (.inl ⟨e1,h20.1.1,h20.1.2,h21.1.1,h21.1.2⟩)) (h21.2.up (by omega))
   ·refine (acp (k:=4) h18.2 (by omega) (by decide) (by decide)).bind fun r22 h22 =>?_
    exact nx _ _ (.inr (.inr ⟨by show r18.1.1=2; omega,h22.1.1,by show r22.1.1≤3; omega,rfl⟩)) (h22.2.up (by omega))
 case num =>
  refine ⟨?_,?_,?_,?_,?_,?_,?_,?_,?_⟩
  ·exact ⟨by show 1≤1+r1.1.1; omega,by show 1+r1.1.1≤4; omega⟩
  ·exact ⟨by show 1≤1+r2.1.1; omega,by show 1+r2.1.1≤4; omega⟩
  ·exact ⟨by show 1≤1+r3.1.1; omega,by show 1+r3.1.1≤3; omega,by show 1+r3.1.1≤1+r2.1.1; omega⟩
  ·exact ⟨by show 1≤1+r4.1.1; omega,by show 1+r4.1.1≤12; omega⟩
  ·exact ⟨by show 1≤1+r5.1.1; omega,by show 1+r5.1.1≤4; omega⟩
  ·exact ⟨by show 1≤1+r6.1.1; omega,by show 1+r6.1.1≤4; omega⟩
  ·exact ⟨by show 1≤1+r7.1.1; omega,by show 1+r7.1.1≤1+r5.1.1; omega⟩
  ·exact ⟨h8.1.1,by show r8.1.1≤5; omega⟩
  ·exact ⟨by show 1≤1+r9.1.1; omega,by show 1+r9.1.1≤8; omega⟩
 case cont =>
  obtain ⟨g1,g2,g3,g4,g5,g6⟩:=hz
  refine (acp (k:=6) g1 (by decide) (by decide) (by decide)).bind fun r23 h23 =>?_
  refine aaD.bind (P:=fun y =>DecOk y.2.2.1)
   (abj (fun y =>0≤y.1∧(y.2.2.1.subs.length:Int)+y.1=r23.1.1∧CodOk (1001+5*(r23.1.1-y.1)) y.2.1∧NumOk y.2.2.1∧y.2.2.1.levels=1+r2.1.1∧(y.2.2.1.progs.length:Int)=1+r10.1.1∧(∀ p∈y.2.2.1.progs,p.length≤5∧∀ i∈p,axe (1+r10.1.1) (1+r2.1.1) i)∧∀ s∈y.2.2.1.subs,aLr (1+r10.1.1) (1+r2.1.1) s)
    (fun y =>y.1.toNat) (fun self y ⟨p0,p1,p2,p3,p4,p5,p6,p7⟩ ih =>?_) _ _ ⟨h23.1.1,by show ((z.2.2.1.subs.length:Nat):Int)+r23.1.1=r23.1.1; rw [g6]; show ((0:Nat):Int)+r23.1.1=r23.1.1; omega,h23.2.up (by show (1001:Int)≤1001+5*(r23.1.1-r23.1.1); omega),g2,g3,g4,g5,fun s hs =>by
     have hs2:s∈z.2.2.1.subs:=hs
     rw [g6] at hs2; cases hs2⟩ (by show r23.1.1.toNat<_; omega)) fun y hy =>.some_ hy
  have f2:wi (y.1-1)=y.1-1:=aaC (aai (by omega))
  have hyl:y.2.2.1.subs.length≤5:=by omega
  refine aaD.ite (fun hlt =>?_) fun hlt =>.some_ ⟨p3.w,p3.l,p3.k,p3.t,p3.q,p3.h,p3.b,p3.a,p3.p,by show 1≤y.2.2.1.progs.length∧y.2.2.1.progs.length≤4; omega,fun x hx =>(p6 x hx).1,fun x hx i hi =>by
   have:=(p6 x hx).2 i hi
   rw [p5,p4]; exact this,hyl,fun s hs =>by
   have:=p7 s hs
   rw [p5,p4]; exact this⟩
  rw [f2,p4]
  refine (acp (k:=1+r10.1.1) p2 (by omega) (by omega) (by omega)).bind fun r27 h27 =>?_
  refine (acp (k:=1+r2.1.1) h27.2 (by omega) (by omega) (by omega)).bind fun r28 h28 =>?_
  refine (acp (k:=16) h28.2 (by omega) (by omega) (by omega)).bind fun r29 h29 =>?_
  refine .guard (by show (((y.2.2.1.subs.length+1:Nat)):Int)<_; omega) fun _ =>ih _ ⟨by show 0≤y.1-1; omega,?_,h29.2.up (by show 1001+5*(r23.1.1-y.1)+1+1+1≤1001+5*(r23.1.1-(y.1-1)); omega),⟨p3.w,p3.l,p3.k,p3.t,p3.q,p3.h,p3.b,p3.a,p3.p⟩,p4,p5,p6,?_⟩ (by show (y.1-1).toNat<y.1.toNat; omega)
  ·show (((y.2.2.1.subs++[_]).length:Nat):Int)+(y.1-1)=_
   rw [List.length_append,List.length_singleton]; omega
  ·intro s hs
   rcases List.mem_append.1 hs with hs | hs
   ·exact p7 s hs
   ·rw [List.mem_singleton] at hs; subst hs
    exact ⟨h27.1,h28.1,h29.1.1,by show r29.1.1≤15; omega⟩
end
section
open Go Go.RowKit
set_option maxRecDepth 100000
variable [Tb]
theorem atl {α β:Type} (a:α) (f:α→Option β):(some a).bind f=f a:=rfl
structure LenOk (c:Cfg):Prop where
 ps:c.progs.length≤1000000
 pl:∀ p∈c.progs,p.length≤1000000
 ss:c.subs.length≤1000000
theorem auS {lv np:Int}:∀ {ps:List (List Ins)},aa0 lv np ps=0→∀ p∈ps,p.length≤32
 | [],_,p,h =>by cases h
 | q::ps,h,p,hm =>by
  unfold aa0 at h
  split at h
  ·omega
  ·split at h
   ·rcases List.mem_cons.1 hm with e | e
    ·subst e; omega
    ·exact auS h p e
   ·omega
theorem ams {c:Cfg} (h:adI c=0):aiR c=true∧c.progs.length≤32∧(∀ p∈c.progs,p.length≤32)∧c.subs.length≤64:=by
 unfold adI at h
 split at h
 ·omega
 ·rename_i hn
  split at h
  ·omega
  ·rename_i hp
   have hp0:adb c=0:=by omega
   unfold adb at hp0
   split at hp0
   ·omega
   ·rename_i hl
    simp only [inB,Bool.not_eq_true',Bool.and_eq_false_iff,decide_eq_false_iff_not,not_or,Classical.not_not,Bool.not_eq_false,Bool.and_eq_true,decide_eq_true_eq] at hl
    refine ⟨by simpa using hn,by omega,auS hp0,?_⟩
    unfold aeI at h
    split at h
    ·omega
    ·omega
theorem LenOk.of {c:Cfg} (h:adI c=0):LenOk c:=by
 obtain ⟨_,h1,h2,h3⟩:=ams h
 exact ⟨by omega,fun p hp =>by have:=h2 p hp; omega,by omega⟩
abbrev ClS:=Int×Int×Int×Int×Int×Int×Int×Int×Int×List (List Ins)×List Sub×Unit
def clS (c:Cfg):ClS:=(c.workers,c.levels,c.classes,c.tasks,c.deque,c.heap,c.batch,c.age,c.patience,c.progs,c.subs,())
theorem azQ {α:Type} {xs:List α} {i:Nat} {x:α} (h:xs[i]?=some x):xs.set i x=xs:=by
 obtain ⟨hlt,rfl⟩:=List.getElem?_eq_some_iff.1 h
 simp
theorem ayv {c:Cfg} (h:LenOk c):agd c=some ((c,()),()):=by
 have hg:aaD (agd c) fun o =>o.1.1=c:=by
  unfold agd
  have e0:aiZ c.progs=some ((c.progs,()),()):=by unfold aiZ; rw [if_pos h.ps]
  rw [e0,atl]
  refine aaD.bind (P:=fun z =>z.2.1=clS c) (abj (fun x =>x.2.1=clS c∧0≤x.1∧x.1≤(c.progs.length:Int)) (fun x =>((c.progs.length:Int)-x.1).toNat) (fun self x ⟨q0,q1,q2⟩ ih =>?_) _ _ ⟨rfl,Int.le_refl 0,by show (0:Int)≤_; omega⟩ (by show ((c.progs.length:Int)-0).toNat<_; have:=h.ps; omega)) fun z hz =>?_
  rotate_left
  ·obtain ⟨i,s,u⟩:=x
   simp only at q0 q1 q2
   subst q0
   refine aaD.ite (fun hlt =>?_) fun _ =>.some_ rfl
   have hin:0≤i∧i<((c.progs.length:Nat):Int):=⟨q1,hlt⟩
   refine aaD.guard (show 0≤i∧i<(((clS c).2.2.2.2.2.2.2.2.2.1.length:Nat):Int) from hin) fun _ =>?_
   have hm:=h.pl _ (ar2 (d:=(dfR 18:List Ins)) hin)
   have e1:alw (aB1 (clS c).2.2.2.2.2.2.2.2.2.1 i)=some ((aB1 c.progs i,()),()):=by
    unfold alw; exact if_pos hm
   rw [e1,atl]
   refine aaD.guard (show 0≤i∧i<(((clS c).2.2.2.2.2.2.2.2.2.1.length:Nat):Int) from hin) fun _ =>?_
   have e2:wi (i+1)=i+1:=aaC (aai (by have:=h.ps; omega))
   have e3:c.progs.set i.toNat (aB1 c.progs i)=c.progs:=azQ (aff hin)
   rw [e2]
   refine ih _ ⟨?_,by show 0≤i+1; omega,by show i+1≤_; omega⟩ (by show ((c.progs.length:Int)-(i+1)).toNat<((c.progs.length:Int)-i).toNat; omega)
   show (c.workers,c.levels,c.classes,c.tasks,c.deque,c.heap,c.batch,c.age,c.patience,c.progs.set i.toNat (aB1 c.progs i),c.subs,())=clS c
   rw [e3]; rfl
  ·rw [hz]
   have e4:aiY (clS c).2.2.2.2.2.2.2.2.2.2.1=some ((c.subs,()),()):=by unfold aiY; exact if_pos h.ss
   rw [e4,atl]
   exact .some_ rfl
 obtain ⟨o,e,ho⟩:=hg
 rw [e]
 obtain ⟨⟨o1,⟨⟩⟩,⟨⟩⟩:=o
 simp only at ho
 rw [ho]
def aap (c:Cfg):LayV:={ workers:=c.workers,levels:=c.levels,classes:=c.classes,tasks:=c.tasks,deque:=c.deque,heap:=c.heap,sleepers:=4+c.heap,epochs:=4+c.heap+c.classes,bitmaps:=4+c.heap+c.classes+c.workers,queues:=4+c.heap+c.classes+c.workers+c.workers,table:=4+c.heap+c.classes+c.workers+c.workers+c.workers*c.levels*(2+c.deque) }
def aaL (c:Cfg):Int:=(aap c).table+5*c.tasks
theorem aDz {a b A B:Int} (ha:0≤a) (hA:a≤A) (hb:0≤b) (hB:b≤B):0≤a*b∧a*b≤A*B :=
 ⟨Int.mul_nonneg ha hb,Int.le_trans (Int.mul_le_mul_of_nonneg_right hA hb) (Int.mul_le_mul_of_nonneg_left hB (Int.le_trans ha hA))⟩
theorem asK {c:Cfg} (h:aiR c=true):(0≤c.workers*c.levels∧c.workers*c.levels≤1024)∧(0≤c.workers*c.levels*(2+c.deque)∧c.workers*c.levels*(2+c.deque)≤67584):=by
 have hs:=ahP h
 have h1:=aDz (a:=c.workers) (b:=c.levels) (A:=16) (B:=64) (by omega) (by omega) (by omega) (by omega)
 have h2:=aDz (a:=c.workers*c.levels) (b:=2+c.deque) (A:=1024) (B:=66) h1.1 (by omega) (by omega) (by omega)
 omega
theorem aA1 {c:Cfg} (h:adI c=0):anh c=some ((aap c,0,()),()):=by
 have hn:=(ams h).1
 have hs:=ahP hn
 have ht:=asK hn
 unfold anh ajB
 rw [atl]
 have e0:¬ adI c≠0:=by omega
 simp only [if_neg e0]
 have e1:wi (4+c.heap)=4+c.heap:=aaC (aai (by omega))
 have e2:wi (4+c.heap+c.classes)=4+c.heap+c.classes:=aaC (aai (by omega))
 have e3:wi (4+c.heap+c.classes+c.workers)=4+c.heap+c.classes+c.workers:=aaC (aai (by omega))
 have e4:wi (4+c.heap+c.classes+c.workers+c.workers)=4+c.heap+c.classes+c.workers+c.workers:=aaC (aai (by omega))
 have e5:wi (c.workers*c.levels)=c.workers*c.levels:=aaC (aai (by omega))
 have e6:wi (2+c.deque)=2+c.deque:=aaC (aai (by omega))
 have e7:wi (c.workers*c.levels*(2+c.deque))=c.workers*c.levels*(2+c.deque):=aaC (aai (by omega))
 have e8:wi (4+c.heap+c.classes+c.workers+c.workers+c.workers*c.levels*(2+c.deque))=4+c.heap+c.classes+c.workers+c.workers+c.workers*c.levels*(2+c.deque):=aaC (aai (by omega))
 simp only [e1,e2,e3,e4,e5,e6,e7,e8]
 rfl
def awl:RecP:=⟨0,-1,0,0,-1,[],false⟩
def anK (c:Cfg):EnvP:=⟨c,aap c,⟨List.replicate (aaL c).toNat 0,⟨0,0,0,0⟩,0⟩,⟨0,0⟩,List.replicate c.tasks.toNat awl,[]⟩
theorem ax9 {c:Cfg} (h:adI c=0):afj c=some ((anK c,0,()),()):=by
 have hn:=(ams h).1
 have hs:=ahP hn
 have ht:=asK hn
 have hg:aaD (afj c) fun o =>o.1.1=anK c∧o.1.2.1=0:=by
  unfold afj
  rw [aA1 h,atl]
  refine aaD.ite (fun e =>absurd rfl e) fun _ =>?_
  have c1:wi (5*c.tasks)=5*c.tasks:=aaC (aai (by omega))
  have c2:wi ((aap c).table+5*c.tasks)=aaL c:=aaC (aai (by unfold aap; simp only; omega))
  have e1:ax1 (aap c)=some ((aaL c,()),()):=by
   unfold ax1
   have:wi (5*(aap c).tasks)=5*c.tasks:=c1
   rw [this,c2]
  rw [e1,atl]
  have hc:0≤aaL c∧aaL c≤131072:=by unfold aaL aap; simp only; omega
  have e2:ajf (aaL c)=some ((⟨⟨0,0,0,0,0,0,0,0,0,[],[]⟩,⟨0,0,0,0,0,0,0,0,0,0,0⟩,⟨List.replicate (aaL c).toNat 0,⟨0,0,0,0⟩,0⟩,⟨0,0⟩,[],[]⟩,()),()):=by
   unfold ajf aq3 atY
   have i1:(if aaL c<0 then (0:Int) else aaL c)=aaL c:=if_neg (by omega)
   have i2:(if 131072<aaL c then (131072:Int) else aaL c)=aaL c:=if_neg (by omega)
   have i3:0≤aaL c∧aaL c≤1099511627776:=by omega
   simp only [i1,i2,if_true,if_pos i3,atl]
  rw [e2,atl,ayv (.of h),atl]
  simp only [if_true]
  refine aaD.bind (P:=fun z =>z.2.1=anK c) (abj (fun x =>0≤x.1∧x.1≤c.tasks∧x.2.1={ anK c with recs:=List.replicate x.1.toNat awl }) (fun x =>(c.tasks-x.1).toNat) (fun self x ⟨q0,q1,q2⟩ ih =>?_) _ _ ⟨Int.le_refl 0,by show (0:Int)≤_; omega,rfl⟩ (by show (c.tasks-0).toNat<_; omega)) fun z hz =>.some_ ⟨hz,rfl⟩
  obtain ⟨i,e,u⟩:=x
  simp only at q0 q1 q2
  subst q2
  refine aaD.ite (fun hlt =>?_) fun hge =>.some_ ?_
  ·have hl:(List.replicate i.toNat awl).length=i.toNat:=List.length_replicate
   refine aaD.guard ?_ fun _ =>?_
   ·show (((List.replicate i.toNat awl).length+1:Nat):Int)<100000000000
    rw [hl]
    have hlt':i<c.tasks:=hlt
    omega
   ·have hlt':i<c.tasks:=hlt
    have e2:wi (i+1)=i+1:=aaC (aai (by omega))
    rw [e2]
    refine ih _ ⟨by show 0≤i+1; omega,by show i+1≤_; omega,?_⟩ (by show (c.tasks-(i+1)).toNat<(c.tasks-i).toNat; omega)
    show ({ anK c with recs:=List.replicate i.toNat awl++[awl] }:EnvP)={ anK c with recs:=List.replicate (i+1).toNat awl }
    have e3:(i+1).toNat=i.toNat+1:=by omega
    rw [e3,List.replicate_succ']
  ·show ({ anK c with recs:=List.replicate i.toNat awl }:EnvP)=anK c
   have:i=c.tasks:=by have hge':¬ i<c.tasks:=hge; omega
   rw [this]; rfl
 obtain ⟨o,e,ho1,ho2⟩:=hg
 rw [e]
 obtain ⟨⟨o1,o2,⟨⟩⟩,⟨⟩⟩:=o
 simp only at ho1 ho2
 rw [ho1,ho2]
end
section
open Go
variable [Tb]
theorem aCy {c:Cfg} (h:DecOk c) {t hp':Int} (ht:1≤t∧t≤12) (hh:1≤hp'∧hp'≤8):adI { c with tasks:=t,heap:=hp' }=0:=by
 have hp:∀ ps:List (List Ins),(∀ x∈ps,x∈c.progs)→aa0 c.levels c.progs.length ps=0:=fun ps =>by
  induction ps with
  | nil =>intro _; rfl
  | cons p ps ih =>
   intro hm
   have h1:=h.pl p (hm p (List.mem_cons_self ..))
   unfold aa0
   rw [if_neg (by omega),if_pos]
   ·exact ih fun x hx =>hm x (List.mem_cons_of_mem _ hx)
   ·refine List.all_eq_true.2 fun i hi =>?_
    have h2:=h.ps p (hm p (List.mem_cons_self ..)) i hi
    unfold ama
    rcases h2 with ⟨a,b,d,e⟩ | ⟨a,b,d,e,f⟩ | ⟨a,b,d,e⟩
    ·rw [if_pos a]; simp only [inB,e,Bool.and_eq_true,decide_eq_true_eq,beq_self_eq_true,and_true]; omega
    ·rw [if_neg (by omega),if_pos a]; simp only [inB,Bool.and_eq_true,decide_eq_true_eq]; omega
    ·rw [if_neg (by omega),if_neg (by omega),if_pos a]; simp only [inB,e,Bool.and_eq_true,decide_eq_true_eq,beq_self_eq_true,and_true]; omega
 have hs:∀ ss:List Sub,(∀ x∈ss,x∈c.subs)→adl c.levels c.progs.length ss=0:=fun ss =>by
  induction ss with
  | nil =>intro _; rfl
  | cons s ss ih =>
   intro hm
   have h1:=h.ss s (hm s (List.mem_cons_self ..))
   have e:aoP c.levels c.progs.length s=0:=by
    unfold aoP
    have e1:inB s.prog 0 ((c.progs.length:Int)-1)=true:=by simp only [inB,Bool.and_eq_true,decide_eq_true_eq]; omega
    have e2:inB s.level 0 (c.levels-1)=true:=by simp only [inB,Bool.and_eq_true,decide_eq_true_eq]; omega
    have e3:inB s.deadline 0 16777215=true:=by simp only [inB,Bool.and_eq_true,decide_eq_true_eq]; omega
    rw [e1,e2,e3]; rfl
   unfold adl
   rw [if_pos e]
   exact ih fun x hx =>hm x (List.mem_cons_of_mem _ hx)
 have hn:aiR { c with tasks:=t,heap:=hp' }=true:=by
  have:=h.w; have:=h.l; have:=h.k; have:=h.t; have:=h.q; have:=h.h; have:=h.b; have:=h.a; have:=h.p
  simp only [aiR,inB,Bool.and_eq_true,decide_eq_true_eq]
  have e:(if c.levels<8 then c.levels else 8)=c.levels:=if_pos (by omega)
  rw [e]
  omega
 have hpa:adb { c with tasks:=t,heap:=hp' }=0:=by
  have:=h.pn
  unfold adb
  have e:inB (c.progs.length:Int) 1 32=true:=by simp only [inB,Bool.and_eq_true,decide_eq_true_eq]; omega
  rw [e]
  exact hp c.progs fun _ hx =>hx
 have hsa:aeI { c with tasks:=t,heap:=hp' }=0:=by
  have:=h.sn
  unfold aeI
  rw [if_neg (show ¬ 64<c.subs.length by omega)]
  exact hs c.subs fun _ hx =>hx
 unfold adI
 rw [hn,hpa]
 exact hsa
theorem afG {c:Cfg} (h:DecOk c):adI c=0:=by
 have:=h.h
 exact aCy h (t:=c.tasks) (hp':=c.heap) h.t (by omega)
theorem aw1 {b:List Int} (hb:∀ x∈b,0≤x∧x≤255) (hl:b.length≤1000000):aaD (agY b) fun o =>DecOk o.1.1:=by
 have:=awY hb hl
 unfold agY
 refine this.bind fun o ho =>.some_ ?_
 exact ho
end
section
open Go Go.RowKit
set_option maxRecDepth 100000
variable [Tb]
theorem anr (m:MemV):ab5 m=some ((m.count,()),(m,())):=id rfl
theorem aGR (m:MemV):agW m=some ((m.last,()),(m,())):=id rfl
theorem ap6 (m:MemV) (h:m.cells.length≤1000000):ab6 m=some ((m.cells,()),(m,())):=by
 unfold ab6 ant
 rw [if_pos h]
 rfl
structure EI (c:Cfg) (K:Nat) (e:EnvP):Prop where
 ok:EOk K e
 l:e.l=aap c
 c:e.c=c
 ct:0≤e.m.count∧e.m.count≤K
 cl:e.m.cells.length≤1000000
def mnC (c:Cfg):Int:=if 16<c.workers then 16 else c.workers
def WI (c:Cfg) (K:Nat) (j:Int) (w:WorkerV MV):Prop:=∃ k,w=ai6 (aap c) j k∧ai4 K (mnC c) k
section
variable {c:Cfg} {K:Nat} {e:EnvP} {j:Int} {w:WorkerV MV} {l:ClientV MV}
theorem EI.many (h:EI c K e):ab9 e=mnC c:=by unfold ab9 mnC; rw [h.c]
theorem aEO {m m':MemV} (h:One m m') {K:Nat} (hc:0≤m.count∧m.count≤K) (hK:K≤1000000):(0≤m'.count∧m'.count≤((K+3:Nat):Int))∧m'.cells.length=m.cells.length:=by
 cases h with
 | no =>exact ⟨by omega,rfl⟩
 | yes k a v h hk =>
  refine ⟨?_,by simp⟩
  show 0≤wi (m.count+1)∧wi (m.count+1)≤_
  rw [aaC (aai (by omega))]
  omega
theorem EI.stp (h:EI c K e) (hK:K≤1000000) {e':EnvP} (s:Stp 2 e e'):EI c (K+3) e' :=
 have h1:=aEO s.m h.ct hK
 ⟨h.ok.step s,by rw [s.l]; exact h.l,by rw [s.c]; exact h.c,h1.1,by rw [h1.2]; exact h.cl⟩
theorem ai4.up {K L:Nat} (h:K≤L) {n:Int} {k:WorkS} (hw:ai4 K n k):ai4 L n k:=by
 obtain ⟨a,b,d,f,g⟩:=k
 cases g with
 | t7 s =>exact ⟨hw.1,Nat.le_trans hw.2 h⟩
 | t3 s =>exact hw
 | t4 s =>exact hw
 | _ =>trivial
theorem WI.up {K L:Nat} (h:K≤L) (hw:WI c K j w):WI c L j w:=by
 obtain ⟨k,h1,h2⟩:=hw
 exact ⟨k,h1,h2.up h⟩
theorem EI.up {L:Nat} (h:K≤L) (he:EI c K e):EI c L e:=⟨⟨he.ok.dq,he.ok.tk,he.ok.ct,he.ok.wk,by have:=he.ok.ev; omega,fun r hr =>by have:=he.ok.kd r hr; omega⟩,he.l,he.c,by have:=he.ct; omega,he.cl⟩
theorem EI.clk {k:ClkV} (he:EI c K e):EI c K { e with k:=k }:=⟨⟨he.ok.dq,he.ok.tk,he.ok.ct,he.ok.wk,he.ok.ev,he.ok.kd⟩,he.l,he.c,he.ct,he.cl⟩
theorem am6 {x:EntV} {n:Int} (hn:1≤n∧n≤1000) (h:x.kind=0):aaD (adN x n) fun o =>0≤o.1.1∧o.1.1<n:=by
 have h1:Int.tmod x.value n<n ∧ -n<Int.tmod x.value n:=by
  constructor
  ·exact Int.tmod_lt_of_pos _ (by omega)
  ·have h2:Int.tmod (-x.value) n<n:=Int.tmod_lt_of_pos _ (by omega)
   rw [Int.neg_tmod] at h2
   omega
 unfold adN
 rw [if_neg (fun h' =>h' h),if_neg (by omega),if_pos (by omega)]
 refine aaD.ite (fun hl =>?_) fun hl =>.some_ ⟨by show 0≤Int.tmod x.value n; omega,h1.1⟩
 rw [aaC (aai (by omega))]
 exact .some_ ⟨by show 0≤Int.tmod x.value n+n; omega,by show Int.tmod x.value n+n<n; omega⟩
end
theorem aJN {c:Cfg} (h:DecOk c):EI c 1 (anK c):=by
 have hn:=(ams (afG h)).1
 have ht:=asK hn
 have h1:=h.w
 have h2:=h.l
 have h3:=h.k
 have h4:=h.t
 have h5:=h.q
 have h6:=h.h
 refine ⟨⟨?_,?_,?_,?_,Nat.zero_le _,fun r hr =>?_⟩,rfl,rfl,⟨Int.le_refl 0,by show (0:Int)≤1; omega⟩,?_⟩
 ·show 0≤c.deque∧c.deque≤65535; omega
 ·show c.tasks=((List.replicate c.tasks.toNat awl).length:Int)
  rw [List.length_replicate]; omega
 ·show c.tasks=((List.replicate c.tasks.toNat awl).length:Int)
  rw [List.length_replicate]; omega
 ·show 1≤c.workers; omega
 ·have:=List.eq_of_mem_replicate hr
  rw [this]
  exact Nat.zero_le _
 ·show (List.replicate (aaL c).toNat 0).length≤_
  rw [List.length_replicate]
  unfold aaL aap
  simp only
  omega
theorem ayw {c:Cfg} (h:DecOk c):ahT c=some ((atZ c.subs c.workers ⟨0,0,false,.n1⟩,()),()):=by
 unfold ahT
 rw [ayv (.of (afG h)),bnd,if_pos rfl]
theorem alL {l:LayV} {j:Int}:adX j=some ((ai6 l j ⟨0,0,0,0,.top⟩,()),()):=rfl
theorem afo {x:Int} (h:0≤x∧x≤1000000000000):wu x=x:=by
 show IntKind.u64.wrap x=x
 simp [IntKind.wrap,IntKind.signed,IntKind.bits,IntKind.min,IntKind.max]
 omega
def ckC (c:Cfg) (a:Int):Int :=
 if a<0 then 9 else if a=0 then 0 else if a<4 then 1 else if a<4+c.heap then 2 else if a<(aap c).queues then 3
 else if a<(aap c).table then (if (a-(aap c).queues) % (2+c.deque)<2 then 4 else 5)
 else if (a-(aap c).table) % 5=1 then 6 else 7
structure CellOk (c:Cfg) (a x:Int):Prop where
 p:0≤x
 s:ckC c a=2→ap8 x 65535<c.tasks
 r:ckC c a=5→x<c.tasks
 l:ckC c a=6→x<c.levels
def Fr (c:Cfg) (a:Int):Prop:=ckC c a≠0∧ckC c a≠2∧ckC c a≠5∧ckC c a≠6
theorem Fr.ok {c:Cfg} {a x:Int} (h:Fr c a) (hx:0≤x):CellOk c a x:=⟨hx,fun k =>absurd k h.2.1,fun k =>absurd k h.2.2.1,fun k =>absurd k h.2.2.2⟩
theorem ar1 {c:Cfg} {a k:Int} (h:ckC c a=k) (hk:k=1∨k=3∨k=4∨k=7∨k=9):Fr c a:=by
 unfold Fr; rw [h]; omega
section
variable {c:Cfg}
theorem DecOk.rg (h:DecOk c):(0≤c.workers*c.levels∧c.workers*c.levels≤16)∧(0≤c.workers*c.levels*(2+c.deque)∧c.workers*c.levels*(2+c.deque)≤96):=by
 have h1:=h.w
 have h2:=h.l
 have h3:=h.q
 have e1:=aDz (a:=c.workers) (b:=c.levels) (A:=4) (B:=4) (by omega) (by omega) (by omega) (by omega)
 have e2:=aDz (a:=c.workers*c.levels) (b:=2+c.deque) (A:=16) (B:=6) e1.1 (by omega) (by omega) (by omega)
 omega
theorem agZ:ckC c (-1)=9:=by unfold ckC; rw [if_pos (by omega)]
theorem aeR (h:DecOk c):4+c.heap≤(aap c).queues∧(aap c).queues≤(aap c).table∧(aap c).table≤200∧(aap c).table=(aap c).queues+c.workers*c.levels*(2+c.deque):=by
 have h1:=h.w
 have h2:=h.l
 have h3:=h.q
 have h4:=h.h
 have h5:=h.k
 have e:=h.rg
 refine ⟨?_,?_,?_,?_⟩<;>show _<;>unfold aap<;>simp only<;>omega
theorem ayt (h:DecOk c) {a:Int} (ha:1≤a∧a≤3):ckC c a=1:=by
 unfold ckC; rw [if_neg (by omega),if_neg (by omega),if_pos (by omega)]
theorem aBJ (h:DecOk c) {t f:Int} (ht:0≤t) (hf:0≤f∧f<5):ckC c ((aap c).table+f+t*5)=if f=1 then 6 else 7:=by
 have e:=aeR h
 have h4:=h.h
 unfold ckC
 rw [if_neg (by omega),if_neg (by omega),if_neg (by omega),if_neg (by omega),if_neg (by omega),if_neg (by omega)]
 by_cases hf1:f=1
 ·rw [if_pos (by omega),if_pos hf1]
 ·rw [if_neg (by omega),if_neg hf1]
theorem adt (h:DecOk c) {t f:Int} (hf:0≤f∧f<5):ac0 (aap c) t f=if 0≤t∧t<c.tasks then (aap c).table+f+t*5 else -1:=by
 have e:=aeR h
 have h4:=h.t
 have h5:=h.h
 have h6:=h.rg
 unfold ac0 atP
 have e1:(aap c).tasks=c.tasks:=rfl
 rw [e1]
 by_cases h1:t<0
 ·rw [if_pos h1,if_neg (by omega)]
 rw [if_neg h1]
 by_cases h2:c.tasks≤t
 ·rw [if_pos h2,if_neg (by omega)]
 rw [if_neg h2,if_pos (by omega),aaC (x:=(aap c).table+f) (aai (by omega)),aaC (x:=t*5) (aai (by omega)),aaC (aai (by omega))]
theorem ap0 (h:DecOk c) {t f:Int} (hf:0≤f∧f<5):ckC c (ac0 (aap c) t f)=if 0≤t∧t<c.tasks then (if f=1 then 6 else 7) else 9:=by
 rw [adt h hf]
 split
 ·rename_i h1; rw [aBJ h h1.1 hf]
 ·rw [agZ]
theorem atD (h:DecOk c) {t f:Int} (hf:0≤f∧f<5) (hf1:f≠1):Fr c (ac0 (aap c) t f):=by
 refine ar1 rfl ?_
 rw [ap0 h hf,if_neg hf1]
 split<;>omega
theorem ahp (h:DecOk c) {t:Int}:Fr c (aa8 (aap c) t):=atD h (by omega) (by omega)
theorem atF (h:DecOk c) {t:Int}:Fr c (ac4 (aap c) t):=atD h (by omega) (by omega)
theorem atC (h:DecOk c) {t:Int}:Fr c (adp (aap c) t):=atD h (by omega) (by omega)
theorem apT (h:DecOk c) {t:Int}:Fr c (amy (aap c) t):=atD h (by omega) (by omega)
theorem arp (h:DecOk c) {a:Int} (ha:1≤a∧a≤3):Fr c a:=ar1 (ayt h ha) (by omega)
theorem aKv {i n a w:Int} (hn:n≤1000) (ha:0≤a∧a≤1000) (hw:w=1):atP i n a w=if 0≤i∧i<n then a+i else -1:=by
 subst hw
 unfold atP
 by_cases h1:i<0
 ·rw [if_pos h1,if_neg (by omega)]
 rw [if_neg h1]
 by_cases h2:n≤i
 ·rw [if_pos h2,if_neg (by omega)]
 rw [if_neg h2,if_pos (by omega),Int.mul_one,aaC (x:=i) (aai (by omega)),aaC (aai (by omega))]
theorem arA (h:DecOk c) {a:Int} (ha:4+c.heap≤a∧a<(aap c).queues):ckC c a=3:=by
 have h4:=h.h
 unfold ckC
 rw [if_neg (by omega),if_neg (by omega),if_neg (by omega),if_neg (by omega),if_pos (by omega)]
theorem amQ:(aap c).queues=4+c.heap+c.classes+c.workers+c.workers:=rfl
theorem ayA (h:DecOk c) {w:Int}:ckC c (ahc (aap c) w)=3∨ckC c (ahc (aap c) w)=9:=by
 have h1:=h.w
 have h4:=h.h
 have h5:=h.k
 unfold ahc
 show ckC c (atP w c.workers (4+c.heap+c.classes) 1)=3∨ckC c (atP w c.workers (4+c.heap+c.classes) 1)=9
 rw [aKv (show c.workers≤1000 by omega) (show 0≤4+c.heap+c.classes∧4+c.heap+c.classes≤1000 by omega) rfl]
 split
 ·rename_i h'
  have h':0≤w∧w<c.workers:=h'
  refine .inl (arA h ?_)
  show 4+c.heap≤4+c.heap+c.classes+w∧4+c.heap+c.classes+w<_
  rw [amQ]; omega
 ·exact .inr agZ
theorem aDU (h:DecOk c) {w:Int}:Fr c (ahc (aap c) w):=ar1 rfl (by have:=ayA h (w:=w); omega)
theorem avL (h:DecOk c) {w:Int}:ckC c (aaK (aap c) w)=3∨ckC c (aaK (aap c) w)=9:=by
 have h1:=h.w
 have h4:=h.h
 have h5:=h.k
 unfold aaK
 show ckC c (atP w c.workers (4+c.heap+c.classes+c.workers) 1)=3∨ckC c (atP w c.workers (4+c.heap+c.classes+c.workers) 1)=9
 rw [aKv (show c.workers≤1000 by omega) (show 0≤4+c.heap+c.classes+c.workers∧4+c.heap+c.classes+c.workers≤1000 by omega) rfl]
 split
 ·rename_i h'
  have h':0≤w∧w<c.workers:=h'
  refine .inl (arA h ?_)
  show 4+c.heap≤4+c.heap+c.classes+c.workers+w∧4+c.heap+c.classes+c.workers+w<_
  rw [amQ]; omega
 ·exact .inr agZ
theorem arq (h:DecOk c) {w:Int}:Fr c (aaK (aap c) w):=ar1 rfl (by have:=avL h (w:=w); omega)
theorem arG (h:DecOk c) {w:Int}:ckC c (aiC (aap c) w)=3∨ckC c (aiC (aap c) w)=9:=by
 have h1:=h.w
 have h4:=h.h
 have h5:=h.k
 unfold aiC
 show ckC c (atP w c.classes (4+c.heap) 1)=3∨ckC c (atP w c.classes (4+c.heap) 1)=9
 rw [aKv (show c.classes≤1000 by omega) (show 0≤4+c.heap∧4+c.heap≤1000 by omega) rfl]
 split
 ·rename_i h'
  have h':0≤w∧w<c.classes:=h'
  refine .inl (arA h ?_)
  show 4+c.heap≤4+c.heap+w∧4+c.heap+w<_
  rw [amQ]; omega
 ·exact .inr agZ
theorem ap1 (h:DecOk c) {i:Int}:ckC c (afx (aap c) i)=2∨ckC c (afx (aap c) i)=9:=by
 have h4:=h.h
 unfold afx
 show ckC c (atP i c.heap 4 1)=2∨ckC c (atP i c.heap 4 1)=9
 rw [aKv (show c.heap≤1000 by omega) (show (0:Int)≤4∧(4:Int)≤1000 by omega) rfl]
 split
 ·rename_i h'
  have h':0≤i∧i<c.heap:=h'
  refine .inl ?_
  unfold ckC
  rw [if_neg (by omega),if_neg (by omega),if_neg (by omega),if_pos (by omega)]
 ·exact .inr agZ
theorem aGz (h:DecOk c) {i x:Int} (h1:0≤x) (h2:ap8 x 65535<c.tasks):CellOk c (afx (aap c) i) x:=by
 have e:=ap1 h (i:=i)
 exact ⟨h1,fun _ =>h2,fun k =>by omega,fun k =>by omega⟩
def bq (c:Cfg) (k:Int):QV:=⟨(aap c).queues+k*(2+c.deque),(aap c).queues+k*(2+c.deque)+1,(aap c).queues+k*(2+c.deque)+2,c.deque⟩
theorem aLB {i n a w:Int} (hn:n≤10) (ha:0≤a∧a≤1000) (hw:0≤w∧w≤100):atP i n a w=if 0≤i∧i<n then a+i*w else -1:=by
 unfold atP
 by_cases h1:i<0
 ·rw [if_pos h1,if_neg (by omega)]
 rw [if_neg h1]
 by_cases h2:n≤i
 ·rw [if_pos h2,if_neg (by omega)]
 have h3:=aDz (a:=i) (b:=w) (A:=10) (B:=100) (by omega) (by omega) (by omega) (by omega)
 rw [if_neg h2,if_pos (by omega),aaC (x:=i*w) (aai (by omega)),aaC (aai (by omega))]
theorem aAc (h:DecOk c) (w v:Int):(¬ ((0≤w∧w<c.workers)∧0≤v∧v<c.levels)∧aaz (aap c) w v=⟨-1,-1,-1,0⟩)∨(((0≤w∧w<c.workers)∧0≤v∧v<c.levels)∧(0≤w*c.levels+v∧w*c.levels+v<c.workers*c.levels)∧aaz (aap c) w v=bq c (w*c.levels+v)):=by
 have h1:=h.w
 have h2:=h.l
 have h3:=h.q
 have e:=aeR h
 have h4:=h.h
 have e1:=aDz (a:=c.levels) (b:=2+c.deque) (A:=4) (B:=6) (by omega) (by omega) (by omega) (by omega)
 have e2:wi (c.levels*wi (2+c.deque))=c.levels*(2+c.deque):=by
  rw [aaC (x:=2+c.deque) (aai (by omega)),aaC (aai (by omega))]
 have e3:wi (2+c.deque)=2+c.deque:=aaC (aai (by omega))
 have ea:atP w c.workers (aap c).queues (c.levels*(2+c.deque))=if 0≤w∧w<c.workers then (aap c).queues+w*(c.levels*(2+c.deque)) else -1:=aLB (by omega) (by omega) (by omega)
 unfold aaz
 show (¬ _∧(if atP w c.workers (aap c).queues (wi (c.levels*wi (2+c.deque)))<0 then _ else if atP v c.levels (atP w c.workers (aap c).queues (wi (c.levels*wi (2+c.deque)))) (wi (2+c.deque))<0 then _
  else QV.mk (atP v c.levels (atP w c.workers (aap c).queues (wi (c.levels*wi (2+c.deque)))) (wi (2+c.deque))) (wi (atP v c.levels (atP w c.workers (aap c).queues (wi (c.levels*wi (2+c.deque)))) (wi (2+c.deque))+1)) (wi (atP v c.levels (atP w c.workers (aap c).queues (wi (c.levels*wi (2+c.deque)))) (wi (2+c.deque))+2)) c.deque)=_)∨(_∧_∧(if atP w c.workers (aap c).queues (wi (c.levels*wi (2+c.deque)))<0 then _ else if atP v c.levels (atP w c.workers (aap c).queues (wi (c.levels*wi (2+c.deque)))) (wi (2+c.deque))<0 then _
  else QV.mk (atP v c.levels (atP w c.workers (aap c).queues (wi (c.levels*wi (2+c.deque)))) (wi (2+c.deque))) (wi (atP v c.levels (atP w c.workers (aap c).queues (wi (c.levels*wi (2+c.deque)))) (wi (2+c.deque))+1)) (wi (atP v c.levels (atP w c.workers (aap c).queues (wi (c.levels*wi (2+c.deque)))) (wi (2+c.deque))+2)) c.deque)=_)
 rw [e2,e3,ea]
 by_cases hw:0≤w∧w<c.workers
 ·rw [if_pos hw]
  have e4:=aDz (a:=w) (b:=c.levels*(2+c.deque)) (A:=4) (B:=24) (by omega) (by omega) (by omega) (by omega)
  have eb:atP v c.levels ((aap c).queues+w*(c.levels*(2+c.deque))) (2+c.deque)=if 0≤v∧v<c.levels then (aap c).queues+w*(c.levels*(2+c.deque))+v*(2+c.deque) else -1:=aLB (by omega) (by omega) (by omega)
  rw [if_neg (by omega),eb]
  by_cases hv:0≤v∧v<c.levels
  ·rw [if_pos hv]
   have e5:=aDz (a:=v) (b:=2+c.deque) (A:=4) (B:=6) (by omega) (by omega) (by omega) (by omega)
   have e6:=aDz (a:=w) (b:=c.levels) (A:=4) (B:=4) (by omega) (by omega) (by omega) (by omega)
   have e7:(w*c.levels+v)*(2+c.deque)=w*(c.levels*(2+c.deque))+v*(2+c.deque):=by rw [Int.add_mul,Int.mul_assoc]
   rw [if_neg (by omega)]
   refine .inr ⟨⟨hw,hv⟩,⟨by omega,?_⟩,?_⟩
   ·have:c.levels=1∨c.levels=2∨c.levels=3∨c.levels=4:=by omega
    rcases this with e | e | e | e<;>rw [e] at hv ⊢<;>omega
   ·unfold bq
    rw [e7,aaC (aai (by omega)),aaC (aai (by omega)),← Int.add_assoc]
  ·rw [if_neg hv,if_pos (by omega)]; exact .inl ⟨fun h =>hv h.2,rfl⟩
 ·rw [if_neg hw,if_pos (by omega)]; exact .inl ⟨fun h =>hw h.1,rfl⟩
theorem ahK (h:DecOk c) (w v:Int):aaz (aap c) w v=⟨-1,-1,-1,0⟩∨∃ k,0≤k∧k<c.workers*c.levels∧aaz (aap c) w v=bq c k:=by
 rcases aAc h w v with ⟨_,e⟩ | ⟨_,⟨e1,e2⟩,e⟩
 ·exact .inl e
 ·exact .inr ⟨_,e1,e2,e⟩
theorem avD (h:DecOk c) {k j:Int} (hk:0≤k∧k<c.workers*c.levels) (hj:0≤j∧j<2+c.deque):ckC c ((aap c).queues+k*(2+c.deque)+j)=if j<2 then 4 else 5:=by
 have e:=aeR h
 have h4:=h.h
 have h3:=h.q
 have e1:(k+1)*(2+c.deque)≤c.workers*c.levels*(2+c.deque):=Int.mul_le_mul_of_nonneg_right (by omega) (by omega)
 have e2:(k+1)*(2+c.deque)=k*(2+c.deque)+(2+c.deque):=by rw [Int.add_mul,Int.one_mul]
 have e3:0≤k*(2+c.deque):=Int.mul_nonneg hk.1 (by omega)
 have e4:((aap c).queues+k*(2+c.deque)+j-(aap c).queues) % (2+c.deque)=j:=by
  have:(aap c).queues+k*(2+c.deque)+j-(aap c).queues=j+k*(2+c.deque):=by omega
  rw [this,Int.add_mul_emod_self_right,Int.emod_eq_of_lt hj.1 hj.2]
 unfold ckC
 rw [if_neg (by omega),if_neg (by omega),if_neg (by omega),if_neg (by omega),if_neg (by omega),if_pos (by omega),e4]
theorem aE7 (h:DecOk c) (w v:Int):Fr c (aaz (aap c) w v).top:=by
 have h3:=h.q
 rcases ahK h w v with e | ⟨k,h1,h2,e⟩<;>rw [e]
 ·exact ar1 agZ (by omega)
 ·have:=avD h ⟨h1,h2⟩ (j:=0) (by omega)
  rw [Int.add_zero,if_pos (by omega)] at this
  exact ar1 this (by omega)
theorem anp (h:DecOk c) (w v:Int):Fr c (aaz (aap c) w v).bottom:=by
 have h3:=h.q
 rcases ahK h w v with e | ⟨k,h1,h2,e⟩<;>rw [e]
 ·exact ar1 agZ (by omega)
 ·have:=avD h ⟨h1,h2⟩ (j:=1) (by omega)
  rw [if_pos (by omega)] at this
  exact ar1 this (by omega)
theorem ap2 (h:DecOk c) (w v:Int) {b:Int} (hb:0≤b):ckC c (ah0 (aaz (aap c) w v) b)=5∨ckC c (ah0 (aaz (aap c) w v) b)=9:=by
 have h3:=h.q
 rcases ahK h w v with e | ⟨k,h1,h2,e⟩<;>rw [e]
 ·refine .inr ?_
  unfold ah0
  rw [if_pos (by show (0:Int)<1; omega),agZ]
 ·refine .inl ?_
  have e0:=aeR h
  have h4:=h.h
  have h5:=h.rg
  have e1:=asH (a:=b) (b:=c.deque) (by omega) hb
  have e2:k*(2+c.deque)≤c.workers*c.levels*(2+c.deque):=Int.mul_le_mul_of_nonneg_right (by omega) (by omega)
  have e3:0≤k*(2+c.deque):=Int.mul_nonneg h1 (by omega)
  unfold ah0 bq
  simp only
  rw [if_neg (by omega),afo (x:=c.deque) (by omega),aaC (x:=Int.tmod b c.deque) (aai (by omega)),aaC (aai (by omega))]
  have:=avD h ⟨h1,h2⟩ (j:=2+Int.tmod b c.deque) (by omega)
  rw [if_neg (by omega),← Int.add_assoc] at this
  exact this
theorem aGA (h:DecOk c) (w v:Int) {b x:Int} (hb:0≤b) (hx:0≤x∧x<c.tasks):CellOk c (ah0 (aaz (aap c) w v) b) x:=by
 have e:=ap2 h w v hb
 exact ⟨hx.1,fun k =>by omega,fun k =>hx.2,fun k =>by omega⟩
end
theorem azp (x:Int):IntKind.u64.wrap x=x % 18446744073709551616:=by
 simp [IntKind.wrap,IntKind.signed,IntKind.bits]
theorem aif (a:Int):0≤wu a:=(aH0 a).1
theorem ax4 (a b:Int):0≤orU a b:=aif _
theorem aoC (a b:Int):0≤ap8 a b:=aif _
theorem aio {e:EnvP} {k a v b:Int}:(e.pt k a v).gt b=if b=a∧0≤a∧a<(e.m.cells.length:Int) then v else e.gt b:=by
 show (e.m.pt k a v).gt b=if _ then v else e.m.gt b
 unfold MemV.pt
 by_cases ha:0≤a∧a<(e.m.cells.length:Int)
 ·rw [if_pos ha]
  unfold MemV.gt
  simp only [List.length_set]
  by_cases hb:0≤b∧b<(e.m.cells.length:Int)
  ·rw [if_pos hb,if_pos hb]
   by_cases hab:b=a
   ·rw [if_pos ⟨hab,ha⟩,hab,ak4 ha]
   ·rw [if_neg (fun h =>hab h.1)]
    show atL _ (e.m.cells.set a.toNat v) b=atL _ e.m.cells b
    unfold atL
    rw [List.getElem?_set_ne (by omega)]
  ·rw [if_neg hb,if_neg hb,if_neg (fun (h:b=a∧_) =>hb (by rw [h.1]; exact h.2))]
 ·rw [if_neg ha,if_neg (fun h =>ha h.2)]
theorem apx {e:EnvP} {a b:Int}:(e.lk a).gt b=e.gt b:=by
 have:(e.pt 1 a (e.gt a)).gt b=e.gt b:=by
  rw [aio]
  split
  ·rename_i h; rw [h.1]
  ·rfl
 exact this
structure MI (c:Cfg) (e:EnvP):Prop where
 d:DecOk c
 l:e.l=aap c
 cc:e.c=c
 ok:∀ a,CellOk c a (e.gt a)
def Pl (c:Cfg) (x:Ev):Prop:=(0≤x.task∧x.task<c.tasks)∧x.kind≠1∧x.kind≠3∧x.kind≠11∧x.kind≠12
abbrev Lv (c:Cfg) (e:EnvP) (t:Int):Int:=e.gt (aaW (aap c) t)
structure Qt (c:Cfg) (e e':EnvP):Prop where
 i:MI c e'
 lv:∀ t,Lv c e' t=Lv c e t
 nx:e'.gt 0=e.gt 0
 ev:∃ l,e'.evs=e.evs++l∧∀ x∈l,Pl c x
section
variable {c:Cfg} {e e':EnvP} {a v k o t:Int}
theorem MI.p (h:MI c e) (a:Int):0≤e.gt a:=(h.ok a).p
theorem MI.lk (h:MI c e):MI c (e.lk a):=⟨h.d,h.l,h.cc,fun b =>by rw [apx]; exact h.ok b⟩
theorem MI.pt (h:MI c e) (hv:CellOk c a v):MI c (e.pt k a v):=⟨h.d,h.l,h.cc,fun b =>by
 rw [aio]
 split
 ·rename_i q; rw [q.1]; exact hv
 ·exact h.ok b⟩
theorem Qt.refl (h:MI c e):Qt c e e:=⟨h,fun _ =>rfl,rfl,[],by simp,fun x hx =>by cases hx⟩
theorem Qt.lk (h:MI c e):Qt c e (e.lk a):=⟨h.lk,fun _ =>apx,apx,[],by show e.evs=_; simp,fun x hx =>by cases hx⟩
theorem agQ (h:DecOk c):ckC c (aaW (aap c) t)=6∨(ckC c (aaW (aap c) t)=9∧aaW (aap c) t=-1):=by
 have e1:=ap0 h (t:=t) (f:=1) (by omega)
 have e2:=adt h (t:=t) (f:=1) (by omega)
 show ckC c (ac0 (aap c) t 1)=6∨(ckC c (ac0 (aap c) t 1)=9∧ac0 (aap c) t 1=-1)
 by_cases ht:0≤t∧t<c.tasks
 ·rw [e1,if_pos ht,if_pos rfl]; exact .inl rfl
 ·rw [e1,e2,if_neg ht,if_neg ht]; exact .inr ⟨rfl,rfl⟩
theorem ae4:ckC c 0=0:=by unfold ckC; rw [if_neg (by omega),if_pos rfl]
theorem Qt.wr (h:MI c e) (h0:ckC c a≠0) (h6:ckC c a≠6) (hv:CellOk c a v):Qt c e (e.pt k a v):=by
 refine ⟨h.pt hv,fun t =>?_,?_,[],by show e.evs=_; simp,fun x hx =>by cases hx⟩
 ·show (e.pt k a v).gt _=e.gt _
  rw [aio]
  split
  ·rename_i q
   rcases agQ h.d (t:=t) with h1 | ⟨_,h1⟩
   ·rw [q.1] at h1; exact absurd h1 h6
   ·omega
  ·rfl
 ·rw [aio]
  split
  ·rename_i q
   rw [← q.1] at h0
   exact absurd ae4 h0
  ·rfl
theorem Qt.fr (h:MI c e) (ha:Fr c a) (hv:0≤v):Qt c e (e.pt k a v):=.wr h ha.1 ha.2.2.2 (ha.ok hv)
theorem Qt.cas (h:MI c e) (ha:Fr c a) (hv:0≤v):Qt c e (e.cas a o v):=by
 refine Qt.fr h ha ?_
 show 0≤if _ then v else e.m.gt a
 split
 ·exact hv
 ·exact h.p a
theorem Qt.ring (h:MI c e) (w u:Int) {b:Int} (hb:0≤b) (hv:0≤v∧v<c.tasks):Qt c e (e.pt k (ah0 (aaz (aap c) w u) b) v):=by
 have:=ap2 h.d w u hb
 exact .wr h (by omega) (by omega) (aGA h.d w u hb hv)
def aek (c:Cfg) (k:Int):Prop:=0≤k∧ap8 k 65535<c.tasks
theorem Qt.slot (h:MI c e) {i:Int} (hv:aek c v):Qt c e (e.pt k (afx (aap c) i) v):=by
 have:=ap1 h.d (i:=i)
 exact .wr h (by omega) (by omega) (aGz h.d hv.1 hv.2)
theorem Qt.em {w l:Int} (h:Qt c e e') (ht:0≤t∧t<c.tasks) (hk:k≠1∧k≠3∧k≠11∧k≠12):Qt c e (e'.em k w t o l):=by
 obtain ⟨m,hm,hp⟩:=h.ev
 refine ⟨⟨h.i.d,h.i.l,h.i.cc,h.i.ok⟩,h.lv,h.nx,m++[⟨k,w,t,o,l⟩],?_,fun x hx =>?_⟩
 ·show e'.evs++[_]=_
  rw [hm,List.append_assoc]
 ·rcases List.mem_append.1 hx with hx | hx
  ·exact hp x hx
  ·rw [List.mem_singleton.1 hx]
   exact ⟨ht,hk⟩
theorem Qt.pr {r:RecP} (h:Qt c e e'):Qt c e (e'.pr t r):=⟨⟨h.i.d,h.i.l,h.i.cc,h.i.ok⟩,h.lv,h.nx,h.ev⟩
theorem awO (h:MI c e) (w u:Int) {b:Int} (hb:0≤b):0≤wi (e.gt (ah0 (aaz (aap c) w u) b))∧wi (e.gt (ah0 (aaz (aap c) w u) b))<c.tasks:=by
 have h1:=h.ok (ah0 (aaz (aap c) w u) b)
 have h2:=h.d.t
 have h3:e.gt (ah0 (aaz (aap c) w u) b)<c.tasks:=by
  rcases ap2 h.d w u hb with h4 | h4
  ·exact h1.r h4
  ·have:e.gt (ah0 (aaz (aap c) w u) b)=0:=by
    show e.m.gt _=0
    unfold MemV.gt
    rw [if_neg]
    intro h5
    have h6:ckC c (ah0 (aaz (aap c) w u) b)≠9:=by
     unfold ckC; repeat' split
     all_goals omega
    exact h6 h4
   omega
 have h4:=h1.p
 rw [aaC (aai (by omega))]
 exact ⟨h4,h3⟩
theorem ajm (h:MI c e) (i:Int):aek c (e.gt (afx (aap c) i)):=by
 have h1:=h.ok (afx (aap c) i)
 have h2:=h.d.t
 refine ⟨h1.p,?_⟩
 rcases ap1 h.d (i:=i) with h4 | h4
 ·exact h1.s h4
 ·have:e.gt (afx (aap c) i)=0:=by
   show e.m.gt _=0
   unfold MemV.gt
   rw [if_neg]
   intro h5
   have h6:ckC c (afx (aap c) i)≠9:=by
    unfold ckC; repeat' split
    all_goals omega
   exact h6 h4
  rw [this]
  show ap8 0 65535<_
  have:ap8 0 65535=0:=by decide
  omega
theorem apS (h:MI c e) (t:Int):0≤Lv c e t∧Lv c e t<c.levels:=by
 have h1:=h.ok (aaW (aap c) t)
 have h2:=h.d.l
 refine ⟨h1.p,?_⟩
 rcases agQ h.d (t:=t) with h4 | ⟨_,h4⟩
 ·exact h1.l h4
 ·show e.m.gt (aaW (aap c) t)<_
  rw [h4]
  unfold MemV.gt
  rw [if_neg (by omega)]
  omega
end
def Rs.Q {σ:Type} (P:σ→Prop) (F:Int→Int→Prop):Rs σ→Prop
 | .go s =>P s
 | .fin c v =>F c v
theorem Rs.Q.ite {σ:Type} {P:σ→Prop} {F:Int→Int→Prop} {p:Prop} [Decidable p] {a b:Rs σ} (h1:p→a.Q P F) (h2:¬ p→b.Q P F):(if p then a else b).Q P F:=by
 split
 ·exact h1 ‹_›
 ·exact h2 ‹_›
def TOk (c:Cfg) (t:Int):Prop:=0≤t∧t<c.tasks
def aoJ:OPushS→Prop
 | .l1 =>True
 | .l2 b =>0≤b
 | .l3 b =>0≤b
 | .l4 b =>0≤b
def aCg:OPopS→Prop
 | .l1 =>True
 | .l2 b =>0≤b
 | .l3 b _ =>0≤b
 | .l4 b _ =>0≤b
 | .l5 b _ =>0≤b
 | .l6 b _ =>0≤b
 | .l7 b _ =>0≤b
 | .l8 b _ =>0≤b
 | .l9 b _ =>0≤b
def axd (c:Cfg):StealS→Prop
 | .l1 =>True
 | .l2 t =>0≤t
 | .l3 t =>0≤t
 | .l4 _ v =>TOk c (wi v)
def aqb (c:Cfg):InsertS→Prop
 | .l1 =>True
 | .l2 _ =>True
 | .l3 _ _ k x =>aek c k∧aek c x
 | .l4 _ _ k x =>aek c k∧aek c x
 | .l5 _ _ k x =>aek c k∧aek c x
 | .l6 _ _ k x =>aek c k∧aek c x
def anJ (c:Cfg):RemoveS→Prop
 | .l1 =>True
 | .l2 _ =>True
 | .l3 _ x =>aek c x
 | .l4 _ x y =>aek c x∧aek c y
 | .l5 _ _ _ x y z =>aek c x∧aek c y∧aek c z
 | .l6 _ _ _ x y z =>aek c x∧aek c y∧aek c z
 | .l7 _ _ _ x y z =>aek c x∧aek c y∧aek c z
 | .l8 _ _ _ x y z =>aek c x∧aek c y∧aek c z
section
variable {c:Cfg} {e:EnvP} {w v x:Int}
theorem aGs (h:MI c e) (hx:TOk c x) (s:OPushS) (hs:aoJ s):Qt c e (afS (aaz (aap c) w v) x e s).2∧(afS (aaz (aap c) w v) x e s).1.Q aoJ (fun _ _ =>True):=by
 have ht:=h.d.t
 cases s with
 | l1 =>exact ⟨.lk h,h.p _⟩
 | l2 b =>exact ⟨.lk h,.ite (fun _ =>trivial) fun _ =>hs⟩
 | l3 b =>exact ⟨.ring h _ _ hs (by rw [afo (by unfold TOk at hx; omega)]; exact hx),hs⟩
 | l4 b =>exact ⟨.fr h (anp h.d _ _) (aif _),trivial⟩
theorem aII (h:MI c e) (s:OPopS) (hs:aCg s):Qt c e (apr (aaz (aap c) w v) e s).2∧(apr (aaz (aap c) w v) e s).1.Q aCg (fun r x =>r=1→TOk c x):=by
 cases s with
 | l1 =>exact ⟨.lk h,h.p _⟩
 | l2 b =>exact ⟨.lk h,.ite (fun _ =>fun h =>absurd h (by omega)) fun _ =>hs⟩
 | l3 b t =>exact ⟨.fr h (anp h.d _ _) (aif _),hs⟩
 | l4 b t =>exact ⟨.lk h,.ite (fun _ =>hs) fun _ =>.ite (fun _ =>hs) fun _ =>hs⟩
 | l5 b t =>exact ⟨.lk h,fun _ =>awO h _ _ (aif _)⟩
 | l6 b t =>exact ⟨.cas h (aE7 h.d _ _) (aif _),.ite (fun _ =>hs) fun _ =>hs⟩
 | l7 b t =>exact ⟨.fr h (anp h.d _ _) hs,hs⟩
 | l8 b t =>exact ⟨.lk h,fun _ =>awO h _ _ (aif _)⟩
 | l9 b t =>exact ⟨.fr h (anp h.d _ _) hs,fun h =>absurd h (by omega)⟩
theorem azF (h:MI c e) (s:StealS) (hs:axd c s):Qt c e (aiA (aaz (aap c) w v) e s).2∧(aiA (aaz (aap c) w v) e s).1.Q (axd c) (fun r x =>r=1→TOk c x):=by
 cases s with
 | l1 =>exact ⟨.lk h,h.p _⟩
 | l2 b =>exact ⟨.lk h,.ite (fun _ =>fun h =>absurd h (by omega)) fun _ =>hs⟩
 | l3 t =>exact ⟨.lk h,awO h _ _ hs⟩
 | l4 t u =>exact ⟨.cas h (aE7 h.d _ _) (aif _),.ite (fun _ =>fun _ =>hs) fun _ =>fun h =>absurd h (by omega)⟩
theorem awh {a b:Int} (h:MI c e) (s:ResetS):Qt c e (agE (aaK (aap c) a) b (aaz (aap c) w v) e s).2:=by
 cases s with
 | l1 =>exact .fr h (arq h.d) (aoC _ _)
 | l2 =>exact .lk h
 | l3 x =>exact .lk h
 | l4 x =>exact .fr h (arq h.d) (ax4 _ _)
theorem aKD {a b:Int} (h:MI c e):Qt c e (aFU (aaK (aap c) a) b e):=.fr h (arq h.d) (ax4 _ _)
theorem amh {t:Int} (h:MI c e) (ht:TOk c t):Qt c e (aeW w t e):=by
 unfold aeW
 rw [h.l]
 split
 ·split
  ·exact (Qt.cas h (ahp h.d) (by omega)).em ht (by omega)
  ·exact (Qt.cas h (ahp h.d) (by omega)).pr.em ht (by omega)
 ·exact (Qt.cas h (ahp h.d) (by omega)).em ht (by omega)
theorem aq7 {o:Int} (h:MI c e):Qt c e (awN o e):=.cas h (arp h.d (by omega)) (aif _)
theorem avq (h:MI c e):Qt c e (avr e):=.fr h (arp h.d (by omega)) (by omega)
theorem auy (h:MI c e):ckC c (aiD w e)=3∨ckC c (aiD w e)=9:=by
 unfold aiD
 rw [h.l]
 split
 ·exact .inr agZ
 ·exact arG h.d
theorem axl {j:Int} (h:MI c e):ckC c (anM v j e)=3∨ckC c (anM v j e)=9:=by
 unfold anM
 rw [h.l]
 split
 ·exact .inr agZ
 ·exact arG h.d
theorem aqx (h:MI c e):Fr c (aiD w e):=ar1 rfl (by have:=auy (w:=w) h; omega)
theorem aCw {j:Int} (h:MI c e):Fr c (anM v j e):=ar1 rfl (by have:=axl (v:=v) (j:=j) h; omega)
theorem TOk.zero (h:DecOk c):0≤(0:Int)∧0<c.tasks:=by have:=h.t; omega
theorem azO (h:MI c e) (s:SleepS):Qt c e (agD w e s).2:=by
 have hz:=TOk.zero h.d
 cases s with
 | l1 =>exact .lk h
 | l2 ep =>exact .fr h (aqx h) (ax4 _ _)
 | l3 ep =>exact .lk h
 | l4 ep v =>
  simp only [agD]
  split
  ·exact .lk h
  ·split
   ·exact (Qt.lk h).em hz (by omega)
   ·exact .lk h
 | l5 ep v s =>
  simp only [agD]
  split
  ·exact (Qt.lk h).em hz (by omega)
  ·split
   ·exact (Qt.lk h).em hz (by omega)
   ·exact .lk h
 | l6 _ _ _ =>exact .fr h (aqx h) (aoC _ _)
 | l7 _ _ _ =>exact .fr h (aqx h) (aoC _ _)
theorem amr (h:MI c e) (s:WakeS):Qt c e (aej w v e s).2:=by
 have hz:=TOk.zero h.d
 cases s with
 | l1 j =>exact .lk h
 | l2 j x =>exact .fr h (aCw h) (aoC _ _)
 | l3 j x =>
  show Qt c e ((e.pt 6 (ahc e.l x) _).em 18 w 0 x 0)
  rw [h.l]
  exact (Qt.fr h (aDU h.d) (aif _)).em hz (by omega)
theorem aAj (h:MI c e) (s:ProbeS):Qt c e (akn w e s).2:=by
 have g:∀ s i bm,Qt c e (ajM w e s i bm).2:=fun s i bm =>by
  unfold ajM
  split
  ·exact .refl h
  ·simp only
   split
   ·exact .lk h
   ·exact .lk h
 cases s with
 | new =>exact g _ _ _
 | run s i bm =>exact g _ _ _
end
theorem am2 (a:Int):(BitVec.ofInt 64 a).toNat=(a % 18446744073709551616).toNat:=by
 rw [BitVec.toNat_ofInt]; rfl
theorem axk {n:Nat} (h:n<18446744073709551616):IntKind.u64.wrap (n:Int)=(n:Int):=by
 rw [azp]; omega
theorem aAz (a b:Int):orU a b=(((a % 18446744073709551616).toNat ||| (b % 18446744073709551616).toNat:Nat):Int):=by
 show IntKind.u64.wrap ((BitVec.ofInt 64 a ||| BitVec.ofInt 64 b).toNat:Int)=_
 rw [BitVec.toNat_or,am2,am2,axk]
 exact Nat.or_lt_two_pow (n:=64) (by omega) (by omega)
theorem at9 (a:Int):ap8 a 65535=(((a % 18446744073709551616).toNat % 65536:Nat):Int):=by
 show IntKind.u64.wrap ((BitVec.ofInt 64 a &&& BitVec.ofInt 64 65535).toNat:Int)=_
 have e:((65535:Int) % 18446744073709551616).toNat=2 ^ 16-1:=by decide
 rw [BitVec.toNat_and,am2,am2,e,Nat.and_two_pow_sub_one_eq_mod,axk (by omega)]
theorem aAB (a b:Int):(orU a b).toNat % 65536=((a % 18446744073709551616).toNat % 65536) ||| ((b % 18446744073709551616).toNat % 65536):=by
 rw [aAz,Int.toNat_natCast]
 exact Nat.or_mod_two_pow (n:=16)
theorem aAA (a b:Int):orU a b % 18446744073709551616=orU a b:=by
 have h:(a % 18446744073709551616).toNat ||| (b % 18446744073709551616).toNat<2 ^ 64:=Nat.or_lt_two_pow (by omega) (by omega)
 rw [aAz]
 omega
theorem aDd {d a t:Int} (ht:0≤t∧t≤65535):ap8 (aqP d a t).1 65535=t∨(aqP d a t).1=0:=by
 unfold aqP
 by_cases h1:d<0
 ·rw [if_pos h1]; exact .inr rfl
 rw [if_neg h1]
 by_cases h2:16777215<d
 ·rw [if_pos h2]; exact .inr rfl
 rw [if_neg h2]
 by_cases h3:a<0
 ·rw [if_pos h3]; exact .inr rfl
 rw [if_neg h3]
 by_cases h4:16777215<a
 ·rw [if_pos h4]; exact .inr rfl
 rw [if_neg h4,if_neg (by omega),if_neg (by omega)]
 refine .inl ?_
 simp only
 rw [at9,aAA,aAB,aAA,aAB]
 have p40:(2:Int) ^ min (40:Int).toNat IntKind.u64.bits=1099511627776:=by decide
 have p16:(2:Int) ^ min (16:Int).toNat IntKind.u64.bits=65536:=by decide
 rw [p40,p16,afo (x:=d) (by omega),afo (x:=a) (by omega),afo (x:=t) (by omega)]
 have e1:((wu (d*1099511627776)) % 18446744073709551616).toNat % 65536=0:=by
  have:wu (d*1099511627776)=d*1099511627776 % 18446744073709551616:=azp _
  rw [this]; omega
 have e2:((wu (a*65536)) % 18446744073709551616).toNat % 65536=0:=by
  have:wu (a*65536)=a*65536 % 18446744073709551616:=azp _
  rw [this]; omega
 rw [e1,e2]
 simp
 omega
theorem aGi {c:Cfg} (hd:DecOk c) {d a t:Int} (ht:TOk c t):aek c (aqP d a t).1:=by
 have h:=hd.t
 have h2:0≤(aqP d a t).1:=by
  unfold aqP
  repeat' split
  all_goals first | exact Int.le_refl 0 | exact ax4 _ _
 refine ⟨h2,?_⟩
 rcases aDd (d:=d) (a:=a) (t:=t) (by unfold TOk at ht; omega) with e | e
 ·rw [e]; exact ht.2
 ·rw [e,at9]; simp; omega
theorem atv {c:Cfg} (hd:DecOk c) {k:Int} (hk:aek c k):TOk c (avg k):=by
 have h:=hd.t
 have e:avg k=ap8 k 65535:=by
  show wi (ap8 k 65535)=_
  have h1:=aoC k 65535
  have h2:=hk.2
  exact aaC (aai (by omega))
 unfold TOk
 rw [e]
 exact ⟨aoC _ _,hk.2⟩
theorem atu {c:Cfg} (hd:DecOk c):aek c 0:=by
 have h:=hd.t
 refine ⟨Int.le_refl 0,?_⟩
 rw [at9]; simp; omega
section
variable {c:Cfg} {e:EnvP} {w x:Int}
theorem axQ {n i k x:Int} (h1:aek c k) (h2:aek c x):aqb c (auU n i k x):=by
 unfold auU
 split
 ·exact ⟨h1,h2⟩
 ·exact ⟨h1,h2⟩
theorem apR {d t:Int} (h:MI c e) (ht:TOk c t) (s:InsertS) (hs:aqb c s):Qt c e (acy d t e s).2∧(acy d t e s).1.Q (aqb c) (fun _ _ =>True):=by
 cases s with
 | l1 =>exact ⟨.lk h,.ite (fun _ =>trivial) fun _ =>trivial⟩
 | l2 n =>exact ⟨.fr h (arp h.d (by omega)) (aif _),.ite (fun _ =>axQ (aGi h.d ht) (atu h.d)) fun _ =>trivial⟩
 | l3 n i k x =>
  unfold acy
  rw [h.l]
  exact ⟨.lk h,.ite (fun _ =>⟨hs.1,ajm h _⟩) fun _ =>⟨hs.1,ajm h _⟩⟩
 | l4 n i k x =>
  unfold acy
  rw [h.l]
  exact ⟨.slot h hs.2,axQ hs.1 hs.2⟩
 | l5 n i k x =>
  unfold acy
  rw [h.l]
  exact ⟨.slot h hs.1,hs⟩
 | l6 n i k x =>exact ⟨.fr h (arp h.d (by omega)) (aif _),trivial⟩
theorem ayx {n i d x y z:Int} (h1:aek c x) (h2:aek c y) (h3:aek c z):anJ c (avJ n i d x y z):=by
 unfold avJ
 split
 ·exact ⟨h1,h2,h3⟩
 ·exact ⟨h1,h2,h3⟩
theorem awX {n i d x y z:Int} (h1:aek c x) (h2:aek c y) (h3:aek c z):anJ c (azb n i d x y z):=by
 unfold azb
 split
 ·exact ⟨h1,h2,h3⟩
 ·exact ⟨h1,h2,h3⟩
theorem aC1 (h:MI c e) (s:RemoveS) (hs:anJ c s):Qt c e (adB w e s).2∧(adB w e s).1.Q (anJ c) (fun r x =>r≠2→TOk c x):=by
 cases s with
 | l1 =>exact ⟨.lk h,.ite (fun _ =>fun h =>absurd rfl h) fun _ =>trivial⟩
 | l2 n =>
  unfold adB
  rw [h.l]
  exact ⟨.lk h,ajm h _⟩
 | l3 n x =>
  unfold adB
  rw [h.l]
  exact ⟨.lk h,hs,ajm h _⟩
 | l4 n x y =>exact ⟨(Qt.fr h (arp h.d (by omega)) (aif _)).em (atv h.d hs.1) (by omega),.ite (fun _ =>fun _ =>atv h.d hs.1) fun _ =>ayx hs.1 hs.2 (atu h.d)⟩
 | l5 n i d x y z =>
  unfold adB
  rw [h.l]
  exact ⟨.lk h,.ite (fun _ =>⟨hs.1,hs.2.1,ajm h _⟩) fun _ =>awX hs.1 hs.2.1 (ajm h _)⟩
 | l6 n i d x y z =>
  unfold adB
  rw [h.l]
  exact ⟨.lk h,.ite (fun _ =>awX hs.1 hs.2.1 (ajm h _)) fun _ =>awX hs.1 hs.2.1 hs.2.2⟩
 | l7 n i d x y z =>
  unfold adB
  rw [h.l]
  exact ⟨.slot h hs.2.2,ayx hs.1 hs.2.1 hs.2.2⟩
 | l8 n i d x y z =>
  unfold adB
  rw [h.l]
  exact ⟨.slot h hs.2.1,fun _ =>atv h.d hs.1⟩
end
structure Rsd (c:Cfg) (e e':EnvP) (t v:Int):Prop where
 i:MI c e'
 tk:TOk c t
 vk:0≤v∧v<c.levels
 up:Lv c e t<v
 now:Lv c e' t=v
 ot:∀ u,u≠t→Lv c e' u=Lv c e u
 nx:e'.gt 0=e.gt 0
 ev:∃ k w o l,(k=11∨k=12)∧e'.evs=e.evs++(⟨k,w,t,o,v⟩::l)∧∀ x∈l,Pl c x
def Rz (c:Cfg) (e e':EnvP):Prop:=Qt c e e'∨∃ t v,Rsd c e e' t v
section
variable {c:Cfg} {e e':EnvP} {w v x:Int}
theorem Rsd.em {t v k w u o l:Int} (h:Rsd c e e' t v) (ht:0≤u∧u<c.tasks) (hk:k≠1∧k≠3∧k≠11∧k≠12):Rsd c e (e'.em k w u o l) t v:=by
 obtain ⟨k1,w1,o1,m,h1,hm,hp⟩:=h.ev
 refine ⟨⟨h.i.d,h.i.l,h.i.cc,h.i.ok⟩,h.tk,h.vk,h.up,h.now,h.ot,h.nx,k1,w1,o1,m++[⟨k,w,u,o,l⟩],h1,?_,fun x hx =>?_⟩
 ·show e'.evs++[_]=_
  rw [hm,List.append_assoc,List.cons_append]
 ·rcases List.mem_append.1 hx with hx | hx
  ·exact hp x hx
  ·rw [List.mem_singleton.1 hx]
   exact ⟨ht,hk⟩
theorem Rz.em {k w u o l:Int} (h:Rz c e e') (ht:0≤u∧u<c.tasks) (hk:k≠1∧k≠3∧k≠11∧k≠12):Rz c e (e'.em k w u o l):=by
 rcases h with h | ⟨t,v,h⟩
 ·exact .inl (h.em ht hk)
 ·exact .inr ⟨t,v,h.em ht hk⟩
theorem Rz.i (h:Rz c e e'):MI c e':=by
 rcases h with h | ⟨t,v,h⟩
 ·exact h.i
 ·exact h.i
theorem Qt.same (h:MI c e) (h1:∀ b,e'.gt b=e.gt b) (h2:e'.l=e.l) (h3:e'.c=e.c) (h4:e'.evs=e.evs):Qt c e e' :=
 ⟨⟨h.d,by rw [h2]; exact h.l,by rw [h3]; exact h.cc,fun a =>by rw [h1]; exact h.ok a⟩,fun t =>h1 _,h1 _,[],by rw [h4]; simp,fun x hx =>by cases hx⟩
theorem ao4 {a o v b:Int}:(e.cas a o v).gt b=if e.hit a o=true∧b=a then v else e.gt b:=by
 have h:(e.cas a o v).gt b=(e.pt 3 a (if e.m.gt a=o then v else e.m.gt a)).gt b:=rfl
 rw [h,aio]
 by_cases hr:0≤a∧a<(e.m.cells.length:Int)
 ·have hg:e.m.gt a=ahf e.m.cells a:=by unfold MemV.gt; rw [if_pos hr]
  by_cases hh:ahf e.m.cells a=o
  ·have h1:e.hit a o=true:=by show decide _=true; rw [decide_eq_true ⟨hr,hh⟩]
   by_cases hb:b=a
   ·rw [if_pos (show b=a∧0≤a∧a<(e.m.cells.length:Int) from ⟨hb,hr⟩),if_pos (show e.hit a o=true∧b=a from ⟨h1,hb⟩),hg,if_pos hh]
   ·rw [if_neg (show ¬ (b=a∧0≤a∧a<(e.m.cells.length:Int)) from fun h =>hb h.1),if_neg (show ¬ (e.hit a o=true∧b=a) from fun h =>hb h.2)]
  ·have h1:¬ e.hit a o=true:=by
    show ¬ decide _=true
    rw [decide_eq_true_iff]
    exact fun h =>hh h.2
   rw [if_neg (show ¬ (e.hit a o=true∧b=a) from fun h =>h1 h.1)]
   by_cases hb:b=a
   ·rw [if_pos (show b=a∧0≤a∧a<(e.m.cells.length:Int) from ⟨hb,hr⟩),hg,if_neg hh,hb]; exact hg.symm
   ·rw [if_neg (show ¬ (b=a∧0≤a∧a<(e.m.cells.length:Int)) from fun h =>hb h.1)]
 ·have h1:¬ e.hit a o=true:=by
   show ¬ decide _=true
   rw [decide_eq_true_iff]
   exact fun h =>hr h.1
  rw [if_neg (show ¬ (e.hit a o=true∧b=a) from fun h =>h1 h.1),if_neg (show ¬ (b=a∧0≤a∧a<(e.m.cells.length:Int)) from fun h =>hr h.2)]
theorem Qt.miss {a o v:Int} (h:MI c e) (hm:¬ e.hit a o=true):Qt c e (e.cas a o v):=.same h (fun b =>by rw [ao4,if_neg (fun h =>hm h.1)]) rfl rfl rfl
theorem avm {a o:Int} (h:e.hit a o=true):e.gt a=o∧0≤a:=by
 have h:decide ((0≤a∧a<(e.m.cells.length:Int))∧ahf e.m.cells a=o)=true:=h
 have h:=of_decide_eq_true h
 refine ⟨?_,h.1.1⟩
 show e.m.gt a=o
 unfold MemV.gt
 rw [if_pos h.1]; exact h.2
theorem ave (hd:DecOk c) {t u:Int} (ht:TOk c t) (h:aaW (aap c) u=aaW (aap c) t):u=t:=by
 have e1:=adt hd (t:=t) (f:=1) (by omega)
 have e2:=adt hd (t:=u) (f:=1) (by omega)
 have e3:=aeR hd
 have h4:=hd.h
 have h:ac0 (aap c) u 1=ac0 (aap c) t 1:=h
 have ht:0≤t∧t<c.tasks:=ht
 rw [e1,e2,if_pos ht] at h
 by_cases hu:0≤u∧u<c.tasks
 ·rw [if_pos hu] at h; omega
 ·rw [if_neg hu] at h; omega
theorem aye (hd:DecOk c) {t v:Int} (hv:0≤v∧v<c.levels):CellOk c (aaW (aap c) t) v:=by
 have e:=agQ hd (t:=t)
 exact ⟨hv.1,fun k =>by omega,fun k =>by omega,fun k =>hv.2⟩
theorem asU (h:MI c e) {t q v k w o:Int} (ht:TOk c t) (hv:0≤v∧v<c.levels) (hq:q<v) (hh:e.hit (aaW (aap c) t) q=true) (hk:k=11∨k=12):Rsd c e ((e.cas (aaW (aap c) t) q v).em k w t o v) t v:=by
 have hg:=avm hh
 refine ⟨⟨h.d,h.l,h.cc,fun b =>?_⟩,ht,hv,by show e.gt _<v; omega,?_,fun u hu =>?_,?_,k,w,o,[],hk,rfl,fun x hx =>by cases hx⟩
 ·show CellOk c b ((e.cas _ q v).gt b)
  rw [ao4]
  split
  ·rename_i q; rw [q.2]; exact aye h.d hv
  ·exact h.ok b
 ·show (e.cas _ q v).gt _=v
  rw [ao4,if_pos ⟨hh,rfl⟩]
 ·show (e.cas _ q v).gt _=e.gt _
  rw [ao4,if_neg (fun h' =>hu (ave h.d ht h'.2))]
 ·show (e.cas _ q v).gt 0=e.gt 0
  rw [ao4,if_neg]
  intro h'
  have h1:=agQ h.d (t:=t)
  rw [← h'.2,ae4] at h1
  omega
def aoH (v:Int):RaiseS→Prop
 | .l1 _ =>True
 | .l2 q =>q<v
theorem aGe {t:Int} (h:MI c e) (s:RaiseS) (hs:aoH v s):Rz c e (adZ w t v e s).2∧(adZ w t v e s).1.Q (aoH v) (fun _ _ =>True):=by
 unfold adZ
 rw [h.l]
 split
 ·exact ⟨.inl (.refl h),trivial⟩
 rename_i hf
 have hf:av5 e t v:=Classical.not_not.1 hf
 unfold av5 at hf
 rw [h.cc] at hf
 have hl:=h.d.l
 cases s with
 | l1 q =>
  refine ⟨.inl (.lk h),?_⟩
  have hg:=apS h t
  have e1:wi (Lv c e t)=Lv c e t:=aaC (aai (by omega))
  show Rs.Q _ _ (if v≤wi (Lv c e t) then _ else _)
  rw [e1]
  exact .ite (fun _ =>trivial) fun hn =>by show Lv c e t<v; omega
 | l2 q =>
  have e2:wu v=v:=afo (by omega)
  simp only
  split
  ·rename_i hh
   rw [e2]
   exact ⟨.inr ⟨t,v,asU h hf.1 hf.2 hs hh (.inl rfl)⟩,trivial⟩
  ·rename_i hh
   exact ⟨.inl (.miss h hh),trivial⟩
def ajH:LPushS→Prop
 | .push s =>aoJ s
 | _ =>True
theorem ajh (h:MI c e) (hx:TOk c x) (s:LPushS) (hs:ajH s):Qt c e (abL w v x e s).2∧(abL w v x e s).1.Q ajH (fun _ _ =>True):=by
 have g:∀ s,aoJ s→Qt c e (match afS (aaz e.l w v) x e s with
   | (.go s,e') =>(Rs.go (LPushS.push s),e')
   | (.fin c _,e') =>(if c=3 then .fin 3 0 else .go .set,e')).2∧(match afS (aaz e.l w v) x e s with
   | (.go s,e') =>(Rs.go (LPushS.push s),e')
   | (.fin c _,e') =>(if c=3 then .fin 3 0 else .go .set,e')).1.Q ajH (fun _ _ =>True):=fun s hs =>by
  have:=aGs (w:=w) (v:=v) h hx s hs
  rw [h.l]
  revert this
  rcases afS (aaz (aap c) w v) x e s with ⟨r,e'⟩
  intro this
  cases r with
  | go s =>exact this
  | fin c0 v0 =>exact ⟨this.1,.ite (fun _ =>trivial) fun _ =>trivial⟩
 cases s with
 | new =>exact g .l1 trivial
 | push s =>exact g _ hs
 | set =>
  refine ⟨?_,trivial⟩
  show Qt c e (aFU (aaK e.l w) v e)
  rw [h.l]
  exact aKD h
def aCh:LPopS→Prop
 | .l2 _ s =>aCg s
 | _ =>True
theorem aJf (h:MI c e) (s:LPopS) (hs:aCh s):Qt c e (aim w e s).2∧(aim w e s).1.Q aCh (fun r x =>r≠2→TOk c x):=by
 cases s with
 | l1 v =>
  unfold aim
  exact ⟨.lk h,.ite (fun _ =>fun h =>absurd rfl h) fun _ =>trivial⟩
 | l2 v s =>
  have:=aII (w:=w) (v:=v) h s hs
  simp only [aim]
  rw [h.l]
  revert this
  rcases apr (aaz (aap c) w v) e s with ⟨r,e'⟩
  intro this
  cases r with
  | go s =>exact this
  | fin c0 v0 =>exact ⟨this.1,.ite (fun hc =>fun _ =>this.2 hc) fun _ =>trivial⟩
 | l3 v s =>
  have:=awh (w:=w) (v:=v) (a:=w) (b:=v) h s
  simp only [aim]
  rw [h.l]
  revert this
  rcases agE (aaK (aap c) w) v (aaz (aap c) w v) e s with ⟨r,e'⟩
  intro this
  cases r with
  | go s =>exact ⟨this,trivial⟩
  | fin c0 v0 =>exact ⟨this,trivial⟩
def ao8 (c:Cfg) (v:Int):WalkS→Prop
 | .l1 _ =>True
 | .raise t s =>TOk c t∧aoH v s
 | .l2 t =>TOk c t
 | .push t s =>TOk c t∧ajH s
 | .l4 _ =>True
theorem aH7 (h:MI c e) (s:WalkS) (hs:ao8 c v s):Rz c e (ae9 w v e s).2∧(ae9 w v e s).1.Q (ao8 c v) (fun _ _ =>True):=by
 have g:∀ t s,TOk c t→aoH v s→Rz c e (match adZ w t v e s with
   | (.go s,e') =>(Rs.go (WalkS.raise t s),e')
   | (.fin c _,e') =>(.go (if c=1 then .l2 t else .l4 t),e')).2∧(match adZ w t v e s with
   | (.go s,e') =>(Rs.go (WalkS.raise t s),e')
   | (.fin c _,e') =>(.go (if c=1 then .l2 t else .l4 t),e')).1.Q (ao8 c v) (fun _ _ =>True):=fun t s ht hs =>by
  have:=aGe (w:=w) (t:=t) h s hs
  revert this
  rcases adZ w t v e s with ⟨r,e'⟩
  intro this
  cases r with
  | go s =>exact ⟨this.1,ht,this.2⟩
  | fin c0 v0 =>
   refine ⟨this.1,?_⟩
   show ao8 c v (if c0=1 then .l2 t else .l4 t)
   split
   ·exact ht
   ·trivial
 cases s with
 | l1 t =>
  simp only [ae9]
  split
  ·exact ⟨.inl (.refl h),trivial⟩
  ·rename_i hf
   have hf:av5 e t v:=Classical.not_not.1 hf
   unfold av5 at hf
   rw [h.cc] at hf
   exact g t _ hf.1 trivial
 | raise t s =>exact g t s hs.1 hs.2
 | l2 t =>
  refine ⟨.inl (.lk h),?_⟩
  show ao8 c v (if e.gt (aa8 e.l t)=1 then .push t .new else .l4 t)
  split
  ·exact ⟨hs,trivial⟩
  ·trivial
 | push t s =>
  have:=ajh (w:=w) (v:=v) h hs.1 s hs.2
  simp only [ae9]
  revert this
  rcases abL w v t e s with ⟨r,e'⟩
  intro this
  cases r with
  | go s =>exact ⟨.inl this.1,hs.1,this.2⟩
  | fin c0 v0 =>
   refine ⟨.inl ?_,trivial⟩
   show Qt c e (if c0=3 then e'.em 19 w t 0 v else e')
   split
   ·exact this.1.em hs.1 (by omega)
   ·exact this.1
 | l4 t =>
  simp only [ae9]
  exact ⟨.inl (.lk h),.ite (fun _ =>trivial) fun _ =>trivial⟩
def axf:EnterS→Prop
 | .l4 _ s =>ajH s
 | _ =>True
theorem aHm {t:Int} (h:MI c e) (ht:TOk c t) (s:EnterS) (hs:axf s):Qt c e (ad1 w t e s).2∧(ad1 w t e s).1.Q axf (fun _ _ =>True):=by
 cases s with
 | l1 =>
  simp only [ad1]
  rw [h.l]
  split
  ·exact ⟨.refl h,trivial⟩
  ·exact ⟨.fr h (apT h.d) (aif _),trivial⟩
 | l2 =>
  simp only [ad1]
  rw [h.l]
  exact ⟨.fr h (ahp h.d) (by omega),trivial⟩
 | l3 =>exact ⟨.lk h,trivial⟩
 | l4 v s =>
  have:=ajh (w:=w) (v:=v) h ht s hs
  simp only [ad1]
  revert this
  rcases abL w v t e s with ⟨r,e'⟩
  intro this
  cases r with
  | go s =>exact this
  | fin c0 v0 =>exact ⟨this.1,trivial⟩
def arO (c:Cfg):SweepS→Prop
 | .l4 q =>0≤q∧q+1<c.levels
 | .l6 _ s =>ajH s
 | _ =>True
theorem aFw {t:Int} (h:MI c e) (ht:TOk c t) (s:SweepS) (hs:arO c s):Rz c e (aa4 w t e s).2∧(aa4 w t e s).1.Q (arO c) (fun _ _ =>True):=by
 have hl:=h.d.l
 cases s with
 | l1 =>
  simp only [aa4]
  split
  ·exact ⟨.inl (.refl h),trivial⟩
  ·exact ⟨.inl (.lk h),.ite (fun _ =>trivial) fun _ =>trivial⟩
 | l2 =>
  simp only [aa4]
  exact ⟨.inl (.lk h),.ite (fun _ =>trivial) fun _ =>trivial⟩
 | l3 =>
  simp only [aa4]
  rw [h.l,h.cc]
  refine ⟨.inl (.lk h),.ite (fun _ =>trivial) fun hn =>?_⟩
  have hg:=apS h t
  have e1:wi (Lv c e t)=Lv c e t:=aaC (aai (by omega))
  have e2:wi (c.levels-1)=c.levels-1:=aaC (aai (by omega))
  have hn:¬ wi (c.levels-1)≤wi (Lv c e t):=hn
  rw [e1,e2] at hn
  show 0≤Lv c e t∧Lv c e t+1<c.levels
  omega
 | l4 q =>
  have hs:0≤q∧q+1<c.levels:=hs
  have e1:wu (q+1)=q+1:=afo (by omega)
  have e2:wi (wi q+1)=q+1:=by rw [aaC (x:=q) (aai (by omega)),aaC (aai (by omega))]
  simp only [aa4]
  rw [h.l,e1,e2]
  split
  ·rename_i hh
   exact ⟨.inr ⟨t,q+1,asU h ht (by omega) (by omega) hh (.inr rfl)⟩,trivial⟩
  ·rename_i hh
   exact ⟨.inl (.miss h hh),trivial⟩
 | l5 q =>
  simp only [aa4]
  rw [h.l]
  exact ⟨.inl (.fr h (apT h.d) (aif _)),trivial⟩
 | l6 q s =>
  have:=ajh (w:=w) (v:=wi (wi q+1)) h ht s hs
  simp only [aa4]
  revert this
  rcases abL w (wi (wi q+1)) t e s with ⟨r,e'⟩
  intro this
  cases r with
  | go s =>exact ⟨.inl this.1,this.2⟩
  | fin c0 v0 =>
   refine ⟨.inl ?_,trivial⟩
   show Qt c e (if c0=3 then e'.em 19 w t 0 _ else e')
   split
   ·exact this.1.em ht (by omega)
   ·exact this.1
def aCd (c:Cfg):TakeS→Prop
 | .pop s =>aCh s
 | .claim t =>TOk c t
theorem aEy (h:MI c e) (s:TakeS) (hs:aCd c s):Qt c e (alA w e s).2∧(alA w e s).1.Q (aCd c) (fun r x =>r=1→TOk c x):=by
 cases s with
 | pop s =>
  have:=aJf (w:=w) h s hs
  simp only [alA]
  revert this
  rcases aim w e s with ⟨r,e'⟩
  intro this
  cases r with
  | go s =>exact this
  | fin c0 v0 =>exact ⟨this.1,.ite (fun _ =>fun h =>absurd h (by omega)) fun hn =>this.2 hn⟩
 | claim t =>exact ⟨amh h hs,.ite (fun _ =>fun _ =>hs) fun _ =>trivial⟩
def av0 (c:Cfg) (d:DrainS):Prop:=(d.direct=true→TOk c d.x)∧match d.c with
 | .l3 s =>anJ c s
 | .l4 =>TOk c d.x
 | .l5 s =>TOk c d.x∧ajH s
 | _ =>True
theorem ayn {d:DrainS} (h:d.direct=true→TOk c d.x):(ao1 d).Q (av0 c) (fun r x =>r=1→TOk c x):=by
 unfold ao1
 exact .ite (fun k =>fun _ =>h k) fun _ =>.ite (fun _ =>fun h =>absurd h (by omega)) fun _ =>fun h =>absurd h (by omega)
theorem aBB (h:MI c e) (d:DrainS) (hd:av0 c d):Qt c e (abT w e d).2∧(abT w e d).1.Q (av0 c) (fun r x =>r=1→TOk c x):=by
 obtain ⟨x,dir,p,last,cnt,k⟩:=d
 obtain ⟨h1,h2⟩:=hd
 cases k with
 | l1 =>
  simp only [abT]
  exact ⟨.lk h,.ite (fun _ =>fun h =>absurd h (by omega)) fun _ =>⟨h1,trivial⟩⟩
 | l2 =>
  simp only [abT]
  exact ⟨aq7 h,.ite (fun _ =>⟨h1,trivial⟩) fun _ =>fun h =>absurd h (by omega)⟩
 | l3 s =>
  have:=aC1 (w:=w) h s h2
  simp only [abT]
  revert this
  rcases adB w e s with ⟨r,e'⟩
  intro this
  cases r with
  | go s =>exact ⟨this.1,h1,this.2⟩
  | fin c0 v0 =>exact ⟨this.1,.ite (fun _ =>⟨h1,trivial⟩) fun hn =>⟨fun _ =>this.2 hn,this.2 hn⟩⟩
 | l4 =>
  simp only [abT]
  exact ⟨.lk h,h1,h2,trivial⟩
 | l5 s =>
  have:=ajh (w:=w) (v:=p) h h2.1 s h2.2
  simp only [abT]
  revert this
  rcases abL w p x e s with ⟨r,e'⟩
  intro this
  cases r with
  | go s =>exact ⟨this.1,h1,h2.1,this.2⟩
  | fin c0 v0 =>exact ⟨this.1,.ite (fun _ =>⟨fun _ =>h2.1,trivial⟩) fun _ =>.ite (fun _ =>⟨h1,trivial⟩) fun _ =>⟨h1,trivial⟩⟩
 | l6 =>
  simp only [abT]
  exact ⟨avq h,.ite (fun _ =>⟨h1,trivial⟩) fun _ =>ayn h1⟩
 | l7 s =>
  have:=amr (w:=w) (v:=last) h s
  simp only [abT]
  revert this
  rcases aej w last e s with ⟨r,e'⟩
  intro this
  cases r with
  | go s =>exact ⟨this,h1,trivial⟩
  | fin c0 v0 =>exact ⟨this,ayn h1⟩
end
end
end Go.Proofs.YteapeojalliebaaGreat
