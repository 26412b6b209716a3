/- The program's model: what each kind of event does. The program's model: what each kind of event does (tops,walks,the queue). The program's queue. The program's model: what each kind of event does (the queue,walks up the parents). The reference's model: what its small functions answer. The reference's model: what each kind of event does. The reference's model: what each kind of event does (tops,walks,the queue). -/
import Derived.Test.YtkmkhldmflebkaaGreatCzap
set_option linter.all false
namespace Go.Proofs.YtkmkhldmflebkaaGreat
section
open Go Go.RowKit
set_option maxRecDepth 3000
variable [Tb]
def viP (x:TkP):Int×Int×Int×Int:=(x.ph,x.lv,x.pa,x.wt)
structure SameV (p q:SyP):Prop where
 t:q.tasks.map viP=p.tasks.map viP
 w:q.works.map (·.stack)=p.works.map (·.stack)
 c:q.c=p.c
structure PO (p:SyP):Prop where
 tl:(p.tasks.length:Int)=p.c.tasks
 wl:(p.works.length:Int)=p.c.workers+1
 stk:∀ w,0≤w∧w<(p.works.length:Int)→(aam p.works w).stack.length≤1000000
 kid:∀ t,0≤t∧t<(p.tasks.length:Int)→(aah p.tasks t).kids.length≤1000000
 prg:∀ t,0≤t∧t<(p.tasks.length:Int)→(aah p.tasks t).prog.length≤1000000
 at0:∀ t,0≤t∧t<(p.tasks.length:Int)→0≤(aah p.tasks t).at_∧(aah p.tasks t).at_≤((aah p.tasks t).prog.length:Int)
def PS (p:SyP) (e:Ev) (C:Prop) (p':SyP):Prop:=∃ b q,aaj p e=some ((b,()),(q,()))∧(b=true→C∧q=p')∧(b=false→¬ C∧SameV p q)
section
variable {p:SyP} {w t o l:Int}
theorem anw {α β:Type} {d:α} {f:α→β} {xs:List α} {i:Int} {x:α} (h:0≤i∧i<(xs.length:Int)) (e:f x=f (atL d xs i)):(xs.set i.toNat x).map f=xs.map f:=by
 rw [List.map_set,e,← List.map_set]
 exact congrArg _ (anx h)
theorem amK {C:Prop} {p' q:SyP} (h:C) (e:q=p'):∃ b q',some ((true,()),(q,()))=some ((b,()),(q',()))∧(b=true→C∧q'=p')∧(b=false→¬ C∧SameV p q'):=⟨_,_,rfl,fun _ =>⟨h,e⟩,(fun h =>nomatch h)⟩
theorem ahE {C:Prop} {p' q:SyP} (h:¬ C) (e:SameV p q):∃ b q',some ((false,()),(q,()))=some ((b,()),(q',()))∧(b=true→C∧q'=p')∧(b=false→¬ C∧SameV p q'):=⟨_,_,rfl,(fun h =>nomatch h),fun _ =>⟨h,e⟩⟩
theorem ab9:SameV p p:=⟨rfl,rfl,rfl⟩
theorem asK {k:CtP} {n m:Int}:SameV p { p with queue:=k,offers:=n,known:=m }:=⟨rfl,rfl,rfl⟩
theorem anA (ht:0≤t∧t<(p.tasks.length:Int)) {x:TkP} (h:viP x=viP (aah p.tasks t)):SameV p { p with tasks:=p.tasks.set t.toNat x }:=⟨anw (d:=(dfR 70:TkP)) ht h,rfl,rfl⟩
theorem aw9 (hw:0≤w∧w<(p.works.length:Int)) {x:WkP} (h:x.stack=(aam p.works w).stack):SameV p { p with works:=p.works.set w.toNat x }:=⟨rfl,anw (d:=(dfR 71:WkP)) (f:=fun (x:WkP) =>x.stack) hw h,rfl⟩
theorem aC3 (hP:PO p) (hw:0≤w∧w<(p.works.length:Int)) (ht:0≤t∧t<(p.tasks.length:Int)) (hr:aal p ⟨12,w,t,o,l⟩=some ((true,()),(p,()))) (hs:(aam p.works w).sleeps=false) :
  PS p ⟨12,w,t,o,l⟩ (1≤p.c.age∧avh (aam p.works w).stack (aam p.works w).walks=true∧(aah p.tasks t).ph≠0∧l=wi ((aah p.tasks t).lv+1)) { p with tasks:=p.tasks.set t.toNat { aah p.tasks t with lv:=l },works:=p.works.set w.toNat { aam p.works w with last:=⟨12,w,t,o,l⟩ } }:=by
 have hk:=hP.stk w hw
 unfold PS aaj aan
 rw [hr]
 simp only [aav,Int.reduceEq,if_true,if_false,hw,ht,and_self,abO ht,abH hw,List.set_set,List.length_set,aiX ht,ai2 hw,abr,ne_eq,not_true_eq_false,not_false_eq_true,true_and,and_true,decide_true,decide_false,reduceCtorEq,abD,aa6,ad3,ad1,Bool.not_true,Bool.false_eq_true,Bool.not_eq_true',hs]
 repeat' split
 all_goals first
  | exact amK (by first | exact True.intro | (simp_all; done) | (simp_all; intros; omega)) rfl
  | exact ahE (by first | exact True.intro | (simp_all; done) | (simp_all; intros; omega)) (ab9)
theorem aC1 (hP:PO p) (hw:0≤w∧w<(p.works.length:Int)) (ht:0≤t∧t<(p.tasks.length:Int)) (hr:aal p ⟨14,w,t,o,l⟩=some ((true,()),(p,()))) (hs:(aam p.works w).sleeps=false) :
  PS p ⟨14,w,t,o,l⟩ (avh (aam p.works w).stack (aam p.works w).walks=true∧o≠w∧(aah p.tasks t).ph≠0) { p with works:=p.works.set w.toNat { aam p.works w with last:=⟨14,w,t,o,l⟩ } }:=by
 have hk:=hP.stk w hw
 unfold PS aaj aan
 rw [hr]
 simp only [aav,Int.reduceEq,if_true,if_false,hw,ht,and_self,abO ht,abH hw,List.set_set,List.length_set,aiX ht,ai2 hw,abr,ne_eq,not_true_eq_false,not_false_eq_true,true_and,and_true,decide_true,decide_false,reduceCtorEq,abD,aa6,ad3,ad1,Bool.not_true,Bool.false_eq_true,Bool.not_eq_true',hs]
 repeat' split
 all_goals first
  | exact amK (by first | exact True.intro | (simp_all; done) | (simp_all; intros; omega)) rfl
  | exact ahE (by first | exact True.intro | (simp_all; done) | (simp_all; intros; omega)) (ab9)
theorem aC0 (hP:PO p) (hw:0≤w∧w<(p.works.length:Int)) (ht:0≤t∧t<(p.tasks.length:Int)) (hr:aal p ⟨15,w,t,o,l⟩=some ((true,()),(p,()))) (hs:(aam p.works w).sleeps=false) :
  PS p ⟨15,w,t,o,l⟩ ((aah p.tasks t).ph≠0∧(aah p.tasks t).ph≠1) { p with works:=p.works.set w.toNat { aam p.works w with last:=⟨15,w,t,o,l⟩ } }:=by
 have hk:=hP.stk w hw
 unfold PS aaj aan
 rw [hr]
 simp only [aav,Int.reduceEq,if_true,if_false,hw,ht,and_self,abO ht,abH hw,List.set_set,List.length_set,aiX ht,ai2 hw,abr,ne_eq,not_true_eq_false,not_false_eq_true,true_and,and_true,decide_true,decide_false,reduceCtorEq,abD,aa6,ad3,ad1,Bool.not_true,Bool.false_eq_true,Bool.not_eq_true',hs]
 repeat' split
 all_goals first
  | exact amK (by first | exact True.intro | (simp_all; done) | (simp_all; intros; omega)) rfl
  | exact ahE (by first | exact True.intro | (simp_all; done) | (simp_all; intros; omega)) (ab9)
theorem aCZ (hP:PO p) (hw:0≤w∧w<(p.works.length:Int)) (ht:0≤t∧t<(p.tasks.length:Int)) (hr:aal p ⟨16,w,t,o,l⟩=some ((true,()),(p,()))) (hs:(aam p.works w).sleeps=false) :
  PS p ⟨16,w,t,o,l⟩ (avh (aam p.works w).stack (aam p.works w).walks=true) { p with works:=p.works.set w.toNat { aam p.works w with sleeps:=true,last:=⟨16,w,t,o,l⟩ } }:=by
 have hk:=hP.stk w hw
 unfold PS aaj aan
 rw [hr]
 simp only [aav,Int.reduceEq,if_true,if_false,hw,ht,and_self,abO ht,abH hw,List.set_set,List.length_set,aiX ht,ai2 hw,abr,ne_eq,not_true_eq_false,not_false_eq_true,true_and,and_true,decide_true,decide_false,reduceCtorEq,abD,aa6,ad3,ad1,Bool.not_true,Bool.false_eq_true,Bool.not_eq_true',hs]
 repeat' split
 all_goals first
  | exact amK (by first | exact True.intro | (simp_all; done) | (simp_all; intros; omega)) (by simp_all)
  | exact ahE (by first | exact True.intro | (simp_all; done) | (simp_all; intros; omega)) (aw9 hw rfl)
theorem aCY (hP:PO p) (hw:0≤w∧w<(p.works.length:Int)) (ht:0≤t∧t<(p.tasks.length:Int)) (hr:aal p ⟨17,w,t,o,l⟩=some ((true,()),(p,()))) (hs:(aam p.works w).sleeps=true) :
  PS p ⟨17,w,t,o,l⟩ (o=1∨o=2) { p with works:=p.works.set w.toNat { aam p.works w with sleeps:=false,last:=⟨17,w,t,o,l⟩ } }:=by
 have hk:=hP.stk w hw
 unfold PS aaj aan
 rw [hr]
 simp only [aav,Int.reduceEq,if_true,if_false,hw,ht,and_self,abO ht,abH hw,List.set_set,List.length_set,aiX ht,ai2 hw,abr,ne_eq,not_true_eq_false,not_false_eq_true,true_and,and_true,decide_true,decide_false,reduceCtorEq,abD,aa6,ad3,ad1,Bool.not_true,Bool.false_eq_true,Bool.not_eq_true',hs]
 repeat' split
 all_goals first
  | exact amK (by omega) (by simp_all)
  | exact ahE (by omega) (aw9 hw rfl)
theorem aCu (hP:PO p) (hw:0≤w∧w<(p.works.length:Int)) (ht:0≤t∧t<(p.tasks.length:Int)) (hr:aal p ⟨18,w,t,o,l⟩=some ((true,()),(p,()))) (hs:(aam p.works w).sleeps=false) :
  PS p ⟨18,w,t,o,l⟩ (True) { p with works:=p.works.set w.toNat { aam p.works w with last:=⟨18,w,t,o,l⟩ } }:=by
 have hk:=hP.stk w hw
 unfold PS aaj aan
 rw [hr]
 simp only [aav,Int.reduceEq,if_true,if_false,hw,ht,and_self,abO ht,abH hw,List.set_set,List.length_set,aiX ht,ai2 hw,abr,ne_eq,not_true_eq_false,not_false_eq_true,true_and,and_true,decide_true,decide_false,reduceCtorEq,abD,aa6,ad3,ad1,Bool.not_true,Bool.false_eq_true,Bool.not_eq_true',hs]
 exact ⟨_,_,rfl,(fun _ =>rfl),(fun h =>nomatch h)⟩
theorem aCX (hP:PO p) (hw:0≤w∧w<(p.works.length:Int)) (ht:0≤t∧t<(p.tasks.length:Int)) (hr:aal p ⟨19,w,t,o,l⟩=some ((true,()),(p,()))) (hs:(aam p.works w).sleeps=false) :
  PS p ⟨19,w,t,o,l⟩ ((aah p.tasks t).ph≠0) { p with works:=p.works.set w.toNat { aam p.works w with last:=⟨19,w,t,o,l⟩ } }:=by
 have hk:=hP.stk w hw
 unfold PS aaj aan
 rw [hr]
 simp only [aav,Int.reduceEq,if_true,if_false,hw,ht,and_self,abO ht,abH hw,List.set_set,List.length_set,aiX ht,ai2 hw,abr,ne_eq,not_true_eq_false,not_false_eq_true,true_and,and_true,decide_true,decide_false,reduceCtorEq,abD,aa6,ad3,ad1,Bool.not_true,Bool.false_eq_true,Bool.not_eq_true',hs]
 repeat' split
 all_goals first
  | exact amK (by first | exact True.intro | (simp_all; done) | (simp_all; intros; omega)) rfl
  | exact ahE (by first | exact True.intro | (simp_all; done) | (simp_all; intros; omega)) (ab9)
theorem pk7 (hP:PO p) (hw:0≤w∧w<(p.works.length:Int)) (ht:0≤t∧t<(p.tasks.length:Int)) (hr:aal p ⟨7,w,t,o,l⟩=some ((true,()),(p,()))) (hs:(aam p.works w).sleeps=false) :
  PS p ⟨7,w,t,o,l⟩ ((aam p.works w).walks=true∧(aam p.works w).walk=t∧(aam p.works w).low≤l∧l≤(aah p.tasks t).lv∧((aam p.works w).up ≠ -1→(aam p.works w).up=l)) { p with works:=p.works.set w.toNat { aam p.works w with walks:=false,last:=⟨7,w,t,o,l⟩ } }:=by
 have hk:=hP.stk w hw
 unfold PS aaj aan
 rw [hr]
 simp only [aav,Int.reduceEq,if_true,if_false,hw,ht,and_self,abO ht,abH hw,List.set_set,List.length_set,aiX ht,ai2 hw,abr,ne_eq,not_true_eq_false,not_false_eq_true,true_and,and_true,decide_true,decide_false,reduceCtorEq,abD,aa6,ad3,ad1,Bool.not_true,Bool.false_eq_true,Bool.not_eq_true',hs]
 repeat' split
 all_goals first
  | exact amK (by first | exact True.intro | (simp_all; done) | (simp_all; intros; omega)) rfl
  | exact ahE (by first | exact True.intro | (simp_all; done) | (simp_all; intros; omega)) (ab9)
theorem pk5 (hP:PO p) (hw:0≤w∧w<(p.works.length:Int)) (ht:0≤t∧t<(p.tasks.length:Int)) (hr:aal p ⟨5,w,t,o,l⟩=some ((true,()),(p,()))) (hs:(aam p.works w).sleeps=false) :
  PS p ⟨5,w,t,o,l⟩ ((aah p.tasks t).ph=1∧((avh (aam p.works w).stack (aam p.works w).walks=true)∨(aam p.works w).last.kind=3∧(aam p.works w).last.task=t)) { p with tasks:=p.tasks.set t.toNat { aah p.tasks t with ph:=2,wt := -1 },works:=p.works.set w.toNat { aam p.works w with stack:=(aam p.works w).stack++[t],last:=⟨5,w,t,o,l⟩ } }:=by
 have hk:=hP.stk w hw
 unfold PS aaj aan
 rw [hr]
 have hk2:(((aam p.works w).stack.length+([t]:List Int).length:Nat):Int)<1000000000000:=by simp only [List.length_singleton]; omega
 simp only [aav,Int.reduceEq,if_true,if_false,hw,ht,and_self,abO ht,abH hw,List.set_set,List.length_set,aiX ht,ai2 hw,abr,ne_eq,not_true_eq_false,not_false_eq_true,true_and,and_true,decide_true,decide_false,reduceCtorEq,abD,aa6,ad3,ad1,Bool.not_true,Bool.false_eq_true,Bool.not_eq_true',hs,hk2]
 repeat' split
 all_goals first
  | exact amK (by first | exact True.intro | (simp_all; done) | (simp_all; intros; omega)) rfl
  | exact ahE (by first | exact True.intro | (simp_all; done) | (simp_all; intros; omega)) (ab9)
end
noncomputable def prT (x:TkP):Int×Ins×Bool:=an1 x.prog x.kids x.at_
def aeh (s:List Int):List Int:=s.take ((s.length:Int)-1).toNat
section
variable {p:SyP} {w t o l:Int}
theorem an3 (hP:PO p) (ht:0≤t∧t<(p.tasks.length:Int)):abo (aah p.tasks t)=some (((prT (aah p.tasks t)).2.1,(prT (aah p.tasks t)).2.2,()),({ aah p.tasks t with at_:=(prT (aah p.tasks t)).1 },())):=ape (hP.at0 t ht).1 (hP.prg t ht)
theorem an5 {s:List Int} (h:aa8 s=t) (ht:0≤t) (hl:s.length≤1000000):wi ((s.length:Int)-1)=(s.length:Int)-1∧0≤(s.length:Int)-1∧(s.length:Int)-1≤(s.length:Int):=by
 unfold aa8 at h
 have:¬ (s.length:Int)=0:=fun e =>by rw [if_pos e] at h; omega
 exact ⟨aa2 (aae (by omega)),by omega,by omega⟩
theorem axf (ht:0≤t∧t<(p.tasks.length:Int)) (ho:0≤o∧o<(p.tasks.length:Int)) {x:TkP} (h:x.ph=(aah p.tasks t).ph):(aah (p.tasks.set t.toNat x) o).ph=(aah p.tasks o).ph:=by
 by_cases e:t=o
 ·subst e; rw [aiX ht]; exact h
 ·exact congrArg TkP.ph (akj ht.1 ho.1 e)
theorem aC5 (hP:PO p) (hw:0≤w∧w<(p.works.length:Int)) (ht:0≤t∧t<(p.tasks.length:Int)) (hr:aal p ⟨10,w,t,o,l⟩=some ((true,()),(p,()))) (hs:(aam p.works w).sleeps=false) :
  PS p ⟨10,w,t,o,l⟩ (aa8 (aam p.works w).stack=t∧(prT (aah p.tasks t)).2.2=false) { p with tasks:=p.tasks.set t.toNat { aah p.tasks t with at_:=(prT (aah p.tasks t)).1,ph:=4 },works:=p.works.set w.toNat { aam p.works w with stack:=aeh (aam p.works w).stack,last:=⟨10,w,t,o,l⟩ } }:=by
 have hk:=hP.stk w hw
 have hpr:=an3 hP ht
 have hkk:=hP.kid t ht
 unfold PS aaj aan
 rw [hr]
 by_cases htp:aa8 (aam p.works w).stack=t
 ·obtain ⟨q1,q2,q3⟩:=an5 htp ht.1 hk
  have hn1:(((aah p.tasks t).kids.length+([(-1)]:List Int).length:Nat):Int)<1000000000000:=by simp only [List.length_singleton]; omega
  have hn2:(((aah p.tasks t).kids.length+([t]:List Int).length:Nat):Int)<1000000000000:=by simp only [List.length_singleton]; omega
  try unfold aeh
  generalize hv:prT (aah p.tasks t)=v at *
  obtain ⟨j,i,b⟩:=v
  simp only [aav,Int.reduceEq,if_true,if_false,hw,ht,and_self,abO,abH,List.set_set,List.length_set,aiX,ai2,abr,ne_eq,not_true_eq_false,not_false_eq_true,true_and,and_true,decide_true,decide_false,reduceCtorEq,acL,abD,aa6,ad3,ad1,Bool.not_true,Bool.false_eq_true,Bool.not_eq_true',hs,ae8 hk,ac1,htp,hpr,q1,q2,q3,hn1,hn2]
  repeat' split
  all_goals first
   | exact amK (by first | exact True.intro | (simp_all; done) | (simp_all; intros; omega)) rfl
   | exact ahE (by first | exact True.intro | (simp_all; done) | (simp_all; intros; omega)) (anA ht rfl)
 ·simp only [aav,Int.reduceEq,if_true,if_false,hw,ht,and_self,abO,abH,List.set_set,List.length_set,aiX,ai2,abr,ne_eq,not_true_eq_false,not_false_eq_true,true_and,and_true,decide_true,decide_false,reduceCtorEq,acL,abD,aa6,ad3,ad1,Bool.not_true,Bool.false_eq_true,Bool.not_eq_true',hs,ae8 hk,ac1,htp]
  exact ahE (fun h =>h.1) ab9
theorem pk8 (hP:PO p) (hw:0≤w∧w<(p.works.length:Int)) (ht:0≤t∧t<(p.tasks.length:Int)) (ho:0≤o∧o<(p.tasks.length:Int)) (hr:aal p ⟨8,w,t,o,l⟩=some ((true,()),(p,()))) (hs:(aam p.works w).sleeps=false) :
  PS p ⟨8,w,t,o,l⟩ (aa8 (aam p.works w).stack=t∧(prT (aah p.tasks t)).2.2=true∧(prT (aah p.tasks t)).2.1.op=2∧chV (aah p.tasks t).kids (prT (aah p.tasks t)).2.1.a=o∧(aah p.tasks o).ph=4) { p with tasks:=p.tasks.set t.toNat { aah p.tasks t with at_:=wi ((prT (aah p.tasks t)).1+1) },works:=p.works.set w.toNat { aam p.works w with last:=⟨8,w,t,o,l⟩ } }:=by
 have hk:=hP.stk w hw
 have hpr:=an3 hP ht
 have hkk:=hP.kid t ht
 unfold PS aaj aan
 rw [hr]
 by_cases htp:aa8 (aam p.works w).stack=t
 ·obtain ⟨q1,q2,q3⟩:=an5 htp ht.1 hk
  have hn1:(((aah p.tasks t).kids.length+([(-1)]:List Int).length:Nat):Int)<1000000000000:=by simp only [List.length_singleton]; omega
  have hn2:(((aah p.tasks t).kids.length+([t]:List Int).length:Nat):Int)<1000000000000:=by simp only [List.length_singleton]; omega
  try unfold aeh
  generalize hv:prT (aah p.tasks t)=v at *
  obtain ⟨j,i,b⟩:=v
  simp only [aav,Int.reduceEq,if_true,if_false,hw,ht,and_self,abO,abH,List.set_set,List.length_set,aiX,ai2,abr,ne_eq,not_true_eq_false,not_false_eq_true,true_and,and_true,decide_true,decide_false,reduceCtorEq,abD,aa6,ad3,ad1,Bool.not_true,Bool.false_eq_true,Bool.not_eq_true',hs,ae8 hk,ac1,htp,hpr,q1,q2,q3,hn1,hn2,ho,axf ht ho]
  repeat' split
  all_goals first
   | exact amK (by first | exact True.intro | (simp_all; done) | (simp_all; intros; omega)) rfl
   | exact ahE (by first | exact True.intro | (simp_all; done) | (simp_all; intros; omega)) (anA ht rfl)
 ·simp only [aav,Int.reduceEq,if_true,if_false,hw,ht,and_self,abO,abH,List.set_set,List.length_set,aiX,ai2,abr,ne_eq,not_true_eq_false,not_false_eq_true,true_and,and_true,decide_true,decide_false,reduceCtorEq,abD,aa6,ad3,ad1,Bool.not_true,Bool.false_eq_true,Bool.not_eq_true',hs,ae8 hk,ac1,htp,ho]
  exact ahE (fun h =>h.1) ab9
theorem pk6 (hP:PO p) (hw:0≤w∧w<(p.works.length:Int)) (ht:0≤t∧t<(p.tasks.length:Int)) (ho:0≤o∧o<(p.tasks.length:Int)) (hr:aal p ⟨6,w,t,o,l⟩=some ((true,()),(p,()))) (hs:(aam p.works w).sleeps=false) :
  PS p ⟨6,w,t,o,l⟩ (aa8 (aam p.works w).stack=t∧(prT (aah p.tasks t)).2.2=true∧(prT (aah p.tasks t)).2.1.op=2∧chV (aah p.tasks t).kids (prT (aah p.tasks t)).2.1.a=o∧(aah p.tasks o).ph≠4) { p with tasks:=p.tasks.set t.toNat { aah p.tasks t with at_:=wi ((prT (aah p.tasks t)).1+1),ph:=3,wt:=o },works:=p.works.set w.toNat ⟨aeh (aam p.works w).stack,true,t,(aah p.tasks t).lv,-1,(aam p.works w).sleeps,⟨6,w,t,o,l⟩⟩ }:=by
 have hk:=hP.stk w hw
 have hpr:=an3 hP ht
 have hkk:=hP.kid t ht
 unfold PS aaj aan
 rw [hr]
 by_cases htp:aa8 (aam p.works w).stack=t
 ·obtain ⟨q1,q2,q3⟩:=an5 htp ht.1 hk
  have hn1:(((aah p.tasks t).kids.length+([(-1)]:List Int).length:Nat):Int)<1000000000000:=by simp only [List.length_singleton]; omega
  have hn2:(((aah p.tasks t).kids.length+([t]:List Int).length:Nat):Int)<1000000000000:=by simp only [List.length_singleton]; omega
  try unfold aeh
  generalize hv:prT (aah p.tasks t)=v at *
  obtain ⟨j,i,b⟩:=v
  simp only [aav,Int.reduceEq,if_true,if_false,hw,ht,and_self,abO,abH,List.set_set,List.length_set,aiX,ai2,abr,ne_eq,not_true_eq_false,not_false_eq_true,true_and,and_true,decide_true,decide_false,reduceCtorEq,abD,aa6,ad3,ad1,Bool.not_true,Bool.false_eq_true,Bool.not_eq_true',hs,ae8 hk,ac1,htp,hpr,q1,q2,q3,hn1,hn2,ho,axf ht ho]
  repeat' split
  all_goals first
   | exact amK (by first | exact True.intro | (simp_all; done) | (simp_all; intros; omega)) rfl
   | exact ahE (by first | exact True.intro | (simp_all; done) | (simp_all; intros; omega)) (anA ht rfl)
 ·simp only [aav,Int.reduceEq,if_true,if_false,hw,ht,and_self,abO,abH,List.set_set,List.length_set,aiX,ai2,abr,ne_eq,not_true_eq_false,not_false_eq_true,true_and,and_true,decide_true,decide_false,reduceCtorEq,abD,aa6,ad3,ad1,Bool.not_true,Bool.false_eq_true,Bool.not_eq_true',hs,ae8 hk,ac1,htp,ho]
  exact ahE (fun h =>h.1) ab9
theorem pk4 (hP:PO p) (hw:0≤w∧w<(p.works.length:Int)) (ht:0≤t∧t<(p.tasks.length:Int)) (hr:aal p ⟨4,w,t,o,l⟩=some ((true,()),(p,()))) (hs:(aam p.works w).sleeps=false) :
  PS p ⟨4,w,t,o,l⟩ (aa8 (aam p.works w).stack=t∧wi (p.c.tasks-p.c.workers)≤p.known∧(prT (aah p.tasks t)).2.2=true∧(prT (aah p.tasks t)).2.1.op=1) { p with tasks:=p.tasks.set t.toNat { aah p.tasks t with at_:=wi ((prT (aah p.tasks t)).1+1),kids:=(aah p.tasks t).kids++[-1] },works:=p.works.set w.toNat { aam p.works w with last:=⟨4,w,t,o,l⟩ } }:=by
 have hk:=hP.stk w hw
 have hpr:=an3 hP ht
 have hkk:=hP.kid t ht
 unfold PS aaj aan
 rw [hr]
 by_cases htp:aa8 (aam p.works w).stack=t
 ·obtain ⟨q1,q2,q3⟩:=an5 htp ht.1 hk
  have hn1:(((aah p.tasks t).kids.length+([(-1)]:List Int).length:Nat):Int)<1000000000000:=by simp only [List.length_singleton]; omega
  have hn2:(((aah p.tasks t).kids.length+([t]:List Int).length:Nat):Int)<1000000000000:=by simp only [List.length_singleton]; omega
  try unfold aeh
  generalize hv:prT (aah p.tasks t)=v at *
  obtain ⟨j,i,b⟩:=v
  simp only [aav,Int.reduceEq,if_true,if_false,hw,ht,and_self,abO,abH,List.set_set,List.length_set,aiX,ai2,abr,ne_eq,not_true_eq_false,not_false_eq_true,true_and,and_true,decide_true,decide_false,reduceCtorEq,abD,aa6,ad3,ad1,Bool.not_true,Bool.false_eq_true,Bool.not_eq_true',hs,ae8 hk,ac1,htp,hpr,q1,q2,q3,hn1,hn2]
  repeat' split
  all_goals first
   | exact amK (by first | exact True.intro | (simp_all; done) | (simp_all; intros; omega)) rfl
   | exact ahE (by first | exact True.intro | (simp_all; done) | (simp_all; intros; omega)) (ab9)
   | exact ahE (by first | exact True.intro | (simp_all; done) | (simp_all; intros; omega)) (anA ht rfl)
 ·simp only [aav,Int.reduceEq,if_true,if_false,hw,ht,and_self,abO,abH,List.set_set,List.length_set,aiX,ai2,abr,ne_eq,not_true_eq_false,not_false_eq_true,true_and,and_true,decide_true,decide_false,reduceCtorEq,abD,aa6,ad3,ad1,Bool.not_true,Bool.false_eq_true,Bool.not_eq_true',hs,ae8 hk,ac1,htp]
  exact ahE (fun h =>h.1) ab9
theorem pk3 (hP:PO p) (hw:0≤w∧w<(p.works.length:Int)) (ht:0≤t∧t<(p.tasks.length:Int)) (ho:0≤o∧o<(p.tasks.length:Int)) (hi:aa8 (aam p.works w).stack=o→(prT (aah p.tasks o)).2.2=true→(prT (aah p.tasks o)).2.1.op=1→0≤(prT (aah p.tasks o)).2.1.a∧(prT (aah p.tasks o)).2.1.a<(p.c.progs.length:Int)) (hr:aal p ⟨3,w,t,o,l⟩=some ((true,()),(p,()))) (hs:(aam p.works w).sleeps=false) :
  PS p ⟨3,w,t,o,l⟩ (aa8 (aam p.works w).stack=o∧(aah p.tasks t).ph=0∧(prT (aah p.tasks o)).2.2=true∧(prT (aah p.tasks o)).2.1.op=1∧(prT (aah p.tasks o)).2.1.b=l) { p with tasks:=(p.tasks.set o.toNat { aah p.tasks o with at_:=wi ((prT (aah p.tasks o)).1+1),kids:=(aah p.tasks o).kids++[t] }).set t.toNat ⟨1,l,o,atL [] p.c.progs (prT (aah p.tasks o)).2.1.a,0,[],-1⟩,works:=p.works.set w.toNat { aam p.works w with last:=⟨3,w,t,o,l⟩ },known:=wi (p.known+1) }:=by
 have hk:=hP.stk w hw
 have hpr:=an3 hP ho
 have hkk:=hP.kid o ho
 unfold PS aaj aan
 rw [hr]
 by_cases htp:aa8 (aam p.works w).stack=o
 ·obtain ⟨q1,q2,q3⟩:=an5 htp ho.1 hk
  have hn1:(((aah p.tasks o).kids.length+([(-1)]:List Int).length:Nat):Int)<1000000000000:=by simp only [List.length_singleton]; omega
  have hn2:(((aah p.tasks o).kids.length+([t]:List Int).length:Nat):Int)<1000000000000:=by simp only [List.length_singleton]; omega
  try unfold aeh
  generalize hv:prT (aah p.tasks o)=v at *
  obtain ⟨j,i,b⟩:=v
  simp only [aav,Int.reduceEq,if_true,if_false,hw,ht,and_self,abO,abH,List.set_set,List.length_set,aiX,ai2,abr,ne_eq,not_true_eq_false,not_false_eq_true,true_and,and_true,decide_true,decide_false,reduceCtorEq,abD,aa6,ad3,ad1,Bool.not_true,Bool.false_eq_true,Bool.not_eq_true',hs,ae8 hk,ac1,htp,hpr,q1,q2,q3,hn1,hn2,ho,hi]
  repeat' split
  all_goals first
   | exact amK (by first | exact True.intro | (simp_all; done) | (simp_all; intros; omega)) rfl
   | exact ahE (by first | exact True.intro | (simp_all; done) | (simp_all; intros; omega)) (ab9)
   | exact ahE (by first | exact True.intro | (simp_all; done) | (simp_all; intros; omega)) (anA ho rfl)
   | (exfalso; rename_i h1 h2 h3; exact h3 (by simp_all))
 ·simp only [aav,Int.reduceEq,if_true,if_false,hw,ht,and_self,abO,abH,List.set_set,List.length_set,aiX,ai2,abr,ne_eq,not_true_eq_false,not_false_eq_true,true_and,and_true,decide_true,decide_false,reduceCtorEq,abD,aa6,ad3,ad1,Bool.not_true,Bool.false_eq_true,Bool.not_eq_true',hs,ae8 hk,ac1,htp,ho]
  exact ahE (fun h =>h.1) ab9
theorem pk9 (hP:PO p) (hw:0≤w∧w<(p.works.length:Int)) (ht:0≤t∧t<(p.tasks.length:Int)) (hwt:(aah p.tasks t).ph=3→0≤(aah p.tasks t).wt∧(aah p.tasks t).wt<(p.tasks.length:Int)) (hr:aal p ⟨9,w,t,o,l⟩=some ((true,()),(p,()))) (hs:(aam p.works w).sleeps=false) :
  PS p ⟨9,w,t,o,l⟩ ((aah p.tasks t).ph=3∧(aah p.tasks (aah p.tasks t).wt).ph=4∧((avh (aam p.works w).stack (aam p.works w).walks=true)∨(aam p.works w).last.kind=10∧(aam p.works w).last.task=(aah p.tasks t).wt)) { p with tasks:=p.tasks.set t.toNat { aah p.tasks t with ph:=2,wt := -1 },works:=p.works.set w.toNat { aam p.works w with stack:=(aam p.works w).stack++[t],last:=⟨9,w,t,o,l⟩ } }:=by
 have hk:=hP.stk w hw
 unfold PS aaj aan
 rw [hr]
 have hk2:(((aam p.works w).stack.length+([t]:List Int).length:Nat):Int)<1000000000000:=by simp only [List.length_singleton]; omega
 by_cases h3:(aah p.tasks t).ph=3
 rotate_left
 ·simp only [aav,Int.reduceEq,if_true,if_false,hw,ht,and_self,abO,abH,List.set_set,List.length_set,aiX,ai2,ne_eq,not_true_eq_false,not_false_eq_true,true_and,and_true,decide_true,decide_false,reduceCtorEq,abD,aa6,ad3,ad1,Bool.not_true,Bool.false_eq_true,Bool.not_eq_true',hs,h3]
  exact ⟨_,_,rfl,(fun h =>nomatch h),fun _ =>⟨(by simp),ab9⟩⟩
 have hwt:=hwt h3
 simp only [aav,Int.reduceEq,if_true,if_false,hw,ht,and_self,abO,abH,List.set_set,List.length_set,aiX,ai2,abr,ne_eq,not_true_eq_false,not_false_eq_true,true_and,and_true,decide_true,decide_false,reduceCtorEq,abD,aa6,ad3,ad1,Bool.not_true,Bool.false_eq_true,Bool.not_eq_true',hs,ae8 hk,ac1,hk2,hwt,h3]
 repeat' split
 all_goals first
  | exact amK (by first | exact True.intro | (simp_all; done) | (simp_all; intros; omega)) rfl
  | exact ahE (by first | exact True.intro | (simp_all; done) | (simp_all; intros; omega)) (ab9)
end
end
section
open Go Go.RowKit
set_option maxRecDepth 1000000
variable [Tb]
section
variable {a b d:Int}
theorem axl:aiQ a=some ((false,()),()):=by
 unfold aiQ
 rw [decide_eq_false (fun h =>h rfl)]
def aCg (a b:Int):Int:=if a<b then -1 else if b<a then 1 else 0
theorem azd:aeR a b=some ((aCg a b,()),()):=by
 unfold aeR aCg
 rw [axl,axl,aav,aav,if_neg (by decide),if_neg (by decide)]
 split
 ·rfl
 ·split<;>rfl
theorem awS:awT [a,b,d]=some ((if a≠0 then a else if b≠0 then b else d,()),()):=by
 unfold awT
 generalize hF:(fun (self3:Int×Unit→Option ((Int×Unit)⊕((Int×Unit)×Unit))) (x1:Int×Unit) =>_)=F
 have s3:∀ k,lpF F (k+1) (3,())=some (.inl (3,())):=fun k =>by rw [lpS]; subst hF; rfl
 have s2:∀ k,lpF F (k+2) (2,())=if d≠0 then some (.inr ((d,()),())) else some (.inl (3,())):=fun k =>by
  have h:=s3 k
  rw [lpS]
  generalize lpF F (k+1)=self at *
  subst hF
  show (if d≠0 then _ else self (wi (2+1),()))=_
  rw [show wi (2+1)=3 from rfl,h]; rfl
 have s1:∀ k,lpF F (k+3) (1,())=if b≠0 then some (.inr ((b,()),())) else if d≠0 then some (.inr ((d,()),())) else some (.inl (3,())):=fun k =>by
  have h:=s2 k
  rw [lpS]
  generalize lpF F (k+2)=self at *
  subst hF
  show (if b≠0 then _ else self (wi (1+1),()))=_
  rw [show wi (1+1)=2 from rfl,h]; rfl
 have s0:∀ k,lpF F (k+4) (0,())=if a≠0 then some (.inr ((a,()),())) else if b≠0 then some (.inr ((b,()),())) else if d≠0 then some (.inr ((d,()),())) else some (.inl (3,())):=fun k =>by
  have h:=s1 k
  rw [lpS]
  generalize lpF F (k+3)=self at *
  subst hF
  show (if a≠0 then _ else self (wi (0+1),()))=_
  rw [show wi (0+1)=1 from rfl,h]; rfl
 have s:=s0 18446744073709551612
 have s:lpF F 18446744073709551616 (0,())=_:=s
 rw [s]
 by_cases h1:a≠0
 ·rw [if_pos h1,if_pos h1]; rfl
 ·rw [if_neg h1,if_neg h1]
  by_cases h2:b≠0
  ·rw [if_pos h2,if_pos h2]; rfl
  ·rw [if_neg h2,if_neg h2]
   by_cases h3:d≠0
   ·rw [if_pos h3]; rfl
   ·rw [if_neg h3]
    have:d=0:=by omega
    rw [this]; rfl
theorem aDd {x y:KyV} (h:x.arrival<y.arrival):∃ v,adk x y=some ((v,()),())∧(v<0↔x.deadline≤y.deadline):=by
 unfold adk
 simp only [azd,aav,if_true,awS]
 refine ⟨_,rfl,?_⟩
 unfold aCg
 repeat' split
 all_goals omega
end
theorem aDb {lo hi:Int} (h0:0≤lo) (h1:lo≤hi) (h2:hi≤1000000):wi (Int.fdiv (wu (wi (lo+hi))) (2 ^ min (1:Int).toNat IntKind.u64.bits))=(lo+hi) / 2:=by
 have e2:wi (lo+hi)=lo+hi:=aa2 (aae (by omega))
 have e3:wu (lo+hi)=lo+hi:=aCp (by omega) (by omega)
 have e4:((2:Int) ^ min (1:Int).toNat IntKind.u64.bits)=2:=rfl
 rw [e2,e3,e4,Int.fdiv_eq_ediv_of_nonneg _ (by decide)]
 exact aa2 (aae (by omega))
section
variable {q:CtP} {c:Cfg} {w t o l:Int}
theorem qP2:aaT q c ⟨2,w,t,o,l⟩=if l≠1 then some ((true,()),(q,())) else some ((decide ((q.keys.length:Int)=c.heap),()),(q,())):=by
 unfold aaT
 rw [if_neg (show ¬ (2:Int)=1 by decide),if_neg (show ¬ (2:Int)=13 by decide),if_pos rfl]
theorem aCW:aaT q c ⟨13,w,t,o,l⟩=if 0<q.keys.length∧(aeA q.keys 0).task=t then some ((true,()),(⟨q.keys.drop 1,q.count⟩,())) else some ((false,()),(q,())):=by
 unfold aaT
 rw [if_neg (show ¬ (13:Int)=1 by decide),if_pos rfl]
 by_cases h:(q.keys.length:Int)=0
 ·rw [if_pos h,aav,if_pos rfl,if_neg (by omega)]
 ·rw [if_neg h,if_pos (by omega),aav]
  by_cases h2:(aeA q.keys 0).task=t
  ·rw [if_neg (by simp [h2]),if_pos ⟨by decide,by show (1:Int)≤(q.keys.length:Int); omega⟩,if_pos ⟨by omega,h2⟩]; rfl
  ·rw [if_pos (by simp [h2]),if_neg (fun h =>h2 h.2)]
structure Srt (ks:List KyV) (n:Int):Prop where
 s:∀ i j:Nat,i<j→j<ks.length→leK (aeA ks (i:Int)) (aeA ks (j:Int))
 a:∀ i:Nat,i<ks.length→(aeA ks (i:Int)).arrival<n
theorem qP1 (ho:0≤o∧o<(c.subs.length:Int)) (hs:Srt q.keys q.count) (hl:q.keys.length≤1000000) :
    (c.heap≤(q.keys.length:Int)→aaT q c ⟨1,w,t,o,l⟩=some ((false,()),(q,()))) ∧
    ((q.keys.length:Int)<c.heap→∃ i:Nat,i≤q.keys.length∧(∀ j:Nat,j<i→(aeA q.keys (j:Int)).deadline≤(acK c.subs o).deadline)∧(∀ j:Nat,i≤j→j<q.keys.length→(acK c.subs o).deadline<(aeA q.keys (j:Int)).deadline) ∧
      aaT q c ⟨1,w,t,o,l⟩=some ((true,()),(⟨q.keys.take i++[⟨(acK c.subs o).deadline,q.count,t⟩]++q.keys.drop i,wi (q.count+1)⟩,()))):=by
  have e0:∀ b,decide (c.heap≤(q.keys.length:Int))=b→(if (⟨1,w,t,o,l⟩:Ev).other<0 then some (true,q,()) else if ((c.subs.length:Nat):Int)≤(⟨1,w,t,o,l⟩:Ev).other then some (true,q,()) else some (decide (c.heap≤((q.keys.length:Nat):Int)),q,()))=some (b,q,()):=fun b hb =>by
    rw [if_neg (by show ¬ o<0; omega),if_neg (by show ¬ (c.subs.length:Int)≤o; omega),hb]
  refine ⟨fun h =>?_,fun h =>?_⟩
  · unfold aaT
    rw [if_pos rfl,e0 true (decide_eq_true h),aav,if_pos rfl]
  · unfold aaT
    rw [if_pos rfl,e0 false (decide_eq_false (by omega)),aav,if_neg (show ¬ false=true by decide)]
    dsimp only
    rw [if_pos ho,if_pos rfl,if_pos rfl,if_pos rfl,if_pos rfl]
    generalize hd:(acK c.subs o).deadline=D
    have hk:∀ j:Nat,j<q.keys.length→∃ v,adk (aeA q.keys (j:Int)) ⟨D,q.count,t⟩=some ((v,()),())∧(v<0↔(aeA q.keys (j:Int)).deadline≤D):=fun j hj =>aDd (hs.a j hj)
    have hg:aaI (lpF (σ:=Int×Int×Unit) (β:=Int×Int×Unit) (fun self4 x2 =>
         if x2.1<x2.2.1 then
          if 0≤wi (Int.fdiv (wu (wi (x2.1+x2.2.1))) (2 ^ min (1:Int).toNat IntKind.u64.bits))∧wi (Int.fdiv (wu (wi (x2.1+x2.2.1))) (2 ^ min (1:Int).toNat IntKind.u64.bits))<((q.keys.length:Nat):Int) then
           (adk (aeA q.keys (wi (Int.fdiv (wu (wi (x2.1+x2.2.1))) (2 ^ min (1:Int).toNat IntKind.u64.bits)))) (⟨D,q.count,t⟩:KyV)).bind fun r5 =>
           if r5.1.1<0 then
            self4 (wi ((wi (Int.fdiv (wu (wi (x2.1+x2.2.1))) (2 ^ min (1:Int).toNat IntKind.u64.bits)))+1),x2.2.1,())
           else
           self4 (x2.1,wi (Int.fdiv (wu (wi (x2.1+x2.2.1))) (2 ^ min (1:Int).toNat IntKind.u64.bits)),())
          else none
         else
         some (x2.1,x2.2.1,())
        ) 18446744073709551616 (0,((q.keys.length:Nat):Int),())) fun z =>∃ i:Nat,z.1=(i:Int)∧i≤q.keys.length∧(∀ j:Nat,j<i→(aeA q.keys (j:Int)).deadline≤D)∧(∀ j:Nat,i≤j→j<q.keys.length→D<(aeA q.keys (j:Int)).deadline):=by
      refine ab8 (fun x =>∃ i k:Nat,x.1=(i:Int)∧x.2.1=(k:Int)∧i≤k∧k≤q.keys.length∧(∀ j:Nat,j<i→(aeA q.keys (j:Int)).deadline≤D)∧(∀ j:Nat,k≤j→j<q.keys.length→D<(aeA q.keys (j:Int)).deadline)) (fun x =>(x.2.1-x.1).toNat) (fun self x ⟨i,k,q1,q2,q3,q4,q5,q6⟩ ih =>?_) _ _ ⟨0,q.keys.length,rfl,rfl,Nat.zero_le _,Nat.le_refl _,fun j hj =>absurd hj (Nat.not_lt_zero _),fun j h1 h2 =>by omega⟩ (by show ((q.keys.length:Int)-0).toNat<_; omega)
      obtain ⟨x1,x2,u⟩:=x
      obtain rfl:x1=(i:Int):=q1
      obtain rfl:x2=(k:Int):=q2
      refine aaI.ite (fun h1 =>?_) fun h1 =>.some_ ⟨i,rfl,by omega,q5,fun j h2 h3 =>q6 j (by have h1:¬ (i:Int)<(k:Int):=h1; omega) h3⟩
      have h1:(i:Int)<(k:Int):=h1
      dsimp only
      rw [aDb (lo:=(i:Int)) (hi:=(k:Int)) (by omega) (by omega) (by omega)]
      obtain ⟨m,hm⟩:∃ m:Nat,((i:Int)+(k:Int)) / 2=(m:Int):=⟨(((i:Int)+(k:Int)) / 2).toNat,by omega⟩
      rw [hm]
      have m1:i≤m∧m<k:=by omega
      refine aaI.guard (by omega) fun _ =>?_
      obtain ⟨v,v1,v2⟩:=hk m (by omega)
      rw [v1,aav]
      have e1:wi ((m:Int)+1)=((m+1:Nat):Int):=aa2 (aae (by omega))
      refine aaI.ite (fun h2 =>?_) fun h2 =>?_
      · rw [e1]
        refine ih _ ⟨m+1,k,rfl,rfl,by omega,q4,fun j hj =>?_,q6⟩ (by show ((k:Int)-((m+1:Nat):Int)).toNat<((k:Int)-(i:Int)).toNat; omega)
        have h3:=v2.1 h2
        rcases Nat.lt_or_ge j m with h4 | h4
        · have:=hs.s j m h4 (by omega)
          unfold leK at this; omega
        · obtain rfl:j=m:=by omega
          exact h3
      · refine ih _ ⟨i,m,rfl,rfl,m1.1,by omega,q5,fun j h3 h4 =>?_⟩ (by show ((m:Int)-(i:Int)).toNat<((k:Int)-(i:Int)).toNat; omega)
        have h5:D<(aeA q.keys (m:Int)).deadline:=by
          have:¬ (aeA q.keys (m:Int)).deadline≤D:=fun h =>h2 (v2.2 h)
          omega
        rcases Nat.lt_or_ge m j with h6 | h6
        · have:=hs.s m j h6 h4
          unfold leK at this; omega
        · obtain rfl:j=m:=by omega
          exact h5
    obtain ⟨⟨z1,z2,u⟩,hz,i,rfl,i1,i2,i3⟩:=hg
    refine ⟨i,i1,i2,i3,?_⟩
    rw [hz,aav]
    have e2:ag6 q.keys (i:Int) [⟨D,q.count,t⟩]=some ((q.keys.take i++[⟨D,q.count,t⟩]++q.keys.drop i,()),()):=if_pos ⟨⟨by omega,hl⟩,rfl⟩
    by_cases h4:(i:Int)<(q.keys.length:Int)
    · obtain ⟨v,v1,_⟩:=hk i (by omega)
      rw [if_pos h4,if_pos ⟨by omega,h4⟩,v1,aav,aav]
      rw [e2,aav]
    · rw [if_neg h4,aav,e2,aav]
end
end
section
open Go Go.RowKit
set_option maxRecDepth 3000
variable [Tb]
section
variable {p:SyP} {w t o l:Int}
theorem pk2 (hP:PO p) (hw:0≤w∧w<(p.works.length:Int)) (ht:0≤t∧t<(p.tasks.length:Int)) (hr:aal p ⟨2,w,t,o,l⟩=some ((true,()),(p,()))) (hs:(aam p.works w).sleeps=false) :
    PS p ⟨2,w,t,o,l⟩ (o=p.offers∧o<(p.c.subs.length:Int)∧(l=1∧(p.queue.keys.length:Int)=p.c.heap∨l=2∧(p.queue.keys.length:Int)<p.c.heap∧wi (p.c.tasks-p.c.workers)≤p.known)) { p with works:=p.works.set w.toNat { aam p.works w with last:=⟨2,w,t,o,l⟩ },offers:=wi (p.offers+1) }:=by
  have hk:=hP.stk w hw
  unfold PS aaj aan
  rw [hr]
  simp only [aav,Int.reduceEq,if_true,if_false,hw,ht,and_self,abO,abH,List.set_set,List.length_set,aiX,ai2,abr,ne_eq,not_true_eq_false,not_false_eq_true,true_and,and_true,decide_true,decide_false,reduceCtorEq,abD,aa6,ad3,ad1,Bool.not_true,Bool.false_eq_true,Bool.not_eq_true',hs,qP2]
  repeat' split
  all_goals first
    | exact amK (by first | exact True.intro | (simp_all; done) | (simp_all; intros; omega)) rfl
    | exact ahE (by first | exact True.intro | (simp_all; done) | (simp_all; intros; omega)) asK
    | exact ahE (by first | exact True.intro | (simp_all; done) | (simp_all; intros; omega)) ab9
    | (simp only [aav,decide_eq_false_iff_not]
       split
       · exact ahE (by omega) ab9
       · exact amK (by omega) rfl)
theorem aC2 (hP:PO p) (hw:0≤w∧w<(p.works.length:Int)) (ht:0≤t∧t<(p.tasks.length:Int)) (hr:aal p ⟨13,w,t,o,l⟩=some ((true,()),(p,()))) (hs:(aam p.works w).sleeps=false) :
  PS p ⟨13,w,t,o,l⟩ (avh (aam p.works w).stack (aam p.works w).walks=true∧0<p.queue.keys.length∧(aeA p.queue.keys 0).task=t) { p with works:=p.works.set w.toNat { aam p.works w with last:=⟨13,w,t,o,l⟩ },queue:=⟨p.queue.keys.drop 1,p.queue.count⟩ }:=by
 have hk:=hP.stk w hw
 unfold PS aaj aan
 rw [hr]
 simp only [aav,Int.reduceEq,if_true,if_false,hw,ht,and_self,abO,abH,List.set_set,List.length_set,aiX,ai2,abr,ne_eq,not_true_eq_false,not_false_eq_true,true_and,and_true,decide_true,decide_false,reduceCtorEq,abD,aa6,ad3,ad1,Bool.not_true,Bool.false_eq_true,Bool.not_eq_true',hs,aCW]
 by_cases hq:0<p.queue.keys.length∧(aeA p.queue.keys 0).task=t
 ·rw [if_pos hq]
  simp only [aav,Bool.not_true,Bool.false_eq_true,if_false,hq,and_true]
  split
  ·exact amK (by assumption) rfl
  ·exact ahE (by assumption) ab9
 ·rw [if_neg hq]
  simp only [aav,Bool.not_false,if_true]
  split
  ·exact ahE (fun h =>hq h.2) ab9
  ·exact ahE (fun h =>hq h.2) ab9
theorem awg {α β:Type} {o:Option β} {g:α⊕β→Option β} (h1:∀ x,g (.inr x)=some x):(Option.map Sum.inr o).bind g=o:=by
 cases o with
 | none =>rfl
 | some x =>exact h1 x
theorem auA {β:Type} {ts:List TkP} {x:Int} {R:Option β} {rk:Int→Nat} (hr:∀ i,0≤i∧i<(ts.length:Int)→(aah ts i).pa=-1∨(0≤(aah ts i).pa∧(aah ts i).pa<(ts.length:Int))∧rk (aah ts i).pa<rk i) :
  ∀ (n k:Nat) (t:Int),0≤t∧t<(ts.length:Int)→rk t<n→rk t<k →
  lpF (σ:=Int×Unit) (β:=(Int×Unit)⊕β) (fun self x3 =>if ¬ x3.1=-1 then (if x3.1=x then Option.map Sum.inr R else if 0≤x3.1∧x3.1<(ts.length:Int) then self ((aah ts x3.1).pa,()) else none) else some (Sum.inl (x3.1,()))) k ((aah ts t).pa,()) =
   if ar9 (fun i =>(aah ts i).pa) x n t=true then Option.map Sum.inr R else some (Sum.inl (-1,()))
 | 0,k,t,ht,hn,hk =>by omega
 | n+1,0,t,ht,hn,hk =>by omega
 | n+1,k+1,t,ht,hn,hk =>by
  rw [lpS]
  unfold ar9
  dsimp only
  by_cases h1:(aah ts t).pa=-1
  ·rw [if_neg (fun h =>h h1),if_pos h1,if_neg (by decide),h1]
  ·rw [if_pos h1,if_neg h1]
   by_cases h2:(aah ts t).pa=x
   ·rw [if_pos h2,if_pos h2,if_pos rfl]
   ·rcases hr t ht with h3 | ⟨h3,h4⟩
    ·exact absurd h3 h1
    ·rw [if_neg h2,if_neg h2,if_pos h3]
     exact auA hr n k _ h3 (by omega) (by omega)
theorem aC4 (hP:PO p) (hw:0≤w∧w<(p.works.length:Int)) (ht:0≤t∧t<(p.tasks.length:Int)) (hwk:(aam p.works w).walks=true→0≤(aam p.works w).walk∧(aam p.works w).walk<(p.tasks.length:Int)) {rk:Int→Nat} (hrk:∀ i,0≤i∧i<(p.tasks.length:Int)→(aah p.tasks i).pa=-1∨(0≤(aah p.tasks i).pa∧(aah p.tasks i).pa<(p.tasks.length:Int))∧rk (aah p.tasks i).pa<rk i) (hrn:rk t<p.tasks.length) (hln:p.tasks.length≤1000000) (hr:aal p ⟨11,w,t,o,l⟩=some ((true,()),(p,()))) (hs:(aam p.works w).sleeps=false) :
  PS p ⟨11,w,t,o,l⟩ ((aam p.works w).walks=true∧ar9 (fun i =>(aah p.tasks i).pa) (aam p.works w).walk p.tasks.length t=true∧(aah p.tasks t).lv<l∧l≤(aah p.tasks (aam p.works w).walk).lv∧((aam p.works w).up ≠ -1→(aam p.works w).up=l)) { p with tasks:=p.tasks.set t.toNat { aah p.tasks t with lv:=l },works:=p.works.set w.toNat { aam p.works w with up:=l,last:=⟨11,w,t,o,l⟩ } }:=by
 have hk:=hP.stk w hw
 unfold PS aaj aan
 rw [hr]
 by_cases h3:(aam p.works w).walks=true
 rotate_left
 ·have h4:(aam p.works w).walks=false:=by simpa using h3
  simp only [aav,Int.reduceEq,if_true,if_false,hw,ht,and_self,abO,abH,ne_eq,not_true_eq_false,not_false_eq_true,true_and,and_true,decide_false,reduceCtorEq,abD,aa6,ad3,ad1,hs,h4,Bool.not_false,Bool.not_true,Bool.false_eq_true]
  exact ⟨_,_,rfl,(fun h =>nomatch h),fun _ =>⟨(by simp),ab9⟩⟩
 have hwk:=hwk h3
 simp only [aav,Int.reduceEq,if_true,if_false,hw,ht,and_self,abO,abH,List.set_set,List.length_set,aiX,ai2,abr,ne_eq,not_true_eq_false,not_false_eq_true,true_and,and_true,decide_true,decide_false,reduceCtorEq,abD,aa6,ad3,ad1,Bool.not_true,Bool.false_eq_true,Bool.not_eq_true',hs,h3,hwk]
 rw [auA hrk p.tasks.length 18446744073709551616 t ht hrn (by omega)]
 by_cases hd:ar9 (fun i =>(aah p.tasks i).pa) (aam p.works w).walk p.tasks.length t=true
 ·rw [if_pos hd,awg (fun _ =>rfl)]
  simp only [hd,true_and]
  repeat' split
  all_goals first
   | exact amK (by omega) rfl
   | exact ahE (by omega) ab9
 ·rw [if_neg hd]
  exact ahE (fun h =>hd h.1) ab9
theorem pk1 (hP:PO p) (hw:0≤w∧w<(p.works.length:Int)) (ht:0≤t∧t<(p.tasks.length:Int)) (hof:0≤p.offers) (hsub:0≤o∧o<(p.c.subs.length:Int)→0≤(acK p.c.subs o).prog∧(acK p.c.subs o).prog<(p.c.progs.length:Int)) (hq:Srt p.queue.keys p.queue.count) (hql:p.queue.keys.length≤1000000)
    (hr:aal p ⟨1,w,t,o,l⟩=some ((true,()),(p,()))) (hs:(aam p.works w).sleeps=false) :
    ∃ i:Nat,i≤p.queue.keys.length∧(o=p.offers∧o<(p.c.subs.length:Int)→(p.queue.keys.length:Int)<p.c.heap→(∀ j:Nat,j<i→(aeA p.queue.keys (j:Int)).deadline≤(acK p.c.subs o).deadline)∧(∀ j:Nat,i≤j→j<p.queue.keys.length→(acK p.c.subs o).deadline<(aeA p.queue.keys (j:Int)).deadline)) ∧
    PS p ⟨1,w,t,o,l⟩ (o=p.offers∧o<(p.c.subs.length:Int)∧l=(acK p.c.subs o).level∧(aah p.tasks t).ph=0∧(p.queue.keys.length:Int)<p.c.heap)
     ⟨p.c,p.tasks.set t.toNat ⟨1,l,-1,atL [] p.c.progs (acK p.c.subs o).prog,0,[],-1⟩,p.works.set w.toNat { aam p.works w with last:=⟨1,w,t,o,l⟩ },wi (p.offers+1),wi (p.known+1),⟨p.queue.keys.take i++[⟨(acK p.c.subs o).deadline,p.queue.count,t⟩]++p.queue.keys.drop i,wi (p.queue.count+1)⟩⟩:=by
  have hk:=hP.stk w hw
  by_cases h1:o=p.offers
  rotate_left
  · refine ⟨0,Nat.zero_le _,fun h =>absurd h.1 h1,?_⟩
    unfold PS aaj aan
    rw [hr]
    simp only [aav,Int.reduceEq,if_true,if_false,hw,ht,and_self,abO,abH,List.set_set,List.length_set,aiX,ai2,abr,ne_eq,not_true_eq_false,not_false_eq_true,true_and,and_true,decide_true,decide_false,reduceCtorEq,abD,aa6,ad3,ad1,Bool.not_true,Bool.false_eq_true,Bool.not_eq_true',hs,h1]
    exact ⟨_,_,rfl,(fun h =>nomatch h),fun _ =>⟨(by simp),ab9⟩⟩
  by_cases h2:o<(p.c.subs.length:Int)
  rotate_left
  · refine ⟨0,Nat.zero_le _,fun h =>absurd h.2 h2,?_⟩
    unfold PS aaj aan
    rw [hr]
    have h3:(p.c.subs.length:Int)≤p.offers:=by omega
    rw [h1] at h2
    simp only [aav,Int.reduceEq,if_true,if_false,hw,ht,and_self,abO,abH,List.set_set,List.length_set,aiX,ai2,abr,ne_eq,not_true_eq_false,not_false_eq_true,true_and,and_true,decide_true,decide_false,reduceCtorEq,abD,aa6,ad3,ad1,Bool.not_true,Bool.false_eq_true,Bool.not_eq_true',hs,h1,h3,h2]
    exact ⟨_,_,rfl,(fun h =>nomatch h),fun _ =>⟨(by simp),ab9⟩⟩
  have ho:0≤o∧o<(p.c.subs.length:Int):=⟨by omega,h2⟩
  have hsub:=hsub ho
  obtain ⟨q1,q2⟩:=qP1 (c:=p.c) (w:=w) (t:=t) (l:=l) ho hq hql
  have h3:¬ (p.c.subs.length:Int)≤o:=by omega
  by_cases h4:(p.queue.keys.length:Int)<p.c.heap
  · obtain ⟨i,i1,i2,i3,i4⟩:=q2 h4
    refine ⟨i,i1,fun _ _ =>⟨i2,i3⟩,?_⟩
    unfold PS aaj aan
    rw [hr]
    subst h1
    simp only [aav,Int.reduceEq,if_true,if_false,hw,ht,and_self,abO,abH,List.set_set,List.length_set,aiX,ai2,abr,ne_eq,not_true_eq_false,not_false_eq_true,true_and,and_true,decide_true,decide_false,reduceCtorEq,abD,aa6,ad3,ad1,Bool.not_true,Bool.false_eq_true,Bool.not_eq_true',hs,h3,ho,hsub,i4,h4]
    repeat' split
    all_goals first
      | exact amK (by first | exact True.intro | (simp_all; done) | (simp_all; intros; omega)) rfl
      | exact ahE (by first | exact True.intro | (simp_all; done) | (simp_all; intros; omega)) ab9
      | exact ahE (by first | exact True.intro | (simp_all; done) | (simp_all; intros; omega)) asK
  · have i4:=q1 (by omega)
    refine ⟨0,Nat.zero_le _,fun _ h =>absurd h h4,?_⟩
    unfold PS aaj aan
    rw [hr]
    subst h1
    simp only [aav,Int.reduceEq,if_true,if_false,hw,ht,and_self,abO,abH,List.set_set,List.length_set,aiX,ai2,abr,ne_eq,not_true_eq_false,not_false_eq_true,true_and,and_true,decide_true,decide_false,reduceCtorEq,abD,aa6,ad3,ad1,Bool.not_true,Bool.false_eq_true,Bool.not_eq_true',hs,h3,ho,hsub,i4,h4,Bool.not_false]
    repeat' split
    all_goals first
      | exact ahE (by first | exact True.intro | (simp_all; done) | (simp_all; intros; omega)) ab9
      | exact ahE (by first | exact True.intro | (simp_all; done) | (simp_all; intros; omega)) asK
end
end
section
open Go Go.RowKit
set_option maxRecDepth 1000000
variable [Tb]
def alV (s:List Int) (walk:Int):Bool:=if (s.length:Int)=0 then decide (walk=-1) else false
section
variable {r:SaV} {w t:Int}
theorem aik (hw:0≤w∧w<(r.works.length:Int)) (ht:0≤t) (hk:(aac r.works w).stack.length≤1000000):aaO r w t=some ((decide (aa8 (aac r.works w).stack=t),()),(r,())):=by
 unfold aaO aa8
 try simp only [aa1,abP,abv,ac8]
 have e1:wi (((aac r.works w).stack.length:Int)-1)=((aac r.works w).stack.length:Int)-1:=aa2 (aae (by omega))
 rw [if_neg (by omega),if_neg (by omega),if_pos hw,e1,aaP hw]
 by_cases h:((aac r.works w).stack.length:Int)=0
 ·rw [if_neg (by omega),if_pos h,decide_eq_false (by omega)]
 ·rw [if_pos (by omega),if_pos (by omega),if_neg h]
theorem aiN (hw:0≤w∧w<(r.works.length:Int)):abq r w=some ((alV (aac r.works w).stack (aac r.works w).walk,()),(r,())):=by
 unfold abq alV
 try simp only [aa1,abP,abv,ac8]
 rw [if_pos hw.1,if_pos hw.2,if_pos hw]
 simp only [aaP hw,hw,and_self,if_true]
 split<;>rfl
theorem apd (ht:0≤t∧t<(r.tasks.length:Int)) (hp:0≤(aaa r.tasks t).prog∧(aaa r.tasks t).prog<(r.c.progs.length:Int)) {P:List Ins} (hP:atL [] r.c.progs (aaa r.tasks t).prog=P)
  (h0:0≤(aaa r.tasks t).pc) (hn:P.length≤1000000) (hj:∀ a,0≤a→a<(P.length:Int)→(acA P a).op=2→0≤(acA P a).a) :
  aaA r t=some (((an1 P (aaa r.tasks t).kids (aaa r.tasks t).pc).2.1,(an1 P (aaa r.tasks t).kids (aaa r.tasks t).pc).2.2,()),({ r with tasks:=r.tasks.set t.toNat { aaa r.tasks t with pc:=(an1 P (aaa r.tasks t).kids (aaa r.tasks t).pc).1 } },())):=by
 unfold aaA
 try simp only [aa1,abP,abv,ac8]
 rw [if_pos ht,if_pos hp,hP]
 generalize hF:(fun (self3:List TkV×Ins×Unit→Option ((List TkV×Ins×Unit)⊕((Ins×Bool×Unit)×(SaV×Unit)))) (x1:List TkV×Ins×Unit) =>_)=F
 generalize hX:aaa r.tasks t=X at *
 have run:∀ (f k:Nat) (a:Int) (z:Ins),0≤a→(P.length:Int)+1-a≤f→f≤k →
   lpF F (k+1) (r.tasks.set t.toNat { X with pc:=a },z,())=some (if (ahS P X.kids f a).2.2=true then .inr (((ahS P X.kids f a).2.1,true,()),({ r with tasks:=r.tasks.set t.toNat { X with pc:=(ahS P X.kids f a).1 } },())) else .inl (r.tasks.set t.toNat { X with pc:=(ahS P X.kids f a).1 },z,()))∧((ahS P X.kids f a).2.2=false→(ahS P X.kids f a).2.1=⟨0,0,0⟩):=by
  intro f
  induction f with
  | zero =>
   intro k a z h1 h2 h3
   rw [lpS]
   subst hF
   refine ⟨?_,fun _ =>rfl⟩
   simp only [aep ht]
   exact if_neg (show ¬ a<(P.length:Int) by omega)
  | succ f ih =>
   intro k a z h1 h2 h3
   obtain ⟨k,rfl⟩:∃ k',k=k'+1:=⟨k-1,by omega⟩
   rw [lpS]
   have ih':=ih k (a+1) z (by omega) (by omega) (by omega)
   generalize lpF F (k+1)=self at *
   subst hF
   unfold ahS
   simp only [aep ht,List.set_set]
   by_cases hlt:a<(P.length:Int)
   ·have e1:wi (a+1)=a+1:=aa2 (aae (by omega))
    simp only [hlt,h1,and_self,if_true,e1]
    by_cases o1:(acA P a).op=1
    ·simp only [o1,if_true]
     exact ⟨rfl,fun h =>by cases h⟩
    ·simp only [o1,if_false]
     by_cases o2:(acA P a).op=2
     ·have hc:=hj a h1 hlt o2
      simp only [o2,if_true,true_and]
      unfold chV
      rw [if_neg (show ¬ (acA P a).a<0 by omega)]
      by_cases o4:(acA P a).a<(X.kids.length:Int)
      ·rw [if_pos o4,if_pos ⟨hc,o4⟩,if_neg (show ¬ (X.kids.length:Int)≤(acA P a).a by omega)]
       by_cases o3:aaf X.kids (acA P a).a ≠ -1
       ·simp only [if_pos o3]
        exact ⟨rfl,fun h =>by cases h⟩
       ·simp only [if_neg o3]
        exact ih'
      ·rw [if_neg o4,if_pos (show (X.kids.length:Int)≤(acA P a).a by omega),if_neg (show ¬ ((-1:Int) ≠ -1) by decide)]
       exact ih'
     ·simp only [o2,if_false,false_and]
      exact ih'
   ·simp only [if_neg hlt]
    exact ⟨rfl,fun _ =>by trivial⟩
 obtain ⟨r1,r2⟩:=run (P.length+1) 18446744073709551615 X.pc ⟨0,0,0⟩ h0 (by omega) (by omega)
 have r1:lpF F 18446744073709551616 (r.tasks.set t.toNat X,⟨0,0,0⟩,())=_:=r1
 rw [r1]
 unfold an1
 cases hb:(ahS P X.kids (P.length+1) X.pc).2.2 with
 | true =>rw [if_pos rfl]; rfl
 | false =>rw [if_neg (by decide),r2 hb]; rfl
def aeq (l:List TkV):Nat:=l.countP fun x =>decide (x.view.phase≠0)
theorem aof (hl:r.tasks.length≤1000000):aaE r=some (((aeq r.tasks:Int),()),(r,())):=by
 have hg:aaI (aaE r) fun o =>o=(((aeq r.tasks:Int),()),(r,())):=by
  unfold aaE
  try simp only [aa1,abP,abv,ac8]
  refine aaI.bind (P:=fun z =>z.1=(aeq r.tasks:Int)∧z.2.2.1=r) (ab8 (fun x =>∃ i:Nat,x.2.1=(i:Int)∧i≤r.tasks.length∧x.2.2.1=r∧x.1=(aeq (r.tasks.take i):Int)) (fun x =>((r.tasks.length:Int)-x.2.1).toNat) (fun self x ⟨i,q2,q3,q4,q5⟩ ih =>?_) _ _ ⟨0,rfl,Nat.zero_le _,rfl,rfl⟩ (by show ((r.tasks.length:Int)-0).toNat<_; omega)) fun z ⟨hz1,hz2⟩ =>.some_ (by rw [hz1,hz2])
  obtain ⟨x1,x2,x3,u⟩:=x
  obtain rfl:x2=(i:Int):=q2
  obtain rfl:x3=r:=q4
  obtain rfl:x1=(aeq (x3.tasks.take i):Int):=q5
  have e1:wi ((i:Int)+1)=((i+1:Nat):Int):=aa2 (aae (by omega))
  refine aaI.ite (fun h =>?_) fun h =>.some_ ⟨?_,rfl⟩
  ·have hi:i<x3.tasks.length:=Int.ofNat_lt.1 h
   refine aaI.guard ⟨by show (0:Int)≤(i:Int); omega,h⟩ fun _ =>?_
   have hat:aaa x3.tasks (i:Int)=x3.tasks[i]:=by
    have a1:=ab2 (d:=(dfR 61:TkV)) (xs:=x3.tasks) (i:=(i:Int)) ⟨by omega,h⟩
    have a2:x3.tasks[((i:Nat):Int).toNat]?=some x3.tasks[i]:=by simp [hi]
    exact Option.some.inj (a1.symm.trans a2)
   have hle:aeq (x3.tasks.take i)≤i:=Nat.le_trans (List.countP_le_length) (by rw [List.length_take]; omega)
   have hc:aeq (x3.tasks.take (i+1))=aeq (x3.tasks.take i)+(if x3.tasks[i].view.phase≠0 then 1 else 0):=by
    unfold aeq
    rw [List.take_succ_eq_append_getElem hi,List.countP_append]
    congr 1
    by_cases hz:x3.tasks[i].view.phase=0<;>simp [hz]
   refine aaI.ite (fun hp =>?_) fun hp =>?_
   ·show aaI (self (wi ((aeq (x3.tasks.take i):Int)+1),wi ((i:Int)+1),x3,())) _
    rw [e1]
    have hp:(aaa x3.tasks (i:Int)).view.phase≠0:=hp
    rw [hat] at hp
    rw [if_pos hp] at hc
    refine ih _ ⟨i+1,rfl,hi,rfl,?_⟩ (by show ((x3.tasks.length:Int)-((i+1:Nat):Int)).toNat<((x3.tasks.length:Int)-(i:Int)).toNat; omega)
    show wi ((aeq (x3.tasks.take i):Int)+1)=_
    rw [hc,aa2 (aae (by omega))]; rfl
   ·show aaI (self ((aeq (x3.tasks.take i):Int),wi ((i:Int)+1),x3,())) _
    rw [e1]
    have hp:¬ (aaa x3.tasks (i:Int)).view.phase≠0:=hp
    rw [hat] at hp
    rw [if_neg hp] at hc
    exact ih _ ⟨i+1,rfl,hi,rfl,(by show (aeq (x3.tasks.take i):Int)=_; rw [hc]; rfl)⟩ (by show ((x3.tasks.length:Int)-((i+1:Nat):Int)).toNat<((x3.tasks.length:Int)-(i:Int)).toNat; omega)
  ·have h:¬ (i:Int)<((x3.tasks.length:Nat):Int):=h
   rw [List.take_of_length_le (by omega)]
 obtain ⟨x,h1,rfl⟩:=hg
 exact h1
theorem aAB {q:QuV} (h:0<q.keys.length) (hl:q.keys.length≤1000000):aaI (aaX q) fun o =>o.2.1=q∧(0≤o.1.1∧o.1.1<(q.keys.length:Int))∧∀ j:Nat,j<q.keys.length→¬ leK (abi q.keys (j:Int)) (abi q.keys o.1.1):=by
 unfold aaX
 refine aaI.bind (P:=fun z =>z.2.2.1=q∧(0≤z.1∧z.1<(q.keys.length:Int))∧∀ j:Nat,j<q.keys.length→¬ leK (abi q.keys (j:Int)) (abi q.keys z.1)) (ab8 (fun x =>∃ i:Nat,x.2.1=(i:Int)∧(1≤i∧i≤q.keys.length)∧x.2.2.1=q∧(0≤x.1∧x.1<(q.keys.length:Int))∧∀ j:Nat,j<i→¬ leK (abi q.keys (j:Int)) (abi q.keys x.1)) (fun x =>((q.keys.length:Int)-x.2.1).toNat) (fun self x ⟨i,q2,q3,q4,q5,q6⟩ ih =>?_) _ _ ⟨1,rfl,⟨Nat.le_refl _,h⟩,rfl,⟨Int.le_refl _,by show (0:Int)<_; omega⟩,fun j hj =>?_⟩ (by show ((q.keys.length:Int)-1).toNat<_; omega)) fun z hz =>.some_ hz
 rotate_left
 ·obtain ⟨x1,x2,x3,u⟩:=x
  obtain rfl:x2=(i:Int):=q2
  obtain rfl:x3=q:=q4
  have q5:0≤x1∧x1<(x3.keys.length:Int):=q5
  have q6:∀ j:Nat,j<i→¬ leK (abi x3.keys (j:Int)) (abi x3.keys x1):=q6
  have e1:wi ((i:Int)+1)=((i+1:Nat):Int):=aa2 (aae (by omega))
  have hm:∀ hi:i<x3.keys.length,((x3.keys.length:Int)-((i+1:Nat):Int)).toNat<((x3.keys.length:Int)-(i:Int)).toNat:=fun hi =>by omega
  have mv:leK (abi x3.keys (i:Int)) (abi x3.keys x1)→∀ j:Nat,j<i+1→¬ leK (abi x3.keys (j:Int)) (abi x3.keys (i:Int)):=fun hle j hj =>by
   rcases Nat.lt_or_ge j i with h1 | h1
   ·have:=q6 j h1
    unfold leK at *
    omega
   ·obtain rfl:j=i:=by omega
    unfold leK; omega
  have ky:¬ leK (abi x3.keys (i:Int)) (abi x3.keys x1)→∀ j:Nat,j<i+1→¬ leK (abi x3.keys (j:Int)) (abi x3.keys x1):=fun hle j hj =>by
   rcases Nat.lt_or_ge j i with h1 | h1
   ·exact q6 j h1
   ·obtain rfl:j=i:=by omega
    exact hle
  refine aaI.ite (fun h =>?_) fun h =>.some_ ⟨rfl,q5,fun j hj =>q6 j (by have h:¬ (i:Int)<(x3.keys.length:Int):=h; omega)⟩
  have hi:i<x3.keys.length:=Int.ofNat_lt.1 h
  refine aaI.guard ⟨by show (0:Int)≤(i:Int); omega,h⟩ fun _ =>aaI.guard q5 fun _ =>aaI.ite (fun h1 =>?_) fun h1 =>aaI.ite (fun h2 =>aaI.ite (fun h3 =>?_) fun h3 =>?_) fun h2 =>?_
  ·show aaI (self ((i:Int),wi ((i:Int)+1),x3,())) _
   rw [e1]
   exact ih _ ⟨i+1,rfl,⟨by omega,hi⟩,rfl,⟨by show (0:Int)≤(i:Int); omega,h⟩,mv (.inl h1)⟩ (hm hi)
  ·show aaI (self ((i:Int),wi ((i:Int)+1),x3,())) _
   rw [e1]
   exact ih _ ⟨i+1,rfl,⟨by omega,hi⟩,rfl,⟨by show (0:Int)≤(i:Int); omega,h⟩,mv (.inr ⟨h2,h3⟩)⟩ (hm hi)
  ·show aaI (self (x1,wi ((i:Int)+1),x3,())) _
   rw [e1]
   exact ih _ ⟨i+1,rfl,⟨by omega,hi⟩,rfl,q5,ky (fun h =>h.elim (fun h =>h1 h) (fun h =>h3 h.2))⟩ (hm hi)
  ·show aaI (self (x1,wi ((i:Int)+1),x3,())) _
   rw [e1]
   exact ih _ ⟨i+1,rfl,⟨by omega,hi⟩,rfl,q5,ky (fun h =>h.elim (fun h =>h1 h) (fun h =>h2 h.1))⟩ (hm hi)
 ·obtain rfl:j=0:=by omega
  show ¬ leK (abi q.keys 0) (abi q.keys 0)
  unfold leK; omega
end
end
section
open Go Go.RowKit
set_option maxRecDepth 3000
variable [Tb]
structure RO (r:SaV):Prop where
 wl:(r.works.length:Int)=r.c.workers
 stk:∀ w,0≤w∧w<(r.works.length:Int)→(aac r.works w).stack.length≤1000000
 kid:∀ t,0≤t∧t<(r.tasks.length:Int)→(aaa r.tasks t).kids.length≤1000000
 tl:r.tasks.length≤1000000
def RS (r:SaV) (e:Ev) (C:Prop) (r':SaV):Prop:=∃ b q,aas r e=some ((b,()),(q,()))∧(b=true→C∧q=r')∧(b=false→¬ C)
theorem aoF {C:Prop} {p' q:SaV} (h:C) (e:q=p'):∃ b q',some ((true,()),(q,()))=some ((b,()),(q',()))∧(b=true→C∧q'=p')∧(b=false→¬ C):=⟨_,_,rfl,fun _ =>⟨h,e⟩,(fun h =>nomatch h)⟩
theorem amn {C:Prop} {p' q:SaV} (h:¬ C):∃ b q',some ((false,()),(q,()))=some ((b,()),(q',()))∧(b=true→C∧q'=p')∧(b=false→¬ C):=⟨_,_,rfl,(fun h =>nomatch h),fun _ =>h⟩
theorem ahB {D C:Prop} [Decidable D] {p' q:SaV} (h:D↔C) (e:D→q=p'):∃ b q',some ((decide D,()),(q,()))=some ((b,()),(q',()))∧(b=true→C∧q'=p')∧(b=false→¬ C):=⟨_,_,rfl,fun hb =>⟨h.1 (of_decide_eq_true hb),e (of_decide_eq_true hb)⟩,fun hb hc =>of_decide_eq_false hb (h.2 hc)⟩
def RA (r:SaV) (e:Ev) (C:Prop) (r':SaV):Prop:=∃ b q,aak r e=some ((b,()),(q,()))∧(b=true→C∧q=r')∧(b=false→¬ C)
section
variable {r:SaV} {w t o l:Int}
theorem agO {k:Int} {C:Prop} {ts:List TkV} {x:WlV} {qu:QuV} {of:Int} (hw:0≤w∧w<(r.works.length:Int)) (hwl:(r.works.length:Int)=r.c.workers) (hf:aad r ⟨k,w,t,o,l⟩=some ((true,()),(r,())))
  (h:RA r ⟨k,w,t,o,l⟩ C ⟨r.c,ts,r.works.set w.toNat x,qu,of⟩):RS r ⟨k,w,t,o,l⟩ C ⟨r.c,ts,r.works.set w.toNat { x with last:=⟨k,w,t,o,l⟩ },qu,of⟩:=by
 obtain ⟨b,q,h1,h2,h3⟩:=h
 unfold RS aas
 rw [hf,aav,if_neg (show ¬ (!true)=true by decide)]
 dsimp only
 rw [h1,aav]
 cases b with
 | false =>exact ⟨_,_,rfl,(fun h =>nomatch h),h3⟩
 | true =>
  obtain ⟨h4,rfl⟩:=h2 rfl
  have h5:w<r.c.workers:=by omega
  have h6:0≤w∧w<((r.works.set w.toNat x).length:Int):=by rw [List.length_set]; exact hw
  rw [if_neg (show ¬ (!true)=true by decide)]
  dsimp only
  rw [if_pos h5,if_pos h6]
  simp only [ac8,aeN hw,List.set_set]
  exact ⟨_,_,rfl,fun _ =>⟨h4,rfl⟩,(fun h =>nomatch h)⟩
theorem aCS (hR:RO r) (hw:0≤w∧w<(r.works.length:Int)) (ht:0≤t∧t<(r.tasks.length:Int)) (hf:aad r ⟨12,w,t,o,l⟩=some ((true,()),(r,()))) :
  RS r ⟨12,w,t,o,l⟩ (1≤r.c.age∧alV (aac r.works w).stack (aac r.works w).walk=true∧(aaa r.tasks t).view.phase≠0∧l=wi ((aaa r.tasks t).view.level+1)) { r with tasks:=r.tasks.set t.toNat { aaa r.tasks t with view:={ (aaa r.tasks t).view with level:=l } },works:=r.works.set w.toNat { aac r.works w with last:=⟨12,w,t,o,l⟩ } }:=by
 suffices h:RA r ⟨12,w,t,o,l⟩ (1≤r.c.age∧alV (aac r.works w).stack (aac r.works w).walk=true∧(aaa r.tasks t).view.phase≠0∧l=wi ((aaa r.tasks t).view.level+1)) { r with tasks:=r.tasks.set t.toNat { aaa r.tasks t with view:={ (aaa r.tasks t).view with level:=l } },works:=r.works.set w.toNat (aac r.works w) } from agO hw hR.wl hf h
 have hk:=hR.stk w hw
 have hkk:=hR.kid t ht
 unfold RA aak abI alV
 simp only [aav,Int.reduceEq,if_true,if_false,hw,ht,and_self,aaQ,aaP,List.set_set,List.length_set,aep,aeN,ne_eq,not_true_eq_false,not_false_eq_true,true_and,and_true,decide_true,decide_false,reduceCtorEq,aa1,abP,abv,ac8,Bool.not_true,Bool.not_false,Bool.false_eq_true,Bool.not_eq_true',Bool.true_eq_false]
 repeat' split
 all_goals (try simp only [aav,Int.reduceEq,if_true,if_false,hw,ht,and_self,aaQ,aaP,List.set_set,List.length_set,aep,aeN,ne_eq,not_true_eq_false,not_false_eq_true,true_and,and_true,decide_true,decide_false,reduceCtorEq,aa1,abP,abv,ac8,Bool.not_true,Bool.not_false,Bool.false_eq_true,Bool.not_eq_true',Bool.true_eq_false])
 all_goals repeat' split
 all_goals first
  | exact aoF (by first | exact True.intro | (simp_all; done) | (simp_all; intros; omega) | omega) rfl
  | exact amn (by first | exact True.intro | (simp_all; done) | (simp_all; intros; omega) | omega)
  | exact ahB (by first | (simp_all; done) | omega) (fun _ =>rfl)
  | exact ahB (by first | (simp_all; done) | omega) (fun h =>absurd h (by assumption))
  | exact ahB (by first | (simp_all; done) | omega) (fun h =>by simp [h])
  | exact ⟨_,_,rfl,(fun h =>nomatch h),(fun _ =>True.intro)⟩
theorem aCs (hR:RO r) (hw:0≤w∧w<(r.works.length:Int)) (ht:0≤t∧t<(r.tasks.length:Int)) (hf:aad r ⟨14,w,t,o,l⟩=some ((true,()),(r,()))) :
  RS r ⟨14,w,t,o,l⟩ (alV (aac r.works w).stack (aac r.works w).walk=true∧o≠w∧(0≤o∧o<r.c.workers)∧(aaa r.tasks t).view.phase≠0) { r with works:=r.works.set w.toNat { aac r.works w with last:=⟨14,w,t,o,l⟩ } }:=by
 suffices h:RA r ⟨14,w,t,o,l⟩ (alV (aac r.works w).stack (aac r.works w).walk=true∧o≠w∧(0≤o∧o<r.c.workers)∧(aaa r.tasks t).view.phase≠0) { r with works:=r.works.set w.toNat (aac r.works w) } from agO hw hR.wl hf h
 have hk:=hR.stk w hw
 have hkk:=hR.kid t ht
 unfold RA aak alV
 simp only [aav,Int.reduceEq,if_true,if_false,hw,ht,and_self,aaQ,aaP,List.set_set,List.length_set,aep,aeN,ne_eq,not_true_eq_false,not_false_eq_true,true_and,and_true,decide_true,decide_false,reduceCtorEq,aa1,abP,abv,ac8,Bool.not_true,Bool.not_false,Bool.false_eq_true,Bool.not_eq_true',Bool.true_eq_false]
 repeat' split
 all_goals (try simp only [aav,Int.reduceEq,if_true,if_false,hw,ht,and_self,aaQ,aaP,List.set_set,List.length_set,aep,aeN,ne_eq,not_true_eq_false,not_false_eq_true,true_and,and_true,decide_true,decide_false,reduceCtorEq,aa1,abP,abv,ac8,Bool.not_true,Bool.not_false,Bool.false_eq_true,Bool.not_eq_true',Bool.true_eq_false])
 all_goals repeat' split
 all_goals first
  | exact aoF (by first | exact True.intro | (simp_all; done) | (simp_all; intros; omega) | omega) rfl
  | exact amn (by first | exact True.intro | (simp_all; done) | (simp_all; intros; omega) | omega)
  | exact ahB (by first | (simp_all; done) | omega) (fun _ =>rfl)
  | exact ahB (by first | (simp_all; done) | omega) (fun h =>absurd h (by assumption))
  | exact ahB (by first | (simp_all; done) | omega) (fun h =>by simp [h])
  | exact ⟨_,_,rfl,(fun h =>nomatch h),(fun _ =>True.intro)⟩
theorem aCQ (hR:RO r) (hw:0≤w∧w<(r.works.length:Int)) (ht:0≤t∧t<(r.tasks.length:Int)) (hf:aad r ⟨15,w,t,o,l⟩=some ((true,()),(r,()))) :
  RS r ⟨15,w,t,o,l⟩ ((aaa r.tasks t).view.phase≠0∧(aaa r.tasks t).view.phase≠1) { r with works:=r.works.set w.toNat { aac r.works w with last:=⟨15,w,t,o,l⟩ } }:=by
 suffices h:RA r ⟨15,w,t,o,l⟩ ((aaa r.tasks t).view.phase≠0∧(aaa r.tasks t).view.phase≠1) { r with works:=r.works.set w.toNat (aac r.works w) } from agO hw hR.wl hf h
 have hk:=hR.stk w hw
 have hkk:=hR.kid t ht
 unfold RA aak
 simp only [aav,Int.reduceEq,if_true,if_false,hw,ht,and_self,aaQ,aaP,List.set_set,List.length_set,aep,aeN,ne_eq,not_true_eq_false,not_false_eq_true,true_and,and_true,decide_true,decide_false,reduceCtorEq,aa1,abP,abv,ac8,Bool.not_true,Bool.not_false,Bool.false_eq_true,Bool.not_eq_true',Bool.true_eq_false]
 repeat' split
 all_goals (try simp only [aav,Int.reduceEq,if_true,if_false,hw,ht,and_self,aaQ,aaP,List.set_set,List.length_set,aep,aeN,ne_eq,not_true_eq_false,not_false_eq_true,true_and,and_true,decide_true,decide_false,reduceCtorEq,aa1,abP,abv,ac8,Bool.not_true,Bool.not_false,Bool.false_eq_true,Bool.not_eq_true',Bool.true_eq_false])
 all_goals repeat' split
 all_goals first
  | exact aoF (by first | exact True.intro | (simp_all; done) | (simp_all; intros; omega) | omega) rfl
  | exact amn (by first | exact True.intro | (simp_all; done) | (simp_all; intros; omega) | omega)
  | exact ahB (by first | (simp_all; done) | omega) (fun _ =>rfl)
  | exact ahB (by first | (simp_all; done) | omega) (fun h =>absurd h (by assumption))
  | exact ahB (by first | (simp_all; done) | omega) (fun h =>by simp [h])
  | exact ⟨_,_,rfl,(fun h =>nomatch h),(fun _ =>True.intro)⟩
theorem aCP (hR:RO r) (hw:0≤w∧w<(r.works.length:Int)) (ht:0≤t∧t<(r.tasks.length:Int)) (hf:aad r ⟨16,w,t,o,l⟩=some ((true,()),(r,()))) :
  RS r ⟨16,w,t,o,l⟩ (alV (aac r.works w).stack (aac r.works w).walk=true) { r with works:=r.works.set w.toNat { aac r.works w with sleeps:=true,last:=⟨16,w,t,o,l⟩ } }:=by
 suffices h:RA r ⟨16,w,t,o,l⟩ (alV (aac r.works w).stack (aac r.works w).walk=true) { r with works:=r.works.set w.toNat { aac r.works w with sleeps:=true } } from agO hw hR.wl hf h
 have hk:=hR.stk w hw
 have hkk:=hR.kid t ht
 unfold RA aak alV
 simp only [aav,Int.reduceEq,if_true,if_false,hw,ht,and_self,aaQ,aaP,List.set_set,List.length_set,aep,aeN,ne_eq,not_true_eq_false,not_false_eq_true,true_and,and_true,decide_true,decide_false,reduceCtorEq,aa1,abP,abv,ac8,Bool.not_true,Bool.not_false,Bool.false_eq_true,Bool.not_eq_true',Bool.true_eq_false]
 repeat' split
 all_goals (try simp only [aav,Int.reduceEq,if_true,if_false,hw,ht,and_self,aaQ,aaP,List.set_set,List.length_set,aep,aeN,ne_eq,not_true_eq_false,not_false_eq_true,true_and,and_true,decide_true,decide_false,reduceCtorEq,aa1,abP,abv,ac8,Bool.not_true,Bool.not_false,Bool.false_eq_true,Bool.not_eq_true',Bool.true_eq_false])
 all_goals repeat' split
 all_goals first
  | exact aoF (by first | exact True.intro | (simp_all; done) | (simp_all; intros; omega) | omega) rfl
  | exact amn (by first | exact True.intro | (simp_all; done) | (simp_all; intros; omega) | omega)
  | exact ahB (by first | (simp_all; done) | omega) (fun _ =>rfl)
  | exact ahB (by first | (simp_all; done) | omega) (fun h =>absurd h (by assumption))
  | exact ahB (by first | (simp_all; done) | omega) (fun h =>by simp [h])
  | exact ⟨_,_,rfl,(fun h =>nomatch h),(fun _ =>True.intro)⟩
theorem aCO (hR:RO r) (hw:0≤w∧w<(r.works.length:Int)) (ht:0≤t∧t<(r.tasks.length:Int)) (hf:aad r ⟨17,w,t,o,l⟩=some ((true,()),(r,()))) :
  RS r ⟨17,w,t,o,l⟩ (o=1∨o=2) { r with works:=r.works.set w.toNat { aac r.works w with sleeps:=false,last:=⟨17,w,t,o,l⟩ } }:=by
 suffices h:RA r ⟨17,w,t,o,l⟩ (o=1∨o=2) { r with works:=r.works.set w.toNat { aac r.works w with sleeps:=false } } from agO hw hR.wl hf h
 have hk:=hR.stk w hw
 have hkk:=hR.kid t ht
 unfold RA aak
 simp only [aav,Int.reduceEq,if_true,if_false,hw,ht,and_self,aaQ,aaP,List.set_set,List.length_set,aep,aeN,ne_eq,not_true_eq_false,not_false_eq_true,true_and,and_true,decide_true,decide_false,reduceCtorEq,aa1,abP,abv,ac8,Bool.not_true,Bool.not_false,Bool.false_eq_true,Bool.not_eq_true',Bool.true_eq_false]
 repeat' split
 all_goals (try simp only [aav,Int.reduceEq,if_true,if_false,hw,ht,and_self,aaQ,aaP,List.set_set,List.length_set,aep,aeN,ne_eq,not_true_eq_false,not_false_eq_true,true_and,and_true,decide_true,decide_false,reduceCtorEq,aa1,abP,abv,ac8,Bool.not_true,Bool.not_false,Bool.false_eq_true,Bool.not_eq_true',Bool.true_eq_false])
 all_goals repeat' split
 all_goals first
  | exact aoF (by first | exact True.intro | (simp_all; done) | (simp_all; intros; omega) | omega) rfl
  | exact amn (by first | exact True.intro | (simp_all; done) | (simp_all; intros; omega) | omega)
  | exact ahB (by first | (simp_all; done) | omega) (fun _ =>rfl)
  | exact ahB (by first | (simp_all; done) | omega) (fun h =>absurd h (by assumption))
  | exact ahB (by first | (simp_all; done) | omega) (fun h =>by simp [h])
  | exact ⟨_,_,rfl,(fun h =>nomatch h),(fun _ =>True.intro)⟩
theorem aCr (hR:RO r) (hw:0≤w∧w<(r.works.length:Int)) (ht:0≤t∧t<(r.tasks.length:Int)) (hf:aad r ⟨18,w,t,o,l⟩=some ((true,()),(r,()))) :
  RS r ⟨18,w,t,o,l⟩ (0≤o∧o<r.c.workers) { r with works:=r.works.set w.toNat { aac r.works w with last:=⟨18,w,t,o,l⟩ } }:=by
 suffices h:RA r ⟨18,w,t,o,l⟩ (0≤o∧o<r.c.workers) { r with works:=r.works.set w.toNat (aac r.works w) } from agO hw hR.wl hf h
 have hk:=hR.stk w hw
 have hkk:=hR.kid t ht
 unfold RA aak
 simp only [aav,Int.reduceEq,if_true,if_false,hw,ht,and_self,aaQ,aaP,List.set_set,List.length_set,aep,aeN,ne_eq,not_true_eq_false,not_false_eq_true,true_and,and_true,decide_true,decide_false,reduceCtorEq,aa1,abP,abv,ac8,Bool.not_true,Bool.not_false,Bool.false_eq_true,Bool.not_eq_true',Bool.true_eq_false]
 repeat' split
 all_goals (try simp only [aav,Int.reduceEq,if_true,if_false,hw,ht,and_self,aaQ,aaP,List.set_set,List.length_set,aep,aeN,ne_eq,not_true_eq_false,not_false_eq_true,true_and,and_true,decide_true,decide_false,reduceCtorEq,aa1,abP,abv,ac8,Bool.not_true,Bool.not_false,Bool.false_eq_true,Bool.not_eq_true',Bool.true_eq_false])
 all_goals repeat' split
 all_goals first
  | exact aoF (by first | exact True.intro | (simp_all; done) | (simp_all; intros; omega) | omega) rfl
  | exact amn (by first | exact True.intro | (simp_all; done) | (simp_all; intros; omega) | omega)
  | exact ahB (by first | (simp_all; done) | omega) (fun _ =>rfl)
  | exact ahB (by first | (simp_all; done) | omega) (fun h =>absurd h (by assumption))
  | exact ahB (by first | (simp_all; done) | omega) (fun h =>by simp [h])
  | exact ⟨_,_,rfl,(fun h =>nomatch h),(fun _ =>True.intro)⟩
theorem aCN (hR:RO r) (hw:0≤w∧w<(r.works.length:Int)) (ht:0≤t∧t<(r.tasks.length:Int)) (hf:aad r ⟨19,w,t,o,l⟩=some ((true,()),(r,()))) :
  RS r ⟨19,w,t,o,l⟩ ((aaa r.tasks t).view.phase≠0) { r with works:=r.works.set w.toNat { aac r.works w with last:=⟨19,w,t,o,l⟩ } }:=by
 suffices h:RA r ⟨19,w,t,o,l⟩ ((aaa r.tasks t).view.phase≠0) { r with works:=r.works.set w.toNat (aac r.works w) } from agO hw hR.wl hf h
 have hk:=hR.stk w hw
 have hkk:=hR.kid t ht
 unfold RA aak
 simp only [aav,Int.reduceEq,if_true,if_false,hw,ht,and_self,aaQ,aaP,List.set_set,List.length_set,aep,aeN,ne_eq,not_true_eq_false,not_false_eq_true,true_and,and_true,decide_true,decide_false,reduceCtorEq,aa1,abP,abv,ac8,Bool.not_true,Bool.not_false,Bool.false_eq_true,Bool.not_eq_true',Bool.true_eq_false]
 repeat' split
 all_goals (try simp only [aav,Int.reduceEq,if_true,if_false,hw,ht,and_self,aaQ,aaP,List.set_set,List.length_set,aep,aeN,ne_eq,not_true_eq_false,not_false_eq_true,true_and,and_true,decide_true,decide_false,reduceCtorEq,aa1,abP,abv,ac8,Bool.not_true,Bool.not_false,Bool.false_eq_true,Bool.not_eq_true',Bool.true_eq_false])
 all_goals repeat' split
 all_goals first
  | exact aoF (by first | exact True.intro | (simp_all; done) | (simp_all; intros; omega) | omega) rfl
  | exact amn (by first | exact True.intro | (simp_all; done) | (simp_all; intros; omega) | omega)
  | exact ahB (by first | (simp_all; done) | omega) (fun _ =>rfl)
  | exact ahB (by first | (simp_all; done) | omega) (fun h =>absurd h (by assumption))
  | exact ahB (by first | (simp_all; done) | omega) (fun h =>by simp [h])
  | exact ⟨_,_,rfl,(fun h =>nomatch h),(fun _ =>True.intro)⟩
theorem rk7 (hR:RO r) (hw:0≤w∧w<(r.works.length:Int)) (ht:0≤t∧t<(r.tasks.length:Int)) (hf:aad r ⟨7,w,t,o,l⟩=some ((true,()),(r,()))) :
  RS r ⟨7,w,t,o,l⟩ ((aac r.works w).walk=t∧(aac r.works w).low≤l∧l≤(aaa r.tasks t).view.level∧(0≤(aac r.works w).up→(aac r.works w).up=l)) { r with works:=r.works.set w.toNat { aac r.works w with walk := -1,last:=⟨7,w,t,o,l⟩ } }:=by
 suffices h:RA r ⟨7,w,t,o,l⟩ ((aac r.works w).walk=t∧(aac r.works w).low≤l∧l≤(aaa r.tasks t).view.level∧(0≤(aac r.works w).up→(aac r.works w).up=l)) { r with works:=r.works.set w.toNat { aac r.works w with walk := -1 } } from agO hw hR.wl hf h
 have hk:=hR.stk w hw
 have hkk:=hR.kid t ht
 unfold RA aak abI
 simp only [aav,Int.reduceEq,if_true,if_false,hw,ht,and_self,aaQ,aaP,List.set_set,List.length_set,aep,aeN,ne_eq,not_true_eq_false,not_false_eq_true,true_and,and_true,decide_true,decide_false,reduceCtorEq,aa1,abP,abv,ac8,Bool.not_true,Bool.not_false,Bool.false_eq_true,Bool.not_eq_true',Bool.true_eq_false]
 repeat' split
 all_goals (try simp only [aav,Int.reduceEq,if_true,if_false,hw,ht,and_self,aaQ,aaP,List.set_set,List.length_set,aep,aeN,ne_eq,not_true_eq_false,not_false_eq_true,true_and,and_true,decide_true,decide_false,reduceCtorEq,aa1,abP,abv,ac8,Bool.not_true,Bool.not_false,Bool.false_eq_true,Bool.not_eq_true',Bool.true_eq_false])
 all_goals repeat' split
 all_goals first
  | exact aoF (by first | exact True.intro | (simp_all; done) | (simp_all; intros; omega) | omega) rfl
  | exact amn (by first | exact True.intro | (simp_all; done) | (simp_all; intros; omega) | omega)
  | exact ahB (by first | (simp_all; done) | omega) (fun _ =>rfl)
  | exact ahB (by first | (simp_all; done) | omega) (fun h =>absurd h (by assumption))
  | exact ahB (by first | (simp_all; done) | omega) (fun h =>by simp [h])
  | exact ⟨_,_,rfl,(fun h =>nomatch h),(fun _ =>True.intro)⟩
end
noncomputable def prR (P:List Ins) (x:TkV):Int×Ins×Bool:=an1 P x.kids x.pc
def ae9 (s:List Int):List Int:=s.take ((s.length:Int)-1).toNat
section
variable {r:SaV} {w t o l:Int}
structure RP (r:SaV) (t:Int) (P:List Ins):Prop where
 p0:0≤(aaa r.tasks t).prog∧(aaa r.tasks t).prog<(r.c.progs.length:Int)
 pe:atL [] r.c.progs (aaa r.tasks t).prog=P
 pc:0≤(aaa r.tasks t).pc∧(aaa r.tasks t).pc≤(P.length:Int)
 pl:P.length≤1000000
 ja:∀ a,0≤a→a<(P.length:Int)→(acA P a).op=2→0≤(acA P a).a
theorem an4 {P:List Ins} (ht:0≤t∧t<(r.tasks.length:Int)) (h:RP r t P):aaA r t=some (((prR P (aaa r.tasks t)).2.1,(prR P (aaa r.tasks t)).2.2,()),({ r with tasks:=r.tasks.set t.toNat { aaa r.tasks t with pc:=(prR P (aaa r.tasks t)).1 } },())):=apd ht h.p0 h.pe h.pc.1 h.pl h.ja
theorem akG {s:List Int} (h:aa8 s=t) (ht:0≤t) (hl:s.length≤1000000):wi ((s.length:Int)-1)=(s.length:Int)-1∧(0≤(s.length:Int)-1∧(s.length:Int)-1<(s.length:Int))∧aaf s ((s.length:Int)-1)=t:=by
 unfold aa8 at h
 have h1:¬ (s.length:Int)=0:=fun e =>by rw [if_pos e] at h; omega
 rw [if_neg h1] at h
 exact ⟨aa2 (aae (by omega)),⟨by omega,by omega⟩,h⟩
theorem amL (ht:0≤t∧t<(r.tasks.length:Int)) (ho:0≤o∧o<(r.tasks.length:Int)) {x:TkV} (h:x.view.phase=(aaa r.tasks t).view.phase):(aaa (r.tasks.set t.toNat x) o).view.phase=(aaa r.tasks o).view.phase:=by
 by_cases e:t=o
 ·subst e; rw [aep ht]; exact h
 ·exact congrArg (fun (y:TkV) =>y.view.phase) (akj ht.1 ho.1 e)
theorem aj3 (hw:0≤w∧w<(r.works.length:Int)) (ht:0≤t∧t<(r.tasks.length:Int)) (hk:(aac r.works w).stack.length≤1000000):aar r w t=some ((),({ r with tasks:=r.tasks.set t.toNat { aaa r.tasks t with view:={ (aaa r.tasks t).view with phase:=2,worker:=w,other := -1 } },works:=r.works.set w.toNat { aac r.works w with stack:=(aac r.works w).stack++[t] } },())):=by
 have h1:((([]:List Int).length+(aac r.works w).stack.length:Nat):Int)<1000000000000:=by simp only [List.length_nil]; omega
 have h2:(((aac r.works w).stack.length+([t]:List Int).length:Nat):Int)<1000000000000:=by simp only [List.length_singleton]; omega
 unfold aar
 simp only [List.length_set,ht,hw,h1,h2,and_self,if_true,List.set_set,aep,aeN,List.nil_append]
theorem rk5 (hR:RO r) (hw:0≤w∧w<(r.works.length:Int)) (ht:0≤t∧t<(r.tasks.length:Int)) (hf:aad r ⟨5,w,t,o,l⟩=some ((true,()),(r,()))) :
  RS r ⟨5,w,t,o,l⟩ ((aaa r.tasks t).view.phase=1∧((alV (aac r.works w).stack (aac r.works w).walk=true)∨(aac r.works w).last.kind=3∧(aac r.works w).last.task=t)) { r with tasks:=r.tasks.set t.toNat { aaa r.tasks t with view:={ (aaa r.tasks t).view with phase:=2,worker:=w,other := -1 } },works:=r.works.set w.toNat { aac r.works w with stack:=(aac r.works w).stack++[t],last:=⟨5,w,t,o,l⟩ } }:=by
 suffices h:RA r ⟨5,w,t,o,l⟩ ((aaa r.tasks t).view.phase=1∧((alV (aac r.works w).stack (aac r.works w).walk=true)∨(aac r.works w).last.kind=3∧(aac r.works w).last.task=t)) { r with tasks:=r.tasks.set t.toNat { aaa r.tasks t with view:={ (aaa r.tasks t).view with phase:=2,worker:=w,other := -1 } },works:=r.works.set w.toNat { aac r.works w with stack:=(aac r.works w).stack++[t] } } from agO hw hR.wl hf h
 have hk:=hR.stk w hw
 have hkk:=hR.kid t ht
 unfold RA aak abk
 simp only [aav,Int.reduceEq,if_true,if_false,hw,ht,and_self,aaQ,aaP,List.set_set,List.length_set,aep,aeN,ne_eq,not_true_eq_false,not_false_eq_true,true_and,and_true,decide_true,decide_false,reduceCtorEq,aa1,abP,abv,ac8,Bool.not_true,Bool.not_false,Bool.false_eq_true,Bool.not_eq_true',Bool.true_eq_false,aiN hw,aj3 hw ht hk]
 repeat' split
 all_goals (try simp only [aav,Int.reduceEq,if_true,if_false,hw,ht,and_self,aaQ,aaP,List.set_set,List.length_set,aep,aeN,ne_eq,not_true_eq_false,not_false_eq_true,true_and,and_true,decide_true,decide_false,reduceCtorEq,aa1,abP,abv,ac8,Bool.not_true,Bool.not_false,Bool.false_eq_true,Bool.not_eq_true',Bool.true_eq_false,aiN hw,aj3 hw ht hk])
 all_goals repeat' split
 all_goals first
  | exact aoF (by first | exact True.intro | (simp_all; done) | (simp_all; intros; omega) | omega) rfl
  | exact amn (by first | exact True.intro | (simp_all; done) | (simp_all; intros; omega) | omega)
  | exact ahB (by first | (simp_all; done) | omega) (fun _ =>rfl)
  | exact ahB (by first | (simp_all; done) | omega) (fun h =>absurd h (by assumption))
  | exact ahB (by first | (simp_all; done) | omega) (fun h =>by simp [h])
  | exact ⟨_,_,rfl,(fun h =>nomatch h),(fun _ =>True.intro)⟩
theorem rk9 (hR:RO r) (hw:0≤w∧w<(r.works.length:Int)) (ht:0≤t∧t<(r.tasks.length:Int)) (hwt:(aaa r.tasks t).view.phase=3→0≤(aaa r.tasks t).view.other∧(aaa r.tasks t).view.other<(r.tasks.length:Int)) (hf:aad r ⟨9,w,t,o,l⟩=some ((true,()),(r,()))) :
  RS r ⟨9,w,t,o,l⟩ ((aaa r.tasks t).view.phase=3∧(aaa r.tasks (aaa r.tasks t).view.other).view.phase=4∧((alV (aac r.works w).stack (aac r.works w).walk=true)∨(aac r.works w).last.kind=10∧(aac r.works w).last.task=(aaa r.tasks t).view.other)) { r with tasks:=r.tasks.set t.toNat { aaa r.tasks t with view:={ (aaa r.tasks t).view with phase:=2,worker:=w,other := -1 } },works:=r.works.set w.toNat { aac r.works w with stack:=(aac r.works w).stack++[t],last:=⟨9,w,t,o,l⟩ } }:=by
 suffices h:RA r ⟨9,w,t,o,l⟩ ((aaa r.tasks t).view.phase=3∧(aaa r.tasks (aaa r.tasks t).view.other).view.phase=4∧((alV (aac r.works w).stack (aac r.works w).walk=true)∨(aac r.works w).last.kind=10∧(aac r.works w).last.task=(aaa r.tasks t).view.other)) { r with tasks:=r.tasks.set t.toNat { aaa r.tasks t with view:={ (aaa r.tasks t).view with phase:=2,worker:=w,other := -1 } },works:=r.works.set w.toNat { aac r.works w with stack:=(aac r.works w).stack++[t] } } from agO hw hR.wl hf h
 have hk:=hR.stk w hw
 have hkk:=hR.kid t ht
 unfold RA aak abk
 by_cases h3:(aaa r.tasks t).view.phase=3
 rotate_left
 ·simp only [aav,Int.reduceEq,if_true,if_false,hw,ht,and_self,aaQ,aaP,List.set_set,List.length_set,aep,aeN,ne_eq,not_true_eq_false,not_false_eq_true,true_and,and_true,decide_true,decide_false,reduceCtorEq,aa1,abP,abv,ac8,Bool.not_true,Bool.not_false,Bool.false_eq_true,Bool.not_eq_true',Bool.true_eq_false,aiN hw,h3]
  exact ⟨_,_,rfl,(fun h =>nomatch h),fun _ =>(by simp)⟩
 have hwt:=hwt h3
 simp only [aav,Int.reduceEq,if_true,if_false,hw,ht,and_self,aaQ,aaP,List.set_set,List.length_set,aep,aeN,ne_eq,not_true_eq_false,not_false_eq_true,true_and,and_true,decide_true,decide_false,reduceCtorEq,aa1,abP,abv,ac8,Bool.not_true,Bool.not_false,Bool.false_eq_true,Bool.not_eq_true',Bool.true_eq_false,hwt,h3,aiN hw,aj3 hw ht hk]
 repeat' split
 all_goals (try simp only [aav,Int.reduceEq,if_true,if_false,hw,ht,and_self,aaQ,aaP,List.set_set,List.length_set,aep,aeN,ne_eq,not_true_eq_false,not_false_eq_true,true_and,and_true,decide_true,decide_false,reduceCtorEq,aa1,abP,abv,ac8,Bool.not_true,Bool.not_false,Bool.false_eq_true,Bool.not_eq_true',Bool.true_eq_false,hwt,h3,aiN hw,aj3 hw ht hk])
 all_goals repeat' split
 all_goals first
  | exact aoF (by first | exact True.intro | (simp_all; done) | (simp_all; intros; omega) | omega) rfl
  | exact amn (by first | exact True.intro | (simp_all; done) | (simp_all; intros; omega) | omega)
  | exact ahB (by first | (simp_all; done) | omega) (fun _ =>rfl)
  | exact ahB (by first | (simp_all; done) | omega) (fun h =>absurd h (by assumption))
  | exact ahB (by first | (simp_all; done) | omega) (fun h =>by simp [h])
  | exact ⟨_,_,rfl,(fun h =>nomatch h),(fun _ =>True.intro)⟩
theorem aCU (hR:RO r) (hw:0≤w∧w<(r.works.length:Int)) (ht:0≤t∧t<(r.tasks.length:Int)) {P:List Ins} (hp:aa8 (aac r.works w).stack=t→RP r t P) (hf:aad r ⟨10,w,t,o,l⟩=some ((true,()),(r,()))) :
  RS r ⟨10,w,t,o,l⟩ (aa8 (aac r.works w).stack=t∧(prR P (aaa r.tasks t)).2.2=false) { r with tasks:=r.tasks.set t.toNat { aaa r.tasks t with pc:=(prR P (aaa r.tasks t)).1,view:={ (aaa r.tasks t).view with phase:=4,worker := -1 } },works:=r.works.set w.toNat { aac r.works w with stack:=ae9 (aac r.works w).stack,last:=⟨10,w,t,o,l⟩ } }:=by
 suffices h:RA r ⟨10,w,t,o,l⟩ (aa8 (aac r.works w).stack=t∧(prR P (aaa r.tasks t)).2.2=false) { r with tasks:=r.tasks.set t.toNat { aaa r.tasks t with pc:=(prR P (aaa r.tasks t)).1,view:={ (aaa r.tasks t).view with phase:=4,worker := -1 } },works:=r.works.set w.toNat { aac r.works w with stack:=ae9 (aac r.works w).stack } } from agO hw hR.wl hf h
 have hk:=hR.stk w hw
 have hkk:=hR.kid t ht
 unfold RA aak acE
 have htops:=aik (r:=r) hw ht.1 hk
 by_cases htp:aa8 (aac r.works w).stack=t
 rotate_left
 ·rw [decide_eq_false htp] at htops
  simp only [aav,Int.reduceEq,if_true,if_false,hw,ht,and_self,aaQ,aaP,List.set_set,List.length_set,aep,aeN,ne_eq,not_true_eq_false,not_false_eq_true,true_and,and_true,decide_true,decide_false,reduceCtorEq,aa1,abP,abv,ac8,Bool.not_true,Bool.not_false,Bool.false_eq_true,Bool.not_eq_true',Bool.true_eq_false,htops,htp]
  exact ⟨_,_,rfl,(fun h =>nomatch h),(fun _ =>(by simp [htp]))⟩
 rw [decide_eq_true htp] at htops
 have hpr:=an4 ht (hp htp)
 obtain ⟨q1,q2,q3⟩:=akG htp ht.1 hk
 have q4:0≤((aac r.works w).stack.length:Int)-1∧((aac r.works w).stack.length:Int)-1≤((aac r.works w).stack.length:Int):=⟨q2.1,by omega⟩
 have hkk:=hR.kid t ht
 try unfold ae9
 generalize hv:prR P (aaa r.tasks t)=v at *
 obtain ⟨j,i,b⟩:=v
 have hn1:((([]:List Int).length+((aac r.works w).stack.take (((aac r.works w).stack.length:Int)-1).toNat).length:Nat):Int)<1000000000000:=by rw [List.length_take,List.length_nil]; omega
 simp only [aav,Int.reduceEq,if_true,if_false,hw,ht,and_self,aaQ,aaP,List.set_set,List.length_set,aep,aeN,ne_eq,not_true_eq_false,not_false_eq_true,true_and,and_true,decide_true,decide_false,reduceCtorEq,aa1,abP,abv,ac8,Bool.not_true,Bool.not_false,Bool.false_eq_true,Bool.not_eq_true',Bool.true_eq_false,htops,hpr,htp,q1,q2,q3,q4,List.nil_append,hn1]
 repeat' split
 all_goals (try simp only [aav,Int.reduceEq,if_true,if_false,hw,ht,and_self,aaQ,aaP,List.set_set,List.length_set,aep,aeN,ne_eq,not_true_eq_false,not_false_eq_true,true_and,and_true,decide_true,decide_false,reduceCtorEq,aa1,abP,abv,ac8,Bool.not_true,Bool.not_false,Bool.false_eq_true,Bool.not_eq_true',Bool.true_eq_false,htops,hpr,htp,q1,q2,q3,q4,List.nil_append,hn1])
 all_goals repeat' split
 all_goals first
  | exact aoF (by first | exact True.intro | (simp_all; done) | (simp_all; intros; omega) | omega) rfl
  | exact amn (by first | exact True.intro | (simp_all; done) | (simp_all; intros; omega) | omega)
  | exact ahB (by first | (simp_all; done) | omega) (fun _ =>rfl)
  | exact ahB (by first | (simp_all; done) | omega) (fun h =>absurd h (by assumption))
  | exact ahB (by first | (simp_all; done) | omega) (fun h =>by simp [h])
  | exact ⟨_,_,rfl,(fun h =>nomatch h),(fun _ =>True.intro)⟩
theorem rk8 (hR:RO r) (hw:0≤w∧w<(r.works.length:Int)) (ht:0≤t∧t<(r.tasks.length:Int)) (ho:0≤o∧o<(r.tasks.length:Int)) (hc:∀ P,aa8 (aac r.works w).stack=t→RP r t P→(prR P (aaa r.tasks t)).2.2=true→(prR P (aaa r.tasks t)).2.1.op=2→0≤(prR P (aaa r.tasks t)).2.1.a∧(prR P (aaa r.tasks t)).2.1.a<(aaa r.tasks t).kids.length) {P:List Ins} (hp:aa8 (aac r.works w).stack=t→RP r t P) (hf:aad r ⟨8,w,t,o,l⟩=some ((true,()),(r,()))) :
  RS r ⟨8,w,t,o,l⟩ (aa8 (aac r.works w).stack=t∧(prR P (aaa r.tasks t)).2.2=true∧(prR P (aaa r.tasks t)).2.1.op=2∧aaf (aaa r.tasks t).kids (prR P (aaa r.tasks t)).2.1.a=o∧(aaa r.tasks o).view.phase=4) { r with tasks:=r.tasks.set t.toNat { aaa r.tasks t with pc:=wi ((prR P (aaa r.tasks t)).1+1) },works:=r.works.set w.toNat { aac r.works w with last:=⟨8,w,t,o,l⟩ } }:=by
 suffices h:RA r ⟨8,w,t,o,l⟩ (aa8 (aac r.works w).stack=t∧(prR P (aaa r.tasks t)).2.2=true∧(prR P (aaa r.tasks t)).2.1.op=2∧aaf (aaa r.tasks t).kids (prR P (aaa r.tasks t)).2.1.a=o∧(aaa r.tasks o).view.phase=4) { r with tasks:=r.tasks.set t.toNat { aaa r.tasks t with pc:=wi ((prR P (aaa r.tasks t)).1+1) },works:=r.works.set w.toNat (aac r.works w) } from agO hw hR.wl hf h
 have hk:=hR.stk w hw
 have hkk:=hR.kid t ht
 unfold RA aak ace
 have htops:=aik (r:=r) hw ht.1 hk
 by_cases htp:aa8 (aac r.works w).stack=t
 rotate_left
 ·rw [decide_eq_false htp] at htops
  simp only [aav,Int.reduceEq,if_true,if_false,hw,ht,and_self,aaQ,aaP,List.set_set,List.length_set,aep,aeN,ne_eq,not_true_eq_false,not_false_eq_true,true_and,and_true,decide_true,decide_false,reduceCtorEq,aa1,abP,abv,ac8,Bool.not_true,Bool.not_false,Bool.false_eq_true,Bool.not_eq_true',Bool.true_eq_false,htops,htp]
  exact ⟨_,_,rfl,(fun h =>nomatch h),(fun _ =>(by simp [htp]))⟩
 rw [decide_eq_true htp] at htops
 have hpr:=an4 ht (hp htp)
 obtain ⟨q1,q2,q3⟩:=akG htp ht.1 hk
 have q4:0≤((aac r.works w).stack.length:Int)-1∧((aac r.works w).stack.length:Int)-1≤((aac r.works w).stack.length:Int):=⟨q2.1,by omega⟩
 have hkk:=hR.kid t ht
 try unfold ae9
 generalize hv:prR P (aaa r.tasks t)=v at *
 obtain ⟨j,i,b⟩:=v
 have hc:=hc P htp (hp htp)
 rw [hv] at hc
 simp only [aav,Int.reduceEq,if_true,if_false,hw,ht,and_self,aaQ,aaP,List.set_set,List.length_set,aep,aeN,ne_eq,not_true_eq_false,not_false_eq_true,true_and,and_true,decide_true,decide_false,reduceCtorEq,aa1,abP,abv,ac8,Bool.not_true,Bool.not_false,Bool.false_eq_true,Bool.not_eq_true',Bool.true_eq_false,htops,hpr,htp,q1,q2,q3,q4,List.nil_append]
 cases b with
 | false =>
  simp only [aav,Int.reduceEq,if_true,if_false,hw,ht,and_self,aaQ,aaP,List.set_set,List.length_set,aep,aeN,ne_eq,not_true_eq_false,not_false_eq_true,true_and,and_true,decide_true,decide_false,reduceCtorEq,aa1,abP,abv,ac8,Bool.not_true,Bool.not_false,Bool.false_eq_true,Bool.not_eq_true',Bool.true_eq_false]
  exact ⟨_,_,rfl,(fun h =>nomatch h),(fun _ =>(by simp))⟩
 | true =>
  by_cases h2:i.op=2
  rotate_left
  ·simp only [aav,Int.reduceEq,if_true,if_false,hw,ht,and_self,aaQ,aaP,List.set_set,List.length_set,aep,aeN,ne_eq,not_true_eq_false,not_false_eq_true,true_and,and_true,decide_true,decide_false,reduceCtorEq,aa1,abP,abv,ac8,Bool.not_true,Bool.not_false,Bool.false_eq_true,Bool.not_eq_true',Bool.true_eq_false,h2]
   exact ⟨_,_,rfl,(fun h =>nomatch h),(fun _ =>(by simp [h2]))⟩
  have hc:=hc rfl h2
  dsimp only at hc
  simp only [aav,Int.reduceEq,if_true,if_false,hw,ht,and_self,aaQ,aaP,List.set_set,List.length_set,aep,aeN,ne_eq,not_true_eq_false,not_false_eq_true,true_and,and_true,decide_true,decide_false,reduceCtorEq,aa1,abP,abv,ac8,Bool.not_true,Bool.not_false,Bool.false_eq_true,Bool.not_eq_true',Bool.true_eq_false,h2,hc,List.nil_append,q1,q2,q3,q4,amL ht ho,ho]
  repeat' split
  all_goals first
   | exact aoF (by first | exact True.intro | (simp_all; done)) rfl
   | exact amn (by first | exact True.intro | (simp_all; done))
theorem rk6 (hR:RO r) (hw:0≤w∧w<(r.works.length:Int)) (ht:0≤t∧t<(r.tasks.length:Int)) (ho:0≤o∧o<(r.tasks.length:Int)) (hc:∀ P,aa8 (aac r.works w).stack=t→RP r t P→(prR P (aaa r.tasks t)).2.2=true→(prR P (aaa r.tasks t)).2.1.op=2→0≤(prR P (aaa r.tasks t)).2.1.a∧(prR P (aaa r.tasks t)).2.1.a<(aaa r.tasks t).kids.length) {P:List Ins} (hp:aa8 (aac r.works w).stack=t→RP r t P) (hf:aad r ⟨6,w,t,o,l⟩=some ((true,()),(r,()))) :
  RS r ⟨6,w,t,o,l⟩ (aa8 (aac r.works w).stack=t∧(prR P (aaa r.tasks t)).2.2=true∧(prR P (aaa r.tasks t)).2.1.op=2∧aaf (aaa r.tasks t).kids (prR P (aaa r.tasks t)).2.1.a=o∧(aaa r.tasks o).view.phase≠4) { r with tasks:=r.tasks.set t.toNat { aaa r.tasks t with pc:=wi ((prR P (aaa r.tasks t)).1+1),view:={ (aaa r.tasks t).view with phase:=3,worker := -1,other:=o } },works:=r.works.set w.toNat { aac r.works w with stack:=ae9 (aac r.works w).stack,walk:=t,low:=(aaa r.tasks t).view.level,up := -1,last:=⟨6,w,t,o,l⟩ } }:=by
 suffices h:RA r ⟨6,w,t,o,l⟩ (aa8 (aac r.works w).stack=t∧(prR P (aaa r.tasks t)).2.2=true∧(prR P (aaa r.tasks t)).2.1.op=2∧aaf (aaa r.tasks t).kids (prR P (aaa r.tasks t)).2.1.a=o∧(aaa r.tasks o).view.phase≠4) { r with tasks:=r.tasks.set t.toNat { aaa r.tasks t with pc:=wi ((prR P (aaa r.tasks t)).1+1),view:={ (aaa r.tasks t).view with phase:=3,worker := -1,other:=o } },works:=r.works.set w.toNat { aac r.works w with stack:=ae9 (aac r.works w).stack,walk:=t,low:=(aaa r.tasks t).view.level,up := -1 } } from agO hw hR.wl hf h
 have hk:=hR.stk w hw
 have hkk:=hR.kid t ht
 unfold RA aak ace
 have htops:=aik (r:=r) hw ht.1 hk
 by_cases htp:aa8 (aac r.works w).stack=t
 rotate_left
 ·rw [decide_eq_false htp] at htops
  simp only [aav,Int.reduceEq,if_true,if_false,hw,ht,and_self,aaQ,aaP,List.set_set,List.length_set,aep,aeN,ne_eq,not_true_eq_false,not_false_eq_true,true_and,and_true,decide_true,decide_false,reduceCtorEq,aa1,abP,abv,ac8,Bool.not_true,Bool.not_false,Bool.false_eq_true,Bool.not_eq_true',Bool.true_eq_false,htops,htp]
  exact ⟨_,_,rfl,(fun h =>nomatch h),(fun _ =>(by simp [htp]))⟩
 rw [decide_eq_true htp] at htops
 have hpr:=an4 ht (hp htp)
 obtain ⟨q1,q2,q3⟩:=akG htp ht.1 hk
 have q4:0≤((aac r.works w).stack.length:Int)-1∧((aac r.works w).stack.length:Int)-1≤((aac r.works w).stack.length:Int):=⟨q2.1,by omega⟩
 have hkk:=hR.kid t ht
 try unfold ae9
 generalize hv:prR P (aaa r.tasks t)=v at *
 obtain ⟨j,i,b⟩:=v
 have hc:=hc P htp (hp htp)
 rw [hv] at hc
 have hn1:((([]:List Int).length+((aac r.works w).stack.take (((aac r.works w).stack.length:Int)-1).toNat).length:Nat):Int)<1000000000000:=by rw [List.length_take,List.length_nil]; omega
 simp only [aav,Int.reduceEq,if_true,if_false,hw,ht,and_self,aaQ,aaP,List.set_set,List.length_set,aep,aeN,ne_eq,not_true_eq_false,not_false_eq_true,true_and,and_true,decide_true,decide_false,reduceCtorEq,aa1,abP,abv,ac8,Bool.not_true,Bool.not_false,Bool.false_eq_true,Bool.not_eq_true',Bool.true_eq_false,htops,hpr,htp,q1,q2,q3,q4,List.nil_append]
 cases b with
 | false =>
  simp only [aav,Int.reduceEq,if_true,if_false,hw,ht,and_self,aaQ,aaP,List.set_set,List.length_set,aep,aeN,ne_eq,not_true_eq_false,not_false_eq_true,true_and,and_true,decide_true,decide_false,reduceCtorEq,aa1,abP,abv,ac8,Bool.not_true,Bool.not_false,Bool.false_eq_true,Bool.not_eq_true',Bool.true_eq_false]
  exact ⟨_,_,rfl,(fun h =>nomatch h),(fun _ =>(by simp))⟩
 | true =>
  by_cases h2:i.op=2
  rotate_left
  ·simp only [aav,Int.reduceEq,if_true,if_false,hw,ht,and_self,aaQ,aaP,List.set_set,List.length_set,aep,aeN,ne_eq,not_true_eq_false,not_false_eq_true,true_and,and_true,decide_true,decide_false,reduceCtorEq,aa1,abP,abv,ac8,Bool.not_true,Bool.not_false,Bool.false_eq_true,Bool.not_eq_true',Bool.true_eq_false,h2]
   exact ⟨_,_,rfl,(fun h =>nomatch h),(fun _ =>(by simp [h2]))⟩
  have hc:=hc rfl h2
  dsimp only at hc
  simp only [aav,Int.reduceEq,if_true,if_false,hw,ht,and_self,aaQ,aaP,List.set_set,List.length_set,aep,aeN,ne_eq,not_true_eq_false,not_false_eq_true,true_and,and_true,decide_true,decide_false,reduceCtorEq,aa1,abP,abv,ac8,Bool.not_true,Bool.not_false,Bool.false_eq_true,Bool.not_eq_true',Bool.true_eq_false,h2,hc,List.nil_append,q1,q2,q3,q4,amL ht ho,ho,hn1]
  repeat' split
  all_goals first
   | exact aoF (by first | exact True.intro | (simp_all; done)) rfl
   | exact amn (by first | exact True.intro | (simp_all; done))
end
end
end Go.Proofs.YtkmkhldmflebkaaGreat
