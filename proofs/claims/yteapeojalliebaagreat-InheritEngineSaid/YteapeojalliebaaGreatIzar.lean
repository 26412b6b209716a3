/- InheritEngine: the reference's check says yes to good events. Levels: what the events say of them is what the cells hold. Waits: what a step does to them,and what holds of them between steps. Levels and waits together: a step keeps what holds of them. Levels and waits: Run. Levels and waits: every line of Run. -/
import Derived.Test.YteapeojalliebaaGreatIzaq
import Derived.Test.YteapeojalliebaaGreatIzap
set_option linter.all false
namespace Go.Proofs.YteapeojalliebaaGreat
section
open Go Go.RowKit
set_option maxRecDepth 100000
variable [Tb]
def rOf:EW→W30
 | none =>⟨false,false,0,0,0⟩
 | some (u,k,none) =>⟨true,false,u,k,0⟩
 | some (u,k,some T) =>⟨true,true,u,k,T⟩
def rF (l:List Ev) (t:Int):W30:=rOf (ewt l t)
def af9 (c:Cfg) (l:List Ev):S30:=⟨tlT c.tasks (lev l),tlT c.tasks (fnB l),tlT c.tasks (rF l)⟩
section
variable {c:Cfg} {l:List Ev} {x:Ev} {t u k T n:Int} {s:S30}
theorem aAb {v:W30} (h:0≤x.task) (he:rOf (ewF x.task (ewt l x.task) x)=v):(tlT n (rF l)).set x.task.toNat v=tlT n (rF (l++[x])):=by
 rw [azy h]
 refine aja fun t _ _ =>?_
 unfold rF
 rw [aea]
 by_cases a:t=x.task
 ·rw [if_pos a,a,he]
 ·rw [if_neg a,akR (fun k =>a k.symm)]
theorem aqI (h:(x.kind≠6∧x.kind≠7∧x.kind≠9)∨¬ (0≤x.task∧x.task<n)):tlT n (rF l)=tlT n (rF (l++[x])):=aja fun t h1 h2 =>by
 unfold rF
 rw [aea]
 refine congrArg rOf ?_
 rcases h with h | h
 ·unfold ewF; rw [if_neg (fun k =>h.1 k.2),if_neg (fun k =>h.2.1 k.2),if_neg (fun k =>h.2.2 k.2)]
 ·exact (akR fun k =>h (by omega)).symm
theorem awm (he:ewF x.task (ewt l x.task) x=ewt l x.task):tlT n (rF l)=tlT n (rF (l++[x])):=aja fun t h1 h2 =>by
 unfold rF
 rw [aea]
 by_cases a:t=x.task
 ·rw [a,he]
 ·rw [akR (fun k =>a k.symm)]
theorem akl {m:List Ev} (h1:s.level=tlT c.tasks (lev m)) (h2:s.done=tlT c.tasks (fnB m)) (h3:s.waits=tlT c.tasks (rF m)):(some ((true,()),(s,())):Option ((Bool×Unit)×(S30×Unit)))=some ((true,()),(af9 c m,())):=by
 obtain ⟨a,b,w⟩:=s
 simp only at h1 h2 h3
 rw [h1,h2,h3]; rfl
theorem aGW (h:0≤t∧t<c.tasks):0≤t∧t<(((af9 c l).level.length:Nat):Int):=azz h
theorem aKT (h:0≤t∧t<c.tasks):0≤t∧t<(((af9 c l).done.length:Nat):Int):=azz h
theorem aA4 (h:0≤t∧t<c.tasks):0≤t∧t<(((af9 c l).waits.length:Nat):Int):=azz h
theorem aJj (h:0≤t∧t<c.tasks):afK (af9 c l).waits t=rOf (ewt l t):=by
 show ((tlT c.tasks (rF l))[t.toNat]?).getD _=_
 rw [aFs h]; rfl
theorem aIx (h:0≤x.task∧x.task<c.tasks) (hk:¬ aHU x):aC3 (af9 c l) x=some ((true,()),(af9 c (l++[x]),())):=by
 have e1:tlT c.tasks (lev l)=tlT c.tasks (lev (l++[x])):=ats (.inl hk)
 have e2:x.kind≠10→tlT c.tasks (fnB l)=tlT c.tasks (fnB (l++[x])):=fun h =>akP (.inl h)
 unfold aC3
 by_cases h6:x.kind=6
 ·rw [if_pos h6,if_pos (aA4 h)]
  refine akl e1 (e2 (by omega)) (aAb h.1 ?_)
  unfold ewF
  rw [if_pos ⟨rfl,h6⟩]; rfl
 rw [if_neg h6]
 by_cases h7:x.kind=7
 ·have es:∀ v,afK ((af9 c l).waits.set x.task.toNat v) x.task=v:=fun v =>arL (aA4 h)
  rw [if_pos h7,if_pos (aA4 h),aJj h,es,List.set_set]
  have e7:=aLx (d:=ewt l x.task) h7
  rcases hE:ewt l x.task with _ | ⟨u,k,_ | T⟩
  ·have p1:¬ (rOf none).open_=true:=Bool.false_ne_true
   rw [if_neg p1,bnd,if_neg Bool.false_ne_true]
   refine akl e1 (e2 (by omega)) (awm ?_)
   rw [e7,hE]
  ·have p1:(rOf (some (u,k,none))).open_=true:=rfl
   have p2:(!(rOf (some (u,k,none))).settled)=true:=rfl
   have p3:(rOf (some (u,k,none))).worker=k:=rfl
   rw [if_pos p1,if_pos p2,bnd,p3]
   by_cases hw:k=x.worker
   ·rw [if_pos (decide_eq_true hw),if_pos rfl]
    refine akl e1 (e2 (by omega)) (aAb h.1 ?_)
    rw [e7,hE]
    show rOf (if k=x.worker then _ else _)=_
    rw [if_pos hw]; rfl
   ·rw [if_neg (fun q =>hw (of_decide_eq_true q))]
    refine akl e1 (e2 (by omega)) (awm ?_)
    rw [e7,hE]
    exact if_neg hw
  ·have p1:(rOf (some (u,k,some T))).open_=true:=rfl
   have p2:¬ (!(rOf (some (u,k,some T))).settled)=true:=Bool.false_ne_true
   rw [if_pos p1,if_neg p2,bnd,if_neg Bool.false_ne_true]
   refine akl e1 (e2 (by omega)) (awm ?_)
   rw [e7,hE]
 rw [if_neg h7]
 by_cases h9:x.kind=9
 ·rw [if_pos h9,if_pos (aA4 h)]
  refine akl e1 (e2 (by omega)) (aAb h.1 ?_)
  unfold ewF
  rw [if_neg (fun k =>h6 k.2),if_neg (fun k =>h7 k.2),if_pos ⟨rfl,h9⟩]; rfl
 rw [if_neg h9]
 by_cases h10:x.kind=10
 ·rw [if_pos h10,if_pos (aKT h)]
  exact akl e1 (aE8 h.1 h10) (aqI (.inl ⟨h6,h7,h9⟩))
 ·rw [if_neg h10]
  exact akl e1 (e2 h10) (aqI (.inl ⟨h6,h7,h9⟩))
theorem aEE (h:0≤x.task∧x.task<c.tasks) (hk:x.kind=11∨x.kind=12) (ho:aCf l x):aC2 (af9 c l) x=some ((true,()),(af9 c (l++[x]),())):=by
 obtain ⟨o1,o2⟩:=ho hk
 have ea:ady (af9 c l).level x.task=lev l x.task:=auq h
 unfold aC2
 rw [if_pos (aGW h),ea,if_pos o1,if_pos (aGW h),bnd]
 simp only
 rw [if_pos (aGW h),decide_eq_true o2]
 exact akl (ayc h.1 (.inr (.inr hk))) (akP (.inl (by omega))) (aqI (.inl (by omega)))
theorem aIy (h:0≤x.task∧x.task<c.tasks) (h1:x.kind≠1) (h3:x.kind≠3) (ho:aCf l x):aC4 (af9 c l) x=some ((true,()),(af9 c (l++[x]),())):=by
 unfold aC4
 by_cases k1:x.kind=11
 ·rw [if_pos k1,if_pos k1]; exact aEE h (.inl k1) ho
 rw [if_neg k1]
 by_cases k2:x.kind=12
 ·rw [if_pos k2]; exact aEE h (.inr k2) ho
 rw [if_neg k2]
 exact aIx h (by unfold aHU; omega)
theorem auM (hn:0≤c.tasks) (ho:aCf l x):aby (af9 c l) x=some ((true,()),(af9 c (l++[x]),())):=by
 have ell:(((af9 c l).level.length:Nat):Int)=c.tasks:=by
  show (((tlT c.tasks (lev l)).length:Nat):Int)=_
  rw [ag7]; omega
 have out:¬ (0≤x.task∧x.task<c.tasks)→(some ((true,()),(af9 c l,())):Option ((Bool×Unit)×(S30×Unit)))=some ((true,()),(af9 c (l++[x]),())):=fun h =>akl (ats (.inr h)) (akP (.inr h)) (aqI (.inr h))
 unfold aby aEI
 by_cases h0:x.task<0
 ·rw [if_pos h0,bnd,if_pos rfl]; exact out (by omega)
 rw [if_neg h0,bnd,ell]
 simp only
 by_cases h1:c.tasks≤x.task
 ·rw [if_pos (decide_eq_true h1)]; exact out (by omega)
 rw [if_neg (fun q =>h1 (of_decide_eq_true q))]
 have h:0≤x.task∧x.task<c.tasks:=by omega
 have st:x.kind=1∨x.kind=3→(some ((true,()),(({ af9 c l with level:=(af9 c l).level.set x.task.toNat x.level }:S30),())):Option ((Bool×Unit)×(S30×Unit)))=some ((true,()),(af9 c (l++[x]),())):=fun hk =>akl (ayc h.1 (hk.elim .inl fun q =>.inr (.inl q))) (akP (.inl (by omega))) (aqI (.inl (by omega)))
 by_cases k1:x.kind=1
 ·rw [if_pos k1,if_pos k1,if_pos h]
  exact st (.inl k1)
 rw [if_neg k1]
 by_cases k3:x.kind=3
 ·rw [if_pos k3,if_pos h]
  exact st (.inr k3)
 rw [if_neg k3]
 exact aIy h k1 k3 ho
theorem aEX (h:0≤t∧t<c.tasks) (hs:(afK (af9 c l).waits t).settled=true):∃ u k T,ewt l t=some (u,k,some T)∧(afK (af9 c l).waits t).child=u∧(afK (af9 c l).waits t).level=T:=by
 rw [aJj h] at hs ⊢
 rcases hE:ewt l t with _ | ⟨u,k,_ | T⟩
 ·rw [hE] at hs; cases hs
 ·rw [hE] at hs; cases hs
 ·exact ⟨u,k,T,rfl,rfl,rfl⟩
structure FlR (c:Cfg) (l:List Ev) (out:List Int) (has:List Bool):Prop where
 o:(out.length:Int)=c.tasks
 h:(has.length:Int)=c.tasks
 f:∀ y,TOk c y→anD has y=true→aul l y (ady out y)
theorem FlR.set {out:List Int} {has:List Bool} {y:Int} (r:FlR c l out has) (hy:0≤y∧y<c.tasks) (hE:ewt l t=some (u,k,some T)) (hc:Ech l u y):FlR c l (out.set y.toNat T) (has.set y.toNat true) :=
 ⟨by rw [List.length_set]; exact r.o,by rw [List.length_set]; exact r.h,fun z hz hb =>by
  have h1:=r.o
  have h2:=r.h
  rw [aHA (by omega) hz.1] at hb
  rw [at5 (by omega) hz.1]
  by_cases q:z=y
  ·rw [if_pos q,q]; exact .inr ⟨t,u,k,hE,hc⟩
  ·rw [if_neg q] at hb ⊢; exact r.f z hz hb⟩
theorem aIw (hn:0≤c.tasks∧c.tasks≤1000000) (hE:ewt l t=some (u,k,some T)) (eT:(afK (af9 c l).waits t).level=T) {has:List Bool} {out:List Int} (h1:FlR c l out has) :
  aaD (lpF (aGb (af9 c l) t) 18446744073709551616 (u,0,out,has,())) fun z =>FlR c l z.2.2.1 z.2.2.2.1:=by
 refine abj (fun x =>(0≤x.2.1∧x.2.1≤c.tasks+1)∧Ech l u x.1∧FlR c l x.2.2.1 x.2.2.2.1) (fun x =>(c.tasks+1-x.2.1).toNat) (fun self x hx ih =>?_) _ _ ⟨⟨Int.le_refl 0,by show (0:Int)≤_; omega⟩,.here,h1⟩ (by show (c.tasks+1-0).toNat<_; omega)
 obtain ⟨y,i,out,has,⟨⟩⟩:=x
 obtain ⟨⟨q1,q2⟩,q3,q4⟩:=hx
 simp only at q1 q2 q3 q4
 have e1:wi (i+1)=i+1:=aaC (aai (by omega))
 have r1:=q4.o
 have r2:=q4.h
 unfold aGb
 simp only
 rw [r1,r2,eT,e1]
 refine aaD.ite (fun hlt =>aaD.ite (fun h0 =>aaD.ite (fun hy =>?_) fun _ =>.some_ q4) fun _ =>.some_ q4) fun _ =>.some_ q4
 have hyr:0≤y∧y<c.tasks:=⟨h0,hy⟩
 have gw:0≤y∧y<(((af9 c l).waits.length:Nat):Int):=aA4 hyr
 have nx:∀ {has':List Bool} {out':List Int},FlR c l out' has'→aaD (if 0≤y∧y<(((af9 c l).waits.length:Nat):Int) then (if (!((afK (af9 c l).waits y).settled))=true then some (y,i,out',has',()) else if 0≤y∧y<(((af9 c l).waits.length:Nat):Int) then self ((afK (af9 c l).waits y).child,i+1,out',has',()) else none) else none) fun z =>FlR c l z.2.2.1 z.2.2.2.1:=fun {has' out'} a =>by
  refine .guard gw fun _ =>aaD.ite (fun _ =>.some_ a) fun hs =>.guard gw fun _ =>?_
  obtain ⟨v,k',T',hv,ec,_⟩:=aEX (c:=c) (l:=l) hyr (by revert hs; cases (afK (af9 c l).waits y).settled<;>simp)
  rw [ec]
  exact ih _ ⟨⟨by show 0≤i+1; omega,by show i+1≤_; omega⟩,.next q3 hv,a⟩ (by show (_-(i+1):Int).toNat<(_-i:Int).toNat; omega)
 have st:=nx (q4.set hyr hE q3)
 exact .guard hyr fun _ =>aaD.ite (fun _ =>.guard hyr fun _ =>.guard hyr fun _ =>st) fun _ =>.guard hyr fun _ =>aaD.ite (fun _ =>.guard hyr fun _ =>.guard hyr fun _ =>st) fun _ =>nx q4
theorem az4 (hn:0≤c.tasks∧c.tasks≤1000000):aaD (abb (af9 c l)) fun r =>r.2.1=af9 c l∧(r.1.1.length:Int)=c.tasks∧∀ y,TOk c y→aul l y (ady r.1.1 y):=by
 have ell:(((af9 c l).level.length:Nat):Int)=c.tasks:=by
  show (((tlT c.tasks (lev l)).length:Nat):Int)=_
  rw [ag7]; omega
 have elw:(((af9 c l).waits.length:Nat):Int)=c.tasks:=by
  show (((tlT c.tasks (rF l)).length:Nat):Int)=_
  rw [ag7]; omega
 unfold abb abV
 rw [ell,if_pos rfl,if_pos (by omega),if_pos rfl,if_pos (by omega),bnd]
 unfold ac1
 have r0:((List.replicate c.tasks.toNat (0:Int)).length:Int)=c.tasks:=by rw [List.length_replicate]; omega
 have rb:((List.replicate c.tasks.toNat false).length:Int)=c.tasks:=by rw [List.length_replicate]; omega
 have f0:FlR c l (List.replicate c.tasks.toNat 0) (List.replicate c.tasks.toNat false):=⟨r0,rb,fun y hy hb =>by
  have:anD (List.replicate c.tasks.toNat false) y=false:=List.eq_of_mem_replicate (ar2 (α:=Bool) (d:=(dfR 64:TR 64)) ⟨hy.1,by have:=hy.2; omega⟩)
  rw [this] at hb; cases hb⟩
 refine aaD.bind (P:=fun z =>FlR c l z.2.1 z.2.2.1∧z.2.2.2.1=af9 c l) (abj (fun x =>(0≤x.1∧x.1≤c.tasks)∧FlR c l x.2.1 x.2.2.1∧x.2.2.2.1=af9 c l) (fun x =>(c.tasks-x.1).toNat) (fun self x hx ih =>?s1) _ _ ⟨⟨Int.le_refl 0,hn.1⟩,f0,rfl⟩ (by show (c.tasks-0).toNat<_; omega)) fun z hz =>?s2
 case s1 =>
  obtain ⟨i,out,has,s,⟨⟩⟩:=x
  obtain ⟨⟨q1,q2⟩,q3,q4⟩:=hx
  simp only at q1 q2 q3 q4
  subst q4
  have e1:wi (i+1)=i+1:=aaC (aai (by omega))
  have r1:=q3.o
  unfold aEF
  simp only
  rw [r1,elw,e1]
  refine aaD.ite (fun hlt =>?_) fun _ =>.some_ ⟨q3,rfl⟩
  have g:0≤i∧i<c.tasks:=⟨q1,hlt⟩
  refine .guard g fun _ =>aaD.ite (fun _ =>?_) fun hs =>.guard g fun _ =>.guard g fun _ =>?_
  ·exact ih _ ⟨⟨by show 0≤i+1; omega,by show i+1≤_; omega⟩,q3,rfl⟩ (by show (_-(i+1):Int).toNat<(_-i:Int).toNat; omega)
  ·obtain ⟨u,k,T,hE,ec,eT⟩:=aEX (c:=c) (l:=l) (t:=i) g (by revert hs; cases (afK (af9 c l).waits i).settled<;>simp)
   rw [ec]
   exact (aIw hn hE eT q3).bind fun z9 h9 =>ih _ ⟨⟨by show 0≤i+1; omega,by show i+1≤_; omega⟩,h9,rfl⟩ (by show (_-(i+1):Int).toNat<(_-i:Int).toNat; omega)
 case s2 =>
  obtain ⟨⟨z1,z2,z3⟩,z4⟩:=hz
  refine aaD.bind (P:=fun v =>(v.2.1.length:Int)=c.tasks∧∀ y,TOk c y→aul l y (ady v.2.1 y)) (abj (fun x =>(0≤x.1∧x.1≤c.tasks)∧(x.2.1.length:Int)=c.tasks∧∀ y,TOk c y→y<x.1∨anD z.2.2.1 y=true→aul l y (ady x.2.1 y)) (fun x =>(c.tasks-x.1).toNat) (fun self x hx ih =>?s3) _ _ ⟨⟨Int.le_refl 0,hn.1⟩,z1,fun y hy k =>z3 y hy (k.resolve_left (by show ¬ y<0; have:=hy.1; omega))⟩ (by show (c.tasks-0).toNat<_; omega)) fun v hv =>.some_ ⟨z4,hv⟩
  obtain ⟨i,out,⟨⟩⟩:=x
  obtain ⟨⟨q1,q2⟩,q3,q4⟩:=hx
  simp only at q1 q2 q3 q4
  have e1:wi (i+1)=i+1:=aaC (aai (by omega))
  unfold aEG
  simp only
  rw [q3,z2,e1]
  refine aaD.ite (fun hlt =>.guard ⟨q1,hlt⟩ fun _ =>aaD.ite (fun hb =>.guard ⟨q1,hlt⟩ fun _ =>?_) fun hb =>?_) fun hge =>.some_ ⟨q3,fun y hy =>q4 y hy (.inl (by have:=hy.2; omega))⟩
  ·refine ih _ ⟨⟨by show 0≤i+1; omega,by show i+1≤_; omega⟩,by show ((out.set _ _).length:Int)=_; rw [List.length_set]; exact q3,fun y hy k =>?_⟩ (by show (_-(i+1):Int).toNat<(_-i:Int).toNat; omega)
   show aul l y (ady (out.set i.toNat (-1)) y)
   rw [at5 (by omega) hy.1]
   by_cases a:y=i
   ·rw [if_pos a]; exact .inl rfl
   ·rw [if_neg a]
    exact q4 y hy (k.imp (fun k =>by have k:y<i+1:=k; omega) id)
  ·refine ih _ ⟨⟨by show 0≤i+1; omega,by show i+1≤_; omega⟩,q3,fun y hy k =>q4 y hy ?_⟩ (by show (_-(i+1):Int).toNat<(_-i:Int).toNat; omega)
   rcases k with k | k
   ·have k:y<i+1:=k
    by_cases a:y=i
    ·rw [a]; exact .inr (by revert hb; cases anD z.2.2.1 i<;>simp)
    ·exact .inl (by omega)
   ·exact .inr k
theorem aGa (hn:0≤c.tasks∧c.tasks≤1000000) (hH:Hol c l) {f:List Int} {j:Int} (r2:(f.length:Int)=c.tasks) (r3:∀ y,TOk c y→aul l y (ady f y)):aaD (lpF (az7 f j) 18446744073709551616 (0,af9 c l,())) fun z =>∃ i,z=.inl (i,af9 c l,()):=by
 have ell:(((af9 c l).level.length:Nat):Int)=c.tasks:=by
  show (((tlT c.tasks (lev l)).length:Nat):Int)=_
  rw [ag7]; omega
 have elf:(((af9 c l).done.length:Nat):Int)=c.tasks:=by
  show (((tlT c.tasks (fnB l)).length:Nat):Int)=_
  rw [ag7]; omega
 refine abj (fun x =>(0≤x.1∧x.1≤c.tasks)∧x.2.1=af9 c l) (fun x =>(c.tasks-x.1).toNat) (fun self x hx ih =>?s1) _ _ ⟨⟨Int.le_refl 0,hn.1⟩,rfl⟩ (by show (c.tasks-0).toNat<_; omega)
 obtain ⟨i,s,⟨⟩⟩:=x
 obtain ⟨⟨q1,q2⟩,q3⟩:=hx
 simp only at q1 q2 q3
 subst q3
 have e1:wi (i+1)=i+1:=aaC (aai (by omega))
 unfold az7
 simp only
 rw [ell,elf,r2,e1]
 have nx:i<c.tasks→aaD (self (i+1,af9 c l,())) fun z =>∃ i,z=.inl (i,af9 c l,()):=fun hlt =>ih _ ⟨⟨by show 0≤i+1; omega,by show i+1≤_; omega⟩,rfl⟩ (by show (_-(i+1):Int).toNat<(_-i:Int).toNat; omega)
 refine aaD.ite (fun hlt =>.guard ⟨q1,hlt⟩ fun _ =>aaD.ite (fun hf =>.guard ⟨q1,hlt⟩ fun _ =>.guard ⟨q1,hlt⟩ fun _ =>aaD.ite (fun hlow =>?_) fun _ =>nx hlt) fun _ =>nx hlt) fun _ =>.some_ ⟨_,rfl⟩
 exfalso
 have ea:ady (af9 c l).level i=lev l i:=auq ⟨q1,hlt⟩
 have eb:anD (af9 c l).done i=fnB l i:=aEx ⟨q1,hlt⟩
 rw [eb] at hf
 rw [ea] at hlow
 have:=aBj hH ⟨q1,hlt⟩ (r3 i ⟨q1,hlt⟩) fun k =>by
  rw [aBi.2 k] at hf; cases hf
 omega
theorem az3 (hn:0≤c.tasks∧c.tasks≤1000000):aaD (abw c) fun r =>r.1.1=af9 c []:=by
 have e0:af9 c []=⟨tlT c.tasks fun _ =>-1,tlT c.tasks fun _ =>false,tlT c.tasks fun _ =>⟨false,false,0,0,0⟩⟩:=rfl
 unfold abw
 rw [e0]
 refine aaD.bind (P:=fun z =>z.2.1=⟨tlT c.tasks fun _ =>-1,tlT c.tasks fun _ =>false,tlT c.tasks fun _ =>⟨false,false,0,0,0⟩⟩) (abj (fun x =>(0≤x.1∧x.1≤c.tasks)∧x.2.1=⟨tlT x.1 fun _ =>-1,tlT x.1 fun _ =>false,tlT x.1 fun _ =>⟨false,false,0,0,0⟩⟩) (fun x =>(c.tasks-x.1).toNat) (fun self x hx ih =>?s1) _ _ ⟨⟨Int.le_refl 0,hn.1⟩,rfl⟩ (by show (c.tasks-0).toNat<_; omega)) fun z hz =>.some_ hz
 obtain ⟨i,s,⟨⟩⟩:=x
 obtain ⟨⟨q1,q2⟩,q3⟩:=hx
 simp only at q1 q2 q3
 subst q3
 have e1:wi (i+1)=i+1:=aaC (aai (by omega))
 unfold aKJ ayV auR
 simp only
 rw [e1]
 refine aaD.ite (fun hlt =>.guard (by rw [ag7,List.length_singleton]; omega) fun _ =>.guard (by rw [ag7,List.length_singleton]; omega) fun _ =>.guard (by rw [ag7,List.length_singleton]; omega) fun _ =>?_) fun hge =>.some_ ?_
 ·refine ih _ ⟨⟨by show 0≤i+1; omega,by show i+1≤_; omega⟩,?_⟩ (by show (_-(i+1):Int).toNat<(_-i:Int).toNat; omega)
  show (⟨tlT i (fun _ =>-1)++[-1],tlT i (fun _ =>false)++[false],tlT i (fun _ =>⟨false,false,0,0,0⟩)++[⟨false,false,0,0,0⟩]⟩:S30)=⟨tlT (i+1) fun _ =>-1,tlT (i+1) fun _ =>false,tlT (i+1) fun _ =>⟨false,false,0,0,0⟩⟩
  rw [asI q1,asI q1,asI q1]
 ·show (⟨tlT i (fun _ =>-1),_,_⟩:S30)=_
  rw [show i=c.tasks by omega]
theorem az5 {h:List Ev} (hd:DecOk c) (g:ait c h) (hl:h.length≤999999999):aaD (adJ c h) fun r =>r.1.1=(h.length:Int)∧r.1.2.1=0:=by
 have ht:=hd.t
 have hn:0≤c.tasks∧c.tasks≤1000000:=by omega
 unfold adJ amP
 rw [bnd,if_neg (fun k =>k (afG hd))]
 refine (az3 hn).bind fun r hr =>?_
 refine aaD.bind (P:=fun z =>∃ u,z=.inl u) (abj (fun x =>(0≤x.1∧x.1≤(h.length:Int))∧x.2.1=af9 c (h.take x.1.toNat)) (fun x =>((h.length:Int)-x.1).toNat) (fun self x hx ih =>?s1) _ _ ⟨⟨Int.le_refl 0,by show (0:Int)≤_; omega⟩,hr⟩ (by show ((h.length:Int)-0).toNat<_; omega)) fun z hz =>?s2
 case s1 =>
  obtain ⟨i,s,⟨⟩⟩:=x
  obtain ⟨⟨q1,q2⟩,q3⟩:=hx
  simp only at q1 q2 q3
  subst q3
  have e1:wi (i+1)=i+1:=aaC (aai (by omega))
  unfold aEH
  simp only
  rw [e1]
  refine aaD.ite (fun hlt =>.guard ⟨q1,hlt⟩ fun _ =>?_) fun _ =>.some_ ⟨_,rfl⟩
  obtain ⟨hi,ea⟩:=aBn ⟨q1,hlt⟩
  obtain ⟨g1,g2⟩:=awP g hi
  have hn2:=amu ⟨q1,hlt⟩
  rw [← ea] at g1
  rw [auM hn.1 g1,bnd]
  simp only
  rw [if_neg (by decide),← hn2,show (i+1).toNat=i.toNat+1 by omega]
  refine (az4 hn).bind fun r hr =>?_
  rw [hr.1]
  refine (aGa hn g2 hr.2.1 hr.2.2).bind fun z hz =>?_
  obtain ⟨j,rfl⟩:=hz
  exact ih _ ⟨⟨by show 0≤i+1; omega,by show i+1≤_; omega⟩,by show _=af9 c (h.take (i+1).toNat); rw [show (i+1).toNat=i.toNat+1 by omega]⟩ (by show (_-(i+1):Int).toNat<(_-i:Int).toNat; omega)
 case s2 =>
  obtain ⟨u,rfl⟩:=hz
  exact .some_ ⟨rfl,rfl⟩
theorem ayU {h:List Ev} (hd:DecOk c) (g:ait c h) (hl:h.length≤999999999):aaD (ads c h) fun r =>r.1.1=tlT c.tasks (lev h):=by
 have ht:=hd.t
 have hn:0≤c.tasks∧c.tasks≤1000000:=by omega
 unfold ads amP
 rw [bnd,if_neg (fun k =>k (afG hd))]
 refine (az3 hn).bind fun r hr =>?_
 refine aaD.bind (P:=fun z =>z.2.1=af9 c h) (abj (fun x =>(0≤x.1∧x.1≤(h.length:Int))∧x.2.1=af9 c (h.take x.1.toNat)) (fun x =>((h.length:Int)-x.1).toNat) (fun self x hx ih =>?s1) _ _ ⟨⟨Int.le_refl 0,by show (0:Int)≤_; omega⟩,hr⟩ (by show ((h.length:Int)-0).toNat<_; omega)) fun z hz =>?s2
 case s1 =>
  obtain ⟨i,s,⟨⟩⟩:=x
  obtain ⟨⟨q1,q2⟩,q3⟩:=hx
  simp only at q1 q2 q3
  subst q3
  have e1:wi (i+1)=i+1:=aaC (aai (by omega))
  unfold az6
  simp only
  rw [e1]
  refine aaD.ite (fun hlt =>.guard ⟨q1,hlt⟩ fun _ =>?_) fun hge =>.some_ ?_
  ·obtain ⟨hi,ea⟩:=aBn ⟨q1,hlt⟩
   obtain ⟨g1,g2⟩:=awP g hi
   have hn2:=amu ⟨q1,hlt⟩
   rw [← ea] at g1
   rw [auM hn.1 g1,bnd]
   simp only
   rw [← hn2]
   exact ih _ ⟨⟨by show 0≤i+1; omega,by show i+1≤_; omega⟩,rfl⟩ (by show (_-(i+1):Int).toNat<(_-i:Int).toNat; omega)
  ·show af9 c (h.take i.toNat)=_
   rw [List.take_of_length_le (by omega)]
 case s2 =>
  exact .some_ (by show z.2.1.level=_; rw [hz]; rfl)
end
def Hd (v:Vw) (t:Int):Prop:=t∈v.1∨match v.2 with
 | .j x _ =>x=t
 | .b x _ =>x=t
 | .r x =>x=t
 | .f x =>x=t
 | _ =>False
structure LX (c:Cfg) (e:EnvP) (pub:Nat→ak8):Prop where
 a1:∀ t,TOk c t→anE e.evs t→lev e.evs t=Lv c e t
 a2:∀ t,¬ anE e.evs t→lev e.evs t=-1
 pb:∀ m t v,pub m=some (t,v,true)→Lv c e t=v
section
variable {c:Cfg} {e e':EnvP} {vs:Nat→Vw} {pub:Nat→ak8} {m m':Nat} {t u v:Int}
theorem aDQ {a:Ab} (la:LA a) {m:Nat} (h:Hd (a.hd m,a.ph m) t):a.ok t∧(a.ts t=.run m∨a.ts t=.bm m∨a.ts t=.fin m):=by
 have hp:=la.ph m
 rcases h with h | h
 ·have:=la.hd m t h
  exact ⟨this.1,.inl this.2⟩
 ·revert h hp
  show (a.phOk m (a.hd m) (a.ph m))→(match a.ph m with | .j x _ =>x=t | .b x _ =>x=t | .r x =>x=t | .f x =>x=t | _ =>False)→_
  cases a.ph m with
  | j x u =>rintro ⟨h1,_⟩ rfl; have:=la.hd m x h1; exact ⟨this.1,.inl this.2⟩
  | b x u =>rintro ⟨h1,h2,_⟩ rfl; exact ⟨h1,.inr (.inl h2)⟩
  | r x =>rintro ⟨h1,h2⟩ rfl; exact ⟨h1,.inr (.inl h2)⟩
  | f x =>rintro ⟨h1,h2⟩ rfl; exact ⟨h1,.inr (.inr h2)⟩
  | _ =>exact fun _ k =>k.elim
theorem aAW (h:LI c e vs) (h1:Hd (vs m) t) (h2:Hd (vs m') t):m=m':=by
 obtain ⟨rl,ts,la⟩:=h
 obtain ⟨_,k1⟩:=aDQ la (m:=m) h1
 obtain ⟨_,k2⟩:=aDQ la (m:=m') h2
 have g1:((ai5 c e ts vs).ts t).mine=some m:=by rcases k1 with k | k | k<;>rw [k]<;>rfl
 have g2:((ai5 c e ts vs).ts t).mine=some m':=by rcases k2 with k | k | k<;>rw [k]<;>rfl
 exact Option.some.inj (g1.symm.trans g2)
theorem aAX (h:LI c e vs) (h1:Hd (vs m) t):TOk c t∧anE e.evs t∧¬ fnE e.evs t∧ack kSn e.evs t≠0:=by
 obtain ⟨rl,ts,la⟩:=h
 obtain ⟨k0,k1⟩:=aDQ la (m:=m) h1
 obtain ⟨c1,c2,c3⟩:=la.cl t k0
 have g:rcs e t=true∧ack kKn e.evs t=1∧ack kFn e.evs t=0:=by
  rcases k1 with k | k | k<;>rw [k] at c3<;>exact ⟨c3.2.1,c3.2.2.1,by first | exact c3.2.2.2.1 | exact c3.2.2.2⟩
 have c1:ack kSn e.evs t=if rcs e t=true then 1 else 0:=c1
 rw [if_pos g.1] at c1
 exact ⟨k0,by unfold anE; omega,by unfold fnE; omega,by omega⟩
theorem aAV (h:LI c e vs) (h1:(vs m).2=.p t):TOk c t∧¬ anE e.evs t∧∀ m',(vs m').2=.p t→m'=m:=by
 obtain ⟨rl,ts,la⟩:=h
 have g:∀ m,(vs m).2=.p t→(ai5 c e ts vs).ok t∧ts t=.alloc m:=fun m h1 =>by
  have:=la.ph m
  rw [show (ai5 c e ts vs).ph m=_ from h1] at this
  exact this
 obtain ⟨k0,k1⟩:=g m h1
 obtain ⟨c1,c2,c3⟩:=la.cl t k0
 rw [show (ai5 c e ts vs).ts t=.alloc m from k1] at c3
 have c4:ack kKn e.evs t=0:=c3.2.2.1
 refine ⟨k0,by unfold anE; omega,fun m' h2 =>?_⟩
 have:=(g m' h2).2
 rw [k1] at this
 exact (Ts.alloc.inj this).symm
theorem aAU (h:LI c e vs) (ht:TOk c t) (hs:Stt c e t=1):anE e.evs t∧¬ fnE e.evs t∧(rcs e t=false→ack kSn e.evs t=0):=by
 obtain ⟨rl,ts,la⟩:=h
 obtain ⟨c1,c2,c3⟩:=la.cl t ht
 have c1:ack kSn e.evs t=if rcs e t=true then 1 else 0:=c1
 have c3:aJ5 (ts t) (Stt c e t) (rcw e t) (Jo c e t) (rcs e t) (ack kKn e.evs t) (ack kFn e.evs t):=c3
 rw [hs] at c3
 have g:ack kKn e.evs t=1∧ack kFn e.evs t=0:=by
  revert c3
  cases ts t with
  | ready =>exact fun k =>k.2
  | _ =>intro k; have:=k.1; omega
 exact ⟨by unfold anE; omega,by unfold fnE; omega,fun k =>by rw [k] at c1; exact c1⟩
theorem auV {x:Ev} (h:Pl c x):NoL x:=h.2
def Bo (c:Cfg) (e e':EnvP):Prop:=∀ t v,Rsd c e e' t v→anE e.evs t
def aKx (e e':EnvP):Prop:=∃ l,e'.evs=e.evs++l∧((∀ x∈l,NoL x)∨∃ a x b,l=a++x::b∧(∀ y∈a,NoL y)∧(∀ y∈b,NoL y)∧¬ NoL x∧aCf e.evs x)
theorem aFg {l:List Ev} {k w o v:Int} (hk:k=1∨k=3):anE (l++[⟨k,w,t,o,v⟩]) t:=by
 unfold anE
 rw [ab7,adn,if_pos ⟨rfl,by unfold kKn; rw [decide_eq_true_iff]; exact hk⟩]; omega
theorem aJ4 {l:List Ev} {k w o v:Int} (h:u≠t):anE (l++[⟨k,w,t,o,v⟩]) u↔anE l u:=by
 unfold anE
 rw [ab7,adn,if_neg (fun k =>h k.1.symm),Nat.add_zero]
theorem LX.quiet (h:LX c e pub) {l:List Ev} (hl:e'.evs=e.evs++l) (hn:∀ x∈l,NoL x) (hv:∀ t,Lv c e' t=Lv c e t) {q:ak8} (hq:∀ t v,q=some (t,v,true)→Lv c e t=v) :
  LX c e' (ahX pub m q)∧(∀ t,lev e.evs t≤lev e'.evs t)∧aKx e e':=by
 have e1:∀ t,lev e'.evs t=lev e.evs t:=fun t =>by rw [hl,ane hn]
 have e2:∀ t,anE e'.evs t↔anE e.evs t:=fun t =>by rw [hl]; exact aB8 hn
 refine ⟨⟨fun t ht ha =>by rw [e1,hv]; exact h.a1 t ht ((e2 t).1 ha),fun t ha =>by rw [e1]; exact h.a2 t fun k =>ha ((e2 t).2 k),fun j t v hj =>?_⟩,fun t =>by rw [e1]; exact Int.le_refl _,l,hl,.inl hn⟩
 rw [hv]
 by_cases k:j=m
 ·subst k; rw [aay] at hj; exact hq t v hj
 ·rw [abm k] at hj; exact h.pb j t v hj
theorem LX.rz (h:LX c e pub) (hi:MI c e) (hli:LI c e vs) (hpv:∀ m t v b,pub m=some (t,v,b)→(vs m).2=.p t) (hb:Bo c e e') (q:Rz c e e') {p:ak8} (hp:p=none∨p=pub m) :
  LX c e' (ahX pub m p)∧(∀ t,lev e.evs t≤lev e'.evs t)∧aKx e e':=by
 rcases q with q | ⟨t0,v0,q⟩
 ·obtain ⟨l,hl,hn⟩:=q.ev
  refine h.quiet hl (fun x hx =>auV (hn x hx)) q.lv fun t v k =>?_
  rcases hp with hp | hp
  ·rw [hp] at k; cases k
  ·rw [hp] at k; exact h.pb m t v k
 ·obtain ⟨k,w,o,l,hk,hl,hn⟩:=q.ev
  have ha:anE e.evs t0:=hb t0 v0 q
  have hn:∀ x∈l,NoL x:=fun x hx =>auV (hn x hx)
  have hlev:lev e.evs t0=Lv c e t0:=h.a1 t0 q.tk ha
  have hlv:=hi.p (aaW (aap c) t0)
  have hup:=q.up
  have e0:e'.evs=(e.evs++[⟨k,w,t0,o,v0⟩])++l:=by rw [hl,List.append_assoc]; rfl
  have e1:lev e'.evs t0=v0:=by
   rw [e0,ane hn,aom]
   exact if_pos ⟨rfl,by show k=1∨k=3∨k=11∨k=12; omega⟩
  have e2:∀ t,t≠t0→lev e'.evs t=lev e.evs t:=fun t ht =>by
   rw [e0,ane hn,aom]
   exact aAZ fun k =>ht k.symm
  have e3:∀ t,anE e'.evs t↔anE e.evs t:=fun t =>by
   rw [e0,aB8 hn]
   unfold anE
   rw [ab7,adn,if_neg (fun k2 =>by have k2:=k2.2; unfold kKn at k2; rw [decide_eq_true_iff] at k2; omega),Nat.add_zero]
  refine ⟨⟨fun t ht k =>?_,fun t k =>?_,fun j t v hj =>?_⟩,fun t =>?_,_,hl,.inr ⟨[],⟨k,w,t0,o,v0⟩,l,rfl,fun y hy =>(by cases hy),hn,fun k2 =>?_,fun _ =>?_⟩⟩
  ·by_cases htt:t=t0
   ·subst htt; rw [e1,q.now]
   ·rw [e2 t htt,q.ot t htt]; exact h.a1 t ht ((e3 t).1 k)
  ·have k:¬ anE e.evs t:=fun k2 =>k ((e3 t).2 k2)
   have htt:t≠t0:=fun k2 =>k (k2▸ha)
   rw [e2 t htt]; exact h.a2 t k
  ·have hj:pub j=some (t,v,true):=by
    by_cases k:j=m
    ·subst k
     rw [aay] at hj
     rcases hp with hp | hp
     ·rw [hp] at hj; cases hj
     ·rw [hp] at hj; exact hj
    ·rw [abm k] at hj; exact hj
   have htt:t≠t0:=fun k2 =>(aAV hli (hpv j t v true hj)).2.1 (k2▸ha)
   rw [q.ot t htt]; exact h.pb j t v hj
  ·by_cases htt:t=t0
   ·subst htt; rw [e1,hlev]; have:Lv c e t<v0:=q.up; omega
   ·rw [e2 t htt]; exact Int.le_refl _
  ·have k2:k≠1∧k≠3∧k≠11∧k≠12:=k2
   omega
  ·show lev e.evs t0 ≠ -1∧lev e.evs t0<v0
   have:Lv c e t0<v0:=q.up
   have:0≤Lv c e t0:=hlv
   omega
theorem LX.step (h:LX c e pub) (hi:MI c e) (hli:LI c e vs) (hpv:∀ m t v b,pub m=some (t,v,b)→(vs m).2=.p t) (hb:Bo c e e') {p q:ak8} (hp:pub m=p) (T:Tr c e e' p q) :
  LX c e' (ahX pub m q)∧(∀ t,lev e.evs t≤lev e'.evs t)∧aKx e e':=by
 cases T with
 | same _ r =>exact h.rz hi hli hpv hb r (.inr hp.symm)
 | drop _ r =>exact h.rz hi hli hpv hb r (.inl rfl)
 | al r =>
  obtain ⟨l,hl,hn⟩:=r.ev
  exact h.quiet hl (fun x hx =>auV (hn x hx)) r.lv fun t v k =>by cases k
 | al1 v r ht hv =>
  obtain ⟨l,hl,hn⟩:=r.a.ev
  exact h.quiet hl (fun x hx =>auV (hn x hx)) r.a.lv fun t v k =>by cases k
 | w0 t0 v0 r =>
  obtain ⟨k1,k2,k3⟩:=aAV hli (hpv m t0 v0 false hp)
  refine ⟨⟨fun t ht k =>?_,fun t k =>?_,fun j t v hj =>?_⟩,fun t =>by rw [r.ev]; exact Int.le_refl _,[],by rw [r.ev]; simp,.inl fun x hx =>(by cases hx)⟩
  ·rw [r.ev] at k ⊢
   rw [r.ot t fun k4 =>k2 (k4▸k)]; exact h.a1 t ht k
  ·rw [r.ev] at k ⊢; exact h.a2 t k
  ·by_cases k:j=m
   ·subst k; rw [aay] at hj; cases hj; exact r.now
   ·rw [abm k] at hj
    rw [r.ot t fun k4 =>k (k3 j (k4▸hpv j t v true hj))]; exact h.pb j t v hj
 | an t0 v0 r =>
  obtain ⟨k1,k2,k3⟩:=aAV hli (hpv m t0 v0 true hp)
  obtain ⟨l,k,w,o,hk,hn,hl⟩:=r.ev
  have hn:∀ x∈l,NoL x:=fun x hx =>auV (hn x hx)
  have e1:lev e'.evs t0=v0:=by
   rw [hl,aom]
   exact if_pos ⟨rfl,by show k=1∨k=3∨k=11∨k=12; omega⟩
  have e2:∀ t,t≠t0→lev e'.evs t=lev e.evs t:=fun t ht =>by
   rw [hl,aom,aAZ (fun k =>ht k.symm),ane hn]
  have e3:∀ t,t≠t0→(anE e'.evs t↔anE e.evs t):=fun t ht =>by
   rw [hl,aJ4 ht,aB8 hn]
  have e4:anE e'.evs t0:=by rw [hl]; exact aFg hk
  have hpb:=h.pb m t0 v0 hp
  have h0:=hi.p (aaW (aap c) t0)
  refine ⟨⟨fun t ht k =>?_,fun t k =>?_,fun j t v hj =>?_⟩,fun t =>?_,l++[⟨k,w,t0,o,v0⟩],by rw [hl,List.append_assoc],.inr ⟨l,⟨k,w,t0,o,v0⟩,[],rfl,hn,fun y hy =>(by cases hy),fun k2 =>?_,fun k2 =>?_⟩⟩
  ·by_cases htt:t=t0
   ·subst htt; rw [e1,r.lv]; exact hpb.symm
   ·rw [e2 t htt,r.lv]; exact h.a1 t ht ((e3 t htt).1 k)
  ·have htt:t≠t0:=fun k2 =>k (k2▸e4)
   rw [e2 t htt]; exact h.a2 t fun k2 =>k ((e3 t htt).2 k2)
  ·by_cases k:j=m
   ·subst k; rw [aay] at hj; cases hj
   ·rw [abm k] at hj; rw [r.lv]; exact h.pb j t v hj
  ·by_cases htt:t=t0
   ·subst htt
    rw [e1,h.a2 t k2]
    have:0≤Lv c e t:=h0
    omega
   ·rw [e2 t htt]; exact Int.le_refl _
  ·have k2:k≠1∧k≠3∧k≠11∧k≠12:=k2
   omega
  ·have k2:k=11∨k=12:=k2
   omega
end
inductive XR (c:Cfg) (e e':EnvP) (w:Int) (v v':Vw):Iv→Iv→Prop
 | q (i:Iv) (hw:∀ t,Wt c e' t=Wt c e t) (l:List Ev) (hl:e'.evs=e.evs++l) (hn:∀ x∈l,NoW x) (hh:∀ t,Hd v' t→Hd v t∨((TOk c t∧Stt c e t=1)∧rcs e t=false)):XR c e e' w v v' i i
 | miss (t u:Int) (hw:∀ t,Wt c e' t=Wt c e t) (l:List Ev) (hl:e'.evs=e.evs++l) (hn:∀ x∈l,NoW x) (hh:∀ t,Hd v' t→Hd v t) (ht:Hd v t):XR c e e' w v v' (.j2 t u) .n
 | j1 (t u:Int) (hw:∀ x,Wt c e' x=afM (Wt c e) t (u+1) x) (hl:e'.evs=e.evs) (hu:TOk c u∧anE e.evs u) (hh:∀ t,Hd v' t→Hd v t) (ht:Hd v t):XR c e e' w v v' .n (.j2 t u)
 | j3 (t u:Int) (hw:∀ t,Wt c e' t=Wt c e t) (hl:e'.evs=e.evs++[⟨6,w,t,u,0⟩]) (hh:∀ x,Hd v' x→x∈v.1) (ht:v.2=.b t u):XR c e e' w v v' (.j2 t u) (.j4 t u)
 | j4 (t u:Int) (hw:∀ t,Wt c e' t=Wt c e t) (hl:e'.evs=e.evs) (hh:∀ t,Hd v' t→Hd v t) (ht:TOk c t∧anE e.evs t):XR c e e' w v v' (.j4 t u) (.j5 t u (Lv c e t) u false)
 | ra (t u T z:Int) (hw:∀ t,Wt c e' t=Wt c e t) (l:List Ev) (hl:e'.evs=e.evs++l) (hn:∀ x∈l,NoW x) (hh:∀ t,Hd v' t→Hd v t) (hz:TOk c z∧anE e.evs z) (hT:T≤Lv c e' z):XR c e e' w v v' (.j5 t u T z false) (.j5 t u T z true)
 | nx (t u T z y:Int) (hw:∀ t,Wt c e' t=Wt c e t) (hl:e'.evs=e.evs) (hh:∀ t,Hd v' t→Hd v t) (hz:Wt c e z=y+1):XR c e e' w v v' (.j5 t u T z true) (.j5 t u T y false)
 | se (t u T z:Int) (hw:∀ t,Wt c e' t=Wt c e t) (hl:e'.evs=e.evs++[⟨7,w,t,0,T⟩]) (hh:∀ t,Hd v' t→Hd v t) (hz:Wt c e z=0):XR c e e' w v v' (.j5 t u T z true) .n
 | re (t:Int) (hw:∀ t,Wt c e' t=Wt c e t) (hl:e'.evs=e.evs++[⟨9,w,t,0,0⟩]) (ht:TOk c t∧Stt c e t=1) (hh:∀ x,Hd v' x→Hd v x∨x=t):XR c e e' w v v' .n .n
 | cl (t:Int) (hw:∀ x,x≠t→Wt c e' x=Wt c e x) (h0:Wt c e' t=0) (l:List Ev) (hl:e'.evs=e.evs++l) (hn:∀ x∈l,NoW x) (hh:∀ t,Hd v' t→Hd v t) (ht:Hd v t):XR c e e' w v v' .n .n
 | fi (t:Int) (hw:∀ t,Wt c e' t=Wt c e t) (hl:e'.evs=e.evs++[⟨10,w,t,0,0⟩]) (hh:∀ t,Hd v' t→Hd v t) (ht:Hd v t):XR c e e' w v v' .n .n
def KdR (c:Cfg) (e e':EnvP) (v v':Vw):Prop :=
 (∀ t,0≤t→∀ x∈(e'.rc t).kids,x∈(e.rc t).kids∨x=-1∨(TOk c x∧v'.2=.p x∧t∈v'.1))∧∀ x,v.2=.p x→(v'.2=.p x∧v'.1=v.1)∨anE e'.evs x∨v.1=[]
def viZ (xs:Nat→Iv) (i:Int):Iv:=if 0≤i then xs i.toNat else .n
structure XG (c:Cfg) (e:EnvP) (xs:Nat→Iv) (U:Int→WS):Prop where
 iv:IV2 ⟨⟨lev e.evs,fnE e.evs,U⟩,Wt c e,ewt e.evs,viZ xs⟩
 l2:∀ t,U t≠.no→ewt e.evs t≠none∨∃ m u,xs m=.j2 t u
 l3:∀ m t u,xs m=.j2 t u→U t=.set u
 an:∀ t u,(U t).ch=some u→TOk c u∧anE e.evs u
structure XI (c:Cfg) (e:EnvP) (vs:Nat→Vw) (pub:Nat→ak8) (xs:Nat→Iv):Prop where
 lx:LX c e pub
 wv:∀ t,TOk c t→Wt c e t=0∨∃ u,Wt c e t=u+1∧TOk c u∧anE e.evs u
 kd:∀ t,0≤t→∀ x∈(e.rc t).kids,x=-1∨(TOk c x∧(anE e.evs x∨∃ m,(vs m).2=.p x∧t∈(vs m).1))
 h1:∀ m t,Hd (vs m) t→ewt e.evs t=none
 h2:∀ t,ack kSn e.evs t=0→ewt e.evs t=none
 go:ait c e.evs
 iv:∃ U,XG c e xs U
 lp:∀ m t v b,pub m=some (t,v,b)→(vs m).2=.p t
 lj:∀ m t u,xs m=.j2 t u→Hd (vs m) t
section
variable {c:Cfg} {e e':EnvP} {vs:Nat→Vw} {pub:Nat→ak8} {xs:Nat→Iv} {m:Nat} {v':Vw} {i':Iv}
theorem agA {i:Iv} (h:xs m=i):viZ xs (m:Int)=i:=by
 unfold viZ; rw [if_pos (Int.natCast_nonneg m),Int.toNat_natCast]; exact h
theorem ahC:viZ (ahX xs m i')=anN (viZ xs) (m:Int) i':=funext fun j =>by
 show (if 0≤j then (if j.toNat=m then i' else xs j.toNat) else Iv.n)=if j=(m:Int) then i' else if 0≤j then xs j.toNat else Iv.n
 by_cases h:0≤j
 ·rw [if_pos h,if_pos h]
  by_cases k:j=(m:Int)
  ·rw [if_pos k,if_pos (by omega)]
  ·rw [if_neg k,if_neg (by omega)]
 ·rw [if_neg h,if_neg h,if_neg (by omega)]
theorem aoo {a b:IvS} (h:IV2 a) (h1:∀ t,b.a.L t=a.a.L t) (h2:∀ t,b.a.dn t↔a.a.dn t) (h3:∀ t,b.a.U t=a.a.U t) (h4:∀ t,b.W t=a.W t) (h5:∀ t,b.ew t=a.ew t) (h6:b.vi=a.vi):IV2 b:=by
 have:b=a:=by
  obtain ⟨⟨L,dn,U⟩,W,ew,vi⟩:=a
  obtain ⟨⟨L',dn',U'⟩,W',ew',vi'⟩:=b
  have g1:L'=L:=funext h1
  have g2:dn'=dn:=funext fun t =>propext (h2 t)
  have g3:U'=U:=funext h3
  have g4:W'=W:=funext h4
  have g5:ew'=ew:=funext h5
  have g6:vi'=vi:=h6
  rw [g1,g2,g3,g4,g5,g6]
 rw [this]; exact h
theorem LX.low (h:LX c e pub) (hi:MI c e):∀ t,TOk c t → -1≤lev e.evs t:=fun t ht =>by
 by_cases ha:anE e.evs t
 ·rw [h.a1 t ht ha]; have:0≤Lv c e t:=hi.p _; omega
 ·rw [h.a2 t ha]; exact Int.le_refl _
theorem XG.hol {U:Int→WS} (h:XG c e xs U) (hv:∀ t,TOk c t → -1≤lev e.evs t):Hol c e.evs:=⟨hv,fun t u k T y he hc =>by
 refine h.iv.floor (t:=t) (u:=u) (k:=k) he ?_
 induction hc with
 | here =>exact .here
 | next _ e1 ih =>exact .next ih (h.iv.g1 _ _ _ _ e1)⟩
theorem apW {t:Int} {x:Ev} (h:¬ (x.task=t∧x.kind=6)):ewF t none x=none:=by
 unfold ewF
 rw [if_neg h]
 split
 ·rfl
 ·split<;>rfl
theorem ew6 {l:List Ev} {w t u x:Int}:ewt (l++[⟨6,w,t,u,0⟩]) x=afM (ewt l) t (some (u,w,none)) x:=by
 rw [aea]
 unfold afM
 by_cases h:x=t
 ·rw [if_pos h]; exact if_pos ⟨h.symm,rfl⟩
 ·rw [if_neg h]; exact akR fun k =>h k.symm
theorem ew9 {l:List Ev} {w t x:Int}:ewt (l++[⟨9,w,t,0,0⟩]) x=afM (ewt l) t none x:=by
 rw [aea]
 unfold afM
 by_cases h:x=t
 ·rw [if_pos h]
  unfold ewF
  rw [if_neg (fun k =>by have k:(9:Int)=6:=k.2; omega),if_neg (fun k =>by have k:(9:Int)=7:=k.2; omega),if_pos ⟨h.symm,rfl⟩]
 ·rw [if_neg h]; exact akR fun k =>h k.symm
theorem aLy {l:List Ev} {w t x:Int}:ewt (l++[⟨10,w,t,0,0⟩]) x=ewt l x:=by
 rw [aea]
 unfold ewF
 rw [if_neg (fun k =>by have k:(10:Int)=6:=k.2; omega),if_neg (fun k =>by have k:(10:Int)=7:=k.2; omega),if_neg (fun k =>by have k:(10:Int)=9:=k.2; omega)]
theorem ew7 {l:List Ev} {w t T u x:Int} (h:ewt l t=some (u,w,none)):ewt (l++[⟨7,w,t,0,T⟩]) x=afM (ewt l) t (some (u,w,some T)) x:=by
 rw [aea]
 unfold afM
 by_cases k:x=t
 ·rw [if_pos k,k,h]
  unfold ewF
  rw [if_neg (fun k =>by have k:(7:Int)=6:=k.2; omega),if_pos ⟨rfl,rfl⟩]
  exact if_pos rfl
 ·rw [if_neg k]; exact akR fun q =>k q.symm
theorem aLO {l:List Ev} {w t T x:Int} (h:∀ u,ewt l t≠some (u,w,none)):ewt (l++[⟨7,w,t,0,T⟩]) x=ewt l x:=by
 rw [aea]
 by_cases k:x=t
 ·subst k
  unfold ewF
  rw [if_neg (fun k =>by have k:(7:Int)=6:=k.2; omega),if_pos ⟨rfl,rfl⟩]
  revert h
  cases ewt l x with
  | none =>exact fun _ =>rfl
  | some d =>
   obtain ⟨u,k,o⟩:=d
   cases o with
   | some T =>exact fun _ =>rfl
   | none =>exact fun h =>if_neg fun q =>h u (by rw [show k=w from q])
 ·exact akR fun q =>k q.symm
theorem aLM {l:List Ev} {w t x:Int}:fnE (l++[⟨10,w,t,0,0⟩]) x↔x=t∨fnE l x:=by
 unfold fnE
 rw [ab7,adn]
 by_cases h:t=x
 ·rw [if_pos ⟨h,by decide⟩]
  exact ⟨fun _ =>.inl h.symm,fun _ =>by omega⟩
 ·rw [if_neg (fun k =>h k.1),Nat.add_zero]
  exact ⟨.inr,fun k =>k.resolve_left fun q =>h q.symm⟩
theorem ayi {l:List Ev} {k w t o v x:Int} (hk:k≠10):fnE (l++[⟨k,w,t,o,v⟩]) x↔fnE l x:=by
 unfold fnE
 rw [ab7,adn,if_neg (fun q =>by have q:=q.2; unfold kFn at q; rw [decide_eq_true_iff] at q; exact hk q),Nat.add_zero]
theorem XG.step (h:XI c e vs pub xs) {U:Int→WS} (g:XG c e xs U) (hli:LI c e vs) (hm:∀ t,lev e.evs t≤lev e'.evs t) (hx:∀ t,TOk c t→anE e'.evs t→lev e'.evs t=Lv c e' t) (hap:∃ l,e'.evs=e.evs++l)
  {i:Iv} (hi:xs m=i) (r:XR c e e' (m:Int) (vs m) v' i i'):∃ U',XG c e' (ahX xs m i') U':=by
 have an':∀ u,TOk c u∧anE e.evs u→TOk c u∧anE e'.evs u:=fun u k =>by
  obtain ⟨l,hl⟩:=hap
  exact ⟨k.1,by rw [hl]; exact aua k.2⟩
 have up:IV2 ⟨⟨lev e'.evs,fnE e.evs,U⟩,Wt c e,ewt e.evs,viZ xs⟩:=g.iv.up hm
 have nd:∀ {t},Hd (vs m) t→¬ fnE e.evs t:=fun k =>(aAX hli k).2.2.1
 have j2n:∀ {t j u},Hd (vs m) t→xs j=.j2 t u→j=m:=fun k1 k2 =>(aAW hli k1 (h.lj _ _ _ k2)).symm
 have keep:∀ {j t u},j≠m→ahX xs m i' j=.j2 t u→xs j=.j2 t u:=fun k1 k2 =>by rw [abm k1] at k2; exact k2
 have l2u:∀ {t},U t≠.no→(∀ u,i≠.j2 t u)→ewt e.evs t≠none∨∃ j u,ahX xs m i' j=.j2 t u:=fun {t} k1 k2 =>by
  rcases g.l2 t k1 with k | ⟨j,u,k⟩
  ·exact .inl k
  ·by_cases hj:j=m
   ·subst hj; exact absurd (hi.symm.trans k) (k2 u)
   ·exact .inr ⟨j,u,by rw [abm hj]; exact k⟩
 cases r with
 | q i hw l hl hn hh =>
  refine ⟨U,aoo up (fun _ =>rfl) (fun t =>by show fnE e'.evs t↔_; rw [hl]; exact asr hn) (fun _ =>rfl) hw (fun t =>by show ewt e'.evs t=_; rw [hl,aeH hn]) (by rw [ahD hi]),fun t k =>?_,fun j t u k =>?_,fun t u k =>an' u (g.an t u k)⟩
  ·rw [hl,aeH hn,ahD hi]; exact g.l2 t k
  ·rw [ahD hi] at k; exact g.l3 j t u k
 | miss t u hw l hl hn hh ht =>
  have k1:=up.miss (m:=(m:Int)) (x:=Wt c e t) (agA hi) (nd ht)
  have e1:=h.h1 m t ht
  refine ⟨_,aoo k1 (fun _ =>rfl) (fun x =>by show fnE e'.evs x↔_; rw [hl]; exact asr hn) (fun _ =>rfl) (fun x =>?_) (fun x =>?_) ahC,fun x k =>?_,fun j x y k =>?_,fun x y k =>?_⟩
  ·show Wt c e' x=afM (Wt c e) t (Wt c e t) x
   rw [hw]; unfold afM; split
   ·rename_i q; rw [q]
   ·rfl
  ·show ewt e'.evs x=afM (ewt e.evs) t none x
   rw [hl,aeH hn]; unfold afM; split
   ·rename_i q; rw [q]; exact e1
   ·rfl
  ·have hx:x≠t:=fun q =>by rw [q] at k; exact k abe
   rw [show afM U t .no x=U x from abf hx] at k
   rw [hl,aeH hn]
   exact l2u k fun y q =>by cases q; exact hx rfl
  ·have hj:j≠m:=fun q =>by rw [q,aay] at k; cases k
   have k:=keep hj k
   have hx:x≠t:=fun q =>hj (j2n ht (q▸k))
   show afM U t .no x=_
   rw [abf hx]; exact g.l3 j x y k
  ·by_cases hx:x=t
   ·rw [hx] at k
    replace k:(afM U t .no t).ch=some y:=k
    rw [abe] at k; cases k
   ·replace k:(afM U t .no x).ch=some y:=k
    rw [abf hx] at k; exact an' y (g.an x y k)
 | j1 t u hw hl hu hh ht =>
  have e1:=h.h1 m t ht
  have hU:U t=.no:=Classical.byContradiction fun k =>by
   rcases g.l2 t k with q | ⟨j,y,q⟩
   ·exact q e1
   ·have:=j2n ht q
    rw [this,hi] at q; cases q
  have k1:=up.begin (m:=(m:Int)) (u:=u) (agA hi) hU e1 (nd ht)
  refine ⟨_,aoo k1 (fun _ =>rfl) (fun x =>by show fnE e'.evs x↔_; rw [hl]) (fun _ =>rfl) (fun x =>by show Wt c e' x=_; exact hw x) (fun x =>?_) ahC,fun x k =>?_,fun j x y k =>?_,fun x y k =>?_⟩
  ·show ewt e'.evs x=afM (ewt e.evs) t none x
   rw [hl]; unfold afM; split
   ·rename_i q; rw [q]; exact e1
   ·rfl
  ·by_cases hx:x=t
   ·subst hx; exact .inr ⟨m,u,aay⟩
   ·rw [show afM U t (.set u) x=U x from abf hx] at k
    rw [hl]
    exact l2u k fun y q =>by cases q
  ·by_cases hj:j=m
   ·subst hj; rw [aay] at k; cases k; exact abe
   ·have k:=keep hj k
    have hx:x≠t:=fun q =>hj (j2n ht (q▸k))
    show afM U t (.set u) x=_
    rw [abf hx]; exact g.l3 j x y k
  ·by_cases hx:x=t
   ·rw [hx] at k
    replace k:(afM U t (.set u) t).ch=some y:=k
    rw [abe] at k; cases k; exact an' u hu
   ·replace k:(afM U t (.set u) x).ch=some y:=k
    rw [abf hx] at k; exact an' y (g.an x y k)
 | j3 t u hw hl hh ht =>
  have hd:Hd (vs m) t:=.inr (by rw [ht])
  have k1:=up.tell (m:=(m:Int)) (agA hi) (g.l3 m t u hi) (nd hd)
  refine ⟨_,aoo k1 (fun _ =>rfl) (fun x =>by show fnE e'.evs x↔_; rw [hl]; exact ayi (by omega)) (fun _ =>rfl) hw (fun x =>by show ewt e'.evs x=_; rw [hl]; exact ew6) ahC,fun x k =>?_,fun j x y k =>?_,fun x y k =>?_⟩
  ·rw [hl,ew6]
   by_cases hx:x=t
   ·subst hx; rw [abe]; exact .inl fun q =>by cases q
   ·rw [abf hx]
    rw [show afM U t (.set u) x=U x from abf hx] at k
    exact l2u k fun y q =>by cases q; exact hx rfl
  ·have hj:j≠m:=fun q =>by rw [q,aay] at k; cases k
   have k:=keep hj k
   have hx:x≠t:=fun q =>hj (j2n hd (q▸k))
   show afM U t (.set u) x=_
   rw [abf hx]; exact g.l3 j x y k
  ·by_cases hx:x=t
   ·rw [hx] at k
    replace k:(afM U t (.set u) t).ch=some y:=k
    rw [abe] at k
    exact an' y (g.an t y (by rw [g.l3 m t u hi]; exact k))
   ·replace k:(afM U t (.set u) x).ch=some y:=k
    rw [abf hx] at k; exact an' y (g.an x y k)
 | j4 t u hw hl hh ht =>
  have hL:lev e'.evs t=Lv c e t:=by rw [hl]; exact h.lx.a1 t ht.1 ht.2
  by_cases hc:∃ u',ewt e.evs t=some (u',(m:Int),none)
  ·obtain ⟨u',hc⟩:=hc
   have hu:u'=u∧U t=.set u:=by
    rcases g.iv.g3 t u' m hc with ⟨q1,q2⟩ | ⟨T,z,r,q1,_⟩
    ·rw [show (⟨⟨lev e.evs,fnE e.evs,U⟩,Wt c e,ewt e.evs,viZ xs⟩:IvS).vi (m:Int)=_ from agA hi] at q1
     cases q1; exact ⟨rfl,q2⟩
    ·rw [show (⟨⟨lev e.evs,fnE e.evs,U⟩,Wt c e,ewt e.evs,viZ xs⟩:IvS).vi (m:Int)=_ from agA hi] at q1
     cases q1
   have hd:¬ fnE e.evs t:=fun q =>by have:=g.iv.dn t q; rw [show (⟨⟨lev e.evs,fnE e.evs,U⟩,Wt c e,ewt e.evs,viZ xs⟩:IvS).a.U t=_ from hu.2] at this; cases this
   have k1:=up.load (m:=(m:Int)) (agA hi) hc hd
   refine ⟨afM U t (.wk u (lev e'.evs t) m),aoo k1 (fun _ =>rfl) (fun x =>by show fnE e'.evs x↔_; rw [hl]) (fun _ =>rfl) hw (fun x =>?_) ?_,fun x k =>?_,fun j x y k =>?_,fun x y k =>?_⟩
   ·show ewt e'.evs x=afM (ewt e.evs) t (some (u,(m:Int),none)) x
    rw [hl]; unfold afM; split
    ·rename_i q; rw [q,hc,hu.1]
    ·rfl
   ·show viZ _=anN _ _ (.j5 t u (lev e'.evs t) u false)
    rw [hL]; exact ahC
   ·by_cases hx:x=t
    ·subst hx; rw [hl,hc]; exact .inl fun q =>by cases q
    ·rw [abf hx] at k
     rw [hl]; exact l2u k fun y q =>by cases q
   ·have hj:j≠m:=fun q =>by rw [q,aay] at k; cases k
    have k:=keep hj k
    have hx:x≠t:=fun q =>by
     have:=h.h1 j x (h.lj j x y k)
     rw [q,hc] at this; cases this
    rw [abf hx]; exact g.l3 j x y k
   ·by_cases hx:x=t
    ·rw [hx,abe] at k
     exact an' y (g.an t y (by rw [hu.2]; exact k))
    ·rw [abf hx] at k; exact an' y (g.an x y k)
  ·have k1:=up.view (m:=m) (v:=.j5 t u (Lv c e t) u false) fun x y q =>by
    rcases g.iv.g3 x y m q with ⟨q1,q2⟩ | ⟨T,z,r,q1,_⟩
    ·rw [show (⟨⟨lev e.evs,fnE e.evs,U⟩,Wt c e,ewt e.evs,viZ xs⟩:IvS).vi (m:Int)=_ from agA hi] at q1
     cases q1; exact hc ⟨_,q⟩
    ·rw [show (⟨⟨lev e.evs,fnE e.evs,U⟩,Wt c e,ewt e.evs,viZ xs⟩:IvS).vi (m:Int)=_ from agA hi] at q1
     cases q1
   refine ⟨U,aoo k1 (fun _ =>rfl) (fun x =>by show fnE e'.evs x↔_; rw [hl]) (fun _ =>rfl) hw (fun x =>by show ewt e'.evs x=_; rw [hl]) ahC,fun x k =>?_,fun j x y k =>?_,fun x y k =>an' y (g.an x y k)⟩
   ·rw [hl]; exact l2u k fun y q =>by cases q
   ·have hj:j≠m:=fun q =>by rw [q,aay] at k; cases k
    exact g.l3 j x y (keep hj k)
 | ra t u T z hw l hl hn hh hz hT =>
  have k1:=up.raised (m:=(m:Int)) (agA hi) (by show T≤lev e'.evs z; rw [hx z hz.1 (an' z hz).2]; exact hT)
  refine ⟨U,aoo k1 (fun _ =>rfl) (fun x =>by show fnE e'.evs x↔_; rw [hl]; exact asr hn) (fun _ =>rfl) hw (fun x =>by show ewt e'.evs x=_; rw [hl,aeH hn]) ahC,fun x k =>?_,fun j x y k =>?_,fun x y k =>an' y (g.an x y k)⟩
  ·rw [hl,aeH hn]; exact l2u k fun y q =>by cases q
  ·have hj:j≠m:=fun q =>by rw [q,aay] at k; cases k
   exact g.l3 j x y (keep hj k)
 | nx t u T z y hw hl hh hz =>
  have k1:=up.next (m:=(m:Int)) (agA hi) hz
  refine ⟨U,aoo k1 (fun _ =>rfl) (fun x =>by show fnE e'.evs x↔_; rw [hl]) (fun _ =>rfl) hw (fun x =>by show ewt e'.evs x=_; rw [hl]) ahC,fun x k =>?_,fun j x y k =>?_,fun x y k =>an' y (g.an x y k)⟩
  ·rw [hl]; exact l2u k fun y q =>by cases q
  ·have hj:j≠m:=fun q =>by rw [q,aay] at k; cases k
   exact g.l3 j x y (keep hj k)
 | se t u T z hw hl hh hz =>
  by_cases hc:∃ u',ewt e.evs t=some (u',(m:Int),none)
  ·obtain ⟨u',hc⟩:=hc
   have hu:u'=u∧U t=.wk u T m:=by
    rcases g.iv.g3 t u' m hc with ⟨q1,q2⟩ | ⟨T,z,r,q1,q2⟩
    ·rw [show (⟨⟨lev e.evs,fnE e.evs,U⟩,Wt c e,ewt e.evs,viZ xs⟩:IvS).vi (m:Int)=_ from agA hi] at q1
     cases q1
    ·rw [show (⟨⟨lev e.evs,fnE e.evs,U⟩,Wt c e,ewt e.evs,viZ xs⟩:IvS).vi (m:Int)=_ from agA hi] at q1
     cases q1; exact ⟨rfl,q2⟩
   have hd:¬ fnE e.evs t:=fun q =>by have:=g.iv.dn t q; rw [show (⟨⟨lev e.evs,fnE e.evs,U⟩,Wt c e,ewt e.evs,viZ xs⟩:IvS).a.U t=_ from hu.2] at this; cases this
   have hzn:U z=.no:=by
    rcases WS.no_or (U z) with q | ⟨y,q⟩
    ·exact q
    ·have q1:Wt c e z=y+1:=g.iv.g4 z y q
     have q2:0≤y:=(g.an z y q).1.1
     omega
   have k1:=(up.settle (m:=(m:Int)) (agA hi) hzn hc hd).2
   have he:∀ x,ewt e'.evs x=afM (ewt e.evs) t (some (u,(m:Int),some T)) x:=fun x =>by rw [hl,ew7 hc,hu.1]
   refine ⟨afM U t (.st u T),aoo k1 (fun _ =>rfl) (fun x =>by show fnE e'.evs x↔_; rw [hl]; exact ayi (by omega)) (fun _ =>rfl) hw he ahC,fun x k =>?_,fun j x y k =>?_,fun x y k =>?_⟩
   ·rw [he]
    by_cases hx:x=t
    ·subst hx; rw [abe]; exact .inl fun q =>by cases q
    ·rw [abf hx] at k ⊢
     exact l2u k fun y q =>by cases q
   ·have hj:j≠m:=fun q =>by rw [q,aay] at k; cases k
    have k:=keep hj k
    have hx:x≠t:=fun q =>by
     have:=h.h1 j x (h.lj j x y k)
     rw [q,hc] at this; cases this
    rw [abf hx]; exact g.l3 j x y k
   ·by_cases hx:x=t
    ·rw [hx,abe] at k
     exact an' y (g.an t y (by rw [hu.2]; exact k))
    ·rw [abf hx] at k; exact an' y (g.an x y k)
  ·have k1:=up.view (m:=m) (v:=.n) fun x y q =>by
    rcases g.iv.g3 x y m q with ⟨q1,q2⟩ | ⟨T,z,r,q1,_⟩
    ·rw [show (⟨⟨lev e.evs,fnE e.evs,U⟩,Wt c e,ewt e.evs,viZ xs⟩:IvS).vi (m:Int)=_ from agA hi] at q1
     cases q1
    ·rw [show (⟨⟨lev e.evs,fnE e.evs,U⟩,Wt c e,ewt e.evs,viZ xs⟩:IvS).vi (m:Int)=_ from agA hi] at q1
     cases q1; exact hc ⟨_,q⟩
   have he:∀ x,ewt e'.evs x=ewt e.evs x:=fun x =>by rw [hl]; exact aLO fun y q =>hc ⟨y,q⟩
   refine ⟨U,aoo k1 (fun _ =>rfl) (fun x =>by show fnE e'.evs x↔_; rw [hl]; exact ayi (by omega)) (fun _ =>rfl) hw he ahC,fun x k =>?_,fun j x y k =>?_,fun x y k =>an' y (g.an x y k)⟩
   ·rw [he]; exact l2u k fun y q =>by cases q
   ·have hj:j≠m:=fun q =>by rw [q,aay] at k; cases k
    exact g.l3 j x y (keep hj k)
 | re t hw hl ht hh =>
  have hr:=aAU hli ht.1 ht.2
  have k1:=up.resume (m:=(m:Int)) (W:=Wt c e') (agA hi) (fun x _ =>hw x) hr.2.1
  have he:∀ x,ewt e'.evs x=afM (ewt e.evs) t none x:=fun x =>by rw [hl]; exact ew9
  have nj:∀ {j y},xs j≠.j2 t y:=fun {j y} q =>by
   have h1:=h.lj j t y q
   obtain ⟨rl,ts,la⟩:=hli
   have h2:=(aDQ la (m:=j) h1).2
   obtain ⟨_,_,c3⟩:=la.cl t ht.1
   have c3:aJ5 (ts t) (Stt c e t) (rcw e t) (Jo c e t) (rcs e t) (ack kKn e.evs t) (ack kFn e.evs t):=c3
   rw [ht.2] at c3
   rcases h2 with q | q | q<;>(rw [show ts t=_ from q] at c3; have:=c3.1; omega)
  refine ⟨afM U t .no,aoo k1 (fun _ =>rfl) (fun x =>by show fnE e'.evs x↔_; rw [hl]; exact ayi (by omega)) (fun _ =>rfl) (fun x =>rfl) he ahC,fun x k =>?_,fun j x y k =>?_,fun x y k =>?_⟩
  ·have hx:x≠t:=fun q =>by rw [q] at k; exact k abe
   rw [abf hx] at k
   rw [he,abf hx]
   exact l2u k fun y q =>by cases q
  ·have hj:j≠m:=fun q =>by rw [q,aay] at k; cases k
   have k:=keep hj k
   have hx:x≠t:=fun q =>nj (q▸k)
   rw [abf hx]; exact g.l3 j x y k
  ·by_cases hx:x=t
   ·rw [hx,abe] at k; cases k
   ·rw [abf hx] at k; exact an' y (g.an x y k)
 | cl t hw h0 l hl hn hh ht =>
  have e1:=h.h1 m t ht
  have hU:U t=.no:=Classical.byContradiction fun k =>by
   rcases g.l2 t k with q | ⟨j,y,q⟩
   ·exact q e1
   ·have:=j2n ht q
    rw [this,hi] at q; cases q
  have k1:=up.resume (m:=(m:Int)) (W:=Wt c e') (agA hi) hw (nd ht)
  have hUU:∀ x,U x=afM U t .no x:=fun x =>by
   unfold afM; split
   ·rename_i q; rw [q]; exact hU
   ·rfl
  refine ⟨U,aoo k1 (fun _ =>rfl) (fun x =>by show fnE e'.evs x↔_; rw [hl]; exact asr hn) hUU (fun x =>rfl) (fun x =>?_) ahC,fun x k =>?_,fun j x y k =>?_,fun x y k =>an' y (g.an x y k)⟩
  ·show ewt e'.evs x=afM (ewt e.evs) t none x
   rw [hl,aeH hn]; unfold afM; split
   ·rename_i q; rw [q]; exact e1
   ·rfl
  ·rw [hl,aeH hn]; exact l2u k fun y q =>by cases q
  ·have hj:j≠m:=fun q =>by rw [q,aay] at k; cases k
   exact g.l3 j x y (keep hj k)
 | fi t hw hl hh ht =>
  have e1:=h.h1 m t ht
  have hU:U t=.no:=Classical.byContradiction fun k =>by
   rcases g.l2 t k with q | ⟨j,y,q⟩
   ·exact q e1
   ·have:=j2n ht q
    rw [this,hi] at q; cases q
  have k1:=up.fin hU
  refine ⟨U,aoo k1 (fun _ =>rfl) (fun x =>by show fnE e'.evs x↔_; rw [hl]; exact aLM) (fun _ =>rfl) hw (fun x =>by show ewt e'.evs x=_; rw [hl]; exact aLy) (by show viZ (ahX xs m .n)=_; rw [ahD hi]),fun x k =>?_,fun j x y k =>?_,fun x y k =>an' y (g.an x y k)⟩
  ·rw [hl,aLy]; exact l2u k fun y q =>by cases q
  ·have hj:j≠m:=fun q =>by rw [q,aay] at k; cases k
   exact g.l3 j x y (keep hj k)
end
structure HXw (c:Cfg) (e:EnvP) (v:Vw):Prop where
 wv:∀ t,TOk c t→Wt c e t=0∨∃ u,Wt c e t=u+1∧TOk c u∧anE e.evs u
 sa:∀ t,TOk c t→Stt c e t=1→anE e.evs t
 hd:∀ t,Hd v t→TOk c t∧anE e.evs t
 kd:v.2=.n→∀ t∈v.1,∀ x∈(e.rc t).kids,x=-1∨(TOk c x∧anE e.evs x)
section
variable {c:Cfg} {e e':EnvP} {vs:Nat→Vw} {pub:Nat→ak8} {xs:Nat→Iv} {m:Nat} {v v':Vw} {i i':Iv} {w:Int}
theorem XR.evs (r:XR c e e' w v v' i i'):∃ l,e'.evs=e.evs++l∧((∀ x∈l,NoW x)∨∃ x,l=[x]∧NoL x):=by
 have n1:∀ {k:Int} {t o x:Int},k=6∨k=7∨k=9∨k=10→NoL ⟨k,w,t,o,x⟩:=fun {k t o x} h =>by
  show k≠1∧k≠3∧k≠11∧k≠12; omega
 cases r with
 | q i hw l hl hn hh =>exact ⟨l,hl,.inl hn⟩
 | miss t u hw l hl hn hh ht =>exact ⟨l,hl,.inl hn⟩
 | j1 t u hw hl hu hh ht =>exact ⟨[],by rw [hl]; simp,.inl fun x hx =>by cases hx⟩
 | j3 t u hw hl hh ht =>exact ⟨_,hl,.inr ⟨_,rfl,n1 (by omega)⟩⟩
 | j4 t u hw hl hh ht =>exact ⟨[],by rw [hl]; simp,.inl fun x hx =>by cases hx⟩
 | ra t u T z hw l hl hn hh hz hT =>exact ⟨l,hl,.inl hn⟩
 | nx t u T z y hw hl hh hz =>exact ⟨[],by rw [hl]; simp,.inl fun x hx =>by cases hx⟩
 | se t u T z hw hl hh hz =>exact ⟨_,hl,.inr ⟨_,rfl,n1 (by omega)⟩⟩
 | re t hw hl ht hh =>exact ⟨_,hl,.inr ⟨_,rfl,n1 (by omega)⟩⟩
 | cl t hw h0 l hl hn hh ht =>exact ⟨l,hl,.inl hn⟩
 | fi t hw hl hh ht =>exact ⟨_,hl,.inr ⟨_,rfl,n1 (by omega)⟩⟩
theorem XR.ew (r:XR c e e' w v v' i i') {t:Int} (hn:ewt e.evs t=none) (h6:∀ u,v.2≠.b t u):ewt e'.evs t=none:=by
 have one:∀ {k x o y:Int},k≠6→ewt (e.evs++[⟨k,w,x,o,y⟩]) t=none:=fun {k x o y} hk =>by
  rw [aea,hn]; exact apW fun q =>hk q.2
 cases r with
 | q i hw l hl hn1 hh =>rw [hl,aeH hn1]; exact hn
 | miss _ u hw l hl hn1 hh ht =>rw [hl,aeH hn1]; exact hn
 | j1 _ u hw hl hu hh ht =>rw [hl]; exact hn
 | j3 x u hw hl hh ht =>
  rw [hl,ew6,abf fun q =>h6 u (by rw [q]; exact ht)]; exact hn
 | j4 _ u hw hl hh ht =>rw [hl]; exact hn
 | ra _ u T z hw l hl hn1 hh hz hT =>rw [hl,aeH hn1]; exact hn
 | nx _ u T z y hw hl hh hz =>rw [hl]; exact hn
 | se _ u T z hw hl hh hz =>rw [hl]; exact one (by omega)
 | re _ hw hl ht hh =>rw [hl]; exact one (by omega)
 | cl _ hw h0 l hl hn1 hh ht =>rw [hl,aeH hn1]; exact hn
 | fi _ hw hl hh ht =>rw [hl]; exact one (by omega)
theorem XR.wt (r:XR c e e' w v v' i i') (t:Int):Wt c e' t=Wt c e t∨Wt c e' t=0∨∃ u,Wt c e' t=u+1∧TOk c u∧anE e.evs u:=by
 cases r with
 | q i hw l hl hn hh =>exact .inl (hw t)
 | miss _ u hw l hl hn hh ht =>exact .inl (hw t)
 | j1 x u hw hl hu hh ht =>
  by_cases h:t=x
  ·subst h; exact .inr (.inr ⟨u,by rw [hw]; exact abe,hu⟩)
  ·exact .inl (by rw [hw]; exact abf h)
 | j3 _ u hw hl hh ht =>exact .inl (hw t)
 | j4 _ u hw hl hh ht =>exact .inl (hw t)
 | ra _ u T z hw l hl hn hh hz hT =>exact .inl (hw t)
 | nx _ u T z y hw hl hh hz =>exact .inl (hw t)
 | se _ u T z hw hl hh hz =>exact .inl (hw t)
 | re _ hw hl ht hh =>exact .inl (hw t)
 | cl x hw h0 l hl hn hh ht =>
  by_cases h:t=x
  ·subst h; exact .inr (.inl h0)
  ·exact .inl (hw t h)
 | fi _ hw hl hh ht =>exact .inl (hw t)
theorem aBc (g:ait c e.evs) (h0:Hol c e.evs) (h1:Hol c e'.evs) (hL:aKx e e') (r:XR c e e' w v v' i i'):ait c e'.evs:=by
 obtain ⟨l,hl,hL⟩:=hL
 obtain ⟨k,hk,hW⟩:=r.evs
 have e1:k=l:=List.append_cancel_left (hk.symm.trans hl)
 subst e1
 rw [hl] at h1 ⊢
 rcases hL with hL | ⟨a,x,b,rfl,ha,hb,hx,ho⟩
 ·rcases hW with hW | ⟨x,rfl,hx⟩
  ·exact g.no h0 hW hL
  ·exact g.one (aIR hx) h1
 ·rcases hW with hW | ⟨y,hy,hy2⟩
  ·exact g.mid h0 (fun z hz =>⟨hW z (by simp [hz]),ha z hz⟩) (fun z hz =>⟨hW z (by simp [hz]),hb z hz⟩) ho h1
  ·have:x∈a++x::b:=by simp
   rw [hy] at this
   rw [List.mem_singleton.1 this] at hx
   exact absurd hy2 hx
theorem aLJ (h:LI c e vs) {t u:Int} (hb:(vs m).2=.b t u):t ∉ (vs m).1:=fun k =>by
 obtain ⟨rl,ts,la⟩:=h
 have h1:=la.ph m
 rw [show (ai5 c e ts vs).ph m=_ from hb] at h1
 have h2:=(la.hd m t k).2
 rw [h1.2.1] at h2; cases h2
theorem XI.hx (h:XI c e vs pub xs) (hli:LI c e vs):HXw c e (vs m):=by
 refine ⟨h.wv,fun t ht hs =>(aAU hli ht hs).1,fun t k =>⟨(aAX hli k).1,(aAX hli k).2.1⟩,fun hn t ht x hx =>?_⟩
 have h0:Hd (vs m) t:=.inl ht
 rcases h.kd t (aAX hli h0).1.1 x hx with k | ⟨k,k2⟩
 ·exact .inl k
 rcases k2 with k2 | ⟨j,k2,k3⟩
 ·exact .inr ⟨k,k2⟩
 ·have:=aAW hli h0 (.inl k3)
  rw [← this,hn] at k2; cases k2
theorem XI.step (h:XI c e vs pub xs) (hi:MI c e) (hli:LI c e vs) {p':ak8} (T:Tr c e e' (pub m) p') (r:XR c e e' (m:Int) (vs m) v' (xs m) i') (hb:Bo c e e') (hk:KdR c e e' (vs m) v')
  (hlp:∀ t v b,p'=some (t,v,b)→v'.2=.p t) (hlj:∀ t u,i'=.j2 t u→Hd v' t):XI c e' (ahX vs m v') (ahX pub m p') (ahX xs m i'):=by
 obtain ⟨lx,hm,hL⟩:=h.lx.step hi hli h.lp hb rfl T
 obtain ⟨U,g⟩:=h.iv
 obtain ⟨l,hl,_⟩:=r.evs
 obtain ⟨U',g'⟩:=g.step h hli hm lx.a1 ⟨l,hl⟩ rfl r
 have an:∀ {t},anE e.evs t→anE e'.evs t:=fun {t} k =>by rw [hl]; exact aua k
 refine ⟨lx,fun t ht =>?_,fun t ht x hx =>?_,fun j t hj =>?_,fun t ht =>?_,aBc h.go (g.hol (h.lx.low hi)) (g'.hol (lx.low T.i)) hL r,⟨U',g'⟩,fun j t v b hj =>?_,fun j t u hj =>?_⟩
 ·rcases r.wt t with k | k | ⟨u,k,k2,k3⟩
  ·rcases h.wv t ht with q | ⟨u,q,q2,q3⟩
   ·exact .inl (k.trans q)
   ·exact .inr ⟨u,k.trans q,q2,an q3⟩
  ·exact .inl k
  ·exact .inr ⟨u,k,k2,an k3⟩
 ·rcases hk.1 t ht x hx with k | k | ⟨k,k2,k3⟩
  ·rcases h.kd t ht x k with q | ⟨q,q2⟩
   ·exact .inl q
   ·refine .inr ⟨q,?_⟩
    rcases q2 with q2 | ⟨j,q2,q3⟩
    ·exact .inl (an q2)
    ·by_cases hj:j=m
     ·subst hj
      rcases hk.2 x q2 with ⟨s1,s2⟩ | s | s
      ·exact .inr ⟨j,by rw [aay]; exact s1,by rw [aay,s2]; exact q3⟩
      ·exact .inl s
      ·rw [s] at q3; cases q3
     ·exact .inr ⟨j,by rw [abm hj]; exact q2,by rw [abm hj]; exact q3⟩
  ·exact .inl k
  ·exact .inr ⟨k,.inr ⟨m,by rw [aay]; exact k2,by rw [aay]; exact k3⟩⟩
 ·by_cases hjm:j=m
  ·subst hjm
   rw [aay] at hj
   have old:Hd (vs j) t→(∀ u,(vs j).2≠.b t u)→ewt e'.evs t=none:=fun k k2 =>r.ew (h.h1 j t k) k2
   have nb:∀ {i₀ i₁:Iv},XR c e e' (j:Int) (vs j) v' i₀ i₁→(∀ t u,i₀≠.j2 t u∨i₁≠.j4 t u)→Hd (vs j) t→ewt e'.evs t=none:=fun {i₀ i₁} r2 k2 k =>by
    have hn:=h.h1 j t k
    cases r2 with
    | j3 x u =>rcases k2 x u with q | q<;>exact absurd rfl q
    | q i hw l hl hn1 hh =>rw [hl,aeH hn1]; exact hn
    | miss _ u hw l hl hn1 hh ht =>rw [hl,aeH hn1]; exact hn
    | j1 _ u hw hl hu hh ht =>rw [hl]; exact hn
    | j4 _ u hw hl hh ht =>rw [hl]; exact hn
    | ra _ u T z hw l hl hn1 hh hz hT =>rw [hl,aeH hn1]; exact hn
    | nx _ u T z y hw hl hh hz =>rw [hl]; exact hn
    | se _ u T z hw hl hh hz =>rw [hl,aea,hn]; exact apW fun q =>by have q:(7:Int)=6:=q.2; omega
    | re _ hw hl ht hh =>rw [hl,aea,hn]; exact apW fun q =>by have q:(9:Int)=6:=q.2; omega
    | cl _ hw h0 l hl hn1 hh ht =>rw [hl,aeH hn1]; exact hn
    | fi _ hw hl hh ht =>rw [hl,aea,hn]; exact apW fun q =>by have q:(10:Int)=6:=q.2; omega
   have r2:=r
   generalize hx0:xs j=i₀ at r
   cases r with
   | q i hw l hl hn1 hh =>
    rcases hh t hj with k | ⟨⟨k1,k2⟩,k3⟩
    ·rw [hl,aeH hn1]; exact h.h1 j t k
    ·rw [hl,aeH hn1]; exact h.h2 t ((aAU hli k1 k2).2.2 k3)
   | j3 x u hw hl hh ht =>
    have k:=hh t hj
    have hxt:t≠x:=fun q =>aLJ hli ht (q▸k)
    rw [hl,ew6,abf hxt]; exact h.h1 j t (.inl k)
   | re x hw hl ht hh =>
    rcases hh t hj with k | k
    ·exact nb (hx0▸r2) (fun _ _ =>.inl fun q =>by cases q) k
    ·rw [hl,ew9,k,abe]
   | miss x u hw l hl hn1 hh ht =>exact nb (hx0▸r2) (fun _ _ =>.inr fun q =>by cases q) (hh t hj)
   | j1 x u hw hl hu hh ht =>exact nb (hx0▸r2) (fun _ _ =>.inl fun q =>by cases q) (hh t hj)
   | j4 x u hw hl hh ht =>exact nb (hx0▸r2) (fun _ _ =>.inl fun q =>by cases q) (hh t hj)
   | ra x u T z hw l hl hn1 hh hz hT =>exact nb (hx0▸r2) (fun _ _ =>.inl fun q =>by cases q) (hh t hj)
   | nx x u T z y hw hl hh hz =>exact nb (hx0▸r2) (fun _ _ =>.inl fun q =>by cases q) (hh t hj)
   | se x u T z hw hl hh hz =>exact nb (hx0▸r2) (fun _ _ =>.inl fun q =>by cases q) (hh t hj)
   | cl x hw h0 l hl hn1 hh ht =>exact nb (hx0▸r2) (fun _ _ =>.inl fun q =>by cases q) (hh t hj)
   | fi x hw hl hh ht =>exact nb (hx0▸r2) (fun _ _ =>.inl fun q =>by cases q) (hh t hj)
  ·rw [abm hjm] at hj
   refine r.ew (h.h1 j t hj) fun u q =>hjm ?_
   exact aAW hli hj (.inr (by rw [q]))
 ·have k0:ack kSn e.evs t=0:=by rw [hl,ab7] at ht; omega
  refine r.ew (h.h2 t k0) fun u q =>?_
  exact (aAX hli (.inr (by rw [q]):Hd (vs m) t)).2.2.2 k0
 ·by_cases hjm:j=m
  ·subst hjm; rw [aay] at hj ⊢; exact hlp t v b hj
  ·rw [abm hjm] at hj ⊢; exact h.lp j t v b hj
 ·by_cases hjm:j=m
  ·subst hjm; rw [aay] at hj ⊢; exact hlj t u hj
  ·rw [abm hjm] at hj ⊢; exact h.lj j t u hj
theorem aHY (hr:∀ t,0≤t→(e.rc t).kids=[]) (he:e.evs=[]) (hw:∀ t,Wt c e t=0):XI c e (fun _ =>([],.n)) (fun _ =>none) fun _ =>.n:=by
 have hv:viZ (fun _ =>Iv.n)=fun _ =>.n:=funext fun j =>by unfold viZ; split<;>rfl
 refine ⟨⟨fun t _ k =>?_,fun t _ =>(by rw [he]; rfl),fun m t v k =>(by cases k)⟩,fun t _ =>.inl (hw t),fun t h0 x hx =>(by rw [hr t h0] at hx; cases hx),fun m t k =>(by rw [he]; rfl),fun t _ =>(by rw [he]; rfl),(by rw [he]; exact aDR),⟨fun _ =>.no,⟨⟨fun t u m T k =>?_,fun t u T m k =>(by cases k),fun t u m k =>?_,fun t u k =>(by cases k),fun t u T k =>(by cases k),fun x u T k =>(by cases k),fun m t u T z r k =>?_,fun y _ =>rfl⟩,fun t k =>absurd rfl k,fun m t u k =>(by cases k),fun t u k =>(by cases k)⟩⟩,fun m t v b k =>(by cases k),fun m t u k =>(by cases k)⟩
 ·rw [he] at k; exact absurd rfl k
 ·replace k:ewt e.evs t=_:=k
  rw [he] at k; cases k
 ·replace k:ewt e.evs t=_:=k
  rw [he] at k; cases k
 ·replace k:viZ (fun _ =>Iv.n) m=_:=k
  rw [hv] at k; cases k
end
def asF:WalkS→Int
 | .l1 t =>t
 | .raise t _ =>t
 | .l2 t =>t
 | .push t _ =>t
 | .l4 t =>t
def azs:WalkS→Bool
 | .l1 _ =>false
 | .raise _ _ =>false
 | _ =>true
def viR (r:RunS):Iv:=match r.c with
 | .j2 =>.j2 (aas r.stack) r.child
 | .j3 =>.j2 (aas r.stack) r.child
 | .j4 =>.j4 (aas r.stack) r.child
 | .j5 s =>.j5 (aas r.stack) r.child r.level (asF s) (azs s)
 | _ =>.n
def viO:Rs RunS→Iv
 | .go r =>viR r
 | .fin _ _ =>.n
def Kn (c:Cfg) (l:List Ev) (t:Int):Prop:=TOk c t∧anE l t
def aHB (c:Cfg) (l:List Ev) (r:RunS):Prop:=match r.c with
 | .j2 =>Kn c l r.child
 | .j3 =>Kn c l r.child
 | .j4 =>Kn c l (aas r.stack)∧Kn c l r.child
 | .j5 s =>Kn c l (aas r.stack)∧(0≤r.level∧r.level<c.levels)∧Kn c l (asF s)
 | _ =>True
structure SX (c:Cfg) (e e':EnvP) (w:Int) (v v':Vw) (i i':Iv):Prop where
 r:XR c e e' w v v' i i'
 b:Bo c e e'
 k:KdR c e e' v v'
section
variable {c:Cfg} {e e':EnvP} {w:Int} {v v':Vw} {i i':Iv} {t u k x:Int}
theorem Kn.up {l:List Ev} (h:Kn c e.evs t) (hl:e'.evs=e.evs++l):Kn c e'.evs t:=⟨h.1,by rw [hl]; exact aua h.2⟩
theorem aeY (h:e'.evs=e.evs):Bo c e e':=fun t v q =>by
 obtain ⟨k,w,o,l,_,hl,_⟩:=q.ev
 rw [h] at hl
 have:=congrArg List.length hl
 simp at this
theorem ajS {k w t o v:Int} (h:e'.evs=e.evs++[⟨k,w,t,o,v⟩]) (hk:k≠11∧k≠12):Bo c e e':=fun t' v' q =>by
 obtain ⟨k',w',o',l,h1,hl,_⟩:=q.ev
 rw [h] at hl
 have:=List.append_cancel_left hl
 injection this with h2 h3
 injection h2 with h4
 omega
theorem acS (h:Qt c e e'):Bo c e e':=fun t v q =>by
 have h1:=q.up
 have h2:=q.now
 rw [h.lv] at h2
 omega
theorem afD (h:∀ t,0≤t→(e'.rc t).kids=(e.rc t).kids) (hp:∀ x,v.2≠.p x):KdR c e e' v v' :=
 ⟨fun t h0 x hx =>.inl (by rw [← h t h0]; exact hx),fun x k =>absurd k (hp x)⟩
theorem aon (h:∀ t,0≤t→(e'.rc t).kids=(e.rc t).kids):KdR c e e' v v :=
 ⟨fun t h0 x hx =>.inl (by rw [← h t h0]; exact hx),fun x k =>.inl ⟨k,rfl⟩⟩
theorem afa (h:e'.recs=e.recs):∀ t,0≤t→(e'.rc t).kids=(e.rc t).kids:=fun t _ =>by unfold EnvP.rc; rw [h]
theorem aqK {r:RecP} (ht:TOk c t) (hr:(e.recs.length:Int)=c.tasks) (hk:r.kids=(e.rc t).kids):∀ x,0≤x→((e.pr t r).rc x).kids=(e.rc x).kids:=fun x h0 =>by
 by_cases h:x=t
 ·rw [h,akm ht hr]; exact hk
 ·rw [aoT ht.1 h h0]
theorem axM (h:Qs c e e'):∃ l,e'.evs=e.evs++l∧∀ x∈l,NoW x:=by
 obtain ⟨l,hl,hn⟩:=h.ev
 exact ⟨l,hl,fun x hx =>by have:=hn x hx; show x.kind≠6∧x.kind≠7∧x.kind≠9∧x.kind≠10; omega⟩
theorem SX.q (h:Qs c e e') (hb:Bo c e e') (hh:∀ t,Hd v' t→Hd v t) (hp:∀ x,v.2≠.p x):SX c e e' w v v' i i:=by
 obtain ⟨l,hl,hn⟩:=axM h
 exact ⟨.q i h.wa l hl hn fun t k =>.inl (hh t k),hb,afD (afa h.rc) hp⟩
theorem SX.k0 (h:Qs c e e') (hb:Bo c e e'):SX c e e' w v v i i:=by
 obtain ⟨l,hl,hn⟩:=axM h
 exact ⟨.q i h.wa l hl hn fun t k =>.inl k,hb,aon (afa h.rc)⟩
theorem aFH (h:DecOk c):∀ x,Wt c (e.pt k (aa8 (aap c) t) u) x=Wt c e x:=fun x =>akO h (f:=3) (by omega) (by omega) (by omega)
theorem ayy (h:DecOk c) {o:Int} {f:Int} (hf:0≤f∧f<5) (hf3:f≠3):∀ y,Wt c (e.cas (ac0 (aap c) t f) o x) y=Wt c e y:=fun y =>akO h (f:=3) (by omega) hf (by omega)
theorem azo (h:DecOk c) (hl:(e.m.cells.length:Int)=aaL c) (ht:TOk c t):Wt c (e.pt k (adp (aap c) t) x) t=x:=ars h hl (f:=3) (by omega) ht
theorem azn (h:DecOk c) (ht:TOk c t) (hu:u≠t):Wt c (e.pt k (adp (aap c) t) x) u=Wt c e u:=atH h (f:=3) (by omega) ht hu
theorem ail:∀ x∈([]:List Ev),NoW x:=fun x hx =>by cases hx
theorem akA {k w t o v:Int} (h:k≠6∧k≠7∧k≠9∧k≠10):∀ x∈([⟨k,w,t,o,v⟩]:List Ev),NoW x:=fun x hx =>by rw [List.mem_singleton.1 hx]; exact h
theorem SX.st (h:MI c e) (hh:∀ t,Hd v' t→Hd v t) (hp:∀ x,v.2≠.p x):SX c e (e.pt k (aa8 (aap c) t) x) w v v' i i :=
 ⟨.q i (aFH h.d) [] (by show e.evs=_; simp) ail fun t k =>.inl (hh t k),aeY rfl,afD (afa rfl) hp⟩
theorem SX.pr {r:RecP} (ht:TOk c t) (hr:(e.recs.length:Int)=c.tasks) (hk:r.kids=(e.rc t).kids) (hh:∀ t,Hd v' t→Hd v t) (hp:∀ x,v.2≠.p x):SX c e (e.pr t r) w v v' i i :=
 ⟨.q i (fun _ =>rfl) [] (by show e.evs=_; simp) ail fun t k =>.inl (hh t k),aeY rfl,afD (aqK ht hr hk) hp⟩
theorem SX.claim (h:MI c e) (hr:(e.recs.length:Int)=c.tasks) (ht:TOk c t) (hp:∀ x,v.2≠.p x) (hv:acD t e=true→∀ y,Hd v' y→Hd v y∨y=t) (hv2:¬ acD t e=true→∀ y,Hd v' y→Hd v y):SX c e (aeW w t e) w v v' .n .n:=by
 have hw:∀ y,Wt c (e.cas (aa8 e.l t) 1 2) y=Wt c e y:=fun y =>by rw [h.l]; exact ayy h.d (f:=0) (by omega) (by omega) y
 unfold aeW
 by_cases hb:acD t e=true
 ·rw [if_pos hb]
  have hs:Stt c e t=1:=by
   have:=(avm (e:=e) (a:=aa8 e.l t) (o:=1) hb).1
   rw [h.l] at this; exact this
  by_cases hst:(e.rc t).started=true
  ·rw [if_pos hst]
   exact ⟨.re t hw rfl ⟨ht,hs⟩ (hv hb),ajS rfl (by omega),afD (afa rfl) hp⟩
  ·rw [if_neg hst]
   refine ⟨.q .n hw [⟨5,w,t,0,0⟩] rfl (akA (by omega)) fun y k =>?_,ajS rfl (by omega),afD (aqK (e:=e.cas (aa8 e.l t) 1 2) ht hr rfl) hp⟩
   rcases hv hb y k with q | q
   ·exact .inl q
   ·rw [q]; exact .inr ⟨⟨ht,hs⟩,by rw [aAa ht]; exact Bool.eq_false_iff.2 hst⟩
 ·rw [if_neg hb]
  exact ⟨.q .n hw [⟨15,w,t,0,0⟩] rfl (akA (by omega)) fun y k =>.inl (hv2 hb y k),ajS rfl (by omega),afD (afa rfl) hp⟩
def aEq (c:Cfg) (e:EnvP) (w v:Int) (t0 u:Int) (vw:Vw) (s:WalkS) (o:Rs WalkS×EnvP):Prop:=match o.1 with
 | .go s' =>SX c e o.2 w vw vw (.j5 t0 u v (asF s) (azs s)) (.j5 t0 u v (asF s') (azs s'))∧Kn c o.2.evs (asF s')
 | .fin _ _ =>azs s=true∧o.2.evs=e.evs∧(∀ t,Wt c o.2 t=Wt c e t)∧o.2.recs=e.recs∧Wt c e (asF s)=0
theorem aGc {z v t0 u:Int} {vw:Vw} (h:MI c e) (hz:Kn c e.evs z) (hv:0≤v∧v<c.levels) (s:RaiseS) (hs:aoH v s):match adZ w z v e s with
  | (.go _,e') =>SX c e e' w vw vw (.j5 t0 u v z false) (.j5 t0 u v z false)∧Kn c e'.evs z
  | (.fin _ _,e') =>SX c e e' w vw vw (.j5 t0 u v z false) (.j5 t0 u v z true)∧Kn c e'.evs z:=by
 have hl:=h.d.l
 have hf:¬ ¬ av5 e z v:=by unfold av5; rw [h.cc]; exact fun k =>k ⟨hz.1,hv⟩
 unfold adZ
 rw [if_neg hf,h.l]
 cases s with
 | l1 q =>
  have hg:=apS h z
  have e1:wi (Lv c e z)=Lv c e z:=aaC (aai (by omega))
  show (match ((if v≤wi (Lv c e z) then Rs.fin 0 0 else Rs.go (RaiseS.l2 (e.gt (aaW (aap c) z))),e.lk (aaW (aap c) z)):Rs RaiseS×EnvP) with
  | (.go _,e') =>_
  | (.fin _ _,e') =>_)
  rw [e1]
  by_cases hc:v≤Lv c e z
  ·rw [if_pos hc]
   exact ⟨⟨.ra t0 u v z (fun _ =>apx) [] (by show e.evs=_; simp) ail (fun _ k =>k) hz (by show v≤(e.lk _).gt _; rw [apx]; exact hc),aeY rfl,aon (afa rfl)⟩,hz⟩
  ·rw [if_neg hc]
   exact ⟨.k0 .lk (aeY rfl),hz⟩
 | l2 q =>
  have e2:wu v=v:=afo (by omega)
  simp only [e2]
  by_cases hh:e.hit (aaW (aap c) z) q=true
  ·rw [if_pos hh]
   have R:=asU (k:=11) (w:=w) (o:=0) h hz.1 hv hs hh (.inl rfl)
   refine ⟨⟨.ra t0 u v z (ayy h.d (f:=1) (by omega) (by omega)) [⟨11,w,z,0,v⟩] rfl (akA (by omega)) (fun _ k =>k) hz (by rw [R.now]; exact Int.le_refl _),fun t v' Q =>?_,aon (afa rfl)⟩,hz.up rfl⟩
   by_cases ht:t=z
   ·rw [ht]; exact hz.2
   ·have h1:=Q.up
    have h2:=Q.now
    rw [R.ot t ht] at h2
    omega
  ·rw [if_neg hh]
   exact ⟨.k0 (.cas h.d (ahm h.d)) (aeY rfl),hz⟩
theorem aH5 {v t0 u:Int} {vw:Vw} (h:MI c e) (hx:HXw c e vw) (hv:0≤v∧v<c.levels) (s:WalkS) (hs:ao8 c v s) (hz:Kn c e.evs (asF s)):aEq c e w v t0 u vw s (ae9 w v e s):=by
 have g:∀ z s,Kn c e.evs z→aoH v s→aEq c e w v t0 u vw (.raise z s) (match adZ w z v e s with
   | (.go s,e') =>(Rs.go (WalkS.raise z s),e')
   | (.fin c _,e') =>(.go (if c=1 then .l2 z else .l4 z),e')):=fun z s hz hs =>by
  have:=aGc (w:=w) (t0:=t0) (u:=u) (vw:=vw) h hz hv s hs
  revert this
  rcases adZ w z v e s with ⟨r,e'⟩
  cases r with
  | go s' =>exact id
  | fin c0 v0 =>
   intro this
   show aEq c e w v t0 u vw (.raise z s) (.go (if c0=1 then .l2 z else .l4 z),e')
   split<;>exact this
 cases s with
 | l1 z =>
  have hf:¬ ¬ av5 e z v:=by unfold av5; rw [h.cc]; exact fun k =>k ⟨hz.1,hv⟩
  simp only [ae9]
  rw [if_neg hf]
  exact g z (.l1 0) hz trivial
 | raise z s =>exact g z s hz hs.2
 | l2 z =>
  simp only [ae9]
  split<;>exact ⟨.k0 .lk (aeY rfl),hz⟩
 | push z s =>
  have h1:=ajh (w:=w) (v:=v) h hs.1 s hs.2
  have h2:=akC (w:=w) (v:=v) (x:=z) h s hs.2
  simp only [ae9]
  revert h1 h2
  rcases abL w v z e s with ⟨r,e'⟩
  intro h1 h2
  cases r with
  | go s' =>
   obtain ⟨l,hl,_⟩:=h2.ev
   exact ⟨.k0 h2 (acS h1.1),hz.up hl⟩
  | fin c0 v0 =>
   show aEq c e w v t0 u vw (.push z s) (.go (.l4 z),if c0=3 then e'.em 19 w z 0 v else e')
   split
   ·have h3:=h2.em (k:=19) (w:=w) (t:=z) (o:=0) (l:=v) (by omega)
    obtain ⟨l,hl,_⟩:=h3.ev
    exact ⟨.k0 h3 (acS (h1.1.em hs.1 (by omega))),hz.up hl⟩
   ·obtain ⟨l,hl,_⟩:=h2.ev
    exact ⟨.k0 h2 (acS h1.1),hz.up hl⟩
 | l4 z =>
  simp only [ae9]
  rw [h.l]
  by_cases hc:e.gt (adp (aap c) z)=0
  ·rw [if_pos hc]
   exact ⟨rfl,rfl,fun _ =>apx,rfl,hc⟩
  ·rw [if_neg hc]
   rcases hx.wv z hz.1 with k | ⟨y,k,k2,k3⟩
   ·exact absurd k hc
   ·have ht:=h.d.t
    have k2':0≤y∧y<c.tasks:=k2
    have k':e.gt (adp (aap c) z)=y+1:=k
    have e1:wi (wu (e.gt (adp (aap c) z)-1))=y:=by
     rw [k',show y+1-1=y by omega,afo (by omega),aaC (aai (by omega))]
    rw [e1]
    exact ⟨⟨.nx t0 u v z y (fun _ =>apx) rfl (fun _ k =>k) k,aeY rfl,aon (afa rfl)⟩,k2,k3⟩
end
section
variable {c:Cfg} {e e':EnvP} {w:Int} {v v':Vw} {i i':Iv} {t u k x:Int}
def aCe (c:Cfg) (e:EnvP) (w:Int) (v:Vw) (i:Iv) (o:Rs RunS×EnvP):Prop:=SX c e o.2 w v (vwO o.1) i (viO o.1)∧o.1.Q (aHB c o.2.evs) fun _ _ =>True
theorem aCe.ite {P:Prop} [Decidable P] {a b:Rs RunS×EnvP} (h1:P→aCe c e w v i a) (h2:¬ P→aCe c e w v i b):aCe c e w v i (if P then a else b):=by
 split
 ·exact h1 ‹_›
 ·exact h2 ‹_›
theorem ara {r:RunS} (h:SX c e e' w v (r.stack.dropLast,.n) i .n):aCe c e w v i (aha r e'):=by
 unfold aha aCe
 by_cases h1:r.stack.length=1
 ·rw [if_pos h1]
  have:r.stack.dropLast=[]:=List.eq_nil_of_length_eq_zero (by rw [List.length_dropLast]; omega)
  rw [this] at h
  exact ⟨h,trivial⟩
 ·rw [if_neg h1]
  exact ⟨h,trivial⟩
theorem aCo {l:List Int} {t:Int}:Hd (l,.n) t↔t∈l:=⟨fun h =>h.elim id False.elim,.inl⟩
theorem ayb {l:List Int} (h:t∈l.dropLast):t∈l:=List.dropLast_subset l h
theorem ap9 (hd:DecOk c):∀ x,Wt c (abr e) x=Wt c e x:=fun x =>by
 show (e.pt 6 0 _).gt _=_
 rw [aio,if_neg]
 intro k
 have:=aur hd (t:=x) (f:=3) (by omega) (by omega) (show 0≤adp (aap c) x by omega)
 rw [show ac0 (aap c) x 3=_ from k.1,ae4] at this
 omega
theorem aI7 {r:RunS} (h:MI c e) (hl:(e.m.cells.length:Int)=aaL c) (hrl:(e.recs.length:Int)=c.tasks) (hx:HXw c e (r.stack,.n)) (hc:r.c=.next) (hs:r.stack≠[]) (htop:aas r.stack=t):aCe c e w (r.stack,.n) .n (arW w e r t (e.rc t) (e.prog (e.rc t))):=by
 have hp:vwR r=(r.stack,.n):=by unfold vwR; rw [hc]
 have hi:viR r=.n:=by unfold viR; rw [hc]
 have hg:∀ l,aHB c l r:=fun l =>by unfold aHB; rw [hc]; trivial
 have hin:t∈r.stack:=htop▸aqo hs
 have ht:TOk c t:=(hx.hd t (.inl hin)).1
 have np:∀ x,((r.stack,Ph.n):Vw).2≠.p x:=fun x k =>by cases k
 have hgo:∀ {e':EnvP},SX c e e' w (r.stack,.n) (r.stack,.n) .n .n→aCe c e w (r.stack,.n) .n (.go r,e'):=fun {e'} h =>⟨by show SX c e e' w _ (vwR r) _ (viR r); rw [hp,hi]; exact h,hg _⟩
 unfold arW
 rw [h.l]
 refine .ite (fun _ =>hgo ?_) fun _ =>?_
 ·exact ⟨.cl t (fun x hx =>azn h.d ht hx) (azo h.d hl ht) [] (by show e.evs=_; simp) ail (fun _ k =>k) (.inl hin),aeY rfl,afD (aqK (e:=e.pt 2 (adp (aap c) t) 0) ht hrl rfl) np⟩
 refine .ite (fun _ =>⟨SX.st h (fun x k =>?_) np,trivial⟩) fun _ =>?_
 ·rcases k with k | k
  ·exact .inl (ayb k)
  ·have k:aas r.stack=x:=k
   exact .inl (by rw [← k]; exact aqo hs)
 refine .ite (fun _ =>hgo (.pr ht hrl avB (fun _ k =>k) np)) fun _ =>?_
 refine .ite (fun _ =>?_) fun _ =>?_
 ·refine .ite (fun hn =>⟨⟨?_,aeY rfl,?_⟩,trivial⟩) fun hn =>hgo ⟨?_,?_,?_⟩
  ·exact .q .n (ap9 h.d) [] (by show e.evs=_; simp) ail fun x k =>.inl (k.elim .inl False.elim)
  ·have hn:TOk c (wi (e.gt 0)):=by unfold IsT at hn; rw [h.cc] at hn; exact hn
   refine ⟨fun y h0 z hz =>?_,fun x k =>by cases k⟩
   by_cases hy:y=wi (e.gt 0)
   ·rw [hy,akm (e:=(abr e).pr t _) hn (by show ((e.recs.set _ _).length:Int)=_; rw [List.length_set]; exact hrl)] at hz
    cases hz
   ·rw [aoT hn.1 hy h0] at hz
    by_cases hyt:y=t
    ·rw [hyt,akm (e:=abr e) ht hrl] at hz
     rcases List.mem_append.1 hz with k | k
     ·exact .inl (by rw [hyt]; exact k)
     ·rw [List.mem_singleton.1 k]
      exact .inr (.inr ⟨hn,rfl,by rw [hyt]; exact hin⟩)
    ·rw [aoT ht.1 hyt h0] at hz
     exact .inl hz
  ·exact .q .n (ap9 h.d) [⟨4,w,t,0,0⟩] rfl (akA (by omega)) fun x k =>.inl k
  ·exact ajS rfl (by omega)
  ·refine ⟨fun y h0 z hz =>?_,fun x k =>by cases k⟩
   by_cases hyt:y=t
   ·replace hz:z∈(((abr e).pr t _).rc y).kids:=hz
    rw [hyt,akm (e:=abr e) ht hrl] at hz
    rcases List.mem_append.1 hz with k | k
    ·exact .inl (by rw [hyt]; exact k)
    ·exact .inr (.inl (List.mem_singleton.1 k))
   ·replace hz:z∈(((abr e).pr t _).rc y).kids:=hz
    rw [aoT ht.1 hyt h0] at hz
    exact .inl hz
 ·refine .ite (fun _ =>hgo (.pr ht hrl rfl (fun _ k =>k) np)) fun hk =>?_
  have hkm:ady (e.rc t).kids (acl (e.prog (e.rc t)) (e.rc t).pc).a∈(e.rc t).kids:=ar2 (α:=Int) (d:=(dfR 1:TR 1)) (by omega)
  have hkn:¬ ady (e.rc t).kids (acl (e.prog (e.rc t)) (e.rc t).pc).a=-1:=fun q =>hk (.inr (.inr q))
  revert hkm hkn
  generalize ady (e.rc t).kids (acl (e.prog (e.rc t)) (e.rc t).pc).a=kid
  intro hkm hkn
  have hkid:Kn c e.evs kid:=(hx.kd rfl t hin kid hkm).resolve_left hkn
  have h1:=h.d.t
  have h2:0≤kid∧kid<c.tasks:=hkid.1
  have e1:wu (wi (kid+1))=kid+1:=by rw [aaC (x:=kid+1) (aai (by omega)),afo (by omega)]
  rw [e1]
  refine ⟨⟨?_,aeY rfl,afD (aqK (e:=e.pt 2 (adp (aap c) t) (kid+1)) ht hrl rfl) np⟩,hkid⟩
  show XR c e _ w (r.stack,.n) (r.stack,.j (aas r.stack) kid) .n (.j2 (aas r.stack) kid)
  rw [htop]
  refine .j1 t kid (fun x =>?_) rfl hkid (fun x k =>?_) (.inl hin)
  ·by_cases hxt:x=t
   ·rw [hxt,abe]; exact azo h.d hl ht
   ·rw [abf hxt]; exact azn h.d ht hxt
  ·rcases k with k | k
   ·exact .inl k
   ·have k:t=x:=k
    exact .inl (by rw [← k]; exact hin)
theorem aKF {r:RunS} (h:MI c e) (hl:(e.m.cells.length:Int)=aaL c) (hrl:(e.recs.length:Int)=c.tasks) (hr:aHC c r) (hs:r.stack≠[]) (hx:HXw c e (vwR r)) (hX:aHB c e.evs r):aCe c e w (vwR r) (viR r) (aui w e r):=by
 unfold aui
 have hin:=aqo hs
 refine .ite (fun ht =>?_) fun ht =>?_
 ·have nt:¬ TOk c (aas r.stack):=by unfold IsT at ht; rw [h.cc] at ht; exact ht
  have nh:¬ Hd (vwR r) (aas r.stack):=fun k =>nt (hx.hd _ k).1
  obtain ⟨stack,id,child,level,waiter,k⟩:=r
  have ab:∀ {v:Vw} {i:Iv},i=.n→(∀ x,v.2≠.p x)→aCe c e w v i (Rs.fin 4 0,e):=fun {v i} hi hp =>by
   subst hi
   exact ⟨SX.q .refl (aeY rfl) (fun x k =>by rcases k with k | k<;>cases k) hp,trivial⟩
  have nin:aas stack∈stack:=hin
  cases k with
  | next =>exact absurd (.inl nin) nh
  | s2 s =>exact absurd (.inl nin) nh
  | s3 s =>exact absurd (.inl nin) nh
  | s4 s =>exact absurd (.inl nin) nh
  | s5 =>exact absurd (.inl nin) nh
  | j2 =>exact absurd (.inl nin) nh
  | j3 =>exact absurd (.inr rfl) nh
  | j4 =>exact absurd hX.1.1 nt
  | j5 s =>exact absurd hX.1.1 nt
  | j6 =>exact ab rfl fun x k =>by cases k
  | j7 =>exact absurd (.inl nin) nh
  | f2 =>exact ab rfl fun x k =>by cases k
  | f3 =>exact ab rfl fun x k =>by cases k
  | f4 s =>exact ab rfl fun x k =>by cases s<;>cases k
  | f5 v s =>exact ab rfl fun x k =>by cases k
  | f6 =>exact ab rfl fun x k =>by cases k
 replace ht:IsT e (aas r.stack):=Classical.not_not.1 ht
 unfold IsT at ht
 rw [h.cc] at ht
 obtain ⟨stack,id,child,level,waiter,k⟩:=r
 replace ht:TOk c (aas stack):=ht
 replace hs:stack≠[]:=hs
 replace hin:aas stack∈stack:=hin
 have hst:=axs hs
 have ht2:0≤aas stack∧aas stack<c.tasks:=ht
 have htt:=h.d.t
 have hlv:=h.d.l
 show aCe c e w _ _ (aeB w e _ (aas stack))
 have np:∀ {l:List Int} {p:Ph},(∀ x,p≠.p x)→∀ x,((l,p):Vw).2≠.p x:=fun h =>h
 have nn:∀ x,Ph.n≠.p x:=fun x k =>by cases k
 cases k with
 | next =>exact aI7 h hl hrl hx rfl hs rfl
 | s2 s =>
  obtain ⟨h1,h2⟩:=hr
  simp only [aeB,afA]
  have hi:¬ ¬ IsT e id:=by unfold IsT; rw [h.cc]; exact fun h =>h h1
  rw [if_neg hi,h.l]
  cases s with
  | l1 =>exact ⟨.k0 (.wr h.d (ahm h.d)) (aeY rfl),trivial⟩
  | l2 =>exact ⟨.k0 (.since h.d) (aeY rfl),trivial⟩
  | l3 =>
   refine ⟨⟨.q .n (aFH h.d) [⟨3,w,id,aas stack,level⟩] rfl (akA (by omega)) fun x k =>.inl (.inl (aCo.1 k)),ajS rfl (by omega),fun t h0 x hx =>.inl hx,fun x k =>?_⟩,trivial⟩
   have k:Ph.p id=.p x:=k
   cases k
   exact .inr (.inl (aFg (.inr rfl)))
 | s3 s =>
  have h1:=akC (w:=w) (v:=level) (x:=id) h s hr.2
  have h2:=ajh (w:=w) (v:=level) h hr.1 s hr.2
  simp only [aeB]
  revert h1 h2
  rcases abL w level id e s with ⟨o,e'⟩
  intro h1 h2
  cases o with
  | go s =>exact ⟨.k0 h1 (acS h2.1),trivial⟩
  | fin c0 v0 =>
   simp only
   split
   ·exact ⟨.k0 h1 (acS h2.1),trivial⟩
   ·exact ⟨.k0 h1 (acS h2.1),trivial⟩
 | s4 s =>
  have h1:=amq (w:=w) (v:=level) h s
  have h2:=amr (w:=w) (v:=level) h s
  simp only [aeB]
  revert h1 h2
  rcases aej w level e s with ⟨o,e'⟩
  intro h1 h2
  cases o with
  | go s =>exact ⟨.k0 h1 (acS h2),trivial⟩
  | fin c0 v0 =>exact ⟨.k0 h1 (acS h2),trivial⟩
 | s5 =>
  simp only [aeB]
  have g:∀ {v':Vw},(acD id e=true→∀ y,Hd v' y→Hd (stack,.n) y∨y=id)→(¬ acD id e=true→∀ y,Hd v' y→Hd (stack,.n) y)→SX c e (aeW w id e) w (stack,.n) v' .n .n:=fun a b =>.claim h hrl hr nn a b
  split
  ·rename_i hb
   exact ⟨g (fun _ y k =>(List.mem_append.1 (aCo.1 k)).imp .inl fun q =>List.mem_singleton.1 q) (fun q =>absurd hb q),trivial⟩
  ·rename_i hb
   exact ⟨g (fun q =>absurd q hb) fun _ y k =>k,trivial⟩
 | j2 =>
  simp only [aeB]
  rw [h.l]
  refine ⟨SX.st h (fun x k =>?_) (fun x k =>by cases k),hX⟩
  rcases k with k | k
  ·exact .inl (ayb k)
  ·have k:aas stack=x:=k
   exact .inl (by rw [← k]; exact hin)
 | j3 =>
  simp only [aeB]
  rw [h.l]
  have e1:wu (wi (aas stack+1))=aas stack+1:=by rw [aaC (x:=aas stack+1) (aai (by omega)),afo (by omega)]
  rw [e1]
  have kn:Kn c e.evs (aas stack):=hx.hd _ (.inr rfl)
  have hw:=ayy (c:=c) (e:=e) (t:=child) (x:=aas stack+1) (o:=0) h.d (f:=2) (by omega) (by omega)
  refine .ite (fun hb =>⟨⟨?_,ajS rfl (by omega),afD (afa rfl) (fun x k =>by cases k)⟩,kn.up rfl,hX.up rfl⟩) fun hb =>⟨⟨?_,aeY rfl,afD (afa rfl) (fun x k =>by cases k)⟩,trivial⟩
  ·exact .j3 (aas stack) child hw rfl (fun x k =>aCo.1 k) rfl
  ·exact .miss (aas stack) child hw [] (by show e.evs=_; simp) ail (fun x k =>k) (.inr rfl)
 | j4 =>
  simp only [aeB]
  rw [h.l]
  have hg:=apS h (aas stack)
  have e1:wi (Lv c e (aas stack))=Lv c e (aas stack):=aaC (aai (by omega))
  replace e1:wi (e.gt (aaW (aap c) (aas stack)))=Lv c e (aas stack):=e1
  rw [e1]
  exact ⟨⟨.j4 (aas stack) child (fun _ =>apx) rfl (fun _ k =>k) hX.1,aeY rfl,aon (afa rfl)⟩,hX.1,hg,hX.2⟩
 | j5 s =>
  obtain ⟨x1,x2,x3⟩:=hX
  have:=aH5 (w:=w) (t0:=aas stack) (u:=child) h hx x2 s hr x3
  simp only [aeB]
  revert this
  rcases ae9 w level e s with ⟨o,e'⟩
  intro this
  cases o with
  | go s' =>
   have kn:Kn c e'.evs (aas stack):=by
    obtain ⟨l,hl,_⟩:=this.1.r.evs
    exact x1.up hl
   exact ⟨this.1,kn,x2,this.2⟩
  | fin c0 v0 =>
   obtain ⟨a1,a2,a3,a4,a5⟩:=this
   have a2:e'.evs=e.evs:=a2
   refine ara ⟨?_,ajS (k:=7) (w:=w) (t:=aas stack) (o:=0) (v:=level) (by show e'.evs++_=_; rw [a2]) (by omega),afD (afa a4) (fun x k =>by cases k)⟩
   show XR c e _ w _ _ (.j5 (aas stack) child level (asF s) (azs s)) .n
   rw [a1]
   exact .se (aas stack) child level (asF s) a3 (by show e'.evs++_=_; rw [a2]) (fun x k =>k) a5
 | j6 =>
  simp only [aeB]
  rw [h.l]
  refine ⟨SX.st h (fun x k =>?_) (fun x k =>by cases k),trivial⟩
  have k:=aCo.1 k
  rw [← hst] at k
  rcases List.mem_append.1 k with k | k
  ·exact .inl k
  ·exact .inr (List.mem_singleton.1 k).symm
 | j7 =>
  simp only [aeB]
  rw [h.l]
  exact ⟨⟨.cl (aas stack) (fun x hx =>azn h.d ht hx) (azo h.d hl ht) [⟨8,w,aas stack,child,0⟩] rfl (akA (by omega)) (fun x k =>k) (.inl hin),ajS rfl (by omega),afD (aqK (e:=e.pt 2 (adp (aap c) (aas stack)) 0) ht hrl rfl) nn⟩,trivial⟩
 | f2 =>
  simp only [aeB]
  rw [h.l]
  have hw:=ayy (c:=c) (e:=e) (t:=aas stack) (x:=4294967296) (o:=0) h.d (f:=2) (by omega) (by omega)
  refine .ite (fun hb =>ara ⟨?_,ajS rfl (by omega),afD (afa rfl) (fun x k =>by cases k)⟩) fun hb =>⟨⟨?_,ajS rfl (by omega),afD (afa rfl) (fun x k =>by cases k)⟩,trivial⟩
  ·exact .fi (aas stack) hw rfl (fun x k =>.inl (aCo.1 k)) (.inr rfl)
  ·exact .fi (aas stack) hw rfl (fun x k =>.inl (k.elim (fun q =>q) False.elim)) (.inr rfl)
 | f3 =>
  simp only [aeB]
  rw [h.l]
  refine .ite (fun hn =>⟨.q .lk (aeY rfl) (fun x k =>.inl (k.elim (fun q =>q) False.elim)) (fun x k =>by cases k),trivial⟩) fun _ =>ara (.q .lk (aeY rfl) (fun x k =>.inl (aCo.1 k)) (fun x k =>by cases k))
 | f4 s =>
  obtain ⟨h1,h2⟩:=hr
  have h1:TOk c waiter:=h1
  have hi:¬ ¬ IsT e waiter:=by unfold IsT; rw [h.cc]; exact fun h =>h h1
  simp only [aeB]
  cases s with
  | l1 =>
   simp only [ad1]
   rw [if_neg hi,h.l]
   exact ⟨.q (.since h.d) (aeY rfl) (fun x k =>.inl (k.elim (fun q =>q) False.elim)) (fun x k =>by cases k),trivial⟩
  | l2 =>
   simp only [ad1]
   rw [h.l]
   exact ⟨SX.st h (fun x k =>.inl (aCo.1 k)) (fun x k =>by cases k),trivial⟩
  | l3 =>exact ⟨.q .lk (aeY rfl) (fun x k =>k) nn,trivial⟩
  | l4 v0 s =>
   have q1:=akC (w:=w) (v:=v0) (x:=waiter) h s h2
   have q2:=ajh (w:=w) (v:=v0) h h1 s h2
   simp only [ad1]
   revert q1 q2
   rcases abL w v0 waiter e s with ⟨o,e'⟩
   intro q1 q2
   cases o with
   | go s =>exact ⟨.q q1 (acS q2.1) (fun x k =>k) nn,trivial⟩
   | fin c0 v1 =>
    simp only
    split
    ·exact ⟨.q q1 (acS q2.1) (fun x k =>k) nn,trivial⟩
    ·exact ⟨.q q1 (acS q2.1) (fun x k =>k) nn,trivial⟩
 | f5 v0 s =>
  have q1:=amq (w:=w) (v:=v0) h s
  have q2:=amr (w:=w) (v:=v0) h s
  simp only [aeB]
  revert q1 q2
  rcases aej w v0 e s with ⟨o,e'⟩
  intro q1 q2
  cases o with
  | go s =>exact ⟨.q q1 (acS q2) (fun x k =>k) nn,trivial⟩
  | fin c0 v0 =>exact ara (.q q1 (acS q2) (fun x k =>k) nn)
 | f6 =>
  simp only [aeB]
  have g:∀ {v':Vw},(acD waiter e=true→∀ y,Hd v' y→Hd (stack.dropLast,.n) y∨y=waiter)→(¬ acD waiter e=true→∀ y,Hd v' y→Hd (stack.dropLast,.n) y)→SX c e (aeW w waiter e) w (stack.dropLast,.n) v' .n .n:=fun a b =>.claim h hrl hr nn a b
  refine .ite (fun hb =>⟨g (fun _ y k =>(List.mem_append.1 (aCo.1 k)).imp .inl fun q =>List.mem_singleton.1 q) (fun q =>absurd hb q),trivial⟩) fun hb =>ara (g (fun q =>absurd q hb) fun _ y k =>k)
end
end
end Go.Proofs.YteapeojalliebaaGreat
