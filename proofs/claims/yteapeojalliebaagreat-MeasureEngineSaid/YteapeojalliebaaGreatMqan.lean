/- The program's machines do what was said plainly,1: memory,cells,words,the machines that run none inside. The program's machines do what was said plainly,2: probing. What a step of the program's machines leaves of the environment: at most one access,few events,records of the same number. The program's machines do what was said plainly,3: the machines that run others inside. The program's machines do what was said plainly: a sweep. The program's machines do what was said plainly,4: a drain. The program's machines do what was said plainly,5: running a task: parts. The program's machines do what was said plainly,6: running a task: lines. -/
import Derived.Test.YteapeojalliebaaGreatMqam
set_option linter.all false
namespace Go.Proofs.YteapeojalliebaaGreat
section
open Go Go.RowKit
set_option maxRecDepth 100000
theorem aAg {α : Type} {d : α} {xs : List α} {a : Int} {x : α} (h : 0 ≤ a ∧ a < (xs.length : Int)) : atL d (xs.set a.toNat x) a = x := by
 have : a.toNat < xs.length := by omega
 simp [atL,this]
theorem ajC {cs : List Int} {a x : Int} (h : 0 ≤ a ∧ a < (cs.length : Int)) : ae7 (cs.set a.toNat x) a = x := aAg h
theorem aF3 {x : Int} (h : ¬ x < 1) (h2 : x ≤ 9223372036854775807) : wu x ≠ 0 := by
 simp only [wu,IntKind.wrap,IntKind.bits,IntKind.signed]
 simp
 omega
theorem aF4 (a : Int) : 0 ≤ wu a ∧ wu a ≤ 18446744073709551615 := by
 simp only [wu,IntKind.wrap,IntKind.bits,IntKind.signed]
 simp
 omega
section
variable {m : MemV} {a o v : Int}
theorem abA : acA m a = some ((m.gt a,()),(m.pt 1 a (m.gt a),())) := by
 unfold acA MemV.gt MemV.pt
 by_cases h : 0 ≤ a ∧ a < (m.cells.length : Int)
 ·have h1 : ¬ a < 0 := by omega
  have h2 : ¬ ((m.cells.length : Nat) : Int) ≤ a := by omega
  simp only [h1,h2,h,and_self,if_true,if_false,List.length_set,ajC h]
 ·by_cases h1 : a < 0
  ·simp only [h1,h,if_true,if_false]
  ·have h2 : ((m.cells.length : Nat) : Int) ≤ a := by omega
   simp only [h1,h2,h,if_true,if_false]
theorem abr : aa4 m a v = some ((),(m.pt 2 a v,())) := by
 unfold aa4 MemV.pt
 by_cases h : 0 ≤ a ∧ a < (m.cells.length : Int)
 ·have h1 : ¬ a < 0 := by omega
  have h2 : ¬ ((m.cells.length : Nat) : Int) ≤ a := by omega
  simp only [h1,h2,h,and_self,if_true,if_false,List.length_set,ajC h]
 ·by_cases h1 : a < 0
  ·simp only [h1,h,if_true,if_false]
  ·have h2 : ((m.cells.length : Nat) : Int) ≤ a := by omega
   simp only [h1,h2,h,if_true,if_false]
theorem ajd : as3 m a o v = some ((m.hit a o,()),(m.cas a o v,())) := by
 unfold as3 MemV.hit MemV.cas MemV.pt MemV.gt
 by_cases h : 0 ≤ a ∧ a < (m.cells.length : Int)
 ·have h1 : ¬ a < 0 := by omega
  have h2 : ¬ ((m.cells.length : Nat) : Int) ≤ a := by omega
  by_cases hc : ae7 m.cells a = o
  ·simp only [h1,h2,h,hc,and_self,if_true,if_false,List.length_set,ajC h]
  ·simp only [h1,h2,h,hc,and_self,if_true,if_false,List.length_set,ajC h,and_false]
 ·by_cases h1 : a < 0
  ·simp only [h1,h,if_true,if_false,false_and,decide_false]
  ·have h2 : ((m.cells.length : Nat) : Int) ≤ a := by omega
   simp only [h1,h2,h,if_true,if_false,false_and,decide_false]
theorem awg : pOr m a v = some ((m.gt a,()),(m.pt 4 a (orU (m.gt a) v),())) := by
 unfold pOr MemV.gt MemV.pt
 by_cases h : 0 ≤ a ∧ a < (m.cells.length : Int)
 ·have h1 : ¬ a < 0 := by omega
  have h2 : ¬ ((m.cells.length : Nat) : Int) ≤ a := by omega
  simp only [h1,h2,h,and_self,if_true,if_false,List.length_set,ajC h]
 ·by_cases h1 : a < 0
  ·simp only [h1,h,if_true,if_false]
  ·have h2 : ((m.cells.length : Nat) : Int) ≤ a := by omega
   simp only [h1,h2,h,if_true,if_false]
theorem apc : aCQ m a v = some ((m.gt a,()),(m.pt 5 a (aos (m.gt a) v),())) := by
 unfold aCQ MemV.gt MemV.pt
 by_cases h : 0 ≤ a ∧ a < (m.cells.length : Int)
 ·have h1 : ¬ a < 0 := by omega
  have h2 : ¬ ((m.cells.length : Nat) : Int) ≤ a := by omega
  simp only [h1,h2,h,and_self,if_true,if_false,List.length_set,ajC h]
 ·by_cases h1 : a < 0
  ·simp only [h1,h,if_true,if_false]
  ·have h2 : ((m.cells.length : Nat) : Int) ≤ a := by omega
   simp only [h1,h2,h,if_true,if_false]
theorem arL : aFN m a v = some ((m.gt a,()),(m.pt 6 a (wu (m.gt a + v)),())) := by
 unfold aFN MemV.gt MemV.pt
 by_cases h : 0 ≤ a ∧ a < (m.cells.length : Int)
 ·have h1 : ¬ a < 0 := by omega
  have h2 : ¬ ((m.cells.length : Nat) : Int) ≤ a := by omega
  simp only [h1,h2,h,and_self,if_true,if_false,List.length_set,ajC h]
 ·by_cases h1 : a < 0
  ·simp only [h1,h,if_true,if_false]
  ·have h2 : ((m.cells.length : Nat) : Int) ≤ a := by omega
   simp only [h1,h2,h,if_true,if_false]
end
theorem amL {a n : Int} : aAB a n = some ((arT a n,()),()) := by
 unfold aAB arT
 by_cases h : n < 1
 ·rw [if_pos h,if_pos h]
 ·rw [if_neg h,if_neg h,if_pos (show n ≠ 0 by omega)]
  split <;> rfl
theorem aBB {k : ClkV} {n : Int} : aBC k n = some ((avm k n,()),(k,())) := by
 unfold aBC avm arT
 by_cases h : n < 1
 ·rw [if_pos h,if_pos h]
 ·rw [if_neg h,if_neg h,if_pos (show n ≠ 0 by omega)]
  split <;> rfl
theorem amM {n : Int} : aAC n = some ((aAG n,()),()) := by
 unfold aAC aAG
 rw [if_pos (aF4 n).1]
 split
 ·rfl
 ·split <;> rfl
theorem arI {q : QV} {i : Int} (h : q.cap ≤ 9223372036854775807) : au0 q i = some ((agY q i,()),()) := by
 unfold au0 agY
 by_cases h1 : q.cap < 1
 ·rw [if_pos h1,if_pos h1]
 ·rw [if_neg h1,if_neg h1,if_pos (aF3 h1 h)]
theorem aof {b t : Int} : auW b t = some ((szP b t,()),()) := rfl
theorem aqJ {i n a w : Int} : pAt i n a w = some ((atP i n a w,()),()) := by
 unfold pAt atP
 split
 ·rfl
 ·split <;> rfl
theorem alq {l : LayV} {t f : Int} : atC l t f = some ((acP l t f,()),()) := by unfold atC; rw [aqJ]; rfl
theorem ad0 {l : LayV} {t : Int} : adT l t = some ((aaV l t,()),()) := by unfold adT; rw [alq]; rfl
theorem afT {l : LayV} {t : Int} : afc l t = some ((abO l t,()),()) := by unfold afc; rw [alq]; rfl
theorem ai8 {l : LayV} {t : Int} : aiy l t = some ((akm l t,()),()) := by unfold aiy; rw [alq]; rfl
theorem alo {l : LayV} {t : Int} : ai6 l t = some ((aeJ l t,()),()) := by unfold ai6; rw [alq]; rfl
theorem arF {l : LayV} {t : Int} : anU l t = some ((acO l t,()),()) := by unfold anU; rw [alq]; rfl
theorem awf {l : LayV} {t : Int} : anT l t = some ((aeC l t,()),()) := by unfold anT; rw [aqJ]; rfl
theorem alt {l : LayV} {t : Int} : aqH l t = some ((afd l t,()),()) := by unfold aqH; rw [aqJ]; rfl
theorem aha {l : LayV} {t : Int} : agP l t = some ((ahx l t,()),()) := by unfold agP; rw [aqJ]; rfl
theorem aeM {l : LayV} {t : Int} : ahk l t = some ((aaC l t,()),()) := by unfold ahk; rw [aqJ]; rfl
theorem aja {l : LayV} {w v : Int} : agQ l w v = some ((aaq l w v,()),()) := by
 unfold agQ aaq
 simp only [aqJ,Option.bind_some]
 split
 ·rfl
 ·split <;> rfl
theorem aBu {d a t : Int} : aBv d a t = some (((amH d a t).1,(amH d a t).2,()),()) := by
 unfold aBv amH
 repeat' split
 all_goals rfl
theorem atF {l n c : Int} : atG l n c = some ((az5 l n c,()),()) := by
 unfold atG az5
 by_cases h : n < 1
 ·rw [if_pos h,if_pos h]
 ·rw [if_neg h,if_neg h,if_pos (show n ≠ 0 by omega)]
  repeat' split
  all_goals rfl
theorem aIt (a : Int) : 0 ≤ IntKind.u8.wrap a ∧ IntKind.u8.wrap a < 256 := by
 simp only [IntKind.wrap,IntKind.bits,IntKind.signed]
 simp
 omega
theorem awk {x : Int} : ag0 x = some ((ar6 x,()),()) := by
 have h : ∃ y,ag0 x = some ((y,()),()) := by
  have hs : ((aiU.size : Nat) : Int) = 256 := rfl
  unfold ag0
  simp only [hs,aIt,and_self,if_true]
  repeat' split
  all_goals exact ⟨_,rfl⟩
 obtain ⟨y,hy⟩ := h
 unfold ar6
 rw [hy]
theorem ay0 [Tb] {x : Int} : aH9 x = some ((aIK x,()),()) := by
 unfold aH9 aIK
 split <;> rfl
theorem acd {e : EnvP} {v : Ev} (h : e.evs.length ≤ 999999999) : aef e v = some ((),({ e with evs := e.evs ++ [v] },())) := by
 unfold aef
 rw [if_pos (by rw [List.length_singleton]; omega)]
@[reducible] def o0 : OutV := ⟨false,0,0⟩
@[reducible] def awr (q : QV) (v : Int) : OPushS → OPushV
 | .l1 =>⟨o0,q,v,1,0⟩
 | .l2 b =>⟨o0,q,v,2,b⟩
 | .l3 b =>⟨o0,q,v,3,b⟩
 | .l4 b =>⟨o0,q,v,4,b⟩
@[reducible] def aBE (q : QV) : OPopS → OPopV
 | .l1 =>⟨o0,q,1,0,0⟩
 | .l2 b =>⟨o0,q,2,b,0⟩
 | .l3 b t =>⟨o0,q,3,b,t⟩
 | .l4 b t =>⟨o0,q,4,b,t⟩
 | .l5 b t =>⟨o0,q,5,b,t⟩
 | .l6 b t =>⟨o0,q,6,b,t⟩
 | .l7 b t =>⟨o0,q,7,b,t⟩
 | .l8 b t =>⟨o0,q,8,b,t⟩
 | .l9 b t =>⟨o0,q,9,b,t⟩
@[reducible] def avU (q : QV) : StealS → StealV
 | .l1 =>⟨o0,q,1,0,0⟩
 | .l2 t =>⟨o0,q,2,t,0⟩
 | .l3 t =>⟨o0,q,3,t,0⟩
 | .l4 t v =>⟨o0,q,4,t,v⟩
@[reducible] def atr (a b : Int) (q : QV) : ResetS → ResetV
 | .l1 =>⟨o0,a,b,q,1,0⟩
 | .l2 =>⟨o0,a,b,q,2,0⟩
 | .l3 x =>⟨o0,a,b,q,3,x⟩
 | .l4 x =>⟨o0,a,b,q,4,x⟩
@[reducible] def alh (t v : Int) : PublishS → PublishV
 | .l1 =>⟨o0,t,v,1⟩
 | .l2 =>⟨o0,t,v,2⟩
 | .l3 =>⟨o0,t,v,3⟩
@[reducible] def ar4 (d t : Int) : InsertS → InsertV
 | .l1 =>⟨o0,d,t,1,0,0,0,0⟩
 | .l2 n =>⟨o0,d,t,2,n,0,0,0⟩
 | .l3 n i k x =>⟨o0,d,t,3,n,i,k,x⟩
 | .l4 n i k x =>⟨o0,d,t,4,n,i,k,x⟩
 | .l5 n i k x =>⟨o0,d,t,5,n,i,k,x⟩
 | .l6 n i k x =>⟨o0,d,t,6,n,i,k,x⟩
@[reducible] def arq (w : Int) : RemoveS → RemoveV
 | .l1 =>⟨o0,w,1,0,0,0,0,0,0⟩
 | .l2 n =>⟨o0,w,2,n,0,0,0,0,0⟩
 | .l3 n x =>⟨o0,w,3,n,0,0,x,0,0⟩
 | .l4 n x y =>⟨o0,w,4,n,0,0,x,y,0⟩
 | .l5 n i c x y z =>⟨o0,w,5,n,i,c,x,y,z⟩
 | .l6 n i c x y z =>⟨o0,w,6,n,i,c,x,y,z⟩
 | .l7 n i c x y z =>⟨o0,w,7,n,i,c,x,y,z⟩
 | .l8 n i c x y z =>⟨o0,w,8,n,i,c,x,y,z⟩
@[reducible] def atb (w v : Int) : WakeS → WakeV
 | .l1 j =>⟨o0,w,v,1,j,0⟩
 | .l2 j x =>⟨o0,w,v,2,j,x⟩
 | .l3 j x =>⟨o0,w,v,3,j,x⟩
@[reducible] def ath (w : Int) : SleepS → SleepV
 | .l1 =>⟨o0,w,1,0,0,0⟩
 | .l2 ep =>⟨o0,w,2,ep,0,0⟩
 | .l3 ep =>⟨o0,w,3,ep,0,0⟩
 | .l4 ep v =>⟨o0,w,4,ep,v,0⟩
 | .l5 ep v s =>⟨o0,w,5,ep,v,s⟩
 | .l6 ep v s =>⟨o0,w,6,ep,v,s⟩
 | .l7 ep v s =>⟨o0,w,7,ep,v,s⟩
@[reducible] def alk (w : Int) : ProbeS → ProbeV
 | .new =>⟨o0,w,false,0,0,aIj⟩
 | .run s i bm =>⟨o0,w,true,s,i,bm⟩
@[reducible] def atx (w t v : Int) : RaiseS → RaiseV
 | .l1 q =>⟨o0,w,t,v,1,q⟩
 | .l2 q =>⟨o0,w,t,v,2,q⟩
def aaX {σ X : Type} (og : X → OutV) (mk : σ → X) (res : Option ((Bool × Unit) × (X × EnvP × Unit))) (r : Rs σ × EnvP) : Prop :=
 match r with
 | (.go s,e) =>res = some ((false,()),(mk s,e,()))
 | (.fin c v,e) =>∃ x,res = some ((true,()),(x,e,())) ∧ og x = ⟨true,c,v⟩
section
variable {σ X : Type} {og : X → OutV} {mk : σ → X} {a b : Option ((Bool × Unit) × (X × EnvP × Unit))} {r s : Rs σ × EnvP}
theorem aaX.ite {c : Prop} [Decidable c] (h1 : c → aaX og mk a r) (h2 : ¬ c → aaX og mk b s) : aaX og mk (if c then a else b) (if c then r else s) := by
 by_cases h : c
 ·rw [if_pos h,if_pos h]; exact h1 h
 ·rw [if_neg h,if_neg h]; exact h2 h
theorem aaX.iteN {c : Bool} (h1 : c = true → aaX og mk b r) (h2 : c = false → aaX og mk a s) : aaX og mk (if (!c) = true then a else b) (if c = true then r else s) := by
 cases c
 ·exact h2 rfl
 ·exact h1 rfl
theorem aaX.iteL {c : Prop} [Decidable c] (h1 : c → aaX og mk a r) (h2 : ¬ c → aaX og mk b r) : aaX og mk (if c then a else b) r := by
 by_cases h : c
 ·rw [if_pos h]; exact h1 h
 ·rw [if_neg h]; exact h2 h
theorem aa1 {c : Prop} [Decidable c] {x y : Rs σ} {e : EnvP} : ((if c then x else y),e) = if c then (x,e) else (y,e) := by split <;> rfl
theorem at2 {c : Prop} [Decidable c] {x y : σ} : Rs.go (if c then x else y) = if c then Rs.go x else Rs.go y := by split <;> rfl
end
theorem ach {α β : Type} {c : Prop} [Decidable c] {x y : Option α} {f : α → Option β} : (if c then x else y).bind f = if c then x.bind f else y.bind f := by split <;> rfl
section
variable {e : EnvP}
theorem atJ {q : QV} {v : Int} (hq : q.cap ≤ 9223372036854775807) (s : OPushS) : aaX OPushV.o (awr q v) (adu (awr q v s) e) (aem q v e s) := by
 cases s <;> simp only [adu,awr,aem,aax,abe,o0,abA,abr,aof,arI hq,Option.bind_some,Bool.false_eq_true,if_true,if_false,reduceIte,Int.reduceEq,aa1]
 all_goals repeat' first | with_reducible refine aaX.ite (fun _ =>?_) fun _ =>?_ | with_reducible refine aaX.iteN (fun _ =>?_) fun _ =>?_
 all_goals first | rfl | exact ⟨_,rfl,rfl⟩
theorem aBD {q : QV} (hq : q.cap ≤ 9223372036854775807) (s : OPopS) : aaX OPopV.o (aBE q) (ad1 (aBE q s) e) (alv q e s) := by
 cases s <;> simp only [ad1,ahl,aBE,alv,aax,abe,o0,abA,abr,ajd,aof,arI hq,Option.bind_some,Bool.false_eq_true,if_true,if_false,reduceIte,Int.reduceEq,aa1,ach]
 all_goals repeat' first | with_reducible refine aaX.ite (fun _ =>?_) fun _ =>?_ | with_reducible refine aaX.iteN (fun _ =>?_) fun _ =>?_
 all_goals first | rfl | exact ⟨_,rfl,rfl⟩
theorem ayh {q : QV} (hq : q.cap ≤ 9223372036854775807) (s : StealS) : aaX StealV.o (avU q) (ac6 (avU q s) e) (ag5 q e s) := by
 cases s <;> simp only [ac6,avU,ag5,aax,abe,o0,abA,abr,ajd,aof,arI hq,Option.bind_some,Bool.false_eq_true,if_true,if_false,reduceIte,Int.reduceEq,aa1]
 all_goals repeat' first | with_reducible refine aaX.ite (fun _ =>?_) fun _ =>?_ | with_reducible refine aaX.iteN (fun _ =>?_) fun _ =>?_
 all_goals first | rfl | exact ⟨_,rfl,rfl⟩
theorem atq {a b : Int} {q : QV} (s : ResetS) : aaX ResetV.o (atr a b q) (acJ (atr a b q s) e) (aeW a b q e s) := by
 cases s <;> simp only [acJ,atr,aeW,aax,abe,o0,abA,abr,apc,awg,amM,aof,Option.bind_some,Bool.false_eq_true,if_true,if_false,reduceIte,Int.reduceEq,aa1]
 all_goals repeat' first | with_reducible refine aaX.ite (fun _ =>?_) fun _ =>?_ | with_reducible refine aaX.iteN (fun _ =>?_) fun _ =>?_
 all_goals first | rfl | exact ⟨_,rfl,rfl⟩
theorem aDU {a b : Int} : ∃ x,ady ⟨o0,a,b⟩ e = some ((true,()),(x,aCH a b e,())) ∧ x.o = ⟨true,0,0⟩ := by
 simp only [ady,aax,abe,o0,awg,amM,Option.bind_some,Bool.false_eq_true,if_true,if_false]
 exact ⟨_,rfl,rfl⟩
theorem ajl {t : Int} : afq e t = some ((decide (IsT e t),()),(e,())) := by
 unfold afq IsT
 by_cases h : 0 ≤ t
 ·simp only [h,if_true,true_and]
 ·simp only [h,if_false,false_and,decide_false]
theorem ask {t v : Int} : ajz e t v = some ((decide (ax0 e t v),()),(e,())) := by
 unfold ajz ax0
 by_cases h : 0 ≤ t
 ·by_cases h2 : t < e.c.tasks
  ·by_cases h3 : 0 ≤ v
   ·simp only [h,h2,h3,if_true,true_and]
   ·simp only [h,h2,h3,if_true,if_false,false_and,and_false,decide_false]
  ·simp only [h,h2,if_true,if_false,false_and,and_false,decide_false]
 ·simp only [h,if_false,false_and,decide_false]
theorem aur : ∃ x,abZ ⟨o0⟩ e = some ((true,()),(x,abV e,())) ∧ x.o = if IsT e (wi (e.gt 0)) then ⟨true,1,wi (e.gt 0)⟩ else ⟨true,3,0⟩ := by
 simp only [abZ,aax,abe,aBx,o0,arL,ajl,Option.bind_some,Bool.false_eq_true,if_true,if_false]
 by_cases h : IsT e (wi (e.gt 0))
 ·have h' : IsT { e with m := e.m.pt 6 0 (wu (e.m.gt 0 + 1)) } (wi (e.m.gt 0)) := h
  simp only [h,h',decide_true,Bool.not_true,Bool.false_eq_true,if_true,if_false]
  exact ⟨_,rfl,rfl⟩
 ·have h' : ¬ IsT { e with m := e.m.pt 6 0 (wu (e.m.gt 0 + 1)) } (wi (e.m.gt 0)) := h
  simp only [h,h',decide_false,Bool.not_false,if_true,if_false]
  exact ⟨_,rfl,rfl⟩
theorem auT {t v : Int} (s : PublishS) : aaX PublishV.o (alh t v) (abN (alh t v s) e) (aeX t v e s) := by
 by_cases h : IsT e t
 ·cases s <;> simp only [abN,alh,aeX,ajl,h,not_true,decide_true,Bool.not_true,aax,abe,arD,o0,abr,afT,ai8,ad0,Option.bind_some,Bool.false_eq_true,if_true,if_false,reduceIte,Int.reduceEq]
  all_goals first | rfl | exact ⟨_,rfl,rfl⟩
 ·cases s <;> simp only [abN,alh,aeX,ajl,h,not_false_eq_true,decide_false,Bool.not_false,aax,abe,o0,Option.bind_some,Bool.false_eq_true,if_true,if_false]
  all_goals exact ⟨_,rfl,rfl⟩
theorem arW {w : Int} {b : Bool} : ∃ d x,acH ⟨o0,w,b⟩ e = some ((d,()),(x,ahL w e,())) ∧ (d = true → x.o = if e.hit 1 0 = true then ⟨true,1,0⟩ else ⟨true,5,0⟩) ∧ (d = (e.hit 1 0 || b)) ∧ (d = false → x = ⟨o0,w,b⟩) := by
 simp only [acH,aax,abe,ay1,o0,ajd,Option.bind_some,Bool.false_eq_true,if_true,if_false]
 rcases Bool.eq_false_or_eq_true (e.m.hit 1 0) with h | h
 ·simp only [h,if_true]; exact ⟨_,_,rfl,(fun _ =>rfl),rfl,(fun h =>by cases h)⟩
 ·cases b
  ·simp only [h,Bool.false_eq_true,if_false]; exact ⟨_,_,rfl,(fun h =>by cases h),rfl,fun _ =>rfl⟩
  ·simp only [h,Bool.false_eq_true,if_false,if_true]; exact ⟨_,_,rfl,(fun _ =>rfl),rfl,(fun h =>by cases h)⟩
theorem awH : ∃ x,acG ⟨o0⟩ e = some ((true,()),(x,aif e,())) ∧ x.o = ⟨true,0,0⟩ := by
 simp only [acG,aax,abe,ay1,o0,abr,Option.bind_some,Bool.false_eq_true,if_true,if_false]
 exact ⟨_,rfl,rfl⟩
theorem al3 {w t : Int} (hl : e.evs.length ≤ 999999999) (hr : e.hit (aaV e.l t) 1 = true → 0 ≤ t ∧ t < (e.recs.length : Int)) : ∃ x,ac7 ⟨o0,w,t⟩ e = some ((true,()),(x,afg w t e,())) ∧ x.o = if aer t e = true then ⟨true,1,t⟩ else ⟨true,4,0⟩ := by
 simp only [ac7,aax,abe,o0,ajd,ad0,Option.bind_some,Bool.false_eq_true,if_true,if_false]
 unfold afg aer
 simp only [EnvP.hit] at hr ⊢
 rcases Bool.eq_false_or_eq_true (e.m.hit (aaV e.l t) 1) with h | h
 ·simp only [h,Bool.not_true,Bool.false_eq_true,if_true,if_false,hr h,and_self]
  by_cases hs : (aab e.recs t).started = true
  ·have hs' : (e.rc t).started = true := hs
   simp only [hs,hs',if_true,acd (e := { e with m := e.m.cas (aaV e.l t) 1 2 }) hl,Option.bind_some]
   exact ⟨_,rfl,rfl⟩
  ·have hs' : ¬ (e.rc t).started = true := hs
   simp only [hs,hs',if_false,acd (e := { e with m := e.m.cas (aaV e.l t) 1 2,recs := e.recs.set t.toNat { aab e.recs t with started := true } }) hl,Option.bind_some]
   exact ⟨_,rfl,rfl⟩
 ·simp only [h,Bool.not_false,Bool.false_eq_true,if_true,if_false,acd (e := { e with m := e.m.cas (aaV e.l t) 1 2 }) hl,Option.bind_some]
  exact ⟨_,rfl,rfl⟩
theorem aqR {d t : Int} (s : InsertS) : aaX InsertV.o (ar4 d t) (abJ (ar4 d t s) e) (abH d t e s) := by
 cases s <;> simp only [abJ,adw,atA,ar4,abH,aax,abe,agl,arK,o0,abA,abr,arL,awf,aBu,Option.bind_some,Bool.false_eq_true,if_true,if_false,reduceIte,Int.reduceEq,aa1,ach,at2]
 all_goals repeat' first | with_reducible refine aaX.ite (fun _ =>?_) fun _ =>?_ | with_reducible refine aaX.iteN (fun _ =>?_) fun _ =>?_
 all_goals first | rfl | exact ⟨_,rfl,rfl⟩
theorem axr {w : Int} (hl : e.evs.length ≤ 999999999) (s : RemoveS) : aaX RemoveV.o (arq w) (abI (arq w s) e) (acp w e s) := by
 have hm : ∀ m v,aef { e with m := m } v = some ((),({ e with m := m,evs := e.evs ++ [v] },())) := fun m v =>acd (e := { e with m := m }) hl
 cases s <;> simp only [abI,aeE,ac2,acM,ab8,auh,axL,arq,acp,aax,abe,agl,auV,o0,abA,abr,awf,hm,Option.bind_some,Bool.false_eq_true,if_true,if_false,reduceIte,Int.reduceEq,aa1,ach,at2]
 all_goals repeat' first | with_reducible refine aaX.ite (fun _ =>?_) fun _ =>?_ | with_reducible refine aaX.iteN (fun _ =>?_) fun _ =>?_
 all_goals first | rfl | exact ⟨_,rfl,rfl⟩ | skip
 refine aaX.iteL (fun h =>?_) fun h =>?_
 ·rw [if_pos h]
  exact aaX.ite (fun _ =>rfl) fun _ =>rfl
 ·rw [if_neg h]
  exact aaX.ite (fun _ =>rfl) fun _ =>rfl
theorem atw {w t v : Int} (hl : e.evs.length ≤ 999999999) (s : RaiseS) : aaX RaiseV.o (atx w t v) (acv (atx w t v s) e) (adB w t v e s) := by
 have hm : ∀ m v,aef { e with m := m } v = some ((),({ e with m := m,evs := e.evs ++ [v] },())) := fun m v =>acd (e := { e with m := m }) hl
 by_cases h : ax0 e t v
 ·cases s <;> simp only [acv,atx,adB,ask,h,not_true,decide_true,Bool.not_true,aax,abe,o0,abA,ajd,afT,hm,Option.bind_some,Bool.false_eq_true,if_true,if_false,reduceIte,Int.reduceEq,aa1]
  all_goals repeat' first | with_reducible refine aaX.ite (fun _ =>?_) fun _ =>?_ | with_reducible refine aaX.iteN (fun _ =>?_) fun _ =>?_
  all_goals first | rfl | exact ⟨_,rfl,rfl⟩
 ·cases s <;> simp only [acv,atx,adB,ask,h,not_false_eq_true,decide_false,Bool.not_false,aax,abe,o0,Option.bind_some,Bool.false_eq_true,if_true,if_false]
  all_goals exact ⟨_,rfl,rfl⟩
theorem ayp {w : Int} (hl : e.evs.length ≤ 999999999) (s : SleepS) : aaX SleepV.o (ath w) (acZ (ath w s) e) (aeL w e s) := by
 have hm : ∀ m k v,aef { e with m := m,k := k } v = some ((),({ e with m := m,k := k,evs := e.evs ++ [v] },())) := fun m k v =>acd (e := { e with m := m,k := k }) hl
 by_cases hc : e.c.classes < 1
 ·cases s <;> simp only [acZ,ags,agq,ath,aeL,ag6,hc,aax,abe,arD,agl,o0,abA,awg,apc,amM,amL,alt,aha,aeM,hm,Option.bind_some,Bool.false_eq_true,if_true,if_false,reduceIte,Int.reduceEq,aa1,ach]
  all_goals repeat' first | with_reducible refine aaX.ite (fun _ =>?_) fun _ =>?_ | with_reducible refine aaX.iteN (fun _ =>?_) fun _ =>?_
  all_goals first | rfl | exact ⟨_,rfl,rfl⟩
 ·cases s <;> simp only [acZ,ags,agq,ath,aeL,ag6,hc,aax,abe,arD,agl,o0,abA,awg,apc,amM,amL,alt,aha,aeM,hm,Option.bind_some,Bool.false_eq_true,if_true,if_false,reduceIte,Int.reduceEq,aa1,ach]
  all_goals repeat' first | with_reducible refine aaX.ite (fun _ =>?_) fun _ =>?_ | with_reducible refine aaX.iteN (fun _ =>?_) fun _ =>?_
  all_goals first | rfl | exact ⟨_,rfl,rfl⟩
theorem akV [Tb] {w v : Int} (hl : e.evs.length ≤ 999999999) (s : WakeS) : aaX WakeV.o (atb w v) (adm (atb w v s) e) (ado w v e s) := by
 have hm : ∀ m v,aef { e with m := m } v = some ((),({ e with m := m,evs := e.evs ++ [v] },())) := fun m v =>acd (e := { e with m := m }) hl
 by_cases hc : e.c.classes < 1
 ·cases s <;> simp only [adm,atb,ado,akW,hc,aax,abe,ay0,o0,abA,arL,apc,amM,amL,atF,alt,aha,hm,Option.bind_some,Bool.false_eq_true,if_true,if_false,reduceIte,Int.reduceEq,aa1,ach,decide_eq_true_eq]
  all_goals repeat' first | with_reducible refine aaX.ite (fun _ =>?_) fun _ =>?_ | with_reducible refine aaX.iteN (fun _ =>?_) fun _ =>?_
  all_goals first | rfl | exact ⟨_,rfl,rfl⟩
 ·cases s <;> simp only [adm,atb,ado,akW,hc,aax,abe,ay0,o0,abA,arL,apc,amM,amL,atF,alt,aha,hm,Option.bind_some,Bool.false_eq_true,if_true,if_false,reduceIte,Int.reduceEq,aa1,ach,decide_eq_true_eq]
  all_goals repeat' first | with_reducible refine aaX.ite (fun _ =>?_) fun _ =>?_ | with_reducible refine aaX.iteN (fun _ =>?_) fun _ =>?_
  all_goals first | rfl | exact ⟨_,rfl,rfl⟩
end
section
variable {e : EnvP}
theorem ayW {x : ProbeV} {n : Int} (hn : 1 ≤ n) : ael x n = some ((decide (n ≤ amF x.worker n x.start x.next),()),({ x with next := amF x.worker n x.start x.next },())) := by
 unfold ael amF
 have h0 : n ≠ 0 := by omega
 by_cases h : x.next < n
 ·by_cases h2 : Int.tmod (wi (x.start + x.next)) n = x.worker
  ·simp only [h,h0,h2,ne_eq,not_false_eq_true,if_true,decide_true,Option.bind_some,and_self]
  ·simp only [h,h0,h2,ne_eq,not_false_eq_true,if_true,decide_false,Option.bind_some,and_false,if_false,Bool.false_eq_true]
 ·simp only [h,false_and,if_false,Option.bind_some,Bool.false_eq_true]
theorem avb (h : 1 ≤ e.c.workers) : 1 ≤ ab2 e ∧ ab2 e ≤ 16 := by
 unfold ab2
 split <;> omega
theorem ax9 {a n : Int} (hn : 1 ≤ n) (ha : 0 ≤ a) : 0 ≤ Int.tmod a n ∧ Int.tmod a n < n := by
 rw [Int.tmod_eq_emod_of_nonneg ha]
 exact ⟨Int.emod_nonneg _ (by omega),Int.emod_lt_of_pos _ (by omega)⟩
theorem ayU {w s : Int} {n : Int} (hn : 1 ≤ n ∧ n ≤ 16) (hs : 0 ≤ s ∧ s ≤ 100) (st : Int) (hst : arT st n = s) (x : ProbeV) (hx : x.start = st) (F : (Int × Int × Int × ProbeV × Unit → Option (Int × Int × Int × ProbeV × Unit)) → Int × Int × Int × ProbeV × Unit → Option (Int × Int × Int × ProbeV × Unit))
  (hF : ∀ self a b i,0 ≤ i → i ≤ 16 → F self (a,b,i,x,()) = if i < n then (if Int.tmod (wi (s + i)) n ≠ w ∧ b < ar6 (x.bm.at (Int.tmod (wi (s + i)) n)) then self (Int.tmod (wi (s + i)) n,ar6 (x.bm.at (Int.tmod (wi (s + i)) n)),wi (i + 1),x,()) else self (a,b,wi (i + 1),x,())) else some (a,b,i,x,())) :
  ∀ (k fuel : Nat) (i a b : Int),0 ≤ i → (i + (k : Int) = n) → k < fuel → lpF F fuel (a,b,i,x,()) = some ((axu w n s x.bm k i (a,b)).1,(axu w n s x.bm k i (a,b)).2,n,x,()) := by
 intro k
 induction k with
 | zero =>
  intro fuel i a b h0 hi hf
  obtain ⟨fuel,rfl⟩ : ∃ f,fuel = f + 1 := ⟨fuel - 1,by omega⟩
  show F (lpF F fuel) _ = _
  rw [hF _ _ _ _ h0 (by omega),if_neg (by omega)]
  have : i = n := by omega
  subst this
  rfl
 | succ k ih =>
  intro fuel i a b h0 hi hf
  obtain ⟨fuel,rfl⟩ : ∃ f,fuel = f + 1 := ⟨fuel - 1,by omega⟩
  show F (lpF F fuel) _ = _
  rw [hF _ _ _ _ h0 (by omega),if_pos (by omega)]
  have e1 : wi (i + 1) = i + 1 := aaF (aan (by omega))
  rw [e1]
  unfold axu
  split
  ·exact ih fuel (i + 1) _ _ (by omega) (by omega) (by omega)
  ·exact ih fuel (i + 1) _ _ (by omega) (by omega) (by omega)
theorem aaX.bind {σ X α : Type} {og : X → OutV} {mk : σ → X} {r : Rs σ × EnvP} {A : Option α} {f : α → Option ((Bool × Unit) × (X × EnvP × Unit))} {z : α} (h : A = some z) (h2 : aaX og mk (f z) r) : aaX og mk (A.bind f) r := by rw [h]; exact h2
theorem aAf {α β : Type} {A : Option α} {f : α → Option β} {z : α} (h : A = some z) : A.bind f = f z := by rw [h]; rfl
theorem aaX.ite' {σ X : Type} {og : X → OutV} {mk : σ → X} {a b : Option ((Bool × Unit) × (X × EnvP × Unit))} {r s : Rs σ × EnvP} {c : Prop} [Decidable c] (h1 : c → aaX og mk b r) (h2 : ¬ c → aaX og mk a s) : aaX og mk (if (!decide c) = true then a else b) (if c then r else s) := by
 by_cases h : c
 ·rw [if_pos h,decide_eq_true h]; exact h1 h
 ·rw [if_neg h,decide_eq_false h]; exact h2 h
def anh (n : Int) : ProbeS → Prop
 | .new =>True
 | .run s i _ =>(0 ≤ s ∧ s < n) ∧ 0 ≤ i ∧ i ≤ n
theorem azl {a n : Int} (hn : 1 ≤ n ∧ n ≤ 1000000) : 0 ≤ arT a n ∧ arT a n < n := by
 unfold arT
 rw [if_neg (by omega)]
 have h1 : -n < Int.tmod a n := Int.lt_tmod_of_pos a (b := n) (by omega)
 have h2 : Int.tmod a n < n := Int.tmod_lt_of_pos a (b := n) (by omega)
 split
 ·rw [aaF (aan (by omega))]; omega
 ·omega
theorem aEJ {s n : Int} (h : 0 ≤ s ∧ s < n) : arT s n = s := by
 unfold arT
 rw [if_neg (by omega)]
 have e1 : Int.tmod s n = s := Int.tmod_eq_of_lt h.1 h.2
 rw [e1,if_neg (by omega)]
theorem arz {w n s i : Int} (hi : 0 ≤ i ∧ i ≤ n) (hn : n ≤ 16) : i ≤ amF w n s i ∧ amF w n s i ≤ n := by
 unfold amF
 split
 ·rw [aaF (aan (by omega))]; omega
 ·omega
theorem aJq {v : Int} (h : 0 ≤ v ∧ v < 16) : v = 15 ∨ v = 14 ∨ v = 13 ∨ v = 12 ∨ v = 11 ∨ v = 10 ∨ v = 9 ∨ v = 8 ∨ v = 7 ∨ v = 6 ∨ v = 5 ∨ v = 4 ∨ v = 3 ∨ v = 2 ∨ v = 1 ∨ v = 0 := by omega
theorem atz {w s i : Int} {bm : B16} (hw : 1 ≤ e.c.workers) (h : anh (ab2 e) (.run s i bm)) : aaX ProbeV.o (alk w) (abj (alk w (.run s i bm)) e) (ag9 w e s i bm) := by
 obtain ⟨hs,hi⟩ := h
 have hn := avb hw
 have hM : (if 16 < e.c.workers then 16 else e.c.workers) = ab2 e := rfl
 have hp := arz (w := w) (s := s) hi hn.2
 unfold abj ag9
 simp only [alk,aax,o0,hM,Option.bind_some,Bool.false_eq_true,if_false,Bool.not_true,ayW hn.1,decide_eq_true_eq,abe]
 refine aaX.ite (fun _ =>⟨_,rfl,rfl⟩) fun hlt =>?_
 generalize hj : amF w (ab2 e) s i = j at hp hlt ⊢
 have hsj : wi (s + j) = s + j := aaF (aan (by omega))
 have hv := ax9 (a := s + j) hn.1 (by omega)
 have hj1 : wi (j + 1) = j + 1 := aaF (aan (by omega))
 rw [if_pos (show ab2 e ≠ 0 by omega),hsj,hj1]
 generalize hvv : Int.tmod (s + j) (ab2 e) = v at hv ⊢
 have hp2 := arz (w := w) (s := s) (i := j + 1) ⟨by omega,by omega⟩ hn.2
 simp only [aeM,abA,Option.bind_some]
 refine aaX.bind (z := (⟨⟨false,0,0⟩,w,true,s,j,bm.put v (e.m.gt (aaC e.l v))⟩,{ e with m := e.m.pt 1 (aaC e.l v) (e.m.gt (aaC e.l v)) },())) ?_ ?_
 ·rcases aJq (v := v) (by omega) with h | h | h | h | h | h | h | h | h | h | h | h | h | h | h | h <;> subst h <;> rfl
 simp only [hj1,ayW hn.1,Option.bind_some]
 generalize hj2 : amF w (ab2 e) s (j + 1) = j2 at hp2 ⊢
 refine aaX.ite' (c := ab2 e ≤ j2) (fun h2 =>?_) (fun h2 =>?_)
 ·simp only [if_true,if_pos (show 0 ≤ ab2 e ∧ ab2 e ≤ ((16 : Nat) : Int) by omega)]
  have ht : (((ab2 e).toNat : Nat) : Int) = ab2 e := by omega
  have hm : arT s (ab2 e) = s := aEJ hs
  refine aaX.bind (ayU (w := w) (s := s) (n := ab2 e) hn ⟨hs.1,by omega⟩ s hm _ rfl _ (fun self a b i h0 h16 =>?_) (ab2 e).toNat _ 0 (-1) (-1) (Int.le_refl 0) (by omega) (by omega)) ?_
  ·simp only [ht,amL,hm,Option.bind_some]
   refine ite_congr rfl (fun hlt =>?_) fun _ =>rfl
   have hsi : wi (s + i) = s + i := aaF (aan (by omega))
   have hv2 := ax9 (a := s + i) hn.1 (by omega)
   rw [if_pos (show ab2 e ≠ 0 by omega),hsi]
   generalize Int.tmod (s + i) (ab2 e) = u at hv2 ⊢
   rw [if_pos hv2.2]
   refine (aAf (z := (ar6 ((bm.put v (e.m.gt (aaC e.l v))).at u),⟨⟨false,0,0⟩,w,true,s,j2,bm.put v (e.m.gt (aaC e.l v))⟩,())) ?_).trans ?_
   ·rcases aJq (v := u) (by omega) with h | h | h | h | h | h | h | h | h | h | h | h | h | h | h | h <;> subst h <;> exact aAf awk
   ·by_cases c1 : u ≠ w
    ·by_cases c2 : b < ar6 ((bm.put v (e.m.gt (aaC e.l v))).at u)
     ·rw [if_pos c1,if_pos c2,if_pos ⟨c1,c2⟩]
     ·rw [if_pos c1,if_neg c2,if_neg (fun h =>c2 h.2)]
    ·rw [if_neg c1,if_neg (fun h =>c1 h.1)]
  ·have hc : ap1 w (ab2 e) s (bm.put v (e.m.gt (aaC e.l v))) = axu w (ab2 e) s (bm.put v (e.m.gt (aaC e.l v))) (ab2 e).toNat 0 (-1,-1) := by unfold ap1; rw [hm]
   rw [hc]
   simp only [aa1,Option.bind_some]
   exact aaX.ite (fun _ =>⟨_,rfl,rfl⟩) fun _ =>⟨_,rfl,rfl⟩
 ·rfl
theorem ayQ {w : Int} (hw : 1 ≤ e.c.workers) (s : ProbeS) (h : anh (ab2 e) s) : aaX ProbeV.o (alk w) (abj (alk w s) e) (aiw w e s) := by
 cases s with
 | run s i bm =>exact atz hw h
 | new =>
  have hn := avb hw
  have hd : 0 ≤ avm e.k (ab2 e) ∧ avm e.k (ab2 e) < ab2 e := azl ⟨hn.1,by omega⟩
  have h1 := atz (w := w) (s := avm e.k (ab2 e)) (i := 0) (bm := aIj) hw ⟨hd,Int.le_refl 0,by omega⟩
  have hM : (if 16 < e.c.workers then 16 else e.c.workers) = ab2 e := rfl
  have e1 : abj (alk w .new) e = abj (alk w (.run (avm e.k (ab2 e)) 0 aIj)) e := by
   unfold abj
   simp only [alk,aax,o0,hM,Option.bind_some,Bool.false_eq_true,if_false,Bool.not_true,Bool.not_false,if_true,aBB]
  rw [e1]
  exact h1
theorem aBo {w : Int} (hw : 1 ≤ e.c.workers) {s s' : ProbeS} {e' : EnvP} (h : anh (ab2 e) s) (hs : aiw w e s = (.go s',e')) : anh (ab2 e) s' := by
 have hn := avb hw
 have key : ∀ s i bm,(0 ≤ s ∧ s < ab2 e) → (0 ≤ i ∧ i ≤ ab2 e) → ag9 w e s i bm = (.go s',e') → anh (ab2 e) s' := fun s i bm hs0 hi hg =>by
  have hp := arz (w := w) (s := s) hi hn.2
  unfold ag9 at hg
  generalize amF w (ab2 e) s i = j at hp hg
  split at hg
  ·cases hg
  ·rename_i hlt
   have hj1 : wi (j + 1) = j + 1 := aaF (aan (by omega))
   have hp2 := arz (w := w) (s := s) (i := j + 1) ⟨by omega,by omega⟩ hn.2
   simp only [hj1] at hg
   split at hg
   ·split at hg <;> cases hg
   ·cases hg
    exact ⟨hs0,by omega,by omega⟩
 cases s with
 | run s i bm =>exact key s i bm h.1 h.2 hs
 | new =>exact key _ 0 _ (azl ⟨hn.1,by omega⟩) ⟨Int.le_refl 0,by omega⟩ hs
end
inductive One (m : MemV) : MemV → Prop where
 | no : One m m
 | yes (k a v : Int) (h : 0 ≤ a ∧ a < (m.cells.length : Int)) (hk : k < 2 → v = ae7 m.cells a) : One m ⟨m.cells.set a.toNat v,⟨k,a,ae7 m.cells a,v⟩,wi (m.count + 1)⟩
structure Stp (j : Nat) (e e' : EnvP) : Prop where
 c : e'.c = e.c
 l : e'.l = e.l
 k : e'.k = e.k
 rl : e'.recs.length = e.recs.length
 m : One e.m e'.m
 ev : e'.evs.length ≤ e.evs.length + j
 kd : ∀ K,(∀ r ∈ e.recs,r.kids.length ≤ K) → ∀ r ∈ e'.recs,r.kids.length ≤ K + 1
section
variable {j : Nat} {e e' : EnvP}
theorem Stp.refl : Stp 0 e e := ⟨rfl,rfl,rfl,rfl,.no,Nat.le_refl _,fun K h r hr =>Nat.le_succ_of_le (h r hr)⟩
theorem Stp.le {i : Nat} (h : Stp j e e') (hi : j ≤ i) : Stp i e e' := ⟨h.c,h.l,h.k,h.rl,h.m,Nat.le_trans h.ev (Nat.add_le_add_left hi _),h.kd⟩
theorem azf {m : MemV} {k a v : Int} (hk : k < 2 → 0 ≤ a → a < (m.cells.length : Int) → v = ae7 m.cells a) : One m (m.pt k a v) := by
 unfold MemV.pt
 by_cases h : 0 ≤ a ∧ a < (m.cells.length : Int)
 ·rw [if_pos h]; exact .yes k a v h fun hk' =>hk hk' h.1 h.2
 ·rw [if_neg h]; exact .no
theorem Stp.pt {k a v : Int} (hk : 2 ≤ k) : Stp 0 e (e.pt k a v) := ⟨rfl,rfl,rfl,rfl,azf fun h =>absurd h (by omega),Nat.le_refl _,fun K h r hr =>Nat.le_succ_of_le (h r hr)⟩
theorem Stp.lk {a : Int} : Stp 0 e (e.lk a) := ⟨rfl,rfl,rfl,rfl,azf fun _ h1 h2 =>by unfold MemV.gt; rw [if_pos ⟨h1,h2⟩],Nat.le_refl _,fun K h r hr =>Nat.le_succ_of_le (h r hr)⟩
theorem Stp.cas {a o v : Int} : Stp 0 e (e.cas a o v) := ⟨rfl,rfl,rfl,rfl,azf fun h =>absurd h (by omega),Nat.le_refl _,fun K h r hr =>Nat.le_succ_of_le (h r hr)⟩
theorem Stp.em {k w t o l : Int} (h : Stp j e e') : Stp (j + 1) e (e'.em k w t o l) := ⟨h.c,h.l,h.k,h.rl,h.m,by
 show (e'.evs ++ [_]).length ≤ _
 rw [List.length_append,List.length_singleton]
 have := h.ev
 omega,h.kd⟩
theorem Stp.pr {t : Int} {r : RecP} (h : Stp j e e') (hr : ∀ K,(∀ r ∈ e.recs,r.kids.length ≤ K) → r.kids.length ≤ K + 1) : Stp j e (e'.pr t r) := ⟨h.c,h.l,h.k,(by show (e'.recs.set _ _).length = _; rw [List.length_set]; exact h.rl),h.m,h.ev,fun K hK x hx =>by
 rcases List.mem_or_eq_of_mem_set hx with hx | rfl
 ·exact h.kd K hK x hx
 ·exact hr K hK⟩
theorem aoh {q : QV} {v : Int} (s : OPushS) : Stp 0 e (aem q v e s).2 := by
 cases s <;> unfold aem <;> first | exact .lk | exact .pt (by decide)
theorem ay8 {q : QV} (s : OPopS) : Stp 0 e (alv q e s).2 := by
 cases s <;> unfold alv <;> first | exact .lk | exact .pt (by decide) | exact .cas
theorem avT {q : QV} (s : StealS) : Stp 0 e (ag5 q e s).2 := by
 cases s <;> unfold ag5 <;> first | exact .lk | exact .pt (by decide) | exact .cas
theorem av1 {a b : Int} {q : QV} (s : ResetS) : Stp 0 e (aeW a b q e s).2 := by
 cases s <;> unfold aeW <;> first | exact .lk | exact .pt (by decide)
theorem aGk {a b : Int} : Stp 0 e (aCH a b e) := .pt (by decide)
theorem aot : Stp 0 e (abV e) := .pt (by decide)
theorem aqF {t v : Int} (s : PublishS) : Stp 0 e (aeX t v e s).2 := by
 unfold aeX
 split
 ·exact .refl
 ·cases s <;> exact .pt (by decide)
theorem aru {t : Int} (h : 0 ≤ t ∧ t < (e.recs.length : Int)) (K : Nat) (hK : ∀ r ∈ e.recs,r.kids.length ≤ K) : (e.rc t).kids.length ≤ K := by
 refine hK _ ?_
 have h1 := aeI (d := (dfR 26 : RecP)) (xs := e.recs) h
 exact List.mem_of_getElem? h1
theorem al4 {w t : Int} (hr : aer t e = true → 0 ≤ t ∧ t < (e.recs.length : Int)) : Stp 1 e (afg w t e) := by
 unfold afg
 split
 ·rename_i h
  split
  ·exact Stp.cas.em
  ·refine (Stp.cas.pr fun K hK =>?_).em
   exact Nat.le_succ_of_le (aru (hr h) K hK)
 ·exact Stp.cas.em
theorem avd {o : Int} : Stp 0 e (ahL o e) := .cas
theorem avi : Stp 0 e (aif e) := .pt (by decide)
theorem alR {d t : Int} (s : InsertS) : Stp 0 e (abH d t e s).2 := by
 cases s <;> unfold abH <;> first | exact .lk | exact .pt (by decide)
theorem ats {w : Int} (s : RemoveS) : Stp 1 e (acp w e s).2 := by
 cases s <;> unfold acp <;> first | exact Stp.lk.le (by decide) | exact Stp.le (.pt (by decide)) (by decide) | exact Stp.em (.pt (by decide))
theorem aA5 {w : Int} (s : SleepS) : Stp 1 e (aeL w e s).2 := by
 cases s <;> unfold aeL <;> repeat' split
 all_goals first | exact Stp.lk.le (by decide) | exact Stp.le (.pt (by decide)) (by decide) | exact Stp.lk.em
theorem aoy [Tb] {w v : Int} (s : WakeS) : Stp 1 e (ado w v e s).2 := by
 cases s <;> unfold ado <;> first | exact Stp.lk.le (by decide) | exact Stp.le (.pt (by decide)) (by decide) | exact Stp.em (.pt (by decide))
theorem av8 {w t v : Int} (s : RaiseS) : Stp 1 e (adB w t v e s).2 := by
 unfold adB
 split
 ·exact Stp.refl.le (by decide)
 ·cases s
  ·exact Stp.lk.le (by decide)
  ·simp only
   split
   ·exact Stp.cas.em
   ·exact Stp.cas.le (by decide)
theorem av9 {w : Int} (s : ProbeS) : Stp 0 e (aiw w e s).2 := by
 have key : ∀ s i bm,Stp 0 e (ag9 w e s i bm).2 := fun s i bm =>by
  unfold ag9
  split
  ·exact .refl
  ·simp only
   split <;> exact .lk
 cases s
 ·exact key _ _ _
 ·exact key _ _ _
theorem agv {w v x : Int} (s : LPushS) : Stp 0 e (abt w v x e s).2 := by
 cases s with
 | new =>
  have h := aoh (e := e) (q := aaq e.l w v) (v := x) .l1
  revert h
  simp only [abt]
  rcases aem (aaq e.l w v) x e .l1 with ⟨r | ⟨c,y⟩,e'⟩ <;> intro h <;> exact h
 | push s =>
  have h := aoh (e := e) (q := aaq e.l w v) (v := x) s
  revert h
  simp only [abt]
  rcases aem (aaq e.l w v) x e s with ⟨r | ⟨c,y⟩,e'⟩ <;> intro h <;> exact h
 | set =>exact aGk
theorem aEO {w : Int} (s : LPopS) : Stp 0 e (agw w e s).2 := by
 cases s with
 | l1 v =>exact .lk
 | l2 v s =>
  have h := ay8 (e := e) (q := aaq e.l w v) s
  revert h
  simp only [agw]
  rcases alv (aaq e.l w v) e s with ⟨r | ⟨c,y⟩,e'⟩ <;> intro h <;> exact h
 | l3 v s =>
  have h := av1 (e := e) (a := aaC e.l w) (b := v) (q := aaq e.l w v) s
  revert h
  simp only [agw]
  rcases aeW (aaC e.l w) v (aaq e.l w v) e s with ⟨r | ⟨c,y⟩,e'⟩ <;> intro h <;> exact h
theorem ax4 {w v : Int} (s : WalkS) : Stp 1 e (aeR w v e s).2 := by
 cases s with
 | l1 t =>
  by_cases hf : ax0 e t v
  ·have h := av8 (e := e) (w := w) (t := t) (v := v) (.l1 0)
   simp only [aeR,hf,not_true,if_false]
   revert h
   rcases adB w t v e (.l1 0) with ⟨r | ⟨c,y⟩,e'⟩ <;> intro h <;> exact h
  ·simp only [aeR,hf,not_false_eq_true,if_true]
   exact Stp.refl.le (by decide)
 | raise t s =>
  have h := av8 (e := e) (w := w) (t := t) (v := v) s
  revert h
  simp only [aeR]
  rcases adB w t v e s with ⟨r | ⟨c,y⟩,e'⟩ <;> intro h <;> exact h
 | l2 t =>exact Stp.lk.le (by decide)
 | push t s =>
  have h := agv (e := e) (w := w) (v := v) (x := t) s
  revert h
  simp only [aeR]
  rcases abt w v t e s with ⟨r | ⟨c,y⟩,e'⟩ <;> intro h
  ·exact h.le (by decide)
  ·show Stp 1 e (if c = 3 then _ else _)
   split
   ·exact h.em
   ·exact h.le (by decide)
 | l4 t =>exact Stp.lk.le (by decide)
theorem aCe {w t : Int} (s : EnterS) : Stp 0 e (adl w t e s).2 := by
 cases s with
 | l1 =>
  by_cases hf : IsT e t
  ·simp only [adl,hf,not_true,if_false]; exact .pt (by decide)
  ·simp only [adl,hf,not_false_eq_true,if_true]; exact .refl
 | l2 =>exact .pt (by decide)
 | l3 =>exact .lk
 | l4 v s =>
  have h := agv (e := e) (w := w) (v := v) (x := t) s
  revert h
  simp only [adl]
  rcases abt w v t e s with ⟨r | ⟨c,y⟩,e'⟩ <;> intro h <;> exact h
theorem aAR {w t : Int} (s : SweepS) : Stp 1 e (abc w t e s).2 := by
 cases s with
 | l1 =>
  by_cases hf : ¬ IsT e t ∨ e.c.age = 0
  ·simp only [abc,hf,if_true]; exact Stp.refl.le (by decide)
  ·simp only [abc,hf,if_false]; exact Stp.lk.le (by decide)
 | l2 =>exact Stp.lk.le (by decide)
 | l3 =>exact Stp.lk.le (by decide)
 | l4 q =>
  by_cases hf : e.hit (abO e.l t) q = true
  ·simp only [abc,hf,if_true]; exact Stp.cas.em
  ·simp only [abc,hf,if_false]; exact Stp.cas.le (by decide)
 | l5 q =>exact Stp.le (.pt (by decide)) (by decide)
 | l6 q s =>
  have h := agv (e := e) (w := w) (v := wi (wi q + 1)) (x := t) s
  revert h
  simp only [abc]
  rcases abt w (wi (wi q + 1)) t e s with ⟨r | ⟨c,y⟩,e'⟩ <;> intro h
  ·exact h.le (by decide)
  ·show Stp 1 e (if c = 3 then _ else _)
   split
   ·exact h.em
   ·exact h.le (by decide)
theorem aDp {w : Int} (hr : ∀ t,aer t e = true → 0 ≤ t ∧ t < (e.recs.length : Int)) (s : TakeS) : Stp 1 e (aiS w e s).2 := by
 cases s with
 | pop s =>
  have h := aEO (e := e) (w := w) s
  revert h
  simp only [aiS]
  rcases agw w e s with ⟨r | ⟨c,y⟩,e'⟩ <;> intro h <;> exact h.le (by decide)
 | claim t =>exact al4 (hr t)
theorem aCj [Tb] {w : Int} (d : DrainS) : Stp 1 e (abk w e d).2 := by
 obtain ⟨x,b,p,la,n,c⟩ := d
 cases c with
 | l1 =>exact Stp.lk.le (by decide)
 | l2 =>exact avd.le (by decide)
 | l3 s =>
  have h := ats (e := e) (w := w) s
  revert h
  simp only [abk]
  rcases acp w e s with ⟨r | ⟨c,y⟩,e'⟩ <;> intro h <;> exact h
 | l4 =>exact Stp.lk.le (by decide)
 | l5 s =>
  have h := agv (e := e) (w := w) (v := p) (x := x) s
  revert h
  simp only [abk]
  rcases abt w p x e s with ⟨r | ⟨c,y⟩,e'⟩ <;> intro h <;> exact h.le (by decide)
 | l6 =>exact avi.le (by decide)
 | l7 s =>
  have h := aoy (e := e) (w := w) (v := la) s
  revert h
  simp only [abk]
  rcases ado w la e s with ⟨r | ⟨c,y⟩,e'⟩ <;> intro h <;> exact h
end
structure EOk (K : Nat) (e : EnvP) : Prop where
 dq : 0 ≤ e.l.deque ∧ e.l.deque ≤ 65535
 tk : e.l.tasks = (e.recs.length : Int)
 ct : e.c.tasks = (e.recs.length : Int)
 wk : 1 ≤ e.c.workers
 ev : e.evs.length ≤ K
 kd : ∀ r ∈ e.recs,r.kids.length ≤ K
section
variable [Tb] {K : Nat} {e : EnvP}
theorem EOk.q (h : EOk K e) (w v : Int) : (aaq e.l w v).cap ≤ 9223372036854775807 := by
 have := h.dq
 unfold aaq
 repeat' split
 all_goals simp only; omega
theorem EOk.st (h : EOk K e) {t o : Int} (hh : e.hit (aaV e.l t) o = true) : 0 ≤ t ∧ t < (e.recs.length : Int) := by
 have h1 : 0 ≤ aaV e.l t := by
  have := of_decide_eq_true hh
  exact this.1.1
 unfold aaV acP atP at h1
 rw [← h.tk]
 split at h1
 ·omega
 ·split at h1 <;> omega
theorem EOk.step (h : EOk K e) {j : Nat} {e' : EnvP} (s : Stp j e e') : EOk (K + j + 1) e' := by
 refine ⟨?_,?_,?_,?_,?_,?_⟩
 ·rw [s.l]; exact h.dq
 ·rw [s.l,s.rl]; exact h.tk
 ·rw [s.c,s.rl]; exact h.ct
 ·rw [s.c]; exact h.wk
 ·have := s.ev; have := h.ev; omega
 ·intro r hr
  have := s.kd K h.kd r hr
  omega
@[reducible] def apt (l : LayV) (w v x : Int) : LPushS → LPushV MV
 | .new =>⟨o0,w,v,x,1,.nil⟩
 | .push s =>⟨o0,w,v,x,1,.opush (awr (aaq l w v) x s)⟩
 | .set =>⟨o0,w,v,x,2,.set ⟨o0,aaC l w,v⟩⟩
@[reducible] def aEP (l : LayV) (w : Int) : LPopS → LPopV MV
 | .l1 v =>⟨o0,w,v,1,.nil⟩
 | .l2 v s =>⟨o0,w,v,2,.opop (aBE (aaq l w v) s)⟩
 | .l3 v s =>⟨o0,w,v,3,.reset (atr (aaC l w) v (aaq l w v) s)⟩
@[reducible] def aDj (l : LayV) (w v : Int) : WalkS → WalkV MV
 | .l1 t =>⟨o0,w,t,v,1,.nil⟩
 | .raise t s =>⟨o0,w,t,v,1,.raise (atx w t v s)⟩
 | .l2 t =>⟨o0,w,t,v,2,.nil⟩
 | .push t s =>⟨o0,w,t,v,3,.lpush (apt l w v t s)⟩
 | .l4 t =>⟨o0,w,t,v,4,.nil⟩
@[reducible] def azP (l : LayV) (w t : Int) : EnterS → EnterV MV
 | .l1 =>⟨o0,w,t,0,1,.nil⟩
 | .l2 =>⟨o0,w,t,0,2,.nil⟩
 | .l3 =>⟨o0,w,t,0,3,.nil⟩
 | .l4 v s =>⟨o0,w,t,v,4,.lpush (apt l w v t s)⟩
@[reducible] def agK (l : LayV) (w t : Int) : SweepS → SweepV MV
 | .l1 =>⟨o0,w,t,1,0,.nil⟩
 | .l2 =>⟨o0,w,t,2,0,.nil⟩
 | .l3 =>⟨o0,w,t,3,0,.nil⟩
 | .l4 q =>⟨o0,w,t,4,q,.nil⟩
 | .l5 q =>⟨o0,w,t,5,q,.nil⟩
 | .l6 q s =>⟨o0,w,t,6,q,.lpush (apt l w (wi (wi q + 1)) t s)⟩
@[reducible] def aDq (l : LayV) (w : Int) : TakeS → TakeV MV
 | .pop s =>⟨o0,w,false,.lpop (aEP l w s)⟩
 | .claim t =>⟨o0,w,true,.claim ⟨o0,w,t⟩⟩
@[reducible] def azS (l : LayV) (w p x last : Int) : DrainC → Int × MV
 | .l1 =>(1,.nil)
 | .l2 =>(2,.attempt ⟨o0,w,true⟩)
 | .l3 s =>(3,.remove (arq w s))
 | .l4 =>(4,.nil)
 | .l5 s =>(5,.lpush (apt l w p x s))
 | .l6 =>(6,.release ⟨o0⟩)
 | .l7 s =>(7,.wake (atb w last s))
@[reducible] def awP (l : LayV) (w : Int) (d : DrainS) : DrainV MV :=
 ⟨o0,w,(azS l w d.p d.x d.last d.c).1,(azS l w d.p d.x d.last d.c).2,d.x,d.direct,d.p,d.last,d.count⟩
theorem akB : (SR1.spl MV.nil).isNone = true := rfl
theorem aym (x : OPushV) : (SR1.spl (MV.opush x)).isNone = false := rfl
theorem aDI (x : SetV) : (SR1.spl (MV.set x)).isNone = false := rfl
theorem ayl (x : RaiseV) : (SR1.spl (MV.raise x)).isNone = false := rfl
theorem ajg {w v x : Int} (hK : EOk K e) (s : LPushS) : aaX LPushV.o (apt e.l w v x) (acu (apt e.l w v x s) e) (abt w v x e s) := by
 have hq := hK.q w v
 cases s with
 | new =>
  have h := atJ (e := e) (v := x) hq .l1
  have hn := aoh (e := e) (q := aaq e.l w v) (v := x) .l1
  revert h hn
  simp only [abt,acu,akB,aax,abe,o0,aja,apf,aiV,Option.bind_some,if_true,Bool.false_eq_true,if_false]
  rcases aem (aaq e.l w v) x e .l1 with ⟨r | ⟨c,y⟩,e'⟩ <;> intro h hn
  ·simp only [aaX,o0] at h
   simp only [h,Option.bind_some,Bool.not_false,if_true]
   rfl
  ·simp only [aaX,o0] at h
   obtain ⟨x',h,ho⟩ := h
   have hnl : e'.l = e.l := hn.l
   simp only [h,ho,aeV,Option.bind_some,Bool.not_true,Bool.false_eq_true,if_false,aeM,ajB,hnl,reduceIte,Int.reduceEq,aa1]
   exact aaX.ite (fun _ =>⟨_,rfl,rfl⟩) fun _ =>rfl
 | push s =>
  have h := atJ (e := e) (v := x) hq s
  have hn := aoh (e := e) (q := aaq e.l w v) (v := x) s
  revert h hn
  simp only [abt,acu,aym,aax,abe,o0,aiV,Option.bind_some,if_true,Bool.false_eq_true,if_false]
  rcases aem (aaq e.l w v) x e s with ⟨r | ⟨c,y⟩,e'⟩ <;> intro h hn
  ·simp only [aaX] at h
   simp only [h,Option.bind_some,Bool.not_false,if_true]
   rfl
  ·simp only [aaX] at h
   obtain ⟨x',h,ho⟩ := h
   have hnl : e'.l = e.l := hn.l
   simp only [h,ho,aeV,Option.bind_some,Bool.not_true,Bool.false_eq_true,if_false,aeM,ajB,hnl,reduceIte,Int.reduceEq,aa1]
   exact aaX.ite (fun _ =>⟨_,rfl,rfl⟩) fun _ =>rfl
 | set =>
  obtain ⟨y,h,ho⟩ := aDU (e := e) (a := aaC e.l w) (b := v)
  simp only [o0] at h
  simp only [abt,acu,aDI,aax,abe,o0,aiV,h,ho,aeV,Option.bind_some,Bool.not_true,if_true,Bool.false_eq_true,if_false,reduceIte,Int.reduceEq]
  exact ⟨_,rfl,rfl⟩
theorem aBU {w : Int} (hK : EOk K e) (s : LPopS) : aaX LPopV.o (aEP e.l w) (ac1 (aEP e.l w s) e) (agw w e s) := by
 cases s with
 | l1 v =>
  simp only [agw,ac1,ah9,aax,abe,o0,aeM,abA,awk,aja,arM,Option.bind_some,if_true,Bool.false_eq_true,if_false,aa1,ach]
  exact aaX.ite (fun _ =>⟨_,rfl,rfl⟩) fun _ =>rfl
 | l2 v s =>
  have h := aBD (e := e) (hK.q w v) s
  have hn := ay8 (e := e) (q := aaq e.l w v) s
  revert h hn
  simp only [agw,ac1,aax,abe,o0,aiV,Option.bind_some,if_true,Bool.false_eq_true,if_false,reduceIte,Int.reduceEq]
  rcases alv (aaq e.l w v) e s with ⟨r | ⟨c,y⟩,e'⟩ <;> intro h hn
  ·simp only [aaX] at h
   simp only [h,Option.bind_some,Bool.not_false,if_true]
   rfl
  ·simp only [aaX] at h
   obtain ⟨x',h,ho⟩ := h
   have hnl : e'.l = e.l := hn.l
   simp only [h,ho,aeV,Option.bind_some,Bool.not_true,Bool.false_eq_true,if_true,if_false,aeM,aja,agZ,hnl,reduceIte,Int.reduceEq,aa1]
   exact aaX.ite (fun _ =>⟨_,rfl,rfl⟩) fun _ =>rfl
 | l3 v s =>
  have h := atq (e := e) (a := aaC e.l w) (b := v) (q := aaq e.l w v) s
  revert h
  simp only [agw,ac1,aax,abe,o0,aiV,Option.bind_some,if_true,Bool.false_eq_true,if_false,reduceIte,Int.reduceEq]
  rcases aeW (aaC e.l w) v (aaq e.l w v) e s with ⟨r | ⟨c,y⟩,e'⟩ <;> intro h
  ·simp only [aaX] at h
   simp only [h,Option.bind_some,Bool.not_false,if_true]
   rfl
  ·simp only [aaX] at h
   obtain ⟨x',h,ho⟩ := h
   simp only [h,ho,aeV,Option.bind_some,Bool.not_true,Bool.false_eq_true,if_true,if_false]
   rfl
theorem aAJ {w v : Int} (hK : EOk K e) (hk : K ≤ 100000000) (s : WalkS) : aaX WalkV.o (aDj e.l w v) (ab4 (aDj e.l w v s) e) (aeR w v e s) := by
 have hl : e.evs.length ≤ 999999999 := by have := hK.ev; omega
 cases s with
 | l1 t =>
  by_cases hf : ax0 e t v
  ·have h := atw (e := e) (w := w) (t := t) (v := v) hl (.l1 0)
   revert h
   simp only [aeR,hf,ab4,aes,ask,decide_true,not_true,Bool.not_true,akB,am6,aax,abe,o0,adQ,Option.bind_some,if_true,Bool.false_eq_true,if_false,reduceIte,Int.reduceEq]
   rcases adB w t v e (.l1 0) with ⟨r | ⟨c,y⟩,e'⟩ <;> intro h
   ·simp only [aaX,o0] at h
    simp only [h,Option.bind_some,Bool.not_false,if_true]
    rfl
   ·simp only [aaX,o0] at h
    obtain ⟨x',h,ho⟩ := h
    simp only [h,ho,aby,Option.bind_some,Bool.not_true,Bool.false_eq_true,if_true,if_false,aa1,ach,at2]
    exact aaX.ite (fun _ =>rfl) fun _ =>rfl
  ·simp only [aeR,hf,ab4,aes,ask,decide_false,not_false_eq_true,Bool.not_false,akB,aax,abe,o0,Option.bind_some,if_true,Bool.false_eq_true,if_false,reduceIte,Int.reduceEq]
   exact ⟨_,rfl,rfl⟩
 | raise t s =>
  have h := atw (e := e) (w := w) (t := t) (v := v) hl s
  revert h
  simp only [aeR,ab4,aes,ayl,aax,abe,o0,adQ,Option.bind_some,if_true,Bool.false_eq_true,if_false,reduceIte,Int.reduceEq]
  rcases adB w t v e s with ⟨r | ⟨c,y⟩,e'⟩ <;> intro h
  ·simp only [aaX] at h
   simp only [h,Option.bind_some,Bool.not_false,if_true]
   rfl
  ·simp only [aaX] at h
   obtain ⟨x',h,ho⟩ := h
   simp only [h,ho,aby,Option.bind_some,Bool.not_true,Bool.false_eq_true,if_true,if_false,aa1,ach,at2]
   exact aaX.ite (fun _ =>rfl) fun _ =>rfl
 | l2 t =>
  simp only [aeR,ab4,aax,abe,o0,ad0,abA,acB,Option.bind_some,if_true,Bool.false_eq_true,if_false,reduceIte,Int.reduceEq,aa1,at2]
  exact aaX.ite (fun _ =>rfl) fun _ =>rfl
 | push t s =>
  have h := ajg (w := w) (v := v) (x := t) hK s
  have hn := agv (e := e) (w := w) (v := v) (x := t) s
  revert h hn
  simp only [aeR,ab4,aip,aax,abe,o0,adQ,Option.bind_some,if_true,Bool.false_eq_true,if_false,reduceIte,Int.reduceEq]
  rcases abt w v t e s with ⟨r | ⟨c,y⟩,e'⟩ <;> intro h hn
  ·simp only [aaX] at h
   simp only [h,Option.bind_some,Bool.not_false,if_true]
   rw [← hn.l]
   rfl
  ·simp only [aaX] at h
   obtain ⟨x',h,ho⟩ := h
   have hl' : e'.evs.length ≤ 999999999 := by have h1 : e'.evs.length ≤ e.evs.length + 0 := hn.ev; have := hK.ev; omega
   simp only [h,ho,aby,Option.bind_some,Bool.not_true,Bool.false_eq_true,if_true,if_false,acd hl']
   by_cases hc : c = 3
   ·simp only [hc,if_true]; rfl
   ·simp only [hc,if_false]; rfl
 | l4 t =>
  simp only [aeR,ab4,aax,abe,o0,alo,abA,Option.bind_some,if_true,Bool.false_eq_true,if_false,reduceIte,Int.reduceEq,aa1]
  exact aaX.ite (fun _ =>⟨_,rfl,rfl⟩) fun _ =>rfl
theorem azO {w t : Int} (hK : EOk K e) (s : EnterS) : aaX EnterV.o (azP e.l w t) (ab1 (azP e.l w t s) e) (adl w t e s) := by
 cases s with
 | l1 =>
  by_cases hf : IsT e t
  ·simp only [adl,hf,ab1,ajl,decide_true,not_true,Bool.not_true,aax,abe,arD,o0,ai8,abr,Option.bind_some,if_true,Bool.false_eq_true,if_false,reduceIte,Int.reduceEq]
   rfl
  ·simp only [adl,hf,ab1,ajl,decide_false,not_false_eq_true,Bool.not_false,aax,abe,o0,Option.bind_some,if_true,Bool.false_eq_true,if_false,reduceIte,Int.reduceEq]
   exact ⟨_,rfl,rfl⟩
 | l2 =>
  simp only [adl,ab1,aax,abe,o0,ad0,abr,Option.bind_some,if_true,Bool.false_eq_true,if_false,reduceIte,Int.reduceEq]
  rfl
 | l3 =>
  simp only [adl,ab1,aax,abe,o0,afT,abA,acB,Option.bind_some,if_true,Bool.false_eq_true,if_false,reduceIte,Int.reduceEq]
  rfl
 | l4 v s =>
  have h := ajg (w := w) (v := v) (x := t) hK s
  have hn := agv (e := e) (w := w) (v := v) (x := t) s
  revert h hn
  simp only [adl,ab1,aax,abe,o0,adQ,Option.bind_some,if_true,Bool.false_eq_true,if_false,reduceIte,Int.reduceEq]
  rcases abt w v t e s with ⟨r | ⟨c,y⟩,e'⟩ <;> intro h hn
  ·simp only [aaX] at h
   simp only [h,Option.bind_some,Bool.not_false,if_true]
   rfl
  ·simp only [aaX] at h
   obtain ⟨x',h,ho⟩ := h
   simp only [h,ho,aby,Option.bind_some,Bool.not_true,Bool.false_eq_true,if_true,if_false]
   exact ⟨_,rfl,rfl⟩
theorem aAP {w : Int} (hK : EOk K e) (hk : K ≤ 100000000) (s : TakeS) : aaX TakeV.o (aDq e.l w) (aeK (aDq e.l w s) e) (aiS w e s) := by
 have hl : e.evs.length ≤ 999999999 := by have := hK.ev; omega
 cases s with
 | pop s =>
  have h := aBU (w := w) hK s
  revert h
  simp only [aiS,aeK,aax,abe,o0,adQ,Option.bind_some,if_true,Bool.false_eq_true,if_false]
  rcases agw w e s with ⟨r | ⟨c,y⟩,e'⟩ <;> intro h
  ·simp only [aaX] at h
   simp only [h,Option.bind_some,Bool.not_false,if_true]
   rfl
  ·simp only [aaX] at h
   obtain ⟨x',h,ho⟩ := h
   simp only [h,ho,aby,acz,Option.bind_some,Bool.not_true,Bool.false_eq_true,if_true,if_false,aa1]
   exact aaX.ite (fun _ =>⟨_,rfl,rfl⟩) fun _ =>rfl
 | claim t =>
  obtain ⟨x',h,ho⟩ := al3 (w := w) (t := t) hl hK.st
  simp only [o0] at h
  simp only [aiS,aeK,aax,abe,o0,adQ,h,Option.bind_some,if_true,Bool.false_eq_true,if_false,aby,Bool.not_true,afX]
  rcases Bool.eq_false_or_eq_true (aer t e) with hc | hc
  ·simp only [hc,if_true] at ho ⊢
   simp only [ho,if_true]
   exact ⟨_,rfl,rfl⟩
  ·simp only [hc,Bool.false_eq_true,if_false] at ho ⊢
   simp only [ho,reduceIte,Int.reduceEq]
   rfl
end
section
variable [Tb] {K : Nat} {e : EnvP}
theorem aAX {w t : Int} (hK : EOk K e) (hk : K ≤ 100000000) : aaX SweepV.o (agK e.l w t) (aaD (agK e.l w t .l1) e) (abc w t e .l1) := by
 have hl : e.evs.length ≤ 999999999 := by have := hK.ev; omega
 have hm : ∀ m v,aef { e with m := m } v = some ((),({ e with m := m,evs := e.evs ++ [v] },())) := fun m v =>acd (e := { e with m := m }) hl
 by_cases c1 : t < 0
 ·have hf : ¬ IsT e t ∨ e.c.age = 0 := .inl fun h =>by have := h.1; omega
  simp only [abc]
  rw [if_pos hf]
  simp only [aaD,abE,c1,aax,abe,o0,Option.bind_some,Bool.false_eq_true,if_false,reduceIte,Int.reduceEq]
  exact ⟨_,rfl,rfl⟩
 by_cases c2 : e.c.tasks ≤ t
 ·have hf : ¬ IsT e t ∨ e.c.age = 0 := .inl fun h =>by have := h.2; omega
  simp only [abc]
  rw [if_pos hf]
  simp only [aaD,abE,c1,c2,aax,abe,o0,Option.bind_some,Bool.false_eq_true,if_false,reduceIte,Int.reduceEq]
  exact ⟨_,rfl,rfl⟩
 by_cases c3 : e.c.age = 0
 ·have hf : ¬ IsT e t ∨ e.c.age = 0 := .inr c3
  simp only [abc]
  rw [if_pos hf]
  simp only [aaD,abE,c1,c2,c3,decide_true,aax,abe,o0,Option.bind_some,Bool.false_eq_true,if_false,reduceIte,Int.reduceEq]
  exact ⟨_,rfl,rfl⟩
 have hf : ¬ (¬ IsT e t ∨ e.c.age = 0) := fun h =>h.elim (fun h =>h ⟨by omega,by omega⟩) c3
 simp only [abc]
 rw [if_neg hf]
 simp only [aaD,abE,c1,c2,c3,decide_false,aax,abe,o0,Option.bind_some,Bool.false_eq_true,if_true,reduceIte,Int.reduceEq,ad0,abA,decide_eq_true_eq,aa1]
 refine aaX.iteL (fun h =>?_) fun h =>?_
 ·rw [if_neg h]; exact ⟨_,rfl,rfl⟩
 ·rw [if_pos (Classical.not_not.1 h)]; rfl
theorem aAW {w t : Int} (hK : EOk K e) (hk : K ≤ 100000000) : aaX SweepV.o (agK e.l w t) (aaD (agK e.l w t .l2) e) (abc w t e .l2) := by
 have hl : e.evs.length ≤ 999999999 := by have := hK.ev; omega
 have hm : ∀ m v,aef { e with m := m } v = some ((),({ e with m := m,evs := e.evs ++ [v] },())) := fun m v =>acd (e := { e with m := m }) hl
 simp only [abc,aaD,abE,aax,abe,arD,o0,Option.bind_some,if_true,Bool.false_eq_true,if_false,reduceIte,Int.reduceEq,ai8,abA,decide_eq_true_eq,aa1]
 exact aaX.ite (fun _ =>⟨_,rfl,rfl⟩) fun _ =>rfl
theorem aAV {w t : Int} (hK : EOk K e) (hk : K ≤ 100000000) : aaX SweepV.o (agK e.l w t) (aaD (agK e.l w t .l3) e) (abc w t e .l3) := by
 have hl : e.evs.length ≤ 999999999 := by have := hK.ev; omega
 have hm : ∀ m v,aef { e with m := m } v = some ((),({ e with m := m,evs := e.evs ++ [v] },())) := fun m v =>acd (e := { e with m := m }) hl
 simp only [abc,aaD,abE,aax,abe,o0,Option.bind_some,if_true,Bool.false_eq_true,if_false,reduceIte,Int.reduceEq,afT,abA,decide_eq_true_eq,aa1]
 exact aaX.ite (fun _ =>⟨_,rfl,rfl⟩) fun _ =>rfl
theorem aAU {w t : Int} (hK : EOk K e) (hk : K ≤ 100000000) (q : Int) : aaX SweepV.o (agK e.l w t) (aaD (agK e.l w t (.l4 q)) e) (abc w t e (.l4 q)) := by
 have hl : e.evs.length ≤ 999999999 := by have := hK.ev; omega
 have hm : ∀ m v,aef { e with m := m } v = some ((),({ e with m := m,evs := e.evs ++ [v] },())) := fun m v =>acd (e := { e with m := m }) hl
 have he : ∀ x : SweepV MV,abM x 12 = some ((⟨12,x.worker,x.task,0,wi (wi x.q + 1)⟩,()),(x,())) := fun x =>id rfl
 simp only [abc,aaD,he,aax,abe,o0,Option.bind_some,if_true,Bool.false_eq_true,if_false,reduceIte,Int.reduceEq,afT,ajd,hm]
 exact aaX.iteN (fun _ =>rfl) fun _ =>⟨_,rfl,rfl⟩
theorem aAT {w t : Int} (hK : EOk K e) (hk : K ≤ 100000000) (q : Int) : aaX SweepV.o (agK e.l w t) (aaD (agK e.l w t (.l5 q)) e) (abc w t e (.l5 q)) := by
 have hl : e.evs.length ≤ 999999999 := by have := hK.ev; omega
 have hm : ∀ m v,aef { e with m := m } v = some ((),({ e with m := m,evs := e.evs ++ [v] },())) := fun m v =>acd (e := { e with m := m }) hl
 simp only [abc,aaD,aax,abe,arD,o0,Option.bind_some,if_true,Bool.false_eq_true,if_false,reduceIte,Int.reduceEq,ai8,abr,acB]
 rfl
theorem bnd {α β : Type} {a : α} {f : α → Option β} : (some a).bind f = f a := by
 generalize h : some a = x
 subst h
 rfl
theorem aAS {w t : Int} (hK : EOk K e) (hk : K ≤ 100000000) (q : Int) (s : LPushS) : aaX SweepV.o (agK e.l w t) (aaD (agK e.l w t (.l6 q s)) e) (abc w t e (.l6 q s)) := by
 have h := ajg (w := w) (v := wi (wi q + 1)) (x := t) hK s
 have hn := agv (e := e) (w := w) (v := wi (wi q + 1)) (x := t) s
 have he : ∀ x : SweepV MV,abM x 19 = some ((⟨19,x.worker,x.task,0,wi (wi x.q + 1)⟩,()),(x,())) := fun x =>id rfl
 revert h hn
 simp only [abc,aaD,he,bnd,aax,abe,o0,adQ,if_true,Bool.false_eq_true,if_false,reduceIte,Int.reduceEq]
 rcases abt w (wi (wi q + 1)) t e s with ⟨r | ⟨c,y⟩,e'⟩ <;> intro h hn
 ·simp only [aaX] at h
  simp only [h,bnd,Bool.not_false,if_true]
  rfl
 ·simp only [aaX] at h
  obtain ⟨x',h,ho⟩ := h
  have hl' : e'.evs.length ≤ 999999999 := by have h1 : e'.evs.length ≤ e.evs.length + 0 := hn.ev; have := hK.ev; omega
  simp only [h,ho,aby,bnd,Bool.not_true,Bool.false_eq_true,if_true,if_false,acd hl']
  by_cases hc : c = 3
  ·simp only [hc,if_true]; exact ⟨_,rfl,rfl⟩
  ·simp only [hc,if_false]; exact ⟨_,rfl,rfl⟩
theorem ayc {w t : Int} (hK : EOk K e) (hk : K ≤ 100000000) (s : SweepS) : aaX SweepV.o (agK e.l w t) (aaD (agK e.l w t s) e) (abc w t e s) := by
 cases s with
 | l1 =>exact aAX hK hk
 | l2 =>exact aAW hK hk
 | l3 =>exact aAV hK hk
 | l4 q =>exact aAU hK hk q
 | l5 q =>exact aAT hK hk q
 | l6 q s =>exact aAS hK hk q s
end
section
variable [Tb] {K : Nat} {e : EnvP}
theorem azF {w : Int} {l : LayV} {ln : Int} {m : MV} {d : DrainS} {e' : EnvP} : aaX DrainV.o (awP l w) (((aa0 ⟨⟨false,0,0⟩,w,ln,m,d.x,d.direct,d.p,d.last,d.count⟩).bind fun r =>some ((r.1.1,()),(r.2.1,e',()))).bind fun r =>some ((r.1.1,()),(r.2.1,r.2.2.1,()))) (aiC d,e') := by
 obtain ⟨x,b,p,la,n,c⟩ := d
 unfold aiC
 simp only [aa0,abe,bnd,o0,ach,aa1]
 exact aaX.ite (fun _ =>⟨_,rfl,rfl⟩) fun _ =>aaX.ite (fun _ =>⟨_,rfl,rfl⟩) fun _ =>⟨_,rfl,rfl⟩
def asY (d : DrainS) : Prop := match d.c with
 | .l6 =>True
 | .l7 _ =>True
 | _ =>d.direct = false
theorem azR {w : Int} (hK : EOk K e) (hk : K ≤ 100000000) (d : DrainS) (hd : asY d) : aaX DrainV.o (awP e.l w) (abl (awP e.l w d) e) (abk w e d) := by
 have hl : e.evs.length ≤ 999999999 := by have := hK.ev; omega
 obtain ⟨x,b,p,la,n,c⟩ := d
 cases c with
 | l1 =>
  simp only [abk,abl,aaO,ave,aax,abe,agl,o0,abA,bnd,if_true,Bool.false_eq_true,if_false,reduceIte,Int.reduceEq,aa1]
  exact aaX.ite (fun _ =>⟨_,rfl,rfl⟩) fun _ =>rfl
 | l2 =>
  obtain ⟨dn,x',h,ho,hd,_⟩ := arW (e := e) (w := w) (b := true)
  rw [Bool.or_true] at hd
  subst hd
  have ho := ho rfl
  simp only [o0] at h
  simp only [abk,abl,acI,abo,aaO,afJ,aax,abe,o0,adQ,h,bnd,if_true,Bool.false_eq_true,if_false,reduceIte,Int.reduceEq,aby,Bool.not_true]
  rcases Bool.eq_false_or_eq_true (e.hit 1 0) with hh | hh
  ·simp only [hh,if_true] at ho ⊢
   simp only [ho,reduceIte,Int.reduceEq]
   rfl
  ·simp only [hh,Bool.false_eq_true,if_false] at ho ⊢
   simp only [ho,reduceIte,Int.reduceEq]
   exact ⟨_,rfl,rfl⟩
 | l3 s =>
  have h := axr (e := e) (w := w) hl s
  have hn := ats (e := e) (w := w) s
  revert h hn
  simp only [abk,abl,aax,abe,o0,adQ,bnd,if_true,Bool.false_eq_true,if_false,reduceIte,Int.reduceEq]
  rcases acp w e s with ⟨r | ⟨c,y⟩,e'⟩ <;> intro h hn
  ·simp only [aaX] at h
   simp only [h,bnd,Bool.not_false,if_true]
   rfl
  ·simp only [aaX] at h
   obtain ⟨x',h,ho⟩ := h
   simp only [h,ho,aby,acI,aa2,aaO,afw,bnd,Bool.not_true,Bool.false_eq_true,if_true,if_false,reduceIte,Int.reduceEq,ach,aa1]
   exact aaX.ite (fun _ =>rfl) fun _ =>rfl
 | l4 =>
  simp only [abk,abl,aaO,acB,aax,abe,o0,afT,abA,bnd,if_true,Bool.false_eq_true,if_false,reduceIte,Int.reduceEq]
  rfl
 | l5 s =>
  have h := ajg (w := w) (v := p) (x := x) hK s
  have hn := agv (e := e) (w := w) (v := p) (x := x) s
  revert h hn
  simp only [abk,abl,aax,abe,o0,adQ,bnd,if_true,Bool.false_eq_true,if_false,reduceIte,Int.reduceEq]
  rcases abt w p x e s with ⟨r | ⟨c,y⟩,e'⟩ <;> intro h hn
  ·simp only [aaX] at h
   simp only [h,bnd,Bool.not_false,if_true]
   rfl
  ·simp only [aaX] at h
   obtain ⟨x',h,ho⟩ := h
   have hc : e'.c = e.c := hn.c
   simp only [h,ho,aby,acI,acS,abo,aa2,aaO,afJ,afw,bnd,Bool.not_true,Bool.false_eq_true,if_true,if_false,reduceIte,Int.reduceEq,ach,aa1,hc]
   have hb : b = false := hd
   subst hb
   simp only [Bool.false_eq_true,if_false]
   exact aaX.ite (fun _ =>rfl) fun _ =>aaX.ite (fun _ =>rfl) fun _ =>rfl
 | l6 =>
  obtain ⟨x',h,ho⟩ := awH (e := e)
  simp only [o0] at h
  simp only [abk,abl,acI,aaO,acY,aax,abe,o0,adQ,h,ho,bnd,if_true,Bool.false_eq_true,if_false,reduceIte,Int.reduceEq,aby,Bool.not_true,ach,aa1]
  exact aaX.ite (fun _ =>rfl) fun _ =>azF (d := ⟨x,b,p,la,n,.l6⟩)
 | l7 s =>
  have h := akV (e := e) (w := w) (v := la) hl s
  revert h
  simp only [abk,abl,aax,abe,o0,adQ,bnd,if_true,Bool.false_eq_true,if_false,reduceIte,Int.reduceEq]
  rcases ado w la e s with ⟨r | ⟨c,y⟩,e'⟩ <;> intro h
  ·simp only [aaX] at h
   simp only [h,bnd,Bool.not_false,if_true]
   rfl
  ·simp only [aaX] at h
   obtain ⟨x',h,ho⟩ := h
   simp only [h,ho,aby,acI,bnd,Bool.not_true,Bool.false_eq_true,if_true,if_false,reduceIte,Int.reduceEq]
   exact azF (d := ⟨x,b,p,la,n,.l7 s⟩)
theorem aCi {w : Int} {d d' : DrainS} {e' : EnvP} (hd : asY d) (h : abk w e d = (.go d',e')) : asY d' := by
 obtain ⟨x,b,p,la,n,c⟩ := d
 cases c with
 | l1 =>
  simp only [abk] at h
  split at h <;> cases h
  exact hd
 | l2 =>
  simp only [abk] at h
  split at h <;> cases h
  exact hd
 | l3 s =>
  simp only [abk] at h
  split at h
  ·cases h; exact hd
  ·split at h <;> cases h
   ·trivial
   ·exact hd
 | l4 =>cases h; exact hd
 | l5 s =>
  simp only [abk] at h
  split at h
  ·cases h; exact hd
  ·split at h
   ·cases h; trivial
   ·split at h <;> cases h
    ·exact hd
    ·trivial
 | l6 =>
  simp only [abk] at h
  split at h
  ·cases h; trivial
  ·unfold aiC at h
   repeat' split at h
   all_goals cases h
 | l7 s =>
  simp only [abk] at h
  split at h
  ·cases h; trivial
  ·unfold aiC at h
   repeat' split at h
   all_goals cases h
end
structure SOk (l : List Int) : Prop where
 ne : l ≠ []
 le : l.length ≤ 999999999
section
variable {l : List Int}
theorem SOk.n (h : SOk l) : wi (((l.length : Nat) : Int) - 1) = ((l.length - 1 : Nat) : Int) := by
 have h1 := List.length_pos_iff.2 h.ne
 have h2 := h.le
 rw [aaF (aan (by omega))]; omega
theorem SOk.a (h : SOk l) : aed l ((l.length - 1 : Nat) : Int) = aaB l := by
 have h1 := List.length_pos_iff.2 h.ne
 have h2 : l[l.length - 1]? = some (l[l.length - 1]'(by omega)) := List.getElem?_eq_getElem _
 simp only [aed,atL,aaB,Int.toNat_natCast,List.getLast?_eq_getElem?,h2]
 rfl
theorem SOk.g (h : SOk l) : (0 ≤ ((l.length - 1 : Nat) : Int) ∧ ((l.length - 1 : Nat) : Int) < ((l.length : Nat) : Int)) = True := by
 have h1 := List.length_pos_iff.2 h.ne
 exact eq_true ⟨by omega,by omega⟩
theorem SOk.g2 (h : SOk l) : (0 ≤ ((l.length - 1 : Nat) : Int) ∧ ((l.length - 1 : Nat) : Int) ≤ ((l.length : Nat) : Int)) = True := by
 have h1 := List.length_pos_iff.2 h.ne
 exact eq_true ⟨by omega,by omega⟩
theorem SOk.t (h : SOk l) : l.take (((l.length - 1 : Nat) : Int)).toNat = l.dropLast := by
 rw [List.dropLast_eq_take]; simp
theorem SOk.s (h : SOk l) (y : Int) : l.set (((l.length - 1 : Nat) : Int)).toNat y = l.dropLast ++ [y] := by
 obtain ⟨a,b,rfl⟩ : ∃ a b,l = a ++ [b] := ⟨l.dropLast,l.getLast h.ne,(List.dropLast_concat_getLast h.ne).symm⟩
 simp
end
section
variable [Tb] {e : EnvP} {o : OutV} {w ln id ch lv wt : Int} {st : List Int} {m : MV}
theorem amc {rs : List RecP} {t : Int} {r : RecP} (h : 0 ≤ t ∧ t < (rs.length : Int)) : aab (rs.set t.toNat r) t = r := aAg h
theorem atv {rs : List RecP} {t : Int} (h : 0 ≤ t ∧ t < (rs.length : Int)) : rs.set t.toNat (aab rs t) = rs := by
 have h1 := aeI (d := (dfR 26 : RecP)) (xs := rs) h
 have h2 : t.toNat < rs.length := by omega
 refine List.ext_getElem? fun i =>?_
 by_cases hi : t.toNat = i
 ·subst hi
  rw [List.getElem?_set_self h2]
  exact h1.symm
 ·rw [List.getElem?_set_ne hi]
def afz (x : RecP) (p : List Ins) : Int :=
 if x.waiting ≠ -1 then 1
 else if x.pc < 0 ∨ (p.length : Int) ≤ x.pc then 16
 else if (acl p x.pc).op = 0 then 2
 else if (acl p x.pc).op = 1 then 4
 else if (acl p x.pc).a < 0 ∨ (x.kids.length : Int) ≤ (acl p x.pc).a ∨ aed x.kids (acl p x.pc).a = -1 then 3
 else 9
theorem ao6 {x : RecP} (h1 : ¬ x.prog < 0) (h2 : ¬ (e.c.progs.length : Int) ≤ x.prog) : e.prog x = atL [] e.c.progs x.prog := by
 unfold EnvP.prog
 rw [if_neg (by omega)]
theorem afH {x : RecP} (h : x.prog < 0 ∨ (e.c.progs.length : Int) ≤ x.prog) : e.prog x = [] := by
 unfold EnvP.prog
 rw [if_pos h]
theorem az6 {x : RunV MV} (hS : SOk x.stack) (hT : 0 ≤ aaB x.stack ∧ aaB x.stack < (e.recs.length : Int)) : aeU x e = some ((afz (e.rc (aaB x.stack)) (e.prog (e.rc (aaB x.stack))),()),(x,e,())) := by
 unfold aeU
 try simp only [tpI,tlI]
 simp only [hS.n,hS.a,hS.g,hT,and_self,if_true,atv hT]
 show _ = some ((afz (aab e.recs (aaB x.stack)) (e.prog (aab e.recs (aaB x.stack))),()),(x,e,()))
 generalize aab e.recs (aaB x.stack) = r
 by_cases h1 : r.prog < 0
 ·rw [afH (.inl h1)]
  simp only [h1,if_true,afz,List.length_nil]
  split
  ·rfl
  ·rw [if_pos (show r.pc < 0 ∨ ((0 : Nat) : Int) ≤ r.pc by omega)]
   split
   ·rfl
   ·rw [if_pos (by omega)]
 by_cases h2 : (e.c.progs.length : Int) ≤ r.prog
 ·rw [afH (.inr h2)]
  simp only [h1,h2,if_true,if_false,afz,List.length_nil]
  split
  ·rfl
  ·rw [if_pos (show r.pc < 0 ∨ ((0 : Nat) : Int) ≤ r.pc by omega)]
   split
   ·rfl
   ·rw [if_pos (by omega)]
 rw [ao6 h1 h2]
 generalize atL [] e.c.progs r.prog = p
 unfold afz
 rw [if_neg h1,if_neg h2]
 rw [if_pos (show 0 ≤ r.prog ∧ r.prog < (e.c.progs.length : Int) by omega)]
 by_cases hw : r.waiting ≠ -1
 ·rw [if_pos hw,if_pos hw]
 rw [if_neg hw,if_neg hw]
 by_cases h3 : r.pc < 0
 ·rw [if_pos h3,if_pos (.inl h3)]
 by_cases h4 : (p.length : Int) ≤ r.pc
 ·rw [if_neg h3,if_pos h4,if_pos (.inr h4)]
 rw [if_neg h3,if_neg h4,if_neg (show ¬ (r.pc < 0 ∨ (p.length : Int) ≤ r.pc) by omega)]
 have hp : 0 ≤ r.pc ∧ r.pc < (p.length : Int) := by omega
 rw [if_pos hp]
 by_cases c1 : (acl p r.pc).op = 0
 ·rw [if_pos c1,if_pos c1]
 rw [if_neg c1,if_neg c1,if_pos hp]
 by_cases c2 : (acl p r.pc).op = 1
 ·rw [if_pos c2,if_pos c2]
 rw [if_neg c2,if_neg c2,if_pos hp]
 by_cases h5 : (acl p r.pc).a < 0
 ·rw [if_pos h5,if_pos (.inl h5)]
 by_cases h6 : (r.kids.length : Int) ≤ (acl p r.pc).a
 ·rw [if_neg h5,if_pos h6,if_pos (.inr (.inl h6))]
 rw [if_neg h5,if_neg h6,if_pos (show 0 ≤ (acl p r.pc).a ∧ (acl p r.pc).a < (r.kids.length : Int) by omega)]
 by_cases h7 : aed r.kids (acl p r.pc).a = -1
 ·rw [if_pos h7,if_pos (.inr (.inr h7))]
 ·rw [if_neg h7,if_neg (by omega)]
theorem amr {x : RunV MV} {v : Ev} (h : e.evs.length ≤ 999999999) : aaK x e v = some ((),(x,{ e with evs := e.evs ++ [{ v with worker := x.worker }] },())) := by
 unfold aaK
 try simp only [tpI,tlI]
 rw [acd h,bnd]
theorem aDT (hS : SOk st) (hT : 0 ≤ aaB st ∧ aaB st < (e.recs.length : Int)) : aaG ⟨o,w,st,1,m,id,ch,lv,wt⟩ e = some ((false,()),(⟨o,w,st,0,.nil,id,ch,lv,wt⟩,(e.pt 2 (aeJ e.l (aaB st)) 0).pr (aaB st) { e.rc (aaB st) with waiting := -1 },())) := by
 unfold aaG
 try simp only [tpI,tlI]
 simp only [tpI,tlI,hS.n,hS.a,hS.g,hT,and_self,if_true,alo,abr,aac,bnd]
 rfl
theorem aDS (hS : SOk st) (hT : 0 ≤ aaB st ∧ aaB st < (e.recs.length : Int)) (hp : ¬ ((e.rc (aaB st)).pc < 0 ∨ ((e.prog (e.rc (aaB st))).length : Int) ≤ (e.rc (aaB st)).pc)) : aaG ⟨o,w,st,2,m,id,ch,lv,wt⟩ e = some ((false,()),(⟨o,w,st,0,.nil,id,ch,lv,wt⟩,e.pr (aaB st) (auc (e.rc (aaB st)) (acl (e.prog (e.rc (aaB st))) (e.rc (aaB st)).pc)),())) := by
 unfold aaG
 try simp only [tpI,tlI]
 simp only [tpI,tlI,hS.n,hS.a,hS.g,hT,and_self,if_true,Int.reduceEq,if_false,amc hT,List.set_set,aac,bnd,List.length_set]
 show _ = some ((false,()),(_,{ e with recs := e.recs.set (aaB st).toNat (auc (aab e.recs (aaB st)) (acl (e.prog (aab e.recs (aaB st))) (aab e.recs (aaB st)).pc)) },()))
 have hp' : ¬ ((aab e.recs (aaB st)).pc < 0 ∨ ((e.prog (aab e.recs (aaB st))).length : Int) ≤ (aab e.recs (aaB st)).pc) := hp
 generalize aab e.recs (aaB st) = r at hp' ⊢
 by_cases h1 : r.prog < 0
 ·rw [afH (.inl h1)] at hp'; simp only [List.length_nil] at hp'; omega
 by_cases h2 : (e.c.progs.length : Int) ≤ r.prog
 ·rw [afH (.inr h2)] at hp'; simp only [List.length_nil] at hp'; omega
 rw [ao6 h1 h2] at hp' ⊢
 have h3 : (0 ≤ r.prog ∧ r.prog < (e.c.progs.length : Int)) = True := eq_true (by omega)
 have h4 : (0 ≤ r.pc ∧ r.pc < ((atL [] e.c.progs r.prog).length : Int)) = True := eq_true (by omega)
 simp only [h1,h2,h3,h4,if_true,if_false,auc]
 by_cases h5 : r.left = 0
 ·simp only [h5,if_true]
  split <;> rfl
 ·simp only [h5,if_false]
  split <;> rfl
theorem aDR (hS : SOk st) (hT : 0 ≤ aaB st ∧ aaB st < (e.recs.length : Int)) : aaG ⟨o,w,st,3,m,id,ch,lv,wt⟩ e = some ((false,()),(⟨o,w,st,0,.nil,id,ch,lv,wt⟩,e.pr (aaB st) { e.rc (aaB st) with pc := wi ((e.rc (aaB st)).pc + 1) },())) := by
 unfold aaG
 try simp only [tpI,tlI]
 simp only [tpI,tlI,hS.n,hS.a,hS.g,hT,and_self,if_true,Int.reduceEq,if_false,aac,bnd]
 rfl
end
end
section
open Go Go.RowKit
set_option maxRecDepth 100000
set_option maxRecDepth 100000
section
variable [Tb] {e : EnvP} {o : OutV} {w ln id ch lv wt : Int} {st : List Int} {m : MV}
theorem axT (hS : SOk st) (hT : 0 ≤ aaB st ∧ aaB st < (e.recs.length : Int)) (hp : ¬ ((e.rc (aaB st)).pc < 0 ∨ ((e.prog (e.rc (aaB st))).length : Int) ≤ (e.rc (aaB st)).pc)) (hl : e.evs.length ≤ 999999999) (hk : (e.rc (aaB st)).kids.length ≤ 999999999) (v : Int) :
  acb ⟨o,w,st,4,m,id,ch,lv,wt⟩ e 3 v = some ((false,()),(⟨o,w,st,0,.nil,id,ch,lv,wt⟩,(e.pr (aaB st) { e.rc (aaB st) with pc := wi ((e.rc (aaB st)).pc + 1),kids := (e.rc (aaB st)).kids ++ [-1] }).em 4 w (aaB st) 0 0,())) := by
 unfold acb
 try unfold tpI
 try unfold tlI
 have he : ∀ (x : RunV MV) (rs : List RecP) (v : Ev),aaK x { e with recs := rs } v = some ((),(x,{ e with recs := rs,evs := e.evs ++ [{ v with worker := x.worker }] },())) := fun x rs v =>amr (e := { e with recs := rs }) hl
 simp only [hS.n,hS.a,hS.g,hT,and_self,if_true,amc hT,List.set_set,List.length_set]
 have hp' : ¬ ((aab e.recs (aaB st)).pc < 0 ∨ ((e.prog (aab e.recs (aaB st))).length : Int) ≤ (aab e.recs (aaB st)).pc) := hp
 have hk' : (aab e.recs (aaB st)).kids.length ≤ 999999999 := hk
 show _ = some ((false,()),(_,EnvP.em { e with recs := e.recs.set (aaB st).toNat { aab e.recs (aaB st) with pc := wi ((aab e.recs (aaB st)).pc + 1),kids := (aab e.recs (aaB st)).kids ++ [-1] } } 4 w (aaB st) 0 0,()))
 generalize aab e.recs (aaB st) = r at hp' hk' ⊢
 by_cases h1 : r.prog < 0
 ·rw [afH (.inl h1)] at hp'; simp only [List.length_nil] at hp'; omega
 by_cases h2 : (e.c.progs.length : Int) ≤ r.prog
 ·rw [afH (.inr h2)] at hp'; simp only [List.length_nil] at hp'; omega
 rw [ao6 h1 h2] at hp'
 rw [if_neg h1,if_neg h2,if_pos (show 0 ≤ r.prog ∧ r.prog < (e.c.progs.length : Int) by omega),if_pos (show 0 ≤ r.pc ∧ r.pc < ((atL [] e.c.progs r.prog).length : Int) by omega),if_pos (show (((r.kids.length + ([-1] : List Int).length : Nat)) : Int) < 1000000000000 by rw [List.length_singleton]; omega)]
 rw [he,bnd,aac,bnd]
 rfl
theorem aAq (hS : SOk st) (hT : 0 ≤ aaB st ∧ aaB st < (e.recs.length : Int)) (hp : ¬ ((e.rc (aaB st)).pc < 0 ∨ ((e.prog (e.rc (aaB st))).length : Int) ≤ (e.rc (aaB st)).pc)) (hk : (e.rc (aaB st)).kids.length ≤ 999999999) (v : Int) (hv : 0 ≤ v ∧ v < (e.recs.length : Int)) :
  acb ⟨o,w,st,4,m,id,ch,lv,wt⟩ e 1 v = some ((false,()),(⟨o,w,st,5,.publish ⟨o0,v,(acl (e.prog (e.rc (aaB st))) (e.rc (aaB st)).pc).b,1⟩,v,ch,(acl (e.prog (e.rc (aaB st))) (e.rc (aaB st)).pc).b,wt⟩,(e.pr (aaB st) { e.rc (aaB st) with pc := wi ((e.rc (aaB st)).pc + 1),kids := (e.rc (aaB st)).kids ++ [v] }).pr v (axX (acl (e.prog (e.rc (aaB st))) (e.rc (aaB st)).pc).a (aaB st)),())) := by
 unfold acb
 try unfold tpI
 try unfold tlI
 simp only [hS.n,hS.a,hS.g,hT,and_self,if_true,amc hT,List.set_set,List.length_set,Int.reduceEq,if_false,hv]
 have hp' : ¬ ((aab e.recs (aaB st)).pc < 0 ∨ ((e.prog (aab e.recs (aaB st))).length : Int) ≤ (aab e.recs (aaB st)).pc) := hp
 have hk' : (aab e.recs (aaB st)).kids.length ≤ 999999999 := hk
 show _ = some ((false,()),((⟨o,w,st,5,.publish ⟨o0,v,(acl (e.prog (aab e.recs (aaB st))) (aab e.recs (aaB st)).pc).b,1⟩,v,ch,(acl (e.prog (aab e.recs (aaB st))) (aab e.recs (aaB st)).pc).b,wt⟩ : RunV MV),({ e with recs := (e.recs.set (aaB st).toNat { aab e.recs (aaB st) with pc := wi ((aab e.recs (aaB st)).pc + 1),kids := (aab e.recs (aaB st)).kids ++ [v] }).set v.toNat ⟨(acl (e.prog (aab e.recs (aaB st))) (aab e.recs (aaB st)).pc).a,aaB st,0,0,-1,[],false⟩ } : EnvP),()))
 generalize aab e.recs (aaB st) = r at hp' hk' ⊢
 by_cases h1 : r.prog < 0
 ·rw [afH (.inl h1)] at hp'; simp only [List.length_nil] at hp'; omega
 by_cases h2 : (e.c.progs.length : Int) ≤ r.prog
 ·rw [afH (.inr h2)] at hp'; simp only [List.length_nil] at hp'; omega
 rw [ao6 h1 h2] at hp' ⊢
 rw [if_neg h1,if_neg h2,if_pos (show 0 ≤ r.prog ∧ r.prog < (e.c.progs.length : Int) by omega),if_pos (show 0 ≤ r.pc ∧ r.pc < ((atL [] e.c.progs r.prog).length : Int) by omega),if_pos (show (((r.kids.length + ([v] : List Int).length : Nat)) : Int) < 1000000000000 by rw [List.length_singleton]; omega)]
 rw [aiT,bnd,aac,bnd]
theorem aIN (hS : SOk st) (hT : 0 ≤ aaB st ∧ aaB st < (e.recs.length : Int)) (hp : ¬ ((e.rc (aaB st)).pc < 0 ∨ ((e.prog (e.rc (aaB st))).length : Int) ≤ (e.rc (aaB st)).pc)) (ha : ¬ ((acl (e.prog (e.rc (aaB st))) (e.rc (aaB st)).pc).a < 0 ∨ ((e.rc (aaB st)).kids.length : Int) ≤ (acl (e.prog (e.rc (aaB st))) (e.rc (aaB st)).pc).a)) :
  aaN ⟨o,w,st,9,m,id,ch,lv,wt⟩ e = some ((false,()),(⟨o,w,st,10,.nil,id,aed (e.rc (aaB st)).kids (acl (e.prog (e.rc (aaB st))) (e.rc (aaB st)).pc).a,lv,wt⟩,(e.pt 2 (aeJ e.l (aaB st)) (wu (wi (aed (e.rc (aaB st)).kids (acl (e.prog (e.rc (aaB st))) (e.rc (aaB st)).pc).a + 1)))).pr (aaB st) { e.rc (aaB st) with pc := wi ((e.rc (aaB st)).pc + 1),waiting := aed (e.rc (aaB st)).kids (acl (e.prog (e.rc (aaB st))) (e.rc (aaB st)).pc).a },())) := by
 unfold aaN
 try unfold tpI
 try unfold tlI
 simp only [hS.n,hS.a,hS.g,hT,and_self,if_true,atv hT,amc hT,List.set_set,List.length_set]
 have hp' : ¬ ((aab e.recs (aaB st)).pc < 0 ∨ ((e.prog (aab e.recs (aaB st))).length : Int) ≤ (aab e.recs (aaB st)).pc) := hp
 have ha' : ¬ ((acl (e.prog (aab e.recs (aaB st))) (aab e.recs (aaB st)).pc).a < 0 ∨ ((aab e.recs (aaB st)).kids.length : Int) ≤ (acl (e.prog (aab e.recs (aaB st))) (aab e.recs (aaB st)).pc).a) := ha
 show _ = some ((false,()),((⟨o,w,st,10,.nil,id,aed (aab e.recs (aaB st)).kids (acl (e.prog (aab e.recs (aaB st))) (aab e.recs (aaB st)).pc).a,lv,wt⟩ : RunV MV),EnvP.pr (e.pt 2 (aeJ e.l (aaB st)) (wu (wi (aed (aab e.recs (aaB st)).kids (acl (e.prog (aab e.recs (aaB st))) (aab e.recs (aaB st)).pc).a + 1)))) (aaB st) { aab e.recs (aaB st) with pc := wi ((aab e.recs (aaB st)).pc + 1),waiting := aed (aab e.recs (aaB st)).kids (acl (e.prog (aab e.recs (aaB st))) (aab e.recs (aaB st)).pc).a },()))
 generalize aab e.recs (aaB st) = r at hp' ha' ⊢
 by_cases h1 : r.prog < 0
 ·rw [afH (.inl h1)] at hp'; simp only [List.length_nil] at hp'; omega
 by_cases h2 : (e.c.progs.length : Int) ≤ r.prog
 ·rw [afH (.inr h2)] at hp'; simp only [List.length_nil] at hp'; omega
 rw [ao6 h1 h2] at hp' ha' ⊢
 rw [if_neg h1,if_neg h2,if_pos (show 0 ≤ r.prog ∧ r.prog < (e.c.progs.length : Int) by omega),if_pos (show 0 ≤ r.pc ∧ r.pc < ((atL [] e.c.progs r.prog).length : Int) by omega),if_pos (show 0 ≤ (acl (atL [] e.c.progs r.prog) r.pc).a ∧ (acl (atL [] e.c.progs r.prog) r.pc).a < (r.kids.length : Int) by omega)]
 rw [alo,bnd,abr,bnd,aac,bnd]
 rfl
theorem av5 {α β : Type} {X : Option ((Bool × Unit) × (α × β × Unit))} : (X.bind fun r =>some ((r.1.1,()),(r.2.1,r.2.2.1,()))) = X := by cases X <;> rfl
theorem arn (hS : SOk st) (hT : IsT e (aaB st)) (hc : e.c.tasks = (e.recs.length : Int)) (X : Option ((Bool × Unit) × (RunV MV × EnvP × Unit))) (a b c : Option ((Bool × Unit) × (RunV MV × EnvP × Unit))) :
  (if aaB st < 0 then a else if e.c.tasks ≤ aaB st then b else if (e.recs.length : Int) ≤ aaB st then c else X) = X := by
 have h1 := hT.1
 have h2 := hT.2
 rw [if_neg (by omega),if_neg (by omega),if_neg (by omega)]
theorem alf (hS : SOk st) (hT : IsT e (aaB st)) (hc : e.c.tasks = (e.recs.length : Int)) (h : 4 ≤ ln ∧ ln ≤ 8) : abm ⟨o0,w,st,ln,m,id,ch,lv,wt⟩ e = abi ⟨o0,w,st,ln,m,id,ch,lv,wt⟩ e := by
 unfold abm
 try unfold tpI
 try unfold tlI
 simp only [aax,abe,o0,bnd,hS.n,hS.a,hS.g,if_true,Bool.false_eq_true,if_false,av5,arn hS hT hc]
 rw [if_neg (by omega),if_neg (by omega),if_neg (by omega),if_neg (by omega),if_pos h.1,if_pos h.2]
theorem ajN (hS : SOk st) (hT : IsT e (aaB st)) (hc : e.c.tasks = (e.recs.length : Int)) (h : 9 ≤ ln ∧ ln ≤ 15) : abm ⟨o0,w,st,ln,m,id,ch,lv,wt⟩ e = aaN ⟨o0,w,st,ln,m,id,ch,lv,wt⟩ e := by
 unfold abm
 try unfold tpI
 try unfold tlI
 simp only [aax,abe,o0,bnd,hS.n,hS.a,hS.g,if_true,Bool.false_eq_true,if_false,av5,arn hS hT hc]
 rw [if_neg (by omega),if_neg (by omega),if_neg (by omega),if_neg (by omega),if_pos (show 4 ≤ ln by omega),if_neg (by omega),if_pos h.1,if_pos h.2]
theorem ahG (hS : SOk st) (hT : IsT e (aaB st)) (hc : e.c.tasks = (e.recs.length : Int)) (h : 16 ≤ ln) : abm ⟨o0,w,st,ln,m,id,ch,lv,wt⟩ e = aas ⟨o0,w,st,ln,m,id,ch,lv,wt⟩ e := by
 unfold abm
 try unfold tpI
 try unfold tlI
 simp only [aax,abe,o0,bnd,hS.n,hS.a,hS.g,if_true,Bool.false_eq_true,if_false,av5,arn hS hT hc]
 rw [if_neg (by omega),if_neg (by omega),if_neg (by omega),if_neg (by omega),if_pos (show 4 ≤ ln by omega),if_neg (by omega),if_pos (show 9 ≤ ln by omega),if_neg (by omega)]
theorem aBc (hS : SOk st) (hT : IsT e (aaB st)) (hc : e.c.tasks = (e.recs.length : Int)) {c : Int} (h : afz (e.rc (aaB st)) (e.prog (e.rc (aaB st))) = c) (hR : 0 ≤ aaB st ∧ aaB st < (e.recs.length : Int)) :
  abm ⟨o0,w,st,0,m,id,ch,lv,wt⟩ e = if c = 4 then abi ⟨o0,w,st,4,.alloc ⟨o0⟩,id,ch,lv,wt⟩ e else if c = 1 ∨ c = 2 ∨ c = 3 then aaG ⟨o0,w,st,c,m,id,ch,lv,wt⟩ e else if c = 9 then aaN ⟨o0,w,st,c,m,id,ch,lv,wt⟩ e else aas ⟨o0,w,st,c,m,id,ch,lv,wt⟩ e := by
 have hch := az6 (x := ⟨⟨false,0,0⟩,w,st,0,m,id,ch,lv,wt⟩) hS hR
 simp only [h] at hch
 have hv : c = 1 ∨ c = 16 ∨ c = 2 ∨ c = 4 ∨ c = 3 ∨ c = 9 := by
  rw [← h]
  unfold afz
  repeat' split
  all_goals simp
 unfold abm
 try unfold tpI
 try unfold tlI
 simp only [aax,abe,o0,bnd,hS.n,hS.a,hS.g,if_true,Bool.false_eq_true,if_false,av5,arn hS hT hc,hch,aeS]
 rcases hv with rfl | rfl | rfl | rfl | rfl | rfl <;> simp only [Int.reduceEq,Int.reduceLE,if_true,if_false,or_self,or_true,true_or,false_or,or_false]
end
end
end Go.Proofs.YteapeojalliebaaGreat
