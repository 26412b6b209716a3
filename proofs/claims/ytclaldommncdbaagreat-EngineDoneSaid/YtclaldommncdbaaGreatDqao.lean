/- The program's machines do what was said plainly, 1: memory, cells, words, the machines that run none inside. The program's machines do what was said plainly, 2: probing. What a step of the program's machines leaves of the environment: at most one access, few events, records of the same number. The program's machines do what was said plainly, 3: the machines that run others inside. The program's machines do what was said plainly: a sweep. The program's machines do what was said plainly, 4: a drain. The program's machines do what was said plainly, 5: running a task: parts. The program's machines do what was said plainly, 6: running a task: lines. -/
import Derived.Test.YtclaldommncdbaaGreatDqan
set_option linter.all false
namespace Go.Proofs.YtclaldommncdbaaGreat
section
open Go Go.RowKit
set_option maxRecDepth 100000
theorem ayQ {α : Type} {d : α} {xs : List α} {a : Int} {x : α} (h : 0 ≤ a ∧ a < (xs.length : Int)) : atL d (xs.set a.toNat x) a = x := by
  have : a.toNat < xs.length := by omega
  simp [atL, this]
theorem ai4 {cs : List Int} {a x : Int} (h : 0 ≤ a ∧ a < (cs.length : Int)) : aeA (cs.set a.toNat x) a = x := ayQ h
theorem aD4 {x : Int} (h : ¬ x < 1) (h2 : x ≤ 9223372036854775807) : wu x ≠ 0 := by
  simp only [wu, IntKind.wrap, IntKind.bits, IntKind.signed]
  simp
  omega
theorem aD5 (a : Int) : 0 ≤ wu a ∧ wu a ≤ 18446744073709551615 := by
  simp only [wu, IntKind.wrap, IntKind.bits, IntKind.signed]
  simp
  omega
section
variable {m : MemV} {a o v : Int}
theorem abw : acy m a = some ((m.gt a, ()), (m.pt 1 a (m.gt a), ())) := by
  unfold acy MemV.gt MemV.pt
  by_cases h : 0 ≤ a ∧ a < (m.cells.length : Int)
  · have h1 : ¬ a < 0 := by omega
    have h2 : ¬ ((m.cells.length : Nat) : Int) ≤ a := by omega
    simp only [h1, h2, h, and_self, if_true, if_false, List.length_set, ai4 h]
  · by_cases h1 : a < 0
    · simp only [h1, h, if_true, if_false]
    · have h2 : ((m.cells.length : Nat) : Int) ≤ a := by omega
      simp only [h1, h2, h, if_true, if_false]
theorem abr : aa4 m a v = some ((), (m.pt 2 a v, ())) := by
  unfold aa4 MemV.pt
  by_cases h : 0 ≤ a ∧ a < (m.cells.length : Int)
  · have h1 : ¬ a < 0 := by omega
    have h2 : ¬ ((m.cells.length : Nat) : Int) ≤ a := by omega
    simp only [h1, h2, h, and_self, if_true, if_false, List.length_set, ai4 h]
  · by_cases h1 : a < 0
    · simp only [h1, h, if_true, if_false]
    · have h2 : ((m.cells.length : Nat) : Int) ≤ a := by omega
      simp only [h1, h2, h, if_true, if_false]
theorem aiK : arD m a o v = some ((m.hit a o, ()), (m.cas a o v, ())) := by
  unfold arD MemV.hit MemV.cas MemV.pt MemV.gt
  by_cases h : 0 ≤ a ∧ a < (m.cells.length : Int)
  · have h1 : ¬ a < 0 := by omega
    have h2 : ¬ ((m.cells.length : Nat) : Int) ≤ a := by omega
    by_cases hc : aeA m.cells a = o
    · simp only [h1, h2, h, hc, and_self, if_true, if_false, List.length_set, ai4 h]
    · simp only [h1, h2, h, hc, and_self, if_true, if_false, List.length_set, ai4 h, and_false]
  · by_cases h1 : a < 0
    · simp only [h1, h, if_true, if_false, false_and, decide_false]
    · have h2 : ((m.cells.length : Nat) : Int) ≤ a := by omega
      simp only [h1, h2, h, if_true, if_false, false_and, decide_false]
theorem au0 : pOr m a v = some ((m.gt a, ()), (m.pt 4 a (orU (m.gt a) v), ())) := by
  unfold pOr MemV.gt MemV.pt
  by_cases h : 0 ≤ a ∧ a < (m.cells.length : Int)
  · have h1 : ¬ a < 0 := by omega
    have h2 : ¬ ((m.cells.length : Nat) : Int) ≤ a := by omega
    simp only [h1, h2, h, and_self, if_true, if_false, List.length_set, ai4 h]
  · by_cases h1 : a < 0
    · simp only [h1, h, if_true, if_false]
    · have h2 : ((m.cells.length : Nat) : Int) ≤ a := by omega
      simp only [h1, h2, h, if_true, if_false]
theorem aos : aBe m a v = some ((m.gt a, ()), (m.pt 5 a (anO (m.gt a) v), ())) := by
  unfold aBe MemV.gt MemV.pt
  by_cases h : 0 ≤ a ∧ a < (m.cells.length : Int)
  · have h1 : ¬ a < 0 := by omega
    have h2 : ¬ ((m.cells.length : Nat) : Int) ≤ a := by omega
    simp only [h1, h2, h, and_self, if_true, if_false, List.length_set, ai4 h]
  · by_cases h1 : a < 0
    · simp only [h1, h, if_true, if_false]
    · have h2 : ((m.cells.length : Nat) : Int) ≤ a := by omega
      simp only [h1, h2, h, if_true, if_false]
theorem aqF : aDQ m a v = some ((m.gt a, ()), (m.pt 6 a (wu (m.gt a + v)), ())) := by
  unfold aDQ MemV.gt MemV.pt
  by_cases h : 0 ≤ a ∧ a < (m.cells.length : Int)
  · have h1 : ¬ a < 0 := by omega
    have h2 : ¬ ((m.cells.length : Nat) : Int) ≤ a := by omega
    simp only [h1, h2, h, and_self, if_true, if_false, List.length_set, ai4 h]
  · by_cases h1 : a < 0
    · simp only [h1, h, if_true, if_false]
    · have h2 : ((m.cells.length : Nat) : Int) ≤ a := by omega
      simp only [h1, h2, h, if_true, if_false]
end
theorem amc {a n : Int} : azb a n = some ((aqM a n, ()), ()) := by
  unfold azb aqM
  by_cases h : n < 1
  · rw [if_pos h, if_pos h]
  · rw [if_neg h, if_neg h, if_pos (show n ≠ 0 by omega)]
    split <;> rfl
theorem az8 {k : ClkV} {n : Int} : az9 k n = some ((at6 k n, ()), (k, ())) := by
  unfold az9 at6 aqM
  by_cases h : n < 1
  · rw [if_pos h, if_pos h]
  · rw [if_neg h, if_neg h, if_pos (show n ≠ 0 by omega)]
    split <;> rfl
theorem amd {n : Int} : azc n = some ((azh n, ()), ()) := by
  unfold azc azh
  rw [if_pos (aD5 n).1]
  split
  · rfl
  · split <;> rfl
theorem aqC {q : QV} {i : Int} (h : q.cap ≤ 9223372036854775807) : atF q i = some ((agC q i, ()), ()) := by
  unfold atF agC
  by_cases h1 : q.cap < 1
  · rw [if_pos h1, if_pos h1]
  · rw [if_neg h1, if_neg h1, if_pos (aD4 h1 h)]
theorem anD {b t : Int} : atA b t = some ((szP b t, ()), ()) := rfl
theorem apL {i n a w : Int} : pAt i n a w = some ((atP i n a w, ()), ()) := by
  unfold pAt atP
  split
  · rfl
  · split <;> rfl
theorem akZ {l : LayV} {t f : Int} : asb l t f = some ((acU l t f, ()), ()) := by unfold asb; rw [apL]; rfl
theorem adR {l : LayV} {t : Int} : ade l t = some ((aaV l t, ()), ()) := by unfold ade; rw [akZ]; rfl
theorem afq {l : LayV} {t : Int} : aeR l t = some ((abM l t, ()), ()) := by unfold aeR; rw [akZ]; rfl
theorem aiF {l : LayV} {t : Int} : ah5 l t = some ((akB l t, ()), ()) := by unfold ah5; rw [akZ]; rfl
theorem akX {l : LayV} {t : Int} : aiD l t = some ((aeC l t, ()), ()) := by unfold aiD; rw [akZ]; rfl
theorem aqz {l : LayV} {t : Int} : anh l t = some ((acN l t, ()), ()) := by unfold anh; rw [akZ]; rfl
theorem auZ {l : LayV} {t : Int} : ang l t = some ((aeF l t, ()), ()) := by unfold ang; rw [apL]; rfl
theorem ak1 {l : LayV} {t : Int} : apJ l t = some ((afO l t, ()), ()) := by unfold apJ; rw [apL]; rfl
theorem agH {l : LayV} {t : Int} : agt l t = some ((ag3 l t, ()), ()) := by unfold agt; rw [apL]; rfl
theorem aev {l : LayV} {t : Int} : agR l t = some ((aaI l t, ()), ()) := by unfold agR; rw [apL]; rfl
theorem aiH {l : LayV} {w v : Int} : agu l w v = some ((aaw l w v, ()), ()) := by
  unfold agu aaw
  simp only [apL, Option.bind_some]
  split
  · rfl
  · split <;> rfl
theorem az2 {d a t : Int} : az3 d a t = some (((aop d a t).1, (aop d a t).2, ()), ()) := by
  unfold az3 aop
  repeat' split
  all_goals rfl
theorem asd {l n c : Int} : ase l n c = some ((ayE l n c, ()), ()) := by
  unfold ase ayE
  by_cases h : n < 1
  · rw [if_pos h, if_pos h]
  · rw [if_neg h, if_neg h, if_pos (show n ≠ 0 by omega)]
    repeat' split
    all_goals rfl
theorem aF9 (a : Int) : 0 ≤ IntKind.u8.wrap a ∧ IntKind.u8.wrap a < 256 := by
  simp only [IntKind.wrap, IntKind.bits, IntKind.signed]
  simp
  omega
theorem au4 {x : Int} : agB x = some ((aqT x, ()), ()) := by
  have h : ∃ y, agB x = some ((y, ()), ()) := by
    have hs : ((air.size : Nat) : Int) = 256 := rfl
    unfold agB
    simp only [hs, aF9, and_self, if_true]
    repeat' split
    all_goals exact ⟨_, rfl⟩
  obtain ⟨y, hy⟩ := h
  unfold aqT
  rw [hy]
theorem axx [Tb] {x : Int} : aFR x = some ((aGo x, ()), ()) := by
  unfold aFR aGo
  split <;> rfl
theorem aca {e : EnvP} {v : Ev} (h : e.evs.length ≤ 999999999) : ad6 e v = some ((), ({ e with evs := e.evs ++ [v] }, ())) := by
  unfold ad6
  rw [if_pos (by rw [List.length_singleton]; omega)]
@[reducible] def o0 : OutV := ⟨false, 0, 0⟩
@[reducible] def avb (q : QV) (v : Int) : OPushS → OPushV
  | .l1 => ⟨o0, q, v, 1, 0⟩
  | .l2 b => ⟨o0, q, v, 2, b⟩
  | .l3 b => ⟨o0, q, v, 3, b⟩
  | .l4 b => ⟨o0, q, v, 4, b⟩
@[reducible] def aAb (q : QV) : OPopS → OPopV
  | .l1 => ⟨o0, q, 1, 0, 0⟩
  | .l2 b => ⟨o0, q, 2, b, 0⟩
  | .l3 b t => ⟨o0, q, 3, b, t⟩
  | .l4 b t => ⟨o0, q, 4, b, t⟩
  | .l5 b t => ⟨o0, q, 5, b, t⟩
  | .l6 b t => ⟨o0, q, 6, b, t⟩
  | .l7 b t => ⟨o0, q, 7, b, t⟩
  | .l8 b t => ⟨o0, q, 8, b, t⟩
  | .l9 b t => ⟨o0, q, 9, b, t⟩
@[reducible] def auF (q : QV) : StealS → StealV
  | .l1 => ⟨o0, q, 1, 0, 0⟩
  | .l2 t => ⟨o0, q, 2, t, 0⟩
  | .l3 t => ⟨o0, q, 3, t, 0⟩
  | .l4 t v => ⟨o0, q, 4, t, v⟩
@[reducible] def ar0 (a b : Int) (q : QV) : ResetS → ResetV
  | .l1 => ⟨o0, a, b, q, 1, 0⟩
  | .l2 => ⟨o0, a, b, q, 2, 0⟩
  | .l3 x => ⟨o0, a, b, q, 3, x⟩
  | .l4 x => ⟨o0, a, b, q, 4, x⟩
@[reducible] def akR (t v : Int) : PublishS → PublishV
  | .l1 => ⟨o0, t, v, 1⟩
  | .l2 => ⟨o0, t, v, 2⟩
  | .l3 => ⟨o0, t, v, 3⟩
@[reducible] def aqS (d t : Int) : InsertS → InsertV
  | .l1 => ⟨o0, d, t, 1, 0, 0, 0, 0⟩
  | .l2 n => ⟨o0, d, t, 2, n, 0, 0, 0⟩
  | .l3 n i k x => ⟨o0, d, t, 3, n, i, k, x⟩
  | .l4 n i k x => ⟨o0, d, t, 4, n, i, k, x⟩
  | .l5 n i k x => ⟨o0, d, t, 5, n, i, k, x⟩
  | .l6 n i k x => ⟨o0, d, t, 6, n, i, k, x⟩
@[reducible] def aql (w : Int) : RemoveS → RemoveV
  | .l1 => ⟨o0, w, 1, 0, 0, 0, 0, 0, 0⟩
  | .l2 n => ⟨o0, w, 2, n, 0, 0, 0, 0, 0⟩
  | .l3 n x => ⟨o0, w, 3, n, 0, 0, x, 0, 0⟩
  | .l4 n x y => ⟨o0, w, 4, n, 0, 0, x, y, 0⟩
  | .l5 n i c x y z => ⟨o0, w, 5, n, i, c, x, y, z⟩
  | .l6 n i c x y z => ⟨o0, w, 6, n, i, c, x, y, z⟩
  | .l7 n i c x y z => ⟨o0, w, 7, n, i, c, x, y, z⟩
  | .l8 n i c x y z => ⟨o0, w, 8, n, i, c, x, y, z⟩
@[reducible] def arK (w v : Int) : WakeS → WakeV
  | .l1 j => ⟨o0, w, v, 1, j, 0⟩
  | .l2 j x => ⟨o0, w, v, 2, j, x⟩
  | .l3 j x => ⟨o0, w, v, 3, j, x⟩
@[reducible] def arQ (w : Int) : SleepS → SleepV
  | .l1 => ⟨o0, w, 1, 0, 0, 0⟩
  | .l2 ep => ⟨o0, w, 2, ep, 0, 0⟩
  | .l3 ep => ⟨o0, w, 3, ep, 0, 0⟩
  | .l4 ep v => ⟨o0, w, 4, ep, v, 0⟩
  | .l5 ep v s => ⟨o0, w, 5, ep, v, s⟩
  | .l6 ep v s => ⟨o0, w, 6, ep, v, s⟩
  | .l7 ep v s => ⟨o0, w, 7, ep, v, s⟩
@[reducible] def akU (w : Int) : ProbeS → ProbeV
  | .new => ⟨o0, w, false, 0, 0, aF1⟩
  | .run s i bm => ⟨o0, w, true, s, i, bm⟩
@[reducible] def ar6 (w t v : Int) : RaiseS → RaiseV
  | .l1 q => ⟨o0, w, t, v, 1, q⟩
  | .l2 q => ⟨o0, w, t, v, 2, q⟩
def aaY {σ X : Type} (og : X → OutV) (mk : σ → X) (res : Option ((Bool × Unit) × (X × EnvP × Unit))) (r : Rs σ × EnvP) : Prop :=
  match r with
  | (.go s, e) => res = some ((false, ()), (mk s, e, ()))
  | (.fin c v, e) => ∃ x, res = some ((true, ()), (x, e, ())) ∧ og x = ⟨true, c, v⟩
section
variable {σ X : Type} {og : X → OutV} {mk : σ → X} {a b : Option ((Bool × Unit) × (X × EnvP × Unit))} {r s : Rs σ × EnvP}
theorem aaY.ite {c : Prop} [Decidable c] (h1 : c → aaY og mk a r) (h2 : ¬ c → aaY og mk b s) : aaY og mk (if c then a else b) (if c then r else s) := by
  by_cases h : c
  · rw [if_pos h, if_pos h]; exact h1 h
  · rw [if_neg h, if_neg h]; exact h2 h
theorem aaY.iteN {c : Bool} (h1 : c = true → aaY og mk b r) (h2 : c = false → aaY og mk a s) : aaY og mk (if (!c) = true then a else b) (if c = true then r else s) := by
  cases c
  · exact h2 rfl
  · exact h1 rfl
theorem aaY.iteL {c : Prop} [Decidable c] (h1 : c → aaY og mk a r) (h2 : ¬ c → aaY og mk b r) : aaY og mk (if c then a else b) r := by
  by_cases h : c
  · rw [if_pos h]; exact h1 h
  · rw [if_neg h]; exact h2 h
theorem aa2 {c : Prop} [Decidable c] {x y : Rs σ} {e : EnvP} : ((if c then x else y), e) = if c then (x, e) else (y, e) := by split <;> rfl
theorem asE {c : Prop} [Decidable c] {x y : σ} : Rs.go (if c then x else y) = if c then Rs.go x else Rs.go y := by split <;> rfl
end
theorem aci {α β : Type} {c : Prop} [Decidable c] {x y : Option α} {f : α → Option β} : (if c then x else y).bind f = if c then x.bind f else y.bind f := by split <;> rfl
section
variable {e : EnvP}
theorem ash {q : QV} {v : Int} (hq : q.cap ≤ 9223372036854775807) (s : OPushS) : aaY OPushV.o (avb q v) (adr (avb q v s) e) (aeS q v e s) := by
  cases s <;> simp only [adr, avb, aeS, aav, abe, o0, abw, abr, anD, aqC hq, Option.bind_some, Bool.false_eq_true, if_true, if_false, reduceIte, Int.reduceEq, aa2]
  all_goals repeat' first | with_reducible refine aaY.ite (fun _ => ?_) fun _ => ?_ | with_reducible refine aaY.iteN (fun _ => ?_) fun _ => ?_
  all_goals first | rfl | exact ⟨_, rfl, rfl⟩
theorem aAa {q : QV} (hq : q.cap ≤ 9223372036854775807) (s : OPopS) : aaY OPopV.o (aAb q) (adS (aAb q s) e) (anj q e s) := by
  cases s <;> simp only [adS, agS, aAb, anj, aav, abe, o0, abw, abr, aiK, anD, aqC hq, Option.bind_some, Bool.false_eq_true, if_true, if_false, reduceIte, Int.reduceEq, aa2, aci]
  all_goals repeat' first | with_reducible refine aaY.ite (fun _ => ?_) fun _ => ?_ | with_reducible refine aaY.iteN (fun _ => ?_) fun _ => ?_
  all_goals first | rfl | exact ⟨_, rfl, rfl⟩
theorem awO {q : QV} (hq : q.cap ≤ 9223372036854775807) (s : StealS) : aaY StealV.o (auF q) (ac0 (auF q s) e) (ag1 q e s) := by
  cases s <;> simp only [ac0, auF, ag1, aav, abe, o0, abw, abr, aiK, anD, aqC hq, Option.bind_some, Bool.false_eq_true, if_true, if_false, reduceIte, Int.reduceEq, aa2]
  all_goals repeat' first | with_reducible refine aaY.ite (fun _ => ?_) fun _ => ?_ | with_reducible refine aaY.iteN (fun _ => ?_) fun _ => ?_
  all_goals first | rfl | exact ⟨_, rfl, rfl⟩
theorem arZ {a b : Int} {q : QV} (s : ResetS) : aaY ResetV.o (ar0 a b q) (acK (ar0 a b q s) e) (afo a b q e s) := by
  cases s <;> simp only [acK, ar0, afo, aav, abe, o0, abw, abr, aos, au0, amd, anD, Option.bind_some, Bool.false_eq_true, if_true, if_false, reduceIte, Int.reduceEq, aa2]
  all_goals repeat' first | with_reducible refine aaY.ite (fun _ => ?_) fun _ => ?_ | with_reducible refine aaY.iteN (fun _ => ?_) fun _ => ?_
  all_goals first | rfl | exact ⟨_, rfl, rfl⟩
theorem aCb {a b : Int} : ∃ x, adt ⟨o0, a, b⟩ e = some ((true, ()), (x, aCd a b e, ())) ∧ x.o = ⟨true, 0, 0⟩ := by
  simp only [adt, aav, abe, o0, au0, amd, Option.bind_some, Bool.false_eq_true, if_true, if_false]
  exact ⟨_, rfl, rfl⟩
theorem aiP {t : Int} : aeX e t = some ((decide (IsT e t), ()), (e, ())) := by
  unfold aeX IsT
  by_cases h : 0 ≤ t
  · simp only [h, if_true, true_and]
  · simp only [h, if_false, false_and, decide_false]
theorem aq0 {t v : Int} : ai2 e t v = some ((decide (awv e t v), ()), (e, ())) := by
  unfold ai2 awv
  by_cases h : 0 ≤ t
  · by_cases h2 : t < e.c.tasks
    · by_cases h3 : 0 ≤ v
      · simp only [h, h2, h3, if_true, true_and]
      · simp only [h, h2, h3, if_true, if_false, false_and, and_false, decide_false]
    · simp only [h, h2, if_true, if_false, false_and, and_false, decide_false]
  · simp only [h, if_false, false_and, decide_false]
theorem as3 : ∃ x, abQ ⟨o0⟩ e = some ((true, ()), (x, ab6 e, ())) ∧ x.o = if IsT e (wi (e.gt 0)) then ⟨true, 1, wi (e.gt 0)⟩ else ⟨true, 3, 0⟩ := by
  simp only [abQ, aav, abe, axw, o0, aqF, aiP, Option.bind_some, Bool.false_eq_true, if_true, if_false]
  by_cases h : IsT e (wi (e.gt 0))
  · have h' : IsT { e with m := e.m.pt 6 0 (wu (e.m.gt 0 + 1)) } (wi (e.m.gt 0)) := h
    simp only [h, h', decide_true, Bool.not_true, Bool.false_eq_true, if_true, if_false]
    exact ⟨_, rfl, rfl⟩
  · have h' : ¬ IsT { e with m := e.m.pt 6 0 (wu (e.m.gt 0 + 1)) } (wi (e.m.gt 0)) := h
    simp only [h, h', decide_false, Bool.not_false, if_true, if_false]
    exact ⟨_, rfl, rfl⟩
theorem atx {t v : Int} (s : PublishS) : aaY PublishV.o (akR t v) (abI (akR t v s) e) (aff t v e s) := by
  by_cases h : IsT e t
  · cases s <;> simp only [abI, akR, aff, aiP, h, not_true, decide_true, Bool.not_true, aav, abe, aqx, o0, abr, afq, aiF, adR, Option.bind_some, Bool.false_eq_true, if_true, if_false, reduceIte, Int.reduceEq]
    all_goals first | rfl | exact ⟨_, rfl, rfl⟩
  · cases s <;> simp only [abI, akR, aff, aiP, h, not_false_eq_true, decide_false, Bool.not_false, aav, abe, o0, Option.bind_some, Bool.false_eq_true, if_true, if_false]
    all_goals exact ⟨_, rfl, rfl⟩
theorem aqO {w : Int} {b : Bool} : ∃ d x, acG ⟨o0, w, b⟩ e = some ((d, ()), (x, atV w e, ())) ∧ (d = true → x.o = if e.hit 1 0 = true then ⟨true, 1, 0⟩ else ⟨true, 5, 0⟩) ∧ (d = (e.hit 1 0 || b)) ∧ (d = false → x = ⟨o0, w, b⟩) := by
  simp only [acG, aav, abe, axy, o0, aiK, Option.bind_some, Bool.false_eq_true, if_true, if_false]
  rcases Bool.eq_false_or_eq_true (e.m.hit 1 0) with h | h
  · simp only [h, if_true]; exact ⟨_, _, rfl, (fun _ => rfl), rfl, (fun h => by cases h)⟩
  · cases b
    · simp only [h, Bool.false_eq_true, if_false]; exact ⟨_, _, rfl, (fun h => by cases h), rfl, fun _ => rfl⟩
    · simp only [h, Bool.false_eq_true, if_false, if_true]; exact ⟨_, _, rfl, (fun _ => rfl), rfl, (fun h => by cases h)⟩
theorem avp : ∃ x, acF ⟨o0⟩ e = some ((true, ()), (x, asF e, ())) ∧ x.o = ⟨true, 0, 0⟩ := by
  simp only [acF, aav, abe, axy, o0, abr, Option.bind_some, Bool.false_eq_true, if_true, if_false]
  exact ⟨_, rfl, rfl⟩
theorem alw {w t : Int} (hl : e.evs.length ≤ 999999999) (hr : e.hit (aaV e.l t) 1 = true → 0 ≤ t ∧ t < (e.recs.length : Int)) : ∃ x, ac1 ⟨o0, w, t⟩ e = some ((true, ()), (x, agz w t e, ())) ∧ x.o = if adX t e = true then ⟨true, 1, t⟩ else ⟨true, 4, 0⟩ := by
  simp only [ac1, aav, abe, o0, aiK, adR, Option.bind_some, Bool.false_eq_true, if_true, if_false]
  unfold agz adX
  simp only [EnvP.hit] at hr ⊢
  rcases Bool.eq_false_or_eq_true (e.m.hit (aaV e.l t) 1) with h | h
  · simp only [h, Bool.not_true, Bool.false_eq_true, if_true, if_false, hr h, and_self]
    by_cases hs : (aab e.recs t).started = true
    · have hs' : (e.rc t).started = true := hs
      simp only [hs, hs', if_true, aca (e := { e with m := e.m.cas (aaV e.l t) 1 2 }) hl, Option.bind_some]
      exact ⟨_, rfl, rfl⟩
    · have hs' : ¬ (e.rc t).started = true := hs
      simp only [hs, hs', if_false, aca (e := { e with m := e.m.cas (aaV e.l t) 1 2, recs := e.recs.set t.toNat { aab e.recs t with started := true } }) hl, Option.bind_some]
      exact ⟨_, rfl, rfl⟩
  · simp only [h, Bool.not_false, Bool.false_eq_true, if_true, if_false, aca (e := { e with m := e.m.cas (aaV e.l t) 1 2 }) hl, Option.bind_some]
    exact ⟨_, rfl, rfl⟩
theorem apS {d t : Int} (s : InsertS) : aaY InsertV.o (aqS d t) (abD (aqS d t s) e) (acO d t e s) := by
  cases s <;> simp only [abD, ads, ar9, aqS, acO, aav, abe, afN, aqE, o0, abw, abr, aqF, auZ, az2, Option.bind_some, Bool.false_eq_true, if_true, if_false, reduceIte, Int.reduceEq, aa2, aci, asE]
  all_goals repeat' first | with_reducible refine aaY.ite (fun _ => ?_) fun _ => ?_ | with_reducible refine aaY.iteN (fun _ => ?_) fun _ => ?_
  all_goals first | rfl | exact ⟨_, rfl, rfl⟩
theorem av1 {w : Int} (hl : e.evs.length ≤ 999999999) (s : RemoveS) : aaY RemoveV.o (aql w) (abC (aql w s) e) (ada w e s) := by
  have hm : ∀ m v, ad6 { e with m := m } v = some ((), ({ e with m := m, evs := e.evs ++ [v] }, ())) := fun m v => aca (e := { e with m := m }) hl
  cases s <;> simp only [abC, aep, acZ, acM, ab3, asT, awj, aql, ada, aav, abe, afN, atz, o0, abw, abr, auZ, hm, Option.bind_some, Bool.false_eq_true, if_true, if_false, reduceIte, Int.reduceEq, aa2, aci, asE]
  all_goals repeat' first | with_reducible refine aaY.ite (fun _ => ?_) fun _ => ?_ | with_reducible refine aaY.iteN (fun _ => ?_) fun _ => ?_
  all_goals first | rfl | exact ⟨_, rfl, rfl⟩ | skip
  refine aaY.iteL (fun h => ?_) fun h => ?_
  · rw [if_pos h]
    exact aaY.ite (fun _ => rfl) fun _ => rfl
  · rw [if_neg h]
    exact aaY.ite (fun _ => rfl) fun _ => rfl
theorem ar5 {w t v : Int} (hl : e.evs.length ≤ 999999999) (s : RaiseS) : aaY RaiseV.o (ar6 w t v) (act (ar6 w t v s) e) (aed w t v e s) := by
  have hm : ∀ m v, ad6 { e with m := m } v = some ((), ({ e with m := m, evs := e.evs ++ [v] }, ())) := fun m v => aca (e := { e with m := m }) hl
  by_cases h : awv e t v
  · cases s <;> simp only [act, ar6, aed, aq0, h, not_true, decide_true, Bool.not_true, aav, abe, o0, abw, aiK, afq, hm, Option.bind_some, Bool.false_eq_true, if_true, if_false, reduceIte, Int.reduceEq, aa2]
    all_goals repeat' first | with_reducible refine aaY.ite (fun _ => ?_) fun _ => ?_ | with_reducible refine aaY.iteN (fun _ => ?_) fun _ => ?_
    all_goals first | rfl | exact ⟨_, rfl, rfl⟩
  · cases s <;> simp only [act, ar6, aed, aq0, h, not_false_eq_true, decide_false, Bool.not_false, aav, abe, o0, Option.bind_some, Bool.false_eq_true, if_true, if_false]
    all_goals exact ⟨_, rfl, rfl⟩
theorem awW {w : Int} (hl : e.evs.length ≤ 999999999) (s : SleepS) : aaY SleepV.o (arQ w) (acX (arQ w s) e) (afn w e s) := by
  have hm : ∀ m k v, ad6 { e with m := m, k := k } v = some ((), ({ e with m := m, k := k, evs := e.evs ++ [v] }, ())) := fun m k v => aca (e := { e with m := m, k := k }) hl
  by_cases hc : e.c.classes < 1
  · cases s <;> simp only [acX, af2, af1, arQ, afn, ag4, hc, aav, abe, aqx, afN, o0, abw, au0, aos, amd, amc, ak1, agH, aev, hm, Option.bind_some, Bool.false_eq_true, if_true, if_false, reduceIte, Int.reduceEq, aa2, aci]
    all_goals repeat' first | with_reducible refine aaY.ite (fun _ => ?_) fun _ => ?_ | with_reducible refine aaY.iteN (fun _ => ?_) fun _ => ?_
    all_goals first | rfl | exact ⟨_, rfl, rfl⟩
  · cases s <;> simp only [acX, af2, af1, arQ, afn, ag4, hc, aav, abe, aqx, afN, o0, abw, au0, aos, amd, amc, ak1, agH, aev, hm, Option.bind_some, Bool.false_eq_true, if_true, if_false, reduceIte, Int.reduceEq, aa2, aci]
    all_goals repeat' first | with_reducible refine aaY.ite (fun _ => ?_) fun _ => ?_ | with_reducible refine aaY.iteN (fun _ => ?_) fun _ => ?_
    all_goals first | rfl | exact ⟨_, rfl, rfl⟩
theorem akr [Tb] {w v : Int} (hl : e.evs.length ≤ 999999999) (s : WakeS) : aaY WakeV.o (arK w v) (adm (arK w v s) e) (aec w v e s) := by
  have hm : ∀ m v, ad6 { e with m := m } v = some ((), ({ e with m := m, evs := e.evs ++ [v] }, ())) := fun m v => aca (e := { e with m := m }) hl
  by_cases hc : e.c.classes < 1
  · cases s <;> simp only [adm, arK, aec, alJ, hc, aav, abe, axx, o0, abw, aqF, aos, amd, amc, asd, ak1, agH, hm, Option.bind_some, Bool.false_eq_true, if_true, if_false, reduceIte, Int.reduceEq, aa2, aci, decide_eq_true_eq]
    all_goals repeat' first | with_reducible refine aaY.ite (fun _ => ?_) fun _ => ?_ | with_reducible refine aaY.iteN (fun _ => ?_) fun _ => ?_
    all_goals first | rfl | exact ⟨_, rfl, rfl⟩
  · cases s <;> simp only [adm, arK, aec, alJ, hc, aav, abe, axx, o0, abw, aqF, aos, amd, amc, asd, ak1, agH, hm, Option.bind_some, Bool.false_eq_true, if_true, if_false, reduceIte, Int.reduceEq, aa2, aci, decide_eq_true_eq]
    all_goals repeat' first | with_reducible refine aaY.ite (fun _ => ?_) fun _ => ?_ | with_reducible refine aaY.iteN (fun _ => ?_) fun _ => ?_
    all_goals first | rfl | exact ⟨_, rfl, rfl⟩
end
section
variable {e : EnvP}
theorem axs {x : ProbeV} {n : Int} (hn : 1 ≤ n) : aee x n = some ((decide (n ≤ al8 x.worker n x.start x.next), ()), ({ x with next := al8 x.worker n x.start x.next }, ())) := by
  unfold aee al8
  have h0 : n ≠ 0 := by omega
  by_cases h : x.next < n
  · by_cases h2 : Int.tmod (wi (x.start + x.next)) n = x.worker
    · simp only [h, h0, h2, ne_eq, not_false_eq_true, if_true, decide_true, Option.bind_some, and_self]
    · simp only [h, h0, h2, ne_eq, not_false_eq_true, if_true, decide_false, Option.bind_some, and_false, if_false, Bool.false_eq_true]
  · simp only [h, false_and, if_false, Option.bind_some, Bool.false_eq_true]
theorem atR (h : 1 ≤ e.c.workers) : 1 ≤ abX e ∧ abX e ≤ 16 := by
  unfold abX
  split <;> omega
theorem awH {a n : Int} (hn : 1 ≤ n) (ha : 0 ≤ a) : 0 ≤ Int.tmod a n ∧ Int.tmod a n < n := by
  rw [Int.tmod_eq_emod_of_nonneg ha]
  exact ⟨Int.emod_nonneg _ (by omega), Int.emod_lt_of_pos _ (by omega)⟩
theorem axq {w s : Int} {n : Int} (hn : 1 ≤ n ∧ n ≤ 16) (hs : 0 ≤ s ∧ s ≤ 100) (st : Int) (hst : aqM st n = s) (x : ProbeV) (hx : x.start = st) (F : (Int × Int × Int × ProbeV × Unit → Option (Int × Int × Int × ProbeV × Unit)) → Int × Int × Int × ProbeV × Unit → Option (Int × Int × Int × ProbeV × Unit))
    (hF : ∀ self a b i, 0 ≤ i → i ≤ 16 → F self (a, b, i, x, ()) = if i < n then (if Int.tmod (wi (s + i)) n ≠ w ∧ b < aqT (x.bm.at (Int.tmod (wi (s + i)) n)) then self (Int.tmod (wi (s + i)) n, aqT (x.bm.at (Int.tmod (wi (s + i)) n)), wi (i + 1), x, ()) else self (a, b, wi (i + 1), x, ())) else some (a, b, i, x, ())) :
    ∀ (k fuel : Nat) (i a b : Int), 0 ≤ i → (i + (k : Int) = n) → k < fuel → lpF F fuel (a, b, i, x, ()) = some ((av4 w n s x.bm k i (a, b)).1, (av4 w n s x.bm k i (a, b)).2, n, x, ()) := by
  intro k
  induction k with
  | zero =>
    intro fuel i a b h0 hi hf
    obtain ⟨fuel, rfl⟩ : ∃ f, fuel = f + 1 := ⟨fuel - 1, by omega⟩
    show F (lpF F fuel) _ = _
    rw [hF _ _ _ _ h0 (by omega), if_neg (by omega)]
    have : i = n := by omega
    subst this
    rfl
  | succ k ih =>
    intro fuel i a b h0 hi hf
    obtain ⟨fuel, rfl⟩ : ∃ f, fuel = f + 1 := ⟨fuel - 1, by omega⟩
    show F (lpF F fuel) _ = _
    rw [hF _ _ _ _ h0 (by omega), if_pos (by omega)]
    have e1 : wi (i + 1) = i + 1 := aaQ (aau (by omega))
    rw [e1]
    unfold av4
    split
    · exact ih fuel (i + 1) _ _ (by omega) (by omega) (by omega)
    · exact ih fuel (i + 1) _ _ (by omega) (by omega) (by omega)
theorem aaY.bind {σ X α : Type} {og : X → OutV} {mk : σ → X} {r : Rs σ × EnvP} {A : Option α} {f : α → Option ((Bool × Unit) × (X × EnvP × Unit))} {z : α} (h : A = some z) (h2 : aaY og mk (f z) r) : aaY og mk (A.bind f) r := by rw [h]; exact h2
theorem ayP {α β : Type} {A : Option α} {f : α → Option β} {z : α} (h : A = some z) : A.bind f = f z := by rw [h]; rfl
theorem aaY.ite' {σ X : Type} {og : X → OutV} {mk : σ → X} {a b : Option ((Bool × Unit) × (X × EnvP × Unit))} {r s : Rs σ × EnvP} {c : Prop} [Decidable c] (h1 : c → aaY og mk b r) (h2 : ¬ c → aaY og mk a s) : aaY og mk (if (!decide c) = true then a else b) (if c then r else s) := by
  by_cases h : c
  · rw [if_pos h, decide_eq_true h]; exact h1 h
  · rw [if_neg h, decide_eq_false h]; exact h2 h
def amD (n : Int) : ProbeS → Prop
  | .new => True
  | .run s i _ => (0 ≤ s ∧ s < n) ∧ 0 ≤ i ∧ i ≤ n
theorem axS {a n : Int} (hn : 1 ≤ n ∧ n ≤ 1000000) : 0 ≤ aqM a n ∧ aqM a n < n := by
  unfold aqM
  rw [if_neg (by omega)]
  have h1 : -n < Int.tmod a n := Int.lt_tmod_of_pos a (b := n) (by omega)
  have h2 : Int.tmod a n < n := Int.tmod_lt_of_pos a (b := n) (by omega)
  split
  · rw [aaQ (aau (by omega))]; omega
  · omega
theorem aCW {s n : Int} (h : 0 ≤ s ∧ s < n) : aqM s n = s := by
  unfold aqM
  rw [if_neg (by omega)]
  have e1 : Int.tmod s n = s := Int.tmod_eq_of_lt h.1 h.2
  rw [e1, if_neg (by omega)]
theorem aqt {w n s i : Int} (hi : 0 ≤ i ∧ i ≤ n) (hn : n ≤ 16) : i ≤ al8 w n s i ∧ al8 w n s i ≤ n := by
  unfold al8
  split
  · rw [aaQ (aau (by omega))]; omega
  · omega
theorem aG1 {v : Int} (h : 0 ≤ v ∧ v < 16) : v = 15 ∨ v = 14 ∨ v = 13 ∨ v = 12 ∨ v = 11 ∨ v = 10 ∨ v = 9 ∨ v = 8 ∨ v = 7 ∨ v = 6 ∨ v = 5 ∨ v = 4 ∨ v = 3 ∨ v = 2 ∨ v = 1 ∨ v = 0 := by omega
theorem ar8 {w s i : Int} {bm : B16} (hw : 1 ≤ e.c.workers) (h : amD (abX e) (.run s i bm)) : aaY ProbeV.o (akU w) (abk (akU w (.run s i bm)) e) (ah4 w e s i bm) := by
  obtain ⟨hs, hi⟩ := h
  have hn := atR hw
  have hM : (if 16 < e.c.workers then 16 else e.c.workers) = abX e := rfl
  have hp := aqt (w := w) (s := s) hi hn.2
  unfold abk ah4
  simp only [akU, aav, o0, hM, Option.bind_some, Bool.false_eq_true, if_false, Bool.not_true, axs hn.1, decide_eq_true_eq, abe]
  refine aaY.ite (fun _ => ⟨_, rfl, rfl⟩) fun hlt => ?_
  generalize hj : al8 w (abX e) s i = j at hp hlt ⊢
  have hsj : wi (s + j) = s + j := aaQ (aau (by omega))
  have hv := awH (a := s + j) hn.1 (by omega)
  have hj1 : wi (j + 1) = j + 1 := aaQ (aau (by omega))
  rw [if_pos (show abX e ≠ 0 by omega), hsj, hj1]
  generalize hvv : Int.tmod (s + j) (abX e) = v at hv ⊢
  have hp2 := aqt (w := w) (s := s) (i := j + 1) ⟨by omega, by omega⟩ hn.2
  simp only [aev, abw, Option.bind_some]
  refine aaY.bind (z := (⟨⟨false, 0, 0⟩, w, true, s, j, bm.put v (e.m.gt (aaI e.l v))⟩, { e with m := e.m.pt 1 (aaI e.l v) (e.m.gt (aaI e.l v)) }, ())) ?_ ?_
  · rcases aG1 (v := v) (by omega) with h | h | h | h | h | h | h | h | h | h | h | h | h | h | h | h <;> subst h <;> rfl
  simp only [hj1, axs hn.1, Option.bind_some]
  generalize hj2 : al8 w (abX e) s (j + 1) = j2 at hp2 ⊢
  refine aaY.ite' (c := abX e ≤ j2) (fun h2 => ?_) (fun h2 => ?_)
  · simp only [if_true, if_pos (show 0 ≤ abX e ∧ abX e ≤ ((16 : Nat) : Int) by omega)]
    have ht : (((abX e).toNat : Nat) : Int) = abX e := by omega
    have hm : aqM s (abX e) = s := aCW hs
    refine aaY.bind (axq (w := w) (s := s) (n := abX e) hn ⟨hs.1, by omega⟩ s hm _ rfl _ (fun self a b i h0 h16 => ?_) (abX e).toNat _ 0 (-1) (-1) (Int.le_refl 0) (by omega) (by omega)) ?_
    · simp only [ht, amc, hm, Option.bind_some]
      refine ite_congr rfl (fun hlt => ?_) fun _ => rfl
      have hsi : wi (s + i) = s + i := aaQ (aau (by omega))
      have hv2 := awH (a := s + i) hn.1 (by omega)
      rw [if_pos (show abX e ≠ 0 by omega), hsi]
      generalize Int.tmod (s + i) (abX e) = u at hv2 ⊢
      rw [if_pos hv2.2]
      refine (ayP (z := (aqT ((bm.put v (e.m.gt (aaI e.l v))).at u), ⟨⟨false, 0, 0⟩, w, true, s, j2, bm.put v (e.m.gt (aaI e.l v))⟩, ())) ?_).trans ?_
      · rcases aG1 (v := u) (by omega) with h | h | h | h | h | h | h | h | h | h | h | h | h | h | h | h <;> subst h <;> exact ayP au4
      · by_cases c1 : u ≠ w
        · by_cases c2 : b < aqT ((bm.put v (e.m.gt (aaI e.l v))).at u)
          · rw [if_pos c1, if_pos c2, if_pos ⟨c1, c2⟩]
          · rw [if_pos c1, if_neg c2, if_neg (fun h => c2 h.2)]
        · rw [if_neg c1, if_neg (fun h => c1 h.1)]
    · have hc : ao9 w (abX e) s (bm.put v (e.m.gt (aaI e.l v))) = av4 w (abX e) s (bm.put v (e.m.gt (aaI e.l v))) (abX e).toNat 0 (-1, -1) := by unfold ao9; rw [hm]
      rw [hc]
      simp only [aa2, Option.bind_some]
      exact aaY.ite (fun _ => ⟨_, rfl, rfl⟩) fun _ => ⟨_, rfl, rfl⟩
  · rfl
theorem axl {w : Int} (hw : 1 ≤ e.c.workers) (s : ProbeS) (h : amD (abX e) s) : aaY ProbeV.o (akU w) (abk (akU w s) e) (aiy w e s) := by
  cases s with
  | run s i bm => exact ar8 hw h
  | new =>
    have hn := atR hw
    have hd : 0 ≤ at6 e.k (abX e) ∧ at6 e.k (abX e) < abX e := axS ⟨hn.1, by omega⟩
    have h1 := ar8 (w := w) (s := at6 e.k (abX e)) (i := 0) (bm := aF1) hw ⟨hd, Int.le_refl 0, by omega⟩
    have hM : (if 16 < e.c.workers then 16 else e.c.workers) = abX e := rfl
    have e1 : abk (akU w .new) e = abk (akU w (.run (at6 e.k (abX e)) 0 aF1)) e := by
      unfold abk
      simp only [akU, aav, o0, hM, Option.bind_some, Bool.false_eq_true, if_false, Bool.not_true, Bool.not_false, if_true, az8]
    rw [e1]
    exact h1
theorem azX {w : Int} (hw : 1 ≤ e.c.workers) {s s' : ProbeS} {e' : EnvP} (h : amD (abX e) s) (hs : aiy w e s = (.go s', e')) : amD (abX e) s' := by
  have hn := atR hw
  have key : ∀ s i bm, (0 ≤ s ∧ s < abX e) → (0 ≤ i ∧ i ≤ abX e) → ah4 w e s i bm = (.go s', e') → amD (abX e) s' := fun s i bm hs0 hi hg => by
    have hp := aqt (w := w) (s := s) hi hn.2
    unfold ah4 at hg
    generalize al8 w (abX e) s i = j at hp hg
    split at hg
    · cases hg
    · rename_i hlt
      have hj1 : wi (j + 1) = j + 1 := aaQ (aau (by omega))
      have hp2 := aqt (w := w) (s := s) (i := j + 1) ⟨by omega, by omega⟩ hn.2
      simp only [hj1] at hg
      split at hg
      · split at hg <;> cases hg
      · cases hg
        exact ⟨hs0, by omega, by omega⟩
  cases s with
  | run s i bm => exact key s i bm h.1 h.2 hs
  | new => exact key _ 0 _ (axS ⟨hn.1, by omega⟩) ⟨Int.le_refl 0, by omega⟩ hs
end
inductive One (m : MemV) : MemV → Prop where
  | no : One m m
  | yes (k a v : Int) (h : 0 ≤ a ∧ a < (m.cells.length : Int)) (hk : k < 2 → v = aeA m.cells a) : One m ⟨m.cells.set a.toNat v, ⟨k, a, aeA m.cells a, v⟩, wi (m.count + 1)⟩
structure Stp (j : Nat) (e e' : EnvP) : Prop where
  c : e'.c = e.c
  l : e'.l = e.l
  k : e'.k = e.k
  rl : e'.recs.length = e.recs.length
  m : One e.m e'.m
  ev : e'.evs.length ≤ e.evs.length + j
  kd : ∀ K, (∀ r ∈ e.recs, r.kids.length ≤ K) → ∀ r ∈ e'.recs, r.kids.length ≤ K + 1
section
variable {j : Nat} {e e' : EnvP}
theorem Stp.refl : Stp 0 e e := ⟨rfl, rfl, rfl, rfl, .no, Nat.le_refl _, fun K h r hr => Nat.le_succ_of_le (h r hr)⟩
theorem Stp.le {i : Nat} (h : Stp j e e') (hi : j ≤ i) : Stp i e e' := ⟨h.c, h.l, h.k, h.rl, h.m, Nat.le_trans h.ev (Nat.add_le_add_left hi _), h.kd⟩
theorem axM {m : MemV} {k a v : Int} (hk : k < 2 → 0 ≤ a → a < (m.cells.length : Int) → v = aeA m.cells a) : One m (m.pt k a v) := by
  unfold MemV.pt
  by_cases h : 0 ≤ a ∧ a < (m.cells.length : Int)
  · rw [if_pos h]; exact .yes k a v h fun hk' => hk hk' h.1 h.2
  · rw [if_neg h]; exact .no
theorem Stp.pt {k a v : Int} (hk : 2 ≤ k) : Stp 0 e (e.pt k a v) := ⟨rfl, rfl, rfl, rfl, axM fun h => absurd h (by omega), Nat.le_refl _, fun K h r hr => Nat.le_succ_of_le (h r hr)⟩
theorem Stp.lk {a : Int} : Stp 0 e (e.lk a) := ⟨rfl, rfl, rfl, rfl, axM fun _ h1 h2 => by unfold MemV.gt; rw [if_pos ⟨h1, h2⟩], Nat.le_refl _, fun K h r hr => Nat.le_succ_of_le (h r hr)⟩
theorem Stp.cas {a o v : Int} : Stp 0 e (e.cas a o v) := ⟨rfl, rfl, rfl, rfl, axM fun h => absurd h (by omega), Nat.le_refl _, fun K h r hr => Nat.le_succ_of_le (h r hr)⟩
theorem Stp.em {k w t o l : Int} (h : Stp j e e') : Stp (j + 1) e (e'.em k w t o l) := ⟨h.c, h.l, h.k, h.rl, h.m, by
  show (e'.evs ++ [_]).length ≤ _
  rw [List.length_append, List.length_singleton]
  have := h.ev
  omega, h.kd⟩
theorem Stp.pr {t : Int} {r : RecP} (h : Stp j e e') (hr : ∀ K, (∀ r ∈ e.recs, r.kids.length ≤ K) → r.kids.length ≤ K + 1) : Stp j e (e'.pr t r) := ⟨h.c, h.l, h.k, (by show (e'.recs.set _ _).length = _; rw [List.length_set]; exact h.rl), h.m, h.ev, fun K hK x hx => by
  rcases List.mem_or_eq_of_mem_set hx with hx | rfl
  · exact h.kd K hK x hx
  · exact hr K hK⟩
theorem anF {q : QV} {v : Int} (s : OPushS) : Stp 0 e (aeS q v e s).2 := by
  cases s <;> unfold aeS <;> first | exact .lk | exact .pt (by decide)
theorem axF {q : QV} (s : OPopS) : Stp 0 e (anj q e s).2 := by
  cases s <;> unfold anj <;> first | exact .lk | exact .pt (by decide) | exact .cas
theorem auE {q : QV} (s : StealS) : Stp 0 e (ag1 q e s).2 := by
  cases s <;> unfold ag1 <;> first | exact .lk | exact .pt (by decide) | exact .cas
theorem auM {a b : Int} {q : QV} (s : ResetS) : Stp 0 e (afo a b q e s).2 := by
  cases s <;> unfold afo <;> first | exact .lk | exact .pt (by decide)
theorem aEi {a b : Int} : Stp 0 e (aCd a b e) := .pt (by decide)
theorem anP : Stp 0 e (ab6 e) := .pt (by decide)
theorem apH {t v : Int} (s : PublishS) : Stp 0 e (aff t v e s).2 := by
  unfold aff
  split
  · exact .refl
  · cases s <;> exact .pt (by decide)
theorem aqo {t : Int} (h : 0 ≤ t ∧ t < (e.recs.length : Int)) (K : Nat) (hK : ∀ r ∈ e.recs, r.kids.length ≤ K) : (e.rc t).kids.length ≤ K := by
  refine hK _ ?_
  have h1 := aet (d := (dfR 26 : RecP)) (xs := e.recs) h
  exact List.mem_of_getElem? h1
theorem alx {w t : Int} (hr : adX t e = true → 0 ≤ t ∧ t < (e.recs.length : Int)) : Stp 1 e (agz w t e) := by
  unfold agz
  split
  · rename_i h
    split
    · exact Stp.cas.em
    · refine (Stp.cas.pr fun K hK => ?_).em
      exact Nat.le_succ_of_le (aqo (hr h) K hK)
  · exact Stp.cas.em
theorem atT {o : Int} : Stp 0 e (atV o e) := .cas
theorem at2 : Stp 0 e (asF e) := .pt (by decide)
theorem alo {d t : Int} (s : InsertS) : Stp 0 e (acO d t e s).2 := by
  cases s <;> unfold acO <;> first | exact .lk | exact .pt (by decide)
theorem ar1 {w : Int} (s : RemoveS) : Stp 1 e (ada w e s).2 := by
  cases s <;> unfold ada <;> first | exact Stp.lk.le (by decide) | exact Stp.le (.pt (by decide)) (by decide) | exact Stp.em (.pt (by decide))
theorem azG {w : Int} (s : SleepS) : Stp 1 e (afn w e s).2 := by
  cases s <;> unfold afn <;> repeat' split
  all_goals first | exact Stp.lk.le (by decide) | exact Stp.le (.pt (by decide)) (by decide) | exact Stp.lk.em
theorem anT [Tb] {w v : Int} (s : WakeS) : Stp 1 e (aec w v e s).2 := by
  cases s <;> unfold aec <;> first | exact Stp.lk.le (by decide) | exact Stp.le (.pt (by decide)) (by decide) | exact Stp.em (.pt (by decide))
theorem auT {w t v : Int} (s : RaiseS) : Stp 1 e (aed w t v e s).2 := by
  unfold aed
  split
  · exact Stp.refl.le (by decide)
  · cases s
    · exact Stp.lk.le (by decide)
    · simp only
      split
      · exact Stp.cas.em
      · exact Stp.cas.le (by decide)
theorem auU {w : Int} (s : ProbeS) : Stp 0 e (aiy w e s).2 := by
  have key : ∀ s i bm, Stp 0 e (ah4 w e s i bm).2 := fun s i bm => by
    unfold ah4
    split
    · exact .refl
    · simp only
      split <;> exact .lk
  cases s
  · exact key _ _ _
  · exact key _ _ _
theorem af4 {w v x : Int} (s : LPushS) : Stp 0 e (ab2 w v x e s).2 := by
  cases s with
  | new =>
    have h := anF (e := e) (q := aaw e.l w v) (v := x) .l1
    revert h
    simp only [ab2]
    rcases aeS (aaw e.l w v) x e .l1 with ⟨r | ⟨c, y⟩, e'⟩ <;> intro h <;> exact h
  | push s =>
    have h := anF (e := e) (q := aaw e.l w v) (v := x) s
    revert h
    simp only [ab2]
    rcases aeS (aaw e.l w v) x e s with ⟨r | ⟨c, y⟩, e'⟩ <;> intro h <;> exact h
  | set => exact aEi
theorem aC0 {w : Int} (s : LPopS) : Stp 0 e (agT w e s).2 := by
  cases s with
  | l1 v => exact .lk
  | l2 v s =>
    have h := axF (e := e) (q := aaw e.l w v) s
    revert h
    simp only [agT]
    rcases anj (aaw e.l w v) e s with ⟨r | ⟨c, y⟩, e'⟩ <;> intro h <;> exact h
  | l3 v s =>
    have h := auM (e := e) (a := aaI e.l w) (b := v) (q := aaw e.l w v) s
    revert h
    simp only [agT]
    rcases afo (aaI e.l w) v (aaw e.l w v) e s with ⟨r | ⟨c, y⟩, e'⟩ <;> intro h <;> exact h
theorem awC {w v : Int} (s : WalkS) : Stp 1 e (afD w v e s).2 := by
  cases s with
  | l1 t =>
    by_cases hf : awv e t v
    · have h := auT (e := e) (w := w) (t := t) (v := v) (.l1 0)
      simp only [afD, hf, not_true, if_false]
      revert h
      rcases aed w t v e (.l1 0) with ⟨r | ⟨c, y⟩, e'⟩ <;> intro h <;> exact h
    · simp only [afD, hf, not_false_eq_true, if_true]
      exact Stp.refl.le (by decide)
  | raise t s =>
    have h := auT (e := e) (w := w) (t := t) (v := v) s
    revert h
    simp only [afD]
    rcases aed w t v e s with ⟨r | ⟨c, y⟩, e'⟩ <;> intro h <;> exact h
  | l2 t => exact Stp.lk.le (by decide)
  | push t s =>
    have h := af4 (e := e) (w := w) (v := v) (x := t) s
    revert h
    simp only [afD]
    rcases ab2 w v t e s with ⟨r | ⟨c, y⟩, e'⟩ <;> intro h
    · exact h.le (by decide)
    · show Stp 1 e (if c = 3 then _ else _)
      split
      · exact h.em
      · exact h.le (by decide)
  | l4 t => exact Stp.lk.le (by decide)
theorem aAG {w t : Int} (s : EnterS) : Stp 0 e (ad5 w t e s).2 := by
  cases s with
  | l1 =>
    by_cases hf : IsT e t
    · simp only [ad5, hf, not_true, if_false]; exact .pt (by decide)
    · simp only [ad5, hf, not_false_eq_true, if_true]; exact .refl
  | l2 => exact .pt (by decide)
  | l3 => exact .lk
  | l4 v s =>
    have h := af4 (e := e) (w := w) (v := v) (x := t) s
    revert h
    simp only [ad5]
    rcases ab2 w v t e s with ⟨r | ⟨c, y⟩, e'⟩ <;> intro h <;> exact h
theorem azt {w t : Int} (s : SweepS) : Stp 1 e (abp w t e s).2 := by
  cases s with
  | l1 =>
    by_cases hf : ¬ IsT e t ∨ e.c.age = 0
    · simp only [abp, hf, if_true]; exact Stp.refl.le (by decide)
    · simp only [abp, hf, if_false]; exact Stp.lk.le (by decide)
  | l2 => exact Stp.lk.le (by decide)
  | l3 => exact Stp.lk.le (by decide)
  | l4 q =>
    by_cases hf : e.hit (abM e.l t) q = true
    · simp only [abp, hf, if_true]; exact Stp.cas.em
    · simp only [abp, hf, if_false]; exact Stp.cas.le (by decide)
  | l5 q => exact Stp.le (.pt (by decide)) (by decide)
  | l6 q s =>
    have h := af4 (e := e) (w := w) (v := wi (wi q + 1)) (x := t) s
    revert h
    simp only [abp]
    rcases ab2 w (wi (wi q + 1)) t e s with ⟨r | ⟨c, y⟩, e'⟩ <;> intro h
    · exact h.le (by decide)
    · show Stp 1 e (if c = 3 then _ else _)
      split
      · exact h.em
      · exact h.le (by decide)
theorem aBM {w : Int} (hr : ∀ t, adX t e = true → 0 ≤ t ∧ t < (e.recs.length : Int)) (s : TakeS) : Stp 1 e (ajA w e s).2 := by
  cases s with
  | pop s =>
    have h := aC0 (e := e) (w := w) s
    revert h
    simp only [ajA]
    rcases agT w e s with ⟨r | ⟨c, y⟩, e'⟩ <;> intro h <;> exact h.le (by decide)
  | claim t => exact alx (hr t)
theorem aAK [Tb] {w : Int} (d : DrainS) : Stp 1 e (abJ w e d).2 := by
  obtain ⟨x, b, p, la, n, c⟩ := d
  cases c with
  | l1 => exact Stp.lk.le (by decide)
  | l2 => exact atT.le (by decide)
  | l3 s =>
    have h := ar1 (e := e) (w := w) s
    revert h
    simp only [abJ]
    rcases ada w e s with ⟨r | ⟨c, y⟩, e'⟩ <;> intro h <;> exact h
  | l4 => exact Stp.lk.le (by decide)
  | l5 s =>
    have h := af4 (e := e) (w := w) (v := p) (x := x) s
    revert h
    simp only [abJ]
    rcases ab2 w p x e s with ⟨r | ⟨c, y⟩, e'⟩ <;> intro h <;> exact h.le (by decide)
  | l6 => exact at2.le (by decide)
  | l7 s =>
    have h := anT (e := e) (w := w) (v := la) s
    revert h
    simp only [abJ]
    rcases aec w la e s with ⟨r | ⟨c, y⟩, e'⟩ <;> intro h <;> exact h
end
structure EOk (K : Nat) (e : EnvP) : Prop where
  dq : 0 ≤ e.l.deque ∧ e.l.deque ≤ 65535
  tk : e.l.tasks = (e.recs.length : Int)
  ct : e.c.tasks = (e.recs.length : Int)
  wk : 1 ≤ e.c.workers
  ev : e.evs.length ≤ K
  kd : ∀ r ∈ e.recs, r.kids.length ≤ K
section
variable [Tb] {K : Nat} {e : EnvP}
theorem EOk.q (h : EOk K e) (w v : Int) : (aaw e.l w v).cap ≤ 9223372036854775807 := by
  have := h.dq
  unfold aaw
  repeat' split
  all_goals simp only; omega
theorem EOk.st (h : EOk K e) {t o : Int} (hh : e.hit (aaV e.l t) o = true) : 0 ≤ t ∧ t < (e.recs.length : Int) := by
  have h1 : 0 ≤ aaV e.l t := by
    have := of_decide_eq_true hh
    exact this.1.1
  unfold aaV acU atP at h1
  rw [← h.tk]
  split at h1
  · omega
  · split at h1 <;> omega
theorem EOk.step (h : EOk K e) {j : Nat} {e' : EnvP} (s : Stp j e e') : EOk (K + j + 1) e' := by
  refine ⟨?_, ?_, ?_, ?_, ?_, ?_⟩
  · rw [s.l]; exact h.dq
  · rw [s.l, s.rl]; exact h.tk
  · rw [s.c, s.rl]; exact h.ct
  · rw [s.c]; exact h.wk
  · have := s.ev; have := h.ev; omega
  · intro r hr
    have := s.kd K h.kd r hr
    omega
@[reducible] def aoG (l : LayV) (w v x : Int) : LPushS → LPushV MV
  | .new => ⟨o0, w, v, x, 1, .nil⟩
  | .push s => ⟨o0, w, v, x, 1, .opush (avb (aaw l w v) x s)⟩
  | .set => ⟨o0, w, v, x, 2, .set ⟨o0, aaI l w, v⟩⟩
@[reducible] def aC1 (l : LayV) (w : Int) : LPopS → LPopV MV
  | .l1 v => ⟨o0, w, v, 1, .nil⟩
  | .l2 v s => ⟨o0, w, v, 2, .opop (aAb (aaw l w v) s)⟩
  | .l3 v s => ⟨o0, w, v, 3, .reset (ar0 (aaI l w) v (aaw l w v) s)⟩
@[reducible] def aBG (l : LayV) (w v : Int) : WalkS → WalkV MV
  | .l1 t => ⟨o0, w, t, v, 1, .nil⟩
  | .raise t s => ⟨o0, w, t, v, 1, .raise (ar6 w t v s)⟩
  | .l2 t => ⟨o0, w, t, v, 2, .nil⟩
  | .push t s => ⟨o0, w, t, v, 3, .lpush (aoG l w v t s)⟩
  | .l4 t => ⟨o0, w, t, v, 4, .nil⟩
@[reducible] def ayn (l : LayV) (w t : Int) : EnterS → EnterV MV
  | .l1 => ⟨o0, w, t, 0, 1, .nil⟩
  | .l2 => ⟨o0, w, t, 0, 2, .nil⟩
  | .l3 => ⟨o0, w, t, 0, 3, .nil⟩
  | .l4 v s => ⟨o0, w, t, v, 4, .lpush (aoG l w v t s)⟩
@[reducible] def agm (l : LayV) (w t : Int) : SweepS → SweepV MV
  | .l1 => ⟨o0, w, t, 1, 0, .nil⟩
  | .l2 => ⟨o0, w, t, 2, 0, .nil⟩
  | .l3 => ⟨o0, w, t, 3, 0, .nil⟩
  | .l4 q => ⟨o0, w, t, 4, q, .nil⟩
  | .l5 q => ⟨o0, w, t, 5, q, .nil⟩
  | .l6 q s => ⟨o0, w, t, 6, q, .lpush (aoG l w (wi (wi q + 1)) t s)⟩
@[reducible] def aBN (l : LayV) (w : Int) : TakeS → TakeV MV
  | .pop s => ⟨o0, w, false, .lpop (aC1 l w s)⟩
  | .claim t => ⟨o0, w, true, .claim ⟨o0, w, t⟩⟩
@[reducible] def ayr (l : LayV) (w p x last : Int) : DrainC → Int × MV
  | .l1 => (1, .nil)
  | .l2 => (2, .attempt ⟨o0, w, true⟩)
  | .l3 s => (3, .remove (aql w s))
  | .l4 => (4, .nil)
  | .l5 s => (5, .lpush (aoG l w p x s))
  | .l6 => (6, .release ⟨o0⟩)
  | .l7 s => (7, .wake (arK w last s))
@[reducible] def avv (l : LayV) (w : Int) (d : DrainS) : DrainV MV :=
  ⟨o0, w, (ayr l w d.p d.x d.last d.c).1, (ayr l w d.p d.x d.last d.c).2, d.x, d.direct, d.p, d.last, d.count⟩
theorem aj6 : (SR1.spl MV.nil).isNone = true := rfl
theorem awT (x : OPushV) : (SR1.spl (MV.opush x)).isNone = false := rfl
theorem aB1 (x : SetV) : (SR1.spl (MV.set x)).isNone = false := rfl
theorem awS (x : RaiseV) : (SR1.spl (MV.raise x)).isNone = false := rfl
theorem aiL {w v x : Int} (hK : EOk K e) (s : LPushS) : aaY LPushV.o (aoG e.l w v x) (acs (aoG e.l w v x s) e) (ab2 w v x e s) := by
  have hq := hK.q w v
  cases s with
  | new =>
    have h := ash (e := e) (v := x) hq .l1
    have hn := anF (e := e) (q := aaw e.l w v) (v := x) .l1
    revert h hn
    simp only [ab2, acs, aj6, aav, abe, o0, aiH, aov, ais, Option.bind_some, if_true, Bool.false_eq_true, if_false]
    rcases aeS (aaw e.l w v) x e .l1 with ⟨r | ⟨c, y⟩, e'⟩ <;> intro h hn
    · simp only [aaY, o0] at h
      simp only [h, Option.bind_some, Bool.not_false, if_true]
      rfl
    · simp only [aaY, o0] at h
      obtain ⟨x', h, ho⟩ := h
      have hnl : e'.l = e.l := hn.l
      simp only [h, ho, aeH, Option.bind_some, Bool.not_true, Bool.false_eq_true, if_false, aev, ai3, hnl, reduceIte, Int.reduceEq, aa2]
      exact aaY.ite (fun _ => ⟨_, rfl, rfl⟩) fun _ => rfl
  | push s =>
    have h := ash (e := e) (v := x) hq s
    have hn := anF (e := e) (q := aaw e.l w v) (v := x) s
    revert h hn
    simp only [ab2, acs, awT, aav, abe, o0, ais, Option.bind_some, if_true, Bool.false_eq_true, if_false]
    rcases aeS (aaw e.l w v) x e s with ⟨r | ⟨c, y⟩, e'⟩ <;> intro h hn
    · simp only [aaY] at h
      simp only [h, Option.bind_some, Bool.not_false, if_true]
      rfl
    · simp only [aaY] at h
      obtain ⟨x', h, ho⟩ := h
      have hnl : e'.l = e.l := hn.l
      simp only [h, ho, aeH, Option.bind_some, Bool.not_true, Bool.false_eq_true, if_false, aev, ai3, hnl, reduceIte, Int.reduceEq, aa2]
      exact aaY.ite (fun _ => ⟨_, rfl, rfl⟩) fun _ => rfl
  | set =>
    obtain ⟨y, h, ho⟩ := aCb (e := e) (a := aaI e.l w) (b := v)
    simp only [o0] at h
    simp only [ab2, acs, aB1, aav, abe, o0, ais, h, ho, aeH, Option.bind_some, Bool.not_true, if_true, Bool.false_eq_true, if_false, reduceIte, Int.reduceEq]
    exact ⟨_, rfl, rfl⟩
theorem aAp {w : Int} (hK : EOk K e) (s : LPopS) : aaY LPopV.o (aC1 e.l w) (acY (aC1 e.l w s) e) (agT w e s) := by
  cases s with
  | l1 v =>
    simp only [agT, acY, ahF, aav, abe, o0, aev, abw, au4, aiH, aqG, Option.bind_some, if_true, Bool.false_eq_true, if_false, aa2, aci]
    exact aaY.ite (fun _ => ⟨_, rfl, rfl⟩) fun _ => rfl
  | l2 v s =>
    have h := aAa (e := e) (hK.q w v) s
    have hn := axF (e := e) (q := aaw e.l w v) s
    revert h hn
    simp only [agT, acY, aav, abe, o0, ais, Option.bind_some, if_true, Bool.false_eq_true, if_false, reduceIte, Int.reduceEq]
    rcases anj (aaw e.l w v) e s with ⟨r | ⟨c, y⟩, e'⟩ <;> intro h hn
    · simp only [aaY] at h
      simp only [h, Option.bind_some, Bool.not_false, if_true]
      rfl
    · simp only [aaY] at h
      obtain ⟨x', h, ho⟩ := h
      have hnl : e'.l = e.l := hn.l
      simp only [h, ho, aeH, Option.bind_some, Bool.not_true, Bool.false_eq_true, if_true, if_false, aev, aiH, agA, hnl, reduceIte, Int.reduceEq, aa2]
      exact aaY.ite (fun _ => ⟨_, rfl, rfl⟩) fun _ => rfl
  | l3 v s =>
    have h := arZ (e := e) (a := aaI e.l w) (b := v) (q := aaw e.l w v) s
    revert h
    simp only [agT, acY, aav, abe, o0, ais, Option.bind_some, if_true, Bool.false_eq_true, if_false, reduceIte, Int.reduceEq]
    rcases afo (aaI e.l w) v (aaw e.l w v) e s with ⟨r | ⟨c, y⟩, e'⟩ <;> intro h
    · simp only [aaY] at h
      simp only [h, Option.bind_some, Bool.not_false, if_true]
      rfl
    · simp only [aaY] at h
      obtain ⟨x', h, ho⟩ := h
      simp only [h, ho, aeH, Option.bind_some, Bool.not_true, Bool.false_eq_true, if_true, if_false]
      rfl
theorem azk {w v : Int} (hK : EOk K e) (hk : K ≤ 100000000) (s : WalkS) : aaY WalkV.o (aBG e.l w v) (abZ (aBG e.l w v s) e) (afD w v e s) := by
  have hl : e.evs.length ≤ 999999999 := by have := hK.ev; omega
  cases s with
  | l1 t =>
    by_cases hf : awv e t v
    · have h := ar5 (e := e) (w := w) (t := t) (v := v) hl (.l1 0)
      revert h
      simp only [afD, hf, abZ, aeh, aq0, decide_true, not_true, Bool.not_true, aj6, amt, aav, abe, o0, adI, Option.bind_some, if_true, Bool.false_eq_true, if_false, reduceIte, Int.reduceEq]
      rcases aed w t v e (.l1 0) with ⟨r | ⟨c, y⟩, e'⟩ <;> intro h
      · simp only [aaY, o0] at h
        simp only [h, Option.bind_some, Bool.not_false, if_true]
        rfl
      · simp only [aaY, o0] at h
        obtain ⟨x', h, ho⟩ := h
        simp only [h, ho, abu, Option.bind_some, Bool.not_true, Bool.false_eq_true, if_true, if_false, aa2, aci, asE]
        exact aaY.ite (fun _ => rfl) fun _ => rfl
    · simp only [afD, hf, abZ, aeh, aq0, decide_false, not_false_eq_true, Bool.not_false, aj6, aav, abe, o0, Option.bind_some, if_true, Bool.false_eq_true, if_false, reduceIte, Int.reduceEq]
      exact ⟨_, rfl, rfl⟩
  | raise t s =>
    have h := ar5 (e := e) (w := w) (t := t) (v := v) hl s
    revert h
    simp only [afD, abZ, aeh, awS, aav, abe, o0, adI, Option.bind_some, if_true, Bool.false_eq_true, if_false, reduceIte, Int.reduceEq]
    rcases aed w t v e s with ⟨r | ⟨c, y⟩, e'⟩ <;> intro h
    · simp only [aaY] at h
      simp only [h, Option.bind_some, Bool.not_false, if_true]
      rfl
    · simp only [aaY] at h
      obtain ⟨x', h, ho⟩ := h
      simp only [h, ho, abu, Option.bind_some, Bool.not_true, Bool.false_eq_true, if_true, if_false, aa2, aci, asE]
      exact aaY.ite (fun _ => rfl) fun _ => rfl
  | l2 t =>
    simp only [afD, abZ, aav, abe, o0, adR, abw, acz, Option.bind_some, if_true, Bool.false_eq_true, if_false, reduceIte, Int.reduceEq, aa2, asE]
    exact aaY.ite (fun _ => rfl) fun _ => rfl
  | push t s =>
    have h := aiL (w := w) (v := v) (x := t) hK s
    have hn := af4 (e := e) (w := w) (v := v) (x := t) s
    revert h hn
    simp only [afD, abZ, ahU, aav, abe, o0, adI, Option.bind_some, if_true, Bool.false_eq_true, if_false, reduceIte, Int.reduceEq]
    rcases ab2 w v t e s with ⟨r | ⟨c, y⟩, e'⟩ <;> intro h hn
    · simp only [aaY] at h
      simp only [h, Option.bind_some, Bool.not_false, if_true]
      rw [← hn.l]
      rfl
    · simp only [aaY] at h
      obtain ⟨x', h, ho⟩ := h
      have hl' : e'.evs.length ≤ 999999999 := by have h1 : e'.evs.length ≤ e.evs.length + 0 := hn.ev; have := hK.ev; omega
      simp only [h, ho, abu, Option.bind_some, Bool.not_true, Bool.false_eq_true, if_true, if_false, aca hl']
      by_cases hc : c = 3
      · simp only [hc, if_true]; rfl
      · simp only [hc, if_false]; rfl
  | l4 t =>
    simp only [afD, abZ, aav, abe, o0, akX, abw, Option.bind_some, if_true, Bool.false_eq_true, if_false, reduceIte, Int.reduceEq, aa2]
    exact aaY.ite (fun _ => ⟨_, rfl, rfl⟩) fun _ => rfl
theorem aym {w t : Int} (hK : EOk K e) (s : EnterS) : aaY EnterV.o (ayn e.l w t) (abW (ayn e.l w t s) e) (ad5 w t e s) := by
  cases s with
  | l1 =>
    by_cases hf : IsT e t
    · simp only [ad5, hf, abW, aiP, decide_true, not_true, Bool.not_true, aav, abe, aqx, o0, aiF, abr, Option.bind_some, if_true, Bool.false_eq_true, if_false, reduceIte, Int.reduceEq]
      rfl
    · simp only [ad5, hf, abW, aiP, decide_false, not_false_eq_true, Bool.not_false, aav, abe, o0, Option.bind_some, if_true, Bool.false_eq_true, if_false, reduceIte, Int.reduceEq]
      exact ⟨_, rfl, rfl⟩
  | l2 =>
    simp only [ad5, abW, aav, abe, o0, adR, abr, Option.bind_some, if_true, Bool.false_eq_true, if_false, reduceIte, Int.reduceEq]
    rfl
  | l3 =>
    simp only [ad5, abW, aav, abe, o0, afq, abw, acz, Option.bind_some, if_true, Bool.false_eq_true, if_false, reduceIte, Int.reduceEq]
    rfl
  | l4 v s =>
    have h := aiL (w := w) (v := v) (x := t) hK s
    have hn := af4 (e := e) (w := w) (v := v) (x := t) s
    revert h hn
    simp only [ad5, abW, aav, abe, o0, adI, Option.bind_some, if_true, Bool.false_eq_true, if_false, reduceIte, Int.reduceEq]
    rcases ab2 w v t e s with ⟨r | ⟨c, y⟩, e'⟩ <;> intro h hn
    · simp only [aaY] at h
      simp only [h, Option.bind_some, Bool.not_false, if_true]
      rfl
    · simp only [aaY] at h
      obtain ⟨x', h, ho⟩ := h
      simp only [h, ho, abu, Option.bind_some, Bool.not_true, Bool.false_eq_true, if_true, if_false]
      exact ⟨_, rfl, rfl⟩
theorem azq {w : Int} (hK : EOk K e) (hk : K ≤ 100000000) (s : TakeS) : aaY TakeV.o (aBN e.l w) (aeu (aBN e.l w s) e) (ajA w e s) := by
  have hl : e.evs.length ≤ 999999999 := by have := hK.ev; omega
  cases s with
  | pop s =>
    have h := aAp (w := w) hK s
    revert h
    simp only [ajA, aeu, aav, abe, o0, adI, Option.bind_some, if_true, Bool.false_eq_true, if_false]
    rcases agT w e s with ⟨r | ⟨c, y⟩, e'⟩ <;> intro h
    · simp only [aaY] at h
      simp only [h, Option.bind_some, Bool.not_false, if_true]
      rfl
    · simp only [aaY] at h
      obtain ⟨x', h, ho⟩ := h
      simp only [h, ho, abu, acx, Option.bind_some, Bool.not_true, Bool.false_eq_true, if_true, if_false, aa2]
      exact aaY.ite (fun _ => ⟨_, rfl, rfl⟩) fun _ => rfl
  | claim t =>
    obtain ⟨x', h, ho⟩ := alw (w := w) (t := t) hl hK.st
    simp only [o0] at h
    simp only [ajA, aeu, aav, abe, o0, adI, h, Option.bind_some, if_true, Bool.false_eq_true, if_false, abu, Bool.not_true, afr]
    rcases Bool.eq_false_or_eq_true (adX t e) with hc | hc
    · simp only [hc, if_true] at ho ⊢
      simp only [ho, if_true]
      exact ⟨_, rfl, rfl⟩
    · simp only [hc, Bool.false_eq_true, if_false] at ho ⊢
      simp only [ho, reduceIte, Int.reduceEq]
      rfl
end
section
variable [Tb] {K : Nat} {e : EnvP}
theorem azz {w t : Int} (hK : EOk K e) (hk : K ≤ 100000000) : aaY SweepV.o (agm e.l w t) (aaE (agm e.l w t .l1) e) (abp w t e .l1) := by
  have hl : e.evs.length ≤ 999999999 := by have := hK.ev; omega
  have hm : ∀ m v, ad6 { e with m := m } v = some ((), ({ e with m := m, evs := e.evs ++ [v] }, ())) := fun m v => aca (e := { e with m := m }) hl
  by_cases c1 : t < 0
  · have hf : ¬ IsT e t ∨ e.c.age = 0 := .inl fun h => by have := h.1; omega
    simp only [abp]
    rw [if_pos hf]
    simp only [aaE, aby, c1, aav, abe, o0, Option.bind_some, Bool.false_eq_true, if_false, reduceIte, Int.reduceEq]
    exact ⟨_, rfl, rfl⟩
  by_cases c2 : e.c.tasks ≤ t
  · have hf : ¬ IsT e t ∨ e.c.age = 0 := .inl fun h => by have := h.2; omega
    simp only [abp]
    rw [if_pos hf]
    simp only [aaE, aby, c1, c2, aav, abe, o0, Option.bind_some, Bool.false_eq_true, if_false, reduceIte, Int.reduceEq]
    exact ⟨_, rfl, rfl⟩
  by_cases c3 : e.c.age = 0
  · have hf : ¬ IsT e t ∨ e.c.age = 0 := .inr c3
    simp only [abp]
    rw [if_pos hf]
    simp only [aaE, aby, c1, c2, c3, decide_true, aav, abe, o0, Option.bind_some, Bool.false_eq_true, if_false, reduceIte, Int.reduceEq]
    exact ⟨_, rfl, rfl⟩
  have hf : ¬ (¬ IsT e t ∨ e.c.age = 0) := fun h => h.elim (fun h => h ⟨by omega, by omega⟩) c3
  simp only [abp]
  rw [if_neg hf]
  simp only [aaE, aby, c1, c2, c3, decide_false, aav, abe, o0, Option.bind_some, Bool.false_eq_true, if_true, reduceIte, Int.reduceEq, adR, abw, decide_eq_true_eq, aa2]
  refine aaY.iteL (fun h => ?_) fun h => ?_
  · rw [if_neg h]; exact ⟨_, rfl, rfl⟩
  · rw [if_pos (Classical.not_not.1 h)]; rfl
theorem azy {w t : Int} (hK : EOk K e) (hk : K ≤ 100000000) : aaY SweepV.o (agm e.l w t) (aaE (agm e.l w t .l2) e) (abp w t e .l2) := by
  have hl : e.evs.length ≤ 999999999 := by have := hK.ev; omega
  have hm : ∀ m v, ad6 { e with m := m } v = some ((), ({ e with m := m, evs := e.evs ++ [v] }, ())) := fun m v => aca (e := { e with m := m }) hl
  simp only [abp, aaE, aby, aav, abe, aqx, o0, Option.bind_some, if_true, Bool.false_eq_true, if_false, reduceIte, Int.reduceEq, aiF, abw, decide_eq_true_eq, aa2]
  exact aaY.ite (fun _ => ⟨_, rfl, rfl⟩) fun _ => rfl
theorem azx {w t : Int} (hK : EOk K e) (hk : K ≤ 100000000) : aaY SweepV.o (agm e.l w t) (aaE (agm e.l w t .l3) e) (abp w t e .l3) := by
  have hl : e.evs.length ≤ 999999999 := by have := hK.ev; omega
  have hm : ∀ m v, ad6 { e with m := m } v = some ((), ({ e with m := m, evs := e.evs ++ [v] }, ())) := fun m v => aca (e := { e with m := m }) hl
  simp only [abp, aaE, aby, aav, abe, o0, Option.bind_some, if_true, Bool.false_eq_true, if_false, reduceIte, Int.reduceEq, afq, abw, decide_eq_true_eq, aa2]
  exact aaY.ite (fun _ => ⟨_, rfl, rfl⟩) fun _ => rfl
theorem azw {w t : Int} (hK : EOk K e) (hk : K ≤ 100000000) (q : Int) : aaY SweepV.o (agm e.l w t) (aaE (agm e.l w t (.l4 q)) e) (abp w t e (.l4 q)) := by
  have hl : e.evs.length ≤ 999999999 := by have := hK.ev; omega
  have hm : ∀ m v, ad6 { e with m := m } v = some ((), ({ e with m := m, evs := e.evs ++ [v] }, ())) := fun m v => aca (e := { e with m := m }) hl
  have he : ∀ x : SweepV MV, abF x 12 = some ((⟨12, x.worker, x.task, 0, wi (wi x.q + 1)⟩, ()), (x, ())) := fun x => id rfl
  simp only [abp, aaE, he, aav, abe, o0, Option.bind_some, if_true, Bool.false_eq_true, if_false, reduceIte, Int.reduceEq, afq, aiK, hm]
  exact aaY.iteN (fun _ => rfl) fun _ => ⟨_, rfl, rfl⟩
theorem azv {w t : Int} (hK : EOk K e) (hk : K ≤ 100000000) (q : Int) : aaY SweepV.o (agm e.l w t) (aaE (agm e.l w t (.l5 q)) e) (abp w t e (.l5 q)) := by
  have hl : e.evs.length ≤ 999999999 := by have := hK.ev; omega
  have hm : ∀ m v, ad6 { e with m := m } v = some ((), ({ e with m := m, evs := e.evs ++ [v] }, ())) := fun m v => aca (e := { e with m := m }) hl
  simp only [abp, aaE, aav, abe, aqx, o0, Option.bind_some, if_true, Bool.false_eq_true, if_false, reduceIte, Int.reduceEq, aiF, abr, acz]
  rfl
theorem bnd {α β : Type} {a : α} {f : α → Option β} : (some a).bind f = f a := by
  generalize h : some a = x
  subst h
  rfl
theorem azu {w t : Int} (hK : EOk K e) (hk : K ≤ 100000000) (q : Int) (s : LPushS) : aaY SweepV.o (agm e.l w t) (aaE (agm e.l w t (.l6 q s)) e) (abp w t e (.l6 q s)) := by
  have h := aiL (w := w) (v := wi (wi q + 1)) (x := t) hK s
  have hn := af4 (e := e) (w := w) (v := wi (wi q + 1)) (x := t) s
  have he : ∀ x : SweepV MV, abF x 19 = some ((⟨19, x.worker, x.task, 0, wi (wi x.q + 1)⟩, ()), (x, ())) := fun x => id rfl
  revert h hn
  simp only [abp, aaE, he, bnd, aav, abe, o0, adI, if_true, Bool.false_eq_true, if_false, reduceIte, Int.reduceEq]
  rcases ab2 w (wi (wi q + 1)) t e s with ⟨r | ⟨c, y⟩, e'⟩ <;> intro h hn
  · simp only [aaY] at h
    simp only [h, bnd, Bool.not_false, if_true]
    rfl
  · simp only [aaY] at h
    obtain ⟨x', h, ho⟩ := h
    have hl' : e'.evs.length ≤ 999999999 := by have h1 : e'.evs.length ≤ e.evs.length + 0 := hn.ev; have := hK.ev; omega
    simp only [h, ho, abu, bnd, Bool.not_true, Bool.false_eq_true, if_true, if_false, aca hl']
    by_cases hc : c = 3
    · simp only [hc, if_true]; exact ⟨_, rfl, rfl⟩
    · simp only [hc, if_false]; exact ⟨_, rfl, rfl⟩
theorem awK {w t : Int} (hK : EOk K e) (hk : K ≤ 100000000) (s : SweepS) : aaY SweepV.o (agm e.l w t) (aaE (agm e.l w t s) e) (abp w t e s) := by
  cases s with
  | l1 => exact azz hK hk
  | l2 => exact azy hK hk
  | l3 => exact azx hK hk
  | l4 q => exact azw hK hk q
  | l5 q => exact azv hK hk q
  | l6 q s => exact azu hK hk q s
end
section
variable [Tb] {K : Nat} {e : EnvP}
theorem ayd {w : Int} {l : LayV} {ln : Int} {m : MV} {d : DrainS} {e' : EnvP} : aaY DrainV.o (avv l w) (((aa1 ⟨⟨false, 0, 0⟩, w, ln, m, d.x, d.direct, d.p, d.last, d.count⟩).bind fun r => some ((r.1.1, ()), (r.2.1, e', ()))).bind fun r => some ((r.1.1, ()), (r.2.1, r.2.2.1, ()))) (amT d, e') := by
  obtain ⟨x, b, p, la, n, c⟩ := d
  unfold amT
  simp only [aa1, abe, bnd, o0, aci, aa2]
  exact aaY.ite (fun _ => ⟨_, rfl, rfl⟩) fun _ => aaY.ite (fun _ => ⟨_, rfl, rfl⟩) fun _ => ⟨_, rfl, rfl⟩
def arB (d : DrainS) : Prop := match d.c with
  | .l6 => True
  | .l7 _ => True
  | _ => d.direct = false
theorem ayp {w : Int} (hK : EOk K e) (hk : K ≤ 100000000) (d : DrainS) (hd : arB d) : aaY DrainV.o (avv e.l w) (abl (avv e.l w d) e) (abJ w e d) := by
  have hl : e.evs.length ≤ 999999999 := by have := hK.ev; omega
  obtain ⟨x, b, p, la, n, c⟩ := d
  cases c with
  | l1 =>
    simp only [abJ, abl, aaK, atU, aav, abe, afN, o0, abw, bnd, if_true, Bool.false_eq_true, if_false, reduceIte, Int.reduceEq, aa2]
    exact aaY.ite (fun _ => ⟨_, rfl, rfl⟩) fun _ => rfl
  | l2 =>
    obtain ⟨dn, x', h, ho, hd, _⟩ := aqO (e := e) (w := w) (b := true)
    rw [Bool.or_true] at hd
    subst hd
    have ho := ho rfl
    simp only [o0] at h
    simp only [abJ, abl, acH, abo, aaK, afh, aav, abe, o0, adI, h, bnd, if_true, Bool.false_eq_true, if_false, reduceIte, Int.reduceEq, abu, Bool.not_true]
    rcases Bool.eq_false_or_eq_true (e.hit 1 0) with hh | hh
    · simp only [hh, if_true] at ho ⊢
      simp only [ho, reduceIte, Int.reduceEq]
      rfl
    · simp only [hh, Bool.false_eq_true, if_false] at ho ⊢
      simp only [ho, reduceIte, Int.reduceEq]
      exact ⟨_, rfl, rfl⟩
  | l3 s =>
    have h := av1 (e := e) (w := w) hl s
    have hn := ar1 (e := e) (w := w) s
    revert h hn
    simp only [abJ, abl, aav, abe, o0, adI, bnd, if_true, Bool.false_eq_true, if_false, reduceIte, Int.reduceEq]
    rcases ada w e s with ⟨r | ⟨c, y⟩, e'⟩ <;> intro h hn
    · simp only [aaY] at h
      simp only [h, bnd, Bool.not_false, if_true]
      rfl
    · simp only [aaY] at h
      obtain ⟨x', h, ho⟩ := h
      simp only [h, ho, abu, acH, aa3, aaK, ae2, bnd, Bool.not_true, Bool.false_eq_true, if_true, if_false, reduceIte, Int.reduceEq, aci, aa2]
      exact aaY.ite (fun _ => rfl) fun _ => rfl
  | l4 =>
    simp only [abJ, abl, aaK, acz, aav, abe, o0, afq, abw, bnd, if_true, Bool.false_eq_true, if_false, reduceIte, Int.reduceEq]
    rfl
  | l5 s =>
    have h := aiL (w := w) (v := p) (x := x) hK s
    have hn := af4 (e := e) (w := w) (v := p) (x := x) s
    revert h hn
    simp only [abJ, abl, aav, abe, o0, adI, bnd, if_true, Bool.false_eq_true, if_false, reduceIte, Int.reduceEq]
    rcases ab2 w p x e s with ⟨r | ⟨c, y⟩, e'⟩ <;> intro h hn
    · simp only [aaY] at h
      simp only [h, bnd, Bool.not_false, if_true]
      rfl
    · simp only [aaY] at h
      obtain ⟨x', h, ho⟩ := h
      have hc : e'.c = e.c := hn.c
      simp only [h, ho, abu, acH, acP, abo, aa3, aaK, afh, ae2, bnd, Bool.not_true, Bool.false_eq_true, if_true, if_false, reduceIte, Int.reduceEq, aci, aa2, hc]
      have hb : b = false := hd
      subst hb
      simp only [Bool.false_eq_true, if_false]
      exact aaY.ite (fun _ => rfl) fun _ => aaY.ite (fun _ => rfl) fun _ => rfl
  | l6 =>
    obtain ⟨x', h, ho⟩ := avp (e := e)
    simp only [o0] at h
    simp only [abJ, abl, acH, aaK, acW, aav, abe, o0, adI, h, ho, bnd, if_true, Bool.false_eq_true, if_false, reduceIte, Int.reduceEq, abu, Bool.not_true, aci, aa2]
    exact aaY.ite (fun _ => rfl) fun _ => ayd (d := ⟨x, b, p, la, n, .l6⟩)
  | l7 s =>
    have h := akr (e := e) (w := w) (v := la) hl s
    revert h
    simp only [abJ, abl, aav, abe, o0, adI, bnd, if_true, Bool.false_eq_true, if_false, reduceIte, Int.reduceEq]
    rcases aec w la e s with ⟨r | ⟨c, y⟩, e'⟩ <;> intro h
    · simp only [aaY] at h
      simp only [h, bnd, Bool.not_false, if_true]
      rfl
    · simp only [aaY] at h
      obtain ⟨x', h, ho⟩ := h
      simp only [h, ho, abu, acH, bnd, Bool.not_true, Bool.false_eq_true, if_true, if_false, reduceIte, Int.reduceEq]
      exact ayd (d := ⟨x, b, p, la, n, .l7 s⟩)
theorem aAJ {w : Int} {d d' : DrainS} {e' : EnvP} (hd : arB d) (h : abJ w e d = (.go d', e')) : arB d' := by
  obtain ⟨x, b, p, la, n, c⟩ := d
  cases c with
  | l1 =>
    simp only [abJ] at h
    split at h <;> cases h
    exact hd
  | l2 =>
    simp only [abJ] at h
    split at h <;> cases h
    exact hd
  | l3 s =>
    simp only [abJ] at h
    split at h
    · cases h; exact hd
    · split at h <;> cases h
      · trivial
      · exact hd
  | l4 => cases h; exact hd
  | l5 s =>
    simp only [abJ] at h
    split at h
    · cases h; exact hd
    · split at h
      · cases h; trivial
      · split at h <;> cases h
        · exact hd
        · trivial
  | l6 =>
    simp only [abJ] at h
    split at h
    · cases h; trivial
    · unfold amT at h
      repeat' split at h
      all_goals cases h
  | l7 s =>
    simp only [abJ] at h
    split at h
    · cases h; trivial
    · unfold amT at h
      repeat' split at h
      all_goals cases h
end
structure SOk (l : List Int) : Prop where
  ne : l ≠ []
  le : l.length ≤ 999999999
section
variable {l : List Int}
theorem SOk.n (h : SOk l) : wi (((l.length : Nat) : Int) - 1) = ((l.length - 1 : Nat) : Int) := by
  have h1 := List.length_pos_iff.2 h.ne
  have h2 := h.le
  rw [aaQ (aau (by omega))]; omega
theorem SOk.a (h : SOk l) : aik l ((l.length - 1 : Nat) : Int) = aaC l := by
  have h1 := List.length_pos_iff.2 h.ne
  have h2 : l[l.length - 1]? = some (l[l.length - 1]'(by omega)) := List.getElem?_eq_getElem _
  simp only [aik, atL, aaC, Int.toNat_natCast, List.getLast?_eq_getElem?, h2]
  rfl
theorem SOk.g (h : SOk l) : (0 ≤ ((l.length - 1 : Nat) : Int) ∧ ((l.length - 1 : Nat) : Int) < ((l.length : Nat) : Int)) = True := by
  have h1 := List.length_pos_iff.2 h.ne
  exact eq_true ⟨by omega, by omega⟩
theorem SOk.g2 (h : SOk l) : (0 ≤ ((l.length - 1 : Nat) : Int) ∧ ((l.length - 1 : Nat) : Int) ≤ ((l.length : Nat) : Int)) = True := by
  have h1 := List.length_pos_iff.2 h.ne
  exact eq_true ⟨by omega, by omega⟩
theorem SOk.t (h : SOk l) : l.take (((l.length - 1 : Nat) : Int)).toNat = l.dropLast := by
  rw [List.dropLast_eq_take]; simp
theorem SOk.s (h : SOk l) (y : Int) : l.set (((l.length - 1 : Nat) : Int)).toNat y = l.dropLast ++ [y] := by
  obtain ⟨a, b, rfl⟩ : ∃ a b, l = a ++ [b] := ⟨l.dropLast, l.getLast h.ne, (List.dropLast_concat_getLast h.ne).symm⟩
  simp
end
section
variable [Tb] {e : EnvP} {o : OutV} {w ln id ch lv wt : Int} {st : List Int} {m : MV}
theorem alE {rs : List RecP} {t : Int} {r : RecP} (h : 0 ≤ t ∧ t < (rs.length : Int)) : aab (rs.set t.toNat r) t = r := ayQ h
theorem ar4 {rs : List RecP} {t : Int} (h : 0 ≤ t ∧ t < (rs.length : Int)) : rs.set t.toNat (aab rs t) = rs := by
  have h1 := aet (d := (dfR 26 : RecP)) (xs := rs) h
  have h2 : t.toNat < rs.length := by omega
  refine List.ext_getElem? fun i => ?_
  by_cases hi : t.toNat = i
  · subst hi
    rw [List.getElem?_set_self h2]
    exact h1.symm
  · rw [List.getElem?_set_ne hi]
def ae5 (x : RecP) (p : List Ins) : Int :=
  if x.waiting ≠ -1 then 1
  else if x.pc < 0 ∨ (p.length : Int) ≤ x.pc then 16
  else if (acn p x.pc).op = 0 then 2
  else if (acn p x.pc).op = 1 then 4
  else if (acn p x.pc).a < 0 ∨ (x.kids.length : Int) ≤ (acn p x.pc).a ∨ aik x.kids (acn p x.pc).a = -1 then 3
  else 9
theorem aol {x : RecP} (h1 : ¬ x.prog < 0) (h2 : ¬ (e.c.progs.length : Int) ≤ x.prog) : e.prog x = atL [] e.c.progs x.prog := by
  unfold EnvP.prog
  rw [if_neg (by omega)]
theorem afg {x : RecP} (h : x.prog < 0 ∨ (e.c.progs.length : Int) ≤ x.prog) : e.prog x = [] := by
  unfold EnvP.prog
  rw [if_pos h]
theorem ayF {x : RunV MV} (hS : SOk x.stack) (hT : 0 ≤ aaC x.stack ∧ aaC x.stack < (e.recs.length : Int)) : aeG x e = some ((ae5 (e.rc (aaC x.stack)) (e.prog (e.rc (aaC x.stack))), ()), (x, e, ())) := by
  unfold aeG
  try simp only [tpI, tlI]
  simp only [hS.n, hS.a, hS.g, hT, and_self, if_true, ar4 hT]
  show _ = some ((ae5 (aab e.recs (aaC x.stack)) (e.prog (aab e.recs (aaC x.stack))), ()), (x, e, ()))
  generalize aab e.recs (aaC x.stack) = r
  by_cases h1 : r.prog < 0
  · rw [afg (.inl h1)]
    simp only [h1, if_true, ae5, List.length_nil]
    split
    · rfl
    · rw [if_pos (show r.pc < 0 ∨ ((0 : Nat) : Int) ≤ r.pc by omega)]
      split
      · rfl
      · rw [if_pos (by omega)]
  by_cases h2 : (e.c.progs.length : Int) ≤ r.prog
  · rw [afg (.inr h2)]
    simp only [h1, h2, if_true, if_false, ae5, List.length_nil]
    split
    · rfl
    · rw [if_pos (show r.pc < 0 ∨ ((0 : Nat) : Int) ≤ r.pc by omega)]
      split
      · rfl
      · rw [if_pos (by omega)]
  rw [aol h1 h2]
  generalize atL [] e.c.progs r.prog = p
  unfold ae5
  rw [if_neg h1, if_neg h2]
  rw [if_pos (show 0 ≤ r.prog ∧ r.prog < (e.c.progs.length : Int) by omega)]
  by_cases hw : r.waiting ≠ -1
  · rw [if_pos hw, if_pos hw]
  rw [if_neg hw, if_neg hw]
  by_cases h3 : r.pc < 0
  · rw [if_pos h3, if_pos (.inl h3)]
  by_cases h4 : (p.length : Int) ≤ r.pc
  · rw [if_neg h3, if_pos h4, if_pos (.inr h4)]
  rw [if_neg h3, if_neg h4, if_neg (show ¬ (r.pc < 0 ∨ (p.length : Int) ≤ r.pc) by omega)]
  have hp : 0 ≤ r.pc ∧ r.pc < (p.length : Int) := by omega
  rw [if_pos hp]
  by_cases c1 : (acn p r.pc).op = 0
  · rw [if_pos c1, if_pos c1]
  rw [if_neg c1, if_neg c1, if_pos hp]
  by_cases c2 : (acn p r.pc).op = 1
  · rw [if_pos c2, if_pos c2]
  rw [if_neg c2, if_neg c2, if_pos hp]
  by_cases h5 : (acn p r.pc).a < 0
  · rw [if_pos h5, if_pos (.inl h5)]
  by_cases h6 : (r.kids.length : Int) ≤ (acn p r.pc).a
  · rw [if_neg h5, if_pos h6, if_pos (.inr (.inl h6))]
  rw [if_neg h5, if_neg h6, if_pos (show 0 ≤ (acn p r.pc).a ∧ (acn p r.pc).a < (r.kids.length : Int) by omega)]
  by_cases h7 : aik r.kids (acn p r.pc).a = -1
  · rw [if_pos h7, if_pos (.inr (.inr h7))]
  · rw [if_neg h7, if_neg (by omega)]
theorem alT {x : RunV MV} {v : Ev} (h : e.evs.length ≤ 999999999) : aaH x e v = some ((), (x, { e with evs := e.evs ++ [{ v with worker := x.worker }] }, ())) := by
  unfold aaH
  try simp only [tpI, tlI]
  rw [aca h, bnd]
theorem aCa (hS : SOk st) (hT : 0 ≤ aaC st ∧ aaC st < (e.recs.length : Int)) : aaG ⟨o, w, st, 1, m, id, ch, lv, wt⟩ e = some ((false, ()), (⟨o, w, st, 0, .nil, id, ch, lv, wt⟩, (e.pt 2 (aeC e.l (aaC st)) 0).pr (aaC st) { e.rc (aaC st) with waiting := -1 }, ())) := by
  unfold aaG
  try simp only [tpI, tlI]
  simp only [tpI, tlI, hS.n, hS.a, hS.g, hT, and_self, if_true, akX, abr, aac, bnd]
  rfl
theorem aB9 (hS : SOk st) (hT : 0 ≤ aaC st ∧ aaC st < (e.recs.length : Int)) (hp : ¬ ((e.rc (aaC st)).pc < 0 ∨ ((e.prog (e.rc (aaC st))).length : Int) ≤ (e.rc (aaC st)).pc)) : aaG ⟨o, w, st, 2, m, id, ch, lv, wt⟩ e = some ((false, ()), (⟨o, w, st, 0, .nil, id, ch, lv, wt⟩, e.pr (aaC st) (asN (e.rc (aaC st)) (acn (e.prog (e.rc (aaC st))) (e.rc (aaC st)).pc)), ())) := by
  unfold aaG
  try simp only [tpI, tlI]
  simp only [tpI, tlI, hS.n, hS.a, hS.g, hT, and_self, if_true, Int.reduceEq, if_false, alE hT, List.set_set, aac, bnd, List.length_set]
  show _ = some ((false, ()), (_, { e with recs := e.recs.set (aaC st).toNat (asN (aab e.recs (aaC st)) (acn (e.prog (aab e.recs (aaC st))) (aab e.recs (aaC st)).pc)) }, ()))
  have hp' : ¬ ((aab e.recs (aaC st)).pc < 0 ∨ ((e.prog (aab e.recs (aaC st))).length : Int) ≤ (aab e.recs (aaC st)).pc) := hp
  generalize aab e.recs (aaC st) = r at hp' ⊢
  by_cases h1 : r.prog < 0
  · rw [afg (.inl h1)] at hp'; simp only [List.length_nil] at hp'; omega
  by_cases h2 : (e.c.progs.length : Int) ≤ r.prog
  · rw [afg (.inr h2)] at hp'; simp only [List.length_nil] at hp'; omega
  rw [aol h1 h2] at hp' ⊢
  have h3 : (0 ≤ r.prog ∧ r.prog < (e.c.progs.length : Int)) = True := eq_true (by omega)
  have h4 : (0 ≤ r.pc ∧ r.pc < ((atL [] e.c.progs r.prog).length : Int)) = True := eq_true (by omega)
  simp only [h1, h2, h3, h4, if_true, if_false, asN]
  by_cases h5 : r.left = 0
  · simp only [h5, if_true]
    split <;> rfl
  · simp only [h5, if_false]
    split <;> rfl
theorem aB8 (hS : SOk st) (hT : 0 ≤ aaC st ∧ aaC st < (e.recs.length : Int)) : aaG ⟨o, w, st, 3, m, id, ch, lv, wt⟩ e = some ((false, ()), (⟨o, w, st, 0, .nil, id, ch, lv, wt⟩, e.pr (aaC st) { e.rc (aaC st) with pc := wi ((e.rc (aaC st)).pc + 1) }, ())) := by
  unfold aaG
  try simp only [tpI, tlI]
  simp only [tpI, tlI, hS.n, hS.a, hS.g, hT, and_self, if_true, Int.reduceEq, if_false, aac, bnd]
  rfl
end
end
section
open Go Go.RowKit
set_option maxRecDepth 100000
set_option maxRecDepth 100000
section
variable [Tb] {e : EnvP} {o : OutV} {w ln id ch lv wt : Int} {st : List Int} {m : MV}
theorem awq (hS : SOk st) (hT : 0 ≤ aaC st ∧ aaC st < (e.recs.length : Int)) (hp : ¬ ((e.rc (aaC st)).pc < 0 ∨ ((e.prog (e.rc (aaC st))).length : Int) ≤ (e.rc (aaC st)).pc)) (hl : e.evs.length ≤ 999999999) (hk : (e.rc (aaC st)).kids.length ≤ 999999999) (v : Int) :
    ab9 ⟨o, w, st, 4, m, id, ch, lv, wt⟩ e 3 v = some ((false, ()), (⟨o, w, st, 0, .nil, id, ch, lv, wt⟩, (e.pr (aaC st) { e.rc (aaC st) with pc := wi ((e.rc (aaC st)).pc + 1), kids := (e.rc (aaC st)).kids ++ [-1] }).em 4 w (aaC st) 0 0, ())) := by
  unfold ab9
  try unfold tpI
  try unfold tlI
  have he : ∀ (x : RunV MV) (rs : List RecP) (v : Ev), aaH x { e with recs := rs } v = some ((), (x, { e with recs := rs, evs := e.evs ++ [{ v with worker := x.worker }] }, ())) := fun x rs v => alT (e := { e with recs := rs }) hl
  simp only [hS.n, hS.a, hS.g, hT, and_self, if_true, alE hT, List.set_set, List.length_set]
  have hp' : ¬ ((aab e.recs (aaC st)).pc < 0 ∨ ((e.prog (aab e.recs (aaC st))).length : Int) ≤ (aab e.recs (aaC st)).pc) := hp
  have hk' : (aab e.recs (aaC st)).kids.length ≤ 999999999 := hk
  show _ = some ((false, ()), (_, EnvP.em { e with recs := e.recs.set (aaC st).toNat { aab e.recs (aaC st) with pc := wi ((aab e.recs (aaC st)).pc + 1), kids := (aab e.recs (aaC st)).kids ++ [-1] } } 4 w (aaC st) 0 0, ()))
  generalize aab e.recs (aaC st) = r at hp' hk' ⊢
  by_cases h1 : r.prog < 0
  · rw [afg (.inl h1)] at hp'; simp only [List.length_nil] at hp'; omega
  by_cases h2 : (e.c.progs.length : Int) ≤ r.prog
  · rw [afg (.inr h2)] at hp'; simp only [List.length_nil] at hp'; omega
  rw [aol h1 h2] at hp'
  rw [if_neg h1, if_neg h2, if_pos (show 0 ≤ r.prog ∧ r.prog < (e.c.progs.length : Int) by omega), if_pos (show 0 ≤ r.pc ∧ r.pc < ((atL [] e.c.progs r.prog).length : Int) by omega), if_pos (show (((r.kids.length + ([-1] : List Int).length : Nat)) : Int) < 1000000000000 by rw [List.length_singleton]; omega)]
  rw [he, bnd, aac, bnd]
  rfl
theorem ayZ (hS : SOk st) (hT : 0 ≤ aaC st ∧ aaC st < (e.recs.length : Int)) (hp : ¬ ((e.rc (aaC st)).pc < 0 ∨ ((e.prog (e.rc (aaC st))).length : Int) ≤ (e.rc (aaC st)).pc)) (hk : (e.rc (aaC st)).kids.length ≤ 999999999) (v : Int) (hv : 0 ≤ v ∧ v < (e.recs.length : Int)) :
    ab9 ⟨o, w, st, 4, m, id, ch, lv, wt⟩ e 1 v = some ((false, ()), (⟨o, w, st, 5, .publish ⟨o0, v, (acn (e.prog (e.rc (aaC st))) (e.rc (aaC st)).pc).b, 1⟩, v, ch, (acn (e.prog (e.rc (aaC st))) (e.rc (aaC st)).pc).b, wt⟩, (e.pr (aaC st) { e.rc (aaC st) with pc := wi ((e.rc (aaC st)).pc + 1), kids := (e.rc (aaC st)).kids ++ [v] }).pr v (awt (acn (e.prog (e.rc (aaC st))) (e.rc (aaC st)).pc).a (aaC st)), ())) := by
  unfold ab9
  try unfold tpI
  try unfold tlI
  simp only [hS.n, hS.a, hS.g, hT, and_self, if_true, alE hT, List.set_set, List.length_set, Int.reduceEq, if_false, hv]
  have hp' : ¬ ((aab e.recs (aaC st)).pc < 0 ∨ ((e.prog (aab e.recs (aaC st))).length : Int) ≤ (aab e.recs (aaC st)).pc) := hp
  have hk' : (aab e.recs (aaC st)).kids.length ≤ 999999999 := hk
  show _ = some ((false, ()), ((⟨o, w, st, 5, .publish ⟨o0, v, (acn (e.prog (aab e.recs (aaC st))) (aab e.recs (aaC st)).pc).b, 1⟩, v, ch, (acn (e.prog (aab e.recs (aaC st))) (aab e.recs (aaC st)).pc).b, wt⟩ : RunV MV), ({ e with recs := (e.recs.set (aaC st).toNat { aab e.recs (aaC st) with pc := wi ((aab e.recs (aaC st)).pc + 1), kids := (aab e.recs (aaC st)).kids ++ [v] }).set v.toNat ⟨(acn (e.prog (aab e.recs (aaC st))) (aab e.recs (aaC st)).pc).a, aaC st, 0, 0, -1, [], false⟩ } : EnvP), ()))
  generalize aab e.recs (aaC st) = r at hp' hk' ⊢
  by_cases h1 : r.prog < 0
  · rw [afg (.inl h1)] at hp'; simp only [List.length_nil] at hp'; omega
  by_cases h2 : (e.c.progs.length : Int) ≤ r.prog
  · rw [afg (.inr h2)] at hp'; simp only [List.length_nil] at hp'; omega
  rw [aol h1 h2] at hp' ⊢
  rw [if_neg h1, if_neg h2, if_pos (show 0 ≤ r.prog ∧ r.prog < (e.c.progs.length : Int) by omega), if_pos (show 0 ≤ r.pc ∧ r.pc < ((atL [] e.c.progs r.prog).length : Int) by omega), if_pos (show (((r.kids.length + ([v] : List Int).length : Nat)) : Int) < 1000000000000 by rw [List.length_singleton]; omega)]
  rw [aiq, bnd, aac, bnd]
theorem aGq (hS : SOk st) (hT : 0 ≤ aaC st ∧ aaC st < (e.recs.length : Int)) (hp : ¬ ((e.rc (aaC st)).pc < 0 ∨ ((e.prog (e.rc (aaC st))).length : Int) ≤ (e.rc (aaC st)).pc)) (ha : ¬ ((acn (e.prog (e.rc (aaC st))) (e.rc (aaC st)).pc).a < 0 ∨ ((e.rc (aaC st)).kids.length : Int) ≤ (acn (e.prog (e.rc (aaC st))) (e.rc (aaC st)).pc).a)) :
    aaJ ⟨o, w, st, 9, m, id, ch, lv, wt⟩ e = some ((false, ()), (⟨o, w, st, 10, .nil, id, aik (e.rc (aaC st)).kids (acn (e.prog (e.rc (aaC st))) (e.rc (aaC st)).pc).a, lv, wt⟩, (e.pt 2 (aeC e.l (aaC st)) (wu (wi (aik (e.rc (aaC st)).kids (acn (e.prog (e.rc (aaC st))) (e.rc (aaC st)).pc).a + 1)))).pr (aaC st) { e.rc (aaC st) with pc := wi ((e.rc (aaC st)).pc + 1), waiting := aik (e.rc (aaC st)).kids (acn (e.prog (e.rc (aaC st))) (e.rc (aaC st)).pc).a }, ())) := by
  unfold aaJ
  try unfold tpI
  try unfold tlI
  simp only [hS.n, hS.a, hS.g, hT, and_self, if_true, ar4 hT, alE hT, List.set_set, List.length_set]
  have hp' : ¬ ((aab e.recs (aaC st)).pc < 0 ∨ ((e.prog (aab e.recs (aaC st))).length : Int) ≤ (aab e.recs (aaC st)).pc) := hp
  have ha' : ¬ ((acn (e.prog (aab e.recs (aaC st))) (aab e.recs (aaC st)).pc).a < 0 ∨ ((aab e.recs (aaC st)).kids.length : Int) ≤ (acn (e.prog (aab e.recs (aaC st))) (aab e.recs (aaC st)).pc).a) := ha
  show _ = some ((false, ()), ((⟨o, w, st, 10, .nil, id, aik (aab e.recs (aaC st)).kids (acn (e.prog (aab e.recs (aaC st))) (aab e.recs (aaC st)).pc).a, lv, wt⟩ : RunV MV), EnvP.pr (e.pt 2 (aeC e.l (aaC st)) (wu (wi (aik (aab e.recs (aaC st)).kids (acn (e.prog (aab e.recs (aaC st))) (aab e.recs (aaC st)).pc).a + 1)))) (aaC st) { aab e.recs (aaC st) with pc := wi ((aab e.recs (aaC st)).pc + 1), waiting := aik (aab e.recs (aaC st)).kids (acn (e.prog (aab e.recs (aaC st))) (aab e.recs (aaC st)).pc).a }, ()))
  generalize aab e.recs (aaC st) = r at hp' ha' ⊢
  by_cases h1 : r.prog < 0
  · rw [afg (.inl h1)] at hp'; simp only [List.length_nil] at hp'; omega
  by_cases h2 : (e.c.progs.length : Int) ≤ r.prog
  · rw [afg (.inr h2)] at hp'; simp only [List.length_nil] at hp'; omega
  rw [aol h1 h2] at hp' ha' ⊢
  rw [if_neg h1, if_neg h2, if_pos (show 0 ≤ r.prog ∧ r.prog < (e.c.progs.length : Int) by omega), if_pos (show 0 ≤ r.pc ∧ r.pc < ((atL [] e.c.progs r.prog).length : Int) by omega), if_pos (show 0 ≤ (acn (atL [] e.c.progs r.prog) r.pc).a ∧ (acn (atL [] e.c.progs r.prog) r.pc).a < (r.kids.length : Int) by omega)]
  rw [akX, bnd, abr, bnd, aac, bnd]
  rfl
theorem auQ {α β : Type} {X : Option ((Bool × Unit) × (α × β × Unit))} : (X.bind fun r => some ((r.1.1, ()), (r.2.1, r.2.2.1, ()))) = X := by cases X <;> rfl
theorem aqi (hS : SOk st) (hT : IsT e (aaC st)) (hc : e.c.tasks = (e.recs.length : Int)) (X : Option ((Bool × Unit) × (RunV MV × EnvP × Unit))) (a b c : Option ((Bool × Unit) × (RunV MV × EnvP × Unit))) :
    (if aaC st < 0 then a else if e.c.tasks ≤ aaC st then b else if (e.recs.length : Int) ≤ aaC st then c else X) = X := by
  have h1 := hT.1
  have h2 := hT.2
  rw [if_neg (by omega), if_neg (by omega), if_neg (by omega)]
theorem akO (hS : SOk st) (hT : IsT e (aaC st)) (hc : e.c.tasks = (e.recs.length : Int)) (h : 4 ≤ ln ∧ ln ≤ 8) : abm ⟨o0, w, st, ln, m, id, ch, lv, wt⟩ e = abj ⟨o0, w, st, ln, m, id, ch, lv, wt⟩ e := by
  unfold abm
  try unfold tpI
  try unfold tlI
  simp only [aav, abe, o0, bnd, hS.n, hS.a, hS.g, if_true, Bool.false_eq_true, if_false, auQ, aqi hS hT hc]
  rw [if_neg (by omega), if_neg (by omega), if_neg (by omega), if_neg (by omega), if_pos h.1, if_pos h.2]
theorem ajf (hS : SOk st) (hT : IsT e (aaC st)) (hc : e.c.tasks = (e.recs.length : Int)) (h : 9 ≤ ln ∧ ln ≤ 15) : abm ⟨o0, w, st, ln, m, id, ch, lv, wt⟩ e = aaJ ⟨o0, w, st, ln, m, id, ch, lv, wt⟩ e := by
  unfold abm
  try unfold tpI
  try unfold tlI
  simp only [aav, abe, o0, bnd, hS.n, hS.a, hS.g, if_true, Bool.false_eq_true, if_false, auQ, aqi hS hT hc]
  rw [if_neg (by omega), if_neg (by omega), if_neg (by omega), if_neg (by omega), if_pos (show 4 ≤ ln by omega), if_neg (by omega), if_pos h.1, if_pos h.2]
theorem ahd (hS : SOk st) (hT : IsT e (aaC st)) (hc : e.c.tasks = (e.recs.length : Int)) (h : 16 ≤ ln) : abm ⟨o0, w, st, ln, m, id, ch, lv, wt⟩ e = aaq ⟨o0, w, st, ln, m, id, ch, lv, wt⟩ e := by
  unfold abm
  try unfold tpI
  try unfold tlI
  simp only [aav, abe, o0, bnd, hS.n, hS.a, hS.g, if_true, Bool.false_eq_true, if_false, auQ, aqi hS hT hc]
  rw [if_neg (by omega), if_neg (by omega), if_neg (by omega), if_neg (by omega), if_pos (show 4 ≤ ln by omega), if_neg (by omega), if_pos (show 9 ≤ ln by omega), if_neg (by omega)]
theorem azN (hS : SOk st) (hT : IsT e (aaC st)) (hc : e.c.tasks = (e.recs.length : Int)) {c : Int} (h : ae5 (e.rc (aaC st)) (e.prog (e.rc (aaC st))) = c) (hR : 0 ≤ aaC st ∧ aaC st < (e.recs.length : Int)) :
    abm ⟨o0, w, st, 0, m, id, ch, lv, wt⟩ e = if c = 4 then abj ⟨o0, w, st, 4, .alloc ⟨o0⟩, id, ch, lv, wt⟩ e else if c = 1 ∨ c = 2 ∨ c = 3 then aaG ⟨o0, w, st, c, m, id, ch, lv, wt⟩ e else if c = 9 then aaJ ⟨o0, w, st, c, m, id, ch, lv, wt⟩ e else aaq ⟨o0, w, st, c, m, id, ch, lv, wt⟩ e := by
  have hch := ayF (x := ⟨⟨false, 0, 0⟩, w, st, 0, m, id, ch, lv, wt⟩) hS hR
  simp only [h] at hch
  have hv : c = 1 ∨ c = 16 ∨ c = 2 ∨ c = 4 ∨ c = 3 ∨ c = 9 := by
    rw [← h]
    unfold ae5
    repeat' split
    all_goals simp
  unfold abm
  try unfold tpI
  try unfold tlI
  simp only [aav, abe, o0, bnd, hS.n, hS.a, hS.g, if_true, Bool.false_eq_true, if_false, auQ, aqi hS hT hc, hch, aeD]
  rcases hv with rfl | rfl | rfl | rfl | rfl | rfl <;> simp only [Int.reduceEq, Int.reduceLE, if_true, if_false, or_self, or_true, true_or, false_or, or_false]
end
end
end Go.Proofs.YtclaldommncdbaaGreat
