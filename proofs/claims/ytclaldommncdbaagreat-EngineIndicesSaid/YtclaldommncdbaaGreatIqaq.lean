/- The program's machines do what was said plainly, 1: memory, cells, words, the machines that run none inside. The program's machines do what was said plainly, 2: probing. What a step of the program's machines leaves of the environment: at most one access, few events, records of the same number. The program's machines do what was said plainly, 3: the machines that run others inside. The program's machines do what was said plainly: a sweep. The program's machines do what was said plainly, 4: a drain. The program's machines do what was said plainly, 5: running a task: parts. The program's machines do what was said plainly, 6: running a task: lines. -/
import Derived.Test.YtclaldommncdbaaGreatIqap
set_option linter.all false
namespace Go.Proofs.YtclaldommncdbaaGreat
section
open Go Go.RowKit
set_option maxRecDepth 100000
theorem ays {α : Type} {d : α} {xs : List α} {a : Int} {x : α} (h : 0 ≤ a ∧ a < (xs.length : Int)) : atL d (xs.set a.toNat x) a = x := by
  have : a.toNat < xs.length := by omega
  simp [atL, this]
theorem aji {cs : List Int} {a x : Int} (h : 0 ≤ a ∧ a < (cs.length : Int)) : aeo (cs.set a.toNat x) a = x := ays h
theorem aDm {x : Int} (h : ¬ x < 1) (h2 : x ≤ 9223372036854775807) : wu x ≠ 0 := by
  simp only [wu, IntKind.wrap, IntKind.bits, IntKind.signed]
  simp
  omega
theorem aDn (a : Int) : 0 ≤ wu a ∧ wu a ≤ 18446744073709551615 := by
  simp only [wu, IntKind.wrap, IntKind.bits, IntKind.signed]
  simp
  omega
section
variable {m : MemV} {a o v : Int}
theorem abx : acv m a = some ((m.gt a, ()), (m.pt 1 a (m.gt a), ())) := by
  unfold acv MemV.gt MemV.pt
  by_cases h : 0 ≤ a ∧ a < (m.cells.length : Int)
  · have h1 : ¬ a < 0 := by omega
    have h2 : ¬ ((m.cells.length : Nat) : Int) ≤ a := by omega
    simp only [h1, h2, h, and_self, if_true, if_false, List.length_set, aji h]
  · by_cases h1 : a < 0
    · simp only [h1, h, if_true, if_false]
    · have h2 : ((m.cells.length : Nat) : Int) ≤ a := by omega
      simp only [h1, h2, h, if_true, if_false]
theorem abr : aa2 m a v = some ((), (m.pt 2 a v, ())) := by
  unfold aa2 MemV.pt
  by_cases h : 0 ≤ a ∧ a < (m.cells.length : Int)
  · have h1 : ¬ a < 0 := by omega
    have h2 : ¬ ((m.cells.length : Nat) : Int) ≤ a := by omega
    simp only [h1, h2, h, and_self, if_true, if_false, List.length_set, aji h]
  · by_cases h1 : a < 0
    · simp only [h1, h, if_true, if_false]
    · have h2 : ((m.cells.length : Nat) : Int) ≤ a := by omega
      simp only [h1, h2, h, if_true, if_false]
theorem ai1 : ary m a o v = some ((m.hit a o, ()), (m.cas a o v, ())) := by
  unfold ary MemV.hit MemV.cas MemV.pt MemV.gt
  by_cases h : 0 ≤ a ∧ a < (m.cells.length : Int)
  · have h1 : ¬ a < 0 := by omega
    have h2 : ¬ ((m.cells.length : Nat) : Int) ≤ a := by omega
    by_cases hc : aeo m.cells a = o
    · simp only [h1, h2, h, hc, and_self, if_true, if_false, List.length_set, aji h]
    · simp only [h1, h2, h, hc, and_self, if_true, if_false, List.length_set, aji h, and_false]
  · by_cases h1 : a < 0
    · simp only [h1, h, if_true, if_false, false_and, decide_false]
    · have h2 : ((m.cells.length : Nat) : Int) ≤ a := by omega
      simp only [h1, h2, h, if_true, if_false, false_and, decide_false]
theorem auV : pOr m a v = some ((m.gt a, ()), (m.pt 4 a (orU (m.gt a) v), ())) := by
  unfold pOr MemV.gt MemV.pt
  by_cases h : 0 ≤ a ∧ a < (m.cells.length : Int)
  · have h1 : ¬ a < 0 := by omega
    have h2 : ¬ ((m.cells.length : Nat) : Int) ≤ a := by omega
    simp only [h1, h2, h, and_self, if_true, if_false, List.length_set, aji h]
  · by_cases h1 : a < 0
    · simp only [h1, h, if_true, if_false]
    · have h2 : ((m.cells.length : Nat) : Int) ≤ a := by omega
      simp only [h1, h2, h, if_true, if_false]
theorem aoc : aAF m a v = some ((m.gt a, ()), (m.pt 5 a (anz (m.gt a) v), ())) := by
  unfold aAF MemV.gt MemV.pt
  by_cases h : 0 ≤ a ∧ a < (m.cells.length : Int)
  · have h1 : ¬ a < 0 := by omega
    have h2 : ¬ ((m.cells.length : Nat) : Int) ≤ a := by omega
    simp only [h1, h2, h, and_self, if_true, if_false, List.length_set, aji h]
  · by_cases h1 : a < 0
    · simp only [h1, h, if_true, if_false]
    · have h2 : ((m.cells.length : Nat) : Int) ≤ a := by omega
      simp only [h1, h2, h, if_true, if_false]
theorem aqq : aC8 m a v = some ((m.gt a, ()), (m.pt 6 a (wu (m.gt a + v)), ())) := by
  unfold aC8 MemV.gt MemV.pt
  by_cases h : 0 ≤ a ∧ a < (m.cells.length : Int)
  · have h1 : ¬ a < 0 := by omega
    have h2 : ¬ ((m.cells.length : Nat) : Int) ≤ a := by omega
    simp only [h1, h2, h, and_self, if_true, if_false, List.length_set, aji h]
  · by_cases h1 : a < 0
    · simp only [h1, h, if_true, if_false]
    · have h2 : ((m.cells.length : Nat) : Int) ≤ a := by omega
      simp only [h1, h2, h, if_true, if_false]
end
theorem ama {a n : Int} : ayK a n = some ((aqB a n, ()), ()) := by
  unfold ayK aqB
  by_cases h : n < 1
  · rw [if_pos h, if_pos h]
  · rw [if_neg h, if_neg h, if_pos (show n ≠ 0 by omega)]
    split <;> rfl
theorem azG {k : ClkV} {n : Int} : azH k n = some ((at4 k n, ()), (k, ())) := by
  unfold azH at4 aqB
  by_cases h : n < 1
  · rw [if_pos h, if_pos h]
  · rw [if_neg h, if_neg h, if_pos (show n ≠ 0 by omega)]
    split <;> rfl
theorem amb {n : Int} : ayL n = some ((ayQ n, ()), ()) := by
  unfold ayL ayQ
  rw [if_pos (aDn n).1]
  split
  · rfl
  · split <;> rfl
theorem aqn {q : QV} {i : Int} (h : q.cap ≤ 9223372036854775807) : atv q i = some ((aeD q i, ()), ()) := by
  unfold atv aeD
  by_cases h1 : q.cap < 1
  · rw [if_pos h1, if_pos h1]
  · rw [if_neg h1, if_neg h1, if_pos (aDm h1 h)]
theorem ank {b t : Int} : atq b t = some ((szP b t, ()), ()) := rfl
theorem apu {i n a w : Int} : pAt i n a w = some ((atP i n a w, ()), ()) := by
  unfold pAt atP
  split
  · rfl
  · split <;> rfl
theorem ak3 {l : LayV} {t f : Int} : ar6 l t f = some ((ahc l t f, ()), ()) := by unfold ar6; rw [apu]; rfl
theorem aeU {l : LayV} {t : Int} : adV l t = some ((acT l t, ()), ()) := by unfold adV; rw [ak3]; rfl
theorem afQ {l : LayV} {t : Int} : ae5 l t = some ((abM l t, ()), ()) := by unfold ae5; rw [ak3]; rfl
theorem aiW {l : LayV} {t : Int} : aio l t = some ((akD l t, ()), ()) := by unfold aio; rw [ak3]; rfl
theorem ak1 {l : LayV} {t : Int} : aiU l t = some ((aii l t, ()), ()) := by unfold aiU; rw [ak3]; rfl
theorem aqk {l : LayV} {t : Int} : am4 l t = some ((agQ l t, ()), ()) := by unfold am4; rw [ak3]; rfl
theorem auU {l : LayV} {t : Int} : am3 l t = some ((aeQ l t, ()), ()) := by unfold am3; rw [apu]; rfl
theorem ak5 {l : LayV} {t : Int} : aps l t = some ((agL l t, ()), ()) := by unfold aps; rw [apu]; rfl
theorem agU {l : LayV} {t : Int} : agH l t = some ((ahh l t, ()), ()) := by unfold agH; rw [apu]; rfl
theorem aeH {l : LayV} {t : Int} : ag4 l t = some ((aaP l t, ()), ()) := by unfold ag4; rw [apu]; rfl
theorem aiY {l : LayV} {w v : Int} : agI l w v = some ((aaj l w v, ()), ()) := by
  unfold agI aaj
  simp only [apu, Option.bind_some]
  split
  · rfl
  · split <;> rfl
theorem azz {d a t : Int} : azA d a t = some (((an9 d a t).1, (an9 d a t).2, ()), ()) := by
  unfold azA an9
  repeat' split
  all_goals rfl
theorem ar8 {l n c : Int} : ar9 l n c = some ((ayc l n c, ()), ()) := by
  unfold ar9 ayc
  by_cases h : n < 1
  · rw [if_pos h, if_pos h]
  · rw [if_neg h, if_neg h, if_pos (show n ≠ 0 by omega)]
    repeat' split
    all_goals rfl
theorem aFf (a : Int) : 0 ≤ IntKind.u8.wrap a ∧ IntKind.u8.wrap a < 256 := by
  simp only [IntKind.wrap, IntKind.bits, IntKind.signed]
  simp
  omega
theorem au0 {x : Int} : agP x = some ((aqM x, ()), ()) := by
  have h : ∃ y, agP x = some ((y, ()), ()) := by
    have hs : ((aiK.size : Nat) : Int) = 256 := rfl
    unfold agP
    simp only [hs, aFf, and_self, if_true]
    repeat' split
    all_goals exact ⟨_, rfl⟩
  obtain ⟨y, hy⟩ := h
  unfold aqM
  rw [hy]
theorem axc [Tb] {x : Int} : aEZ x = some ((aFw x, ()), ()) := by
  unfold aEZ aFw
  split <;> rfl
theorem aca {e : EnvP} {v : Ev} (h : e.evs.length ≤ 999999999) : aee e v = some ((), ({ e with evs := e.evs ++ [v] }, ())) := by
  unfold aee
  rw [if_pos (by rw [List.length_singleton]; omega)]
@[reducible] def o0 : OutV := ⟨false, 0, 0⟩
@[reducible] def au7 (q : QV) (v : Int) : OPushS → OPushV
  | .l1 => ⟨o0, q, v, 1, 0⟩
  | .l2 b => ⟨o0, q, v, 2, b⟩
  | .l3 b => ⟨o0, q, v, 3, b⟩
  | .l4 b => ⟨o0, q, v, 4, b⟩
@[reducible] def azJ (q : QV) : OPopS → OPopV
  | .l1 => ⟨o0, q, 1, 0, 0⟩
  | .l2 b => ⟨o0, q, 2, b, 0⟩
  | .l3 b t => ⟨o0, q, 3, b, t⟩
  | .l4 b t => ⟨o0, q, 4, b, t⟩
  | .l5 b t => ⟨o0, q, 5, b, t⟩
  | .l6 b t => ⟨o0, q, 6, b, t⟩
  | .l7 b t => ⟨o0, q, 7, b, t⟩
  | .l8 b t => ⟨o0, q, 8, b, t⟩
  | .l9 b t => ⟨o0, q, 9, b, t⟩
@[reducible] def aux (q : QV) : StealS → StealV
  | .l1 => ⟨o0, q, 1, 0, 0⟩
  | .l2 t => ⟨o0, q, 2, t, 0⟩
  | .l3 t => ⟨o0, q, 3, t, 0⟩
  | .l4 t v => ⟨o0, q, 4, t, v⟩
@[reducible] def arW (a b : Int) (q : QV) : ResetS → ResetV
  | .l1 => ⟨o0, a, b, q, 1, 0⟩
  | .l2 => ⟨o0, a, b, q, 2, 0⟩
  | .l3 x => ⟨o0, a, b, q, 3, x⟩
  | .l4 x => ⟨o0, a, b, q, 4, x⟩
@[reducible] def akV (t v : Int) : PublishS → PublishV
  | .l1 => ⟨o0, t, v, 1⟩
  | .l2 => ⟨o0, t, v, 2⟩
  | .l3 => ⟨o0, t, v, 3⟩
@[reducible] def aqH (d t : Int) : InsertS → InsertV
  | .l1 => ⟨o0, d, t, 1, 0, 0, 0, 0⟩
  | .l2 n => ⟨o0, d, t, 2, n, 0, 0, 0⟩
  | .l3 n i k x => ⟨o0, d, t, 3, n, i, k, x⟩
  | .l4 n i k x => ⟨o0, d, t, 4, n, i, k, x⟩
  | .l5 n i k x => ⟨o0, d, t, 5, n, i, k, x⟩
  | .l6 n i k x => ⟨o0, d, t, 6, n, i, k, x⟩
@[reducible] def ap6 (w : Int) : RemoveS → RemoveV
  | .l1 => ⟨o0, w, 1, 0, 0, 0, 0, 0, 0⟩
  | .l2 n => ⟨o0, w, 2, n, 0, 0, 0, 0, 0⟩
  | .l3 n x => ⟨o0, w, 3, n, 0, 0, x, 0, 0⟩
  | .l4 n x y => ⟨o0, w, 4, n, 0, 0, x, y, 0⟩
  | .l5 n i c x y z => ⟨o0, w, 5, n, i, c, x, y, z⟩
  | .l6 n i c x y z => ⟨o0, w, 6, n, i, c, x, y, z⟩
  | .l7 n i c x y z => ⟨o0, w, 7, n, i, c, x, y, z⟩
  | .l8 n i c x y z => ⟨o0, w, 8, n, i, c, x, y, z⟩
@[reducible] def arG (w v : Int) : WakeS → WakeV
  | .l1 j => ⟨o0, w, v, 1, j, 0⟩
  | .l2 j x => ⟨o0, w, v, 2, j, x⟩
  | .l3 j x => ⟨o0, w, v, 3, j, x⟩
@[reducible] def arM (w : Int) : SleepS → SleepV
  | .l1 => ⟨o0, w, 1, 0, 0, 0⟩
  | .l2 ep => ⟨o0, w, 2, ep, 0, 0⟩
  | .l3 ep => ⟨o0, w, 3, ep, 0, 0⟩
  | .l4 ep v => ⟨o0, w, 4, ep, v, 0⟩
  | .l5 ep v s => ⟨o0, w, 5, ep, v, s⟩
  | .l6 ep v s => ⟨o0, w, 6, ep, v, s⟩
  | .l7 ep v s => ⟨o0, w, 7, ep, v, s⟩
@[reducible] def akY (w : Int) : ProbeS → ProbeV
  | .new => ⟨o0, w, false, 0, 0, aE8⟩
  | .run s i bm => ⟨o0, w, true, s, i, bm⟩
@[reducible] def ar2 (w t v : Int) : RaiseS → RaiseV
  | .l1 q => ⟨o0, w, t, v, 1, q⟩
  | .l2 q => ⟨o0, w, t, v, 2, q⟩
def aaX {σ X : Type} (og : X → OutV) (mk : σ → X) (res : Option ((Bool × Unit) × (X × EnvP × Unit))) (r : Rs σ × EnvP) : Prop :=
  match r with
  | (.go s, e) => res = some ((false, ()), (mk s, e, ()))
  | (.fin c v, e) => ∃ x, res = some ((true, ()), (x, e, ())) ∧ og x = ⟨true, c, v⟩
section
variable {σ X : Type} {og : X → OutV} {mk : σ → X} {a b : Option ((Bool × Unit) × (X × EnvP × Unit))} {r s : Rs σ × EnvP}
theorem aaX.ite {c : Prop} [Decidable c] (h1 : c → aaX og mk a r) (h2 : ¬ c → aaX og mk b s) : aaX og mk (if c then a else b) (if c then r else s) := by
  by_cases h : c
  · rw [if_pos h, if_pos h]; exact h1 h
  · rw [if_neg h, if_neg h]; exact h2 h
theorem aaX.iteN {c : Bool} (h1 : c = true → aaX og mk b r) (h2 : c = false → aaX og mk a s) : aaX og mk (if (!c) = true then a else b) (if c = true then r else s) := by
  cases c
  · exact h2 rfl
  · exact h1 rfl
theorem aaX.iteL {c : Prop} [Decidable c] (h1 : c → aaX og mk a r) (h2 : ¬ c → aaX og mk b r) : aaX og mk (if c then a else b) r := by
  by_cases h : c
  · rw [if_pos h]; exact h1 h
  · rw [if_neg h]; exact h2 h
theorem aa0 {c : Prop} [Decidable c] {x y : Rs σ} {e : EnvP} : ((if c then x else y), e) = if c then (x, e) else (y, e) := by split <;> rfl
theorem asz {c : Prop} [Decidable c] {x y : σ} : Rs.go (if c then x else y) = if c then Rs.go x else Rs.go y := by split <;> rfl
end
theorem aci {α β : Type} {c : Prop} [Decidable c] {x y : Option α} {f : α → Option β} : (if c then x else y).bind f = if c then x.bind f else y.bind f := by split <;> rfl
section
variable {e : EnvP}
theorem asc {q : QV} {v : Int} (hq : q.cap ≤ 9223372036854775807) (s : OPushS) : aaX OPushV.o (au7 q v) (adr (au7 q v s) e) (adX q v e s) := by
  cases s <;> simp only [adr, au7, adX, aaA, abf, o0, abx, abr, ank, aqn hq, Option.bind_some, Bool.false_eq_true, if_true, if_false, reduceIte, Int.reduceEq, aa0]
  all_goals repeat' first | with_reducible refine aaX.ite (fun _ => ?_) fun _ => ?_ | with_reducible refine aaX.iteN (fun _ => ?_) fun _ => ?_
  all_goals first | rfl | exact ⟨_, rfl, rfl⟩
theorem azI {q : QV} (hq : q.cap ≤ 9223372036854775807) (s : OPopS) : aaX OPopV.o (azJ q) (adW (azJ q s) e) (ajP q e s) := by
  cases s <;> simp only [adW, ag5, azJ, ajP, aaA, abf, o0, abx, abr, ai1, ank, aqn hq, Option.bind_some, Bool.false_eq_true, if_true, if_false, reduceIte, Int.reduceEq, aa0, aci]
  all_goals repeat' first | with_reducible refine aaX.ite (fun _ => ?_) fun _ => ?_ | with_reducible refine aaX.iteN (fun _ => ?_) fun _ => ?_
  all_goals first | rfl | exact ⟨_, rfl, rfl⟩
theorem aww {q : QV} (hq : q.cap ≤ 9223372036854775807) (s : StealS) : aaX StealV.o (aux q) (ac1 (aux q s) e) (aec q e s) := by
  cases s <;> simp only [ac1, aux, aec, aaA, abf, o0, abx, abr, ai1, ank, aqn hq, Option.bind_some, Bool.false_eq_true, if_true, if_false, reduceIte, Int.reduceEq, aa0]
  all_goals repeat' first | with_reducible refine aaX.ite (fun _ => ?_) fun _ => ?_ | with_reducible refine aaX.iteN (fun _ => ?_) fun _ => ?_
  all_goals first | rfl | exact ⟨_, rfl, rfl⟩
theorem arV {a b : Int} {q : QV} (s : ResetS) : aaX ResetV.o (arW a b q) (acI (arW a b q s) e) (agc a b q e s) := by
  cases s <;> simp only [acI, arW, agc, aaA, abf, o0, abx, abr, aoc, auV, amb, ank, Option.bind_some, Bool.false_eq_true, if_true, if_false, reduceIte, Int.reduceEq, aa0]
  all_goals repeat' first | with_reducible refine aaX.ite (fun _ => ?_) fun _ => ?_ | with_reducible refine aaX.iteN (fun _ => ?_) fun _ => ?_
  all_goals first | rfl | exact ⟨_, rfl, rfl⟩
theorem aBy {a b : Int} : ∃ x, adt ⟨o0, a, b⟩ e = some ((true, ()), (x, aC6 a b e, ())) ∧ x.o = ⟨true, 0, 0⟩ := by
  simp only [adt, aaA, abf, o0, auV, amb, Option.bind_some, Bool.false_eq_true, if_true, if_false]
  exact ⟨_, rfl, rfl⟩
theorem ai6 {t : Int} : afj e t = some ((decide (IsT e t), ()), (e, ())) := by
  unfold afj IsT
  by_cases h : 0 ≤ t
  · simp only [h, if_true, true_and]
  · simp only [h, if_false, false_and, decide_false]
theorem aqT {t v : Int} : ajg e t v = some ((decide (awj e t v), ()), (e, ())) := by
  unfold ajg awj
  by_cases h : 0 ≤ t
  · by_cases h2 : t < e.c.tasks
    · by_cases h3 : 0 ≤ v
      · simp only [h, h2, h3, if_true, true_and]
      · simp only [h, h2, h3, if_true, if_false, false_and, and_false, decide_false]
    · simp only [h, h2, if_true, if_false, false_and, and_false, decide_false]
  · simp only [h, if_false, false_and, decide_false]
theorem asZ : ∃ x, abP ⟨o0⟩ e = some ((true, ()), (x, af1 e, ())) ∧ x.o = if IsT e (wi (e.gt 0)) then ⟨true, 1, wi (e.gt 0)⟩ else ⟨true, 3, 0⟩ := by
  simp only [abP, aaA, abf, azC, o0, aqq, ai6, Option.bind_some, Bool.false_eq_true, if_true, if_false]
  by_cases h : IsT e (wi (e.gt 0))
  · have h' : IsT { e with m := e.m.pt 6 0 (wu (e.m.gt 0 + 1)) } (wi (e.m.gt 0)) := h
    simp only [h, h', decide_true, Bool.not_true, Bool.false_eq_true, if_true, if_false]
    exact ⟨_, rfl, rfl⟩
  · have h' : ¬ IsT { e with m := e.m.pt 6 0 (wu (e.m.gt 0 + 1)) } (wi (e.m.gt 0)) := h
    simp only [h, h', decide_false, Bool.not_false, if_true, if_false]
    exact ⟨_, rfl, rfl⟩
theorem atn {t v : Int} (s : PublishS) : aaX PublishV.o (akV t v) (abK (akV t v s) e) (aeq t v e s) := by
  by_cases h : IsT e t
  · cases s <;> simp only [abK, akV, aeq, ai6, h, not_true, decide_true, Bool.not_true, aaA, abf, aqi, o0, abr, afQ, aiW, aeU, Option.bind_some, Bool.false_eq_true, if_true, if_false, reduceIte, Int.reduceEq]
    all_goals first | rfl | exact ⟨_, rfl, rfl⟩
  · cases s <;> simp only [abK, akV, aeq, ai6, h, not_false_eq_true, decide_false, Bool.not_false, aaA, abf, o0, Option.bind_some, Bool.false_eq_true, if_true, if_false]
    all_goals exact ⟨_, rfl, rfl⟩
theorem aqD {w : Int} {b : Bool} : ∃ d x, acE ⟨o0, w, b⟩ e = some ((d, ()), (x, atM w e, ())) ∧ (d = true → x.o = if e.hit 1 0 = true then ⟨true, 1, 0⟩ else ⟨true, 5, 0⟩) ∧ (d = (e.hit 1 0 || b)) ∧ (d = false → x = ⟨o0, w, b⟩) := by
  simp only [acE, aaA, abf, axd, o0, ai1, Option.bind_some, Bool.false_eq_true, if_true, if_false]
  rcases Bool.eq_false_or_eq_true (e.m.hit 1 0) with h | h
  · simp only [h, if_true]; exact ⟨_, _, rfl, (fun _ => rfl), rfl, (fun h => by cases h)⟩
  · cases b
    · simp only [h, Bool.false_eq_true, if_false]; exact ⟨_, _, rfl, (fun h => by cases h), rfl, fun _ => rfl⟩
    · simp only [h, Bool.false_eq_true, if_false, if_true]; exact ⟨_, _, rfl, (fun _ => rfl), rfl, (fun h => by cases h)⟩
theorem avn : ∃ x, acD ⟨o0⟩ e = some ((true, ()), (x, asA e, ())) ∧ x.o = ⟨true, 0, 0⟩ := by
  simp only [acD, aaA, abf, axd, o0, abr, Option.bind_some, Bool.false_eq_true, if_true, if_false]
  exact ⟨_, rfl, rfl⟩
theorem alz {w t : Int} (hl : e.evs.length ≤ 999999999) (hr : e.hit (acT e.l t) 1 = true → 0 ≤ t ∧ t < (e.recs.length : Int)) : ∃ x, ac2 ⟨o0, w, t⟩ e = some ((true, ()), (x, ahE w t e, ())) ∧ x.o = if ahF t e = true then ⟨true, 1, t⟩ else ⟨true, 4, 0⟩ := by
  simp only [ac2, aaA, abf, o0, ai1, aeU, Option.bind_some, Bool.false_eq_true, if_true, if_false]
  unfold ahE ahF
  simp only [EnvP.hit] at hr ⊢
  rcases Bool.eq_false_or_eq_true (e.m.hit (acT e.l t) 1) with h | h
  · simp only [h, Bool.not_true, Bool.false_eq_true, if_true, if_false, hr h, and_self]
    by_cases hs : (aab e.recs t).started = true
    · have hs' : (e.rc t).started = true := hs
      simp only [hs, hs', if_true, aca (e := { e with m := e.m.cas (acT e.l t) 1 2 }) hl, Option.bind_some]
      exact ⟨_, rfl, rfl⟩
    · have hs' : ¬ (e.rc t).started = true := hs
      simp only [hs, hs', if_false, aca (e := { e with m := e.m.cas (acT e.l t) 1 2, recs := e.recs.set t.toNat { aab e.recs t with started := true } }) hl, Option.bind_some]
      exact ⟨_, rfl, rfl⟩
  · simp only [h, Bool.not_false, Bool.false_eq_true, if_true, if_false, aca (e := { e with m := e.m.cas (acT e.l t) 1 2 }) hl, Option.bind_some]
    exact ⟨_, rfl, rfl⟩
theorem apC {d t : Int} (s : InsertS) : aaX InsertV.o (aqH d t) (abF (aqH d t s) e) (acF d t e s) := by
  cases s <;> simp only [abF, ads, an6, aqH, acF, aaA, abf, agd, aqp, o0, abx, abr, aqq, auU, azz, Option.bind_some, Bool.false_eq_true, if_true, if_false, reduceIte, Int.reduceEq, aa0, aci, asz]
  all_goals repeat' first | with_reducible refine aaX.ite (fun _ => ?_) fun _ => ?_ | with_reducible refine aaX.iteN (fun _ => ?_) fun _ => ?_
  all_goals first | rfl | exact ⟨_, rfl, rfl⟩
theorem avU {w : Int} (hl : e.evs.length ≤ 999999999) (s : RemoveS) : aaX RemoveV.o (ap6 w) (abE (ap6 w s) e) (ac3 w e s) := by
  have hm : ∀ m v, aee { e with m := m } v = some ((), ({ e with m := m, evs := e.evs ++ [v] }, ())) := fun m v => aca (e := { e with m := m }) hl
  cases s <;> simp only [abE, aeA, acY, acN, ab4, aoQ, asI, ap6, ac3, aaA, abf, agd, atp, o0, abx, abr, auU, hm, Option.bind_some, Bool.false_eq_true, if_true, if_false, reduceIte, Int.reduceEq, aa0, aci, asz]
  all_goals repeat' first | with_reducible refine aaX.ite (fun _ => ?_) fun _ => ?_ | with_reducible refine aaX.iteN (fun _ => ?_) fun _ => ?_
  all_goals first | rfl | exact ⟨_, rfl, rfl⟩ | skip
  refine aaX.iteL (fun h => ?_) fun h => ?_
  · rw [if_pos h]
    exact aaX.ite (fun _ => rfl) fun _ => rfl
  · rw [if_neg h]
    exact aaX.ite (fun _ => rfl) fun _ => rfl
theorem ar1 {w t v : Int} (hl : e.evs.length ≤ 999999999) (s : RaiseS) : aaX RaiseV.o (ar2 w t v) (acr (ar2 w t v s) e) (aed w t v e s) := by
  have hm : ∀ m v, aee { e with m := m } v = some ((), ({ e with m := m, evs := e.evs ++ [v] }, ())) := fun m v => aca (e := { e with m := m }) hl
  by_cases h : awj e t v
  · cases s <;> simp only [acr, ar2, aed, aqT, h, not_true, decide_true, Bool.not_true, aaA, abf, o0, abx, ai1, afQ, hm, Option.bind_some, Bool.false_eq_true, if_true, if_false, reduceIte, Int.reduceEq, aa0]
    all_goals repeat' first | with_reducible refine aaX.ite (fun _ => ?_) fun _ => ?_ | with_reducible refine aaX.iteN (fun _ => ?_) fun _ => ?_
    all_goals first | rfl | exact ⟨_, rfl, rfl⟩
  · cases s <;> simp only [acr, ar2, aed, aqT, h, not_false_eq_true, decide_false, Bool.not_false, aaA, abf, o0, Option.bind_some, Bool.false_eq_true, if_true, if_false]
    all_goals exact ⟨_, rfl, rfl⟩
theorem awF {w : Int} (hl : e.evs.length ≤ 999999999) (s : SleepS) : aaX SleepV.o (arM w) (acW (arM w s) e) (aga w e s) := by
  have hm : ∀ m k v, aee { e with m := m, k := k } v = some ((), ({ e with m := m, k := k, evs := e.evs ++ [v] }, ())) := fun m k v => aca (e := { e with m := m, k := k }) hl
  by_cases hc : e.c.classes < 1
  · cases s <;> simp only [acW, agl, agk, arM, aga, aik, hc, aaA, abf, aqi, agd, o0, abx, auV, aoc, amb, ama, ak5, agU, aeH, hm, Option.bind_some, Bool.false_eq_true, if_true, if_false, reduceIte, Int.reduceEq, aa0, aci]
    all_goals repeat' first | with_reducible refine aaX.ite (fun _ => ?_) fun _ => ?_ | with_reducible refine aaX.iteN (fun _ => ?_) fun _ => ?_
    all_goals first | rfl | exact ⟨_, rfl, rfl⟩
  · cases s <;> simp only [acW, agl, agk, arM, aga, aik, hc, aaA, abf, aqi, agd, o0, abx, auV, aoc, amb, ama, ak5, agU, aeH, hm, Option.bind_some, Bool.false_eq_true, if_true, if_false, reduceIte, Int.reduceEq, aa0, aci]
    all_goals repeat' first | with_reducible refine aaX.ite (fun _ => ?_) fun _ => ?_ | with_reducible refine aaX.iteN (fun _ => ?_) fun _ => ?_
    all_goals first | rfl | exact ⟨_, rfl, rfl⟩
theorem akx [Tb] {w v : Int} (hl : e.evs.length ≤ 999999999) (s : WakeS) : aaX WakeV.o (arG w v) (adl (arG w v s) e) (aej w v e s) := by
  have hm : ∀ m v, aee { e with m := m } v = some ((), ({ e with m := m, evs := e.evs ++ [v] }, ())) := fun m v => aca (e := { e with m := m }) hl
  by_cases hc : e.c.classes < 1
  · cases s <;> simp only [adl, arG, aej, amP, hc, aaA, abf, axc, o0, abx, aqq, aoc, amb, ama, ar8, ak5, agU, hm, Option.bind_some, Bool.false_eq_true, if_true, if_false, reduceIte, Int.reduceEq, aa0, aci, decide_eq_true_eq]
    all_goals repeat' first | with_reducible refine aaX.ite (fun _ => ?_) fun _ => ?_ | with_reducible refine aaX.iteN (fun _ => ?_) fun _ => ?_
    all_goals first | rfl | exact ⟨_, rfl, rfl⟩
  · cases s <;> simp only [adl, arG, aej, amP, hc, aaA, abf, axc, o0, abx, aqq, aoc, amb, ama, ar8, ak5, agU, hm, Option.bind_some, Bool.false_eq_true, if_true, if_false, reduceIte, Int.reduceEq, aa0, aci, decide_eq_true_eq]
    all_goals repeat' first | with_reducible refine aaX.ite (fun _ => ?_) fun _ => ?_ | with_reducible refine aaX.iteN (fun _ => ?_) fun _ => ?_
    all_goals first | rfl | exact ⟨_, rfl, rfl⟩
end
end
section
open Go Go.RowKit
set_option maxRecDepth 100000
section
variable {e : EnvP}
theorem aw8 {x : ProbeV} {n : Int} (hn : 1 ≤ n) : aek x n = some ((decide (n ≤ al6 x.worker n x.start x.next), ()), ({ x with next := al6 x.worker n x.start x.next }, ())) := by
  unfold aek al6
  have h0 : n ≠ 0 := by omega
  by_cases h : x.next < n
  · by_cases h2 : Int.tmod (wi (x.start + x.next)) n = x.worker
    · simp only [h, h0, h2, ne_eq, not_false_eq_true, if_true, decide_true, Option.bind_some, and_self]
    · simp only [h, h0, h2, ne_eq, not_false_eq_true, if_true, decide_false, Option.bind_some, and_false, if_false, Bool.false_eq_true]
  · simp only [h, false_and, if_false, Option.bind_some, Bool.false_eq_true]
theorem atH (h : 1 ≤ e.c.workers) : 1 ≤ abV e ∧ abV e ≤ 16 := by
  unfold abV
  split <;> omega
theorem awr {a n : Int} (hn : 1 ≤ n) (ha : 0 ≤ a) : 0 ≤ Int.tmod a n ∧ Int.tmod a n < n := by
  rw [Int.tmod_eq_emod_of_nonneg ha]
  exact ⟨Int.emod_nonneg _ (by omega), Int.emod_lt_of_pos _ (by omega)⟩
theorem aw6 {w s : Int} {n : Int} (hn : 1 ≤ n ∧ n ≤ 16) (hs : 0 ≤ s ∧ s ≤ 100) (st : Int) (hst : aqB st n = s) (x : ProbeV) (hx : x.start = st) (F : (Int × Int × Int × ProbeV × Unit → Option (Int × Int × Int × ProbeV × Unit)) → Int × Int × Int × ProbeV × Unit → Option (Int × Int × Int × ProbeV × Unit))
    (hF : ∀ self a b i, 0 ≤ i → i ≤ 16 → F self (a, b, i, x, ()) = if i < n then (if Int.tmod (wi (s + i)) n ≠ w ∧ b < aqM (x.bm.at (Int.tmod (wi (s + i)) n)) then self (Int.tmod (wi (s + i)) n, aqM (x.bm.at (Int.tmod (wi (s + i)) n)), wi (i + 1), x, ()) else self (a, b, wi (i + 1), x, ())) else some (a, b, i, x, ())) :
    ∀ (k fuel : Nat) (i a b : Int), 0 ≤ i → (i + (k : Int) = n) → k < fuel → lpF F fuel (a, b, i, x, ()) = some ((avW w n s x.bm k i (a, b)).1, (avW w n s x.bm k i (a, b)).2, n, x, ()) := by
  intro k
  induction k with
  | zero =>
    intro fuel i a b h0 hi hf
    obtain ⟨fuel, rfl⟩ : ∃ f, fuel = f + 1 := ⟨fuel - 1, by omega⟩
    show F (lpF F fuel) _ = _
    rw [hF _ _ _ _ h0 (by omega), if_neg (by omega)]
    have : i = n := by omega
    subst this
    rfl
  | succ k ih =>
    intro fuel i a b h0 hi hf
    obtain ⟨fuel, rfl⟩ : ∃ f, fuel = f + 1 := ⟨fuel - 1, by omega⟩
    show F (lpF F fuel) _ = _
    rw [hF _ _ _ _ h0 (by omega), if_pos (by omega)]
    have e1 : wi (i + 1) = i + 1 := aaW (aaC (by omega))
    rw [e1]
    unfold avW
    split
    · exact ih fuel (i + 1) _ _ (by omega) (by omega) (by omega)
    · exact ih fuel (i + 1) _ _ (by omega) (by omega) (by omega)
theorem aaX.bind {σ X α : Type} {og : X → OutV} {mk : σ → X} {r : Rs σ × EnvP} {A : Option α} {f : α → Option ((Bool × Unit) × (X × EnvP × Unit))} {z : α} (h : A = some z) (h2 : aaX og mk (f z) r) : aaX og mk (A.bind f) r := by rw [h]; exact h2
theorem ayq {α β : Type} {A : Option α} {f : α → Option β} {z : α} (h : A = some z) : A.bind f = f z := by rw [h]; rfl
theorem aaX.ite' {σ X : Type} {og : X → OutV} {mk : σ → X} {a b : Option ((Bool × Unit) × (X × EnvP × Unit))} {r s : Rs σ × EnvP} {c : Prop} [Decidable c] (h1 : c → aaX og mk b r) (h2 : ¬ c → aaX og mk a s) : aaX og mk (if (!decide c) = true then a else b) (if c then r else s) := by
  by_cases h : c
  · rw [if_pos h, decide_eq_true h]; exact h1 h
  · rw [if_neg h, decide_eq_false h]; exact h2 h
def amy (n : Int) : ProbeS → Prop
  | .new => True
  | .run s i _ => (0 ≤ s ∧ s < n) ∧ 0 ≤ i ∧ i ≤ n
theorem axx {a n : Int} (hn : 1 ≤ n ∧ n ≤ 1000000) : 0 ≤ aqB a n ∧ aqB a n < n := by
  unfold aqB
  rw [if_neg (by omega)]
  have h1 : -n < Int.tmod a n := Int.lt_tmod_of_pos a (b := n) (by omega)
  have h2 : Int.tmod a n < n := Int.tmod_lt_of_pos a (b := n) (by omega)
  split
  · rw [aaW (aaC (by omega))]; omega
  · omega
theorem aCh {s n : Int} (h : 0 ≤ s ∧ s < n) : aqB s n = s := by
  unfold aqB
  rw [if_neg (by omega)]
  have e1 : Int.tmod s n = s := Int.tmod_eq_of_lt h.1 h.2
  rw [e1, if_neg (by omega)]
theorem aqe {w n s i : Int} (hi : 0 ≤ i ∧ i ≤ n) (hn : n ≤ 16) : i ≤ al6 w n s i ∧ al6 w n s i ≤ n := by
  unfold al6
  split
  · rw [aaW (aaC (by omega))]; omega
  · omega
theorem aF8 {v : Int} (h : 0 ≤ v ∧ v < 16) : v = 15 ∨ v = 14 ∨ v = 13 ∨ v = 12 ∨ v = 11 ∨ v = 10 ∨ v = 9 ∨ v = 8 ∨ v = 7 ∨ v = 6 ∨ v = 5 ∨ v = 4 ∨ v = 3 ∨ v = 2 ∨ v = 1 ∨ v = 0 := by omega
theorem ar4 {w s i : Int} {bm : B16} (hw : 1 ≤ e.c.workers) (h : amy (abV e) (.run s i bm)) : aaX ProbeV.o (akY w) (abj (akY w (.run s i bm)) e) (ain w e s i bm) := by
  obtain ⟨hs, hi⟩ := h
  have hn := atH hw
  have hM : (if 16 < e.c.workers then 16 else e.c.workers) = abV e := rfl
  have hp := aqe (w := w) (s := s) hi hn.2
  unfold abj ain
  simp only [akY, aaA, o0, hM, Option.bind_some, Bool.false_eq_true, if_false, Bool.not_true, aw8 hn.1, decide_eq_true_eq, abf]
  refine aaX.ite (fun _ => ⟨_, rfl, rfl⟩) fun hlt => ?_
  generalize hj : al6 w (abV e) s i = j at hp hlt ⊢
  have hsj : wi (s + j) = s + j := aaW (aaC (by omega))
  have hv := awr (a := s + j) hn.1 (by omega)
  have hj1 : wi (j + 1) = j + 1 := aaW (aaC (by omega))
  rw [if_pos (show abV e ≠ 0 by omega), hsj, hj1]
  generalize hvv : Int.tmod (s + j) (abV e) = v at hv ⊢
  have hp2 := aqe (w := w) (s := s) (i := j + 1) ⟨by omega, by omega⟩ hn.2
  simp only [aeH, abx, Option.bind_some]
  refine aaX.bind (z := (⟨⟨false, 0, 0⟩, w, true, s, j, bm.put v (e.m.gt (aaP e.l v))⟩, { e with m := e.m.pt 1 (aaP e.l v) (e.m.gt (aaP e.l v)) }, ())) ?_ ?_
  · rcases aF8 (v := v) (by omega) with h | h | h | h | h | h | h | h | h | h | h | h | h | h | h | h <;> subst h <;> rfl
  simp only [hj1, aw8 hn.1, Option.bind_some]
  generalize hj2 : al6 w (abV e) s (j + 1) = j2 at hp2 ⊢
  refine aaX.ite' (c := abV e ≤ j2) (fun h2 => ?_) (fun h2 => ?_)
  · simp only [if_true, if_pos (show 0 ≤ abV e ∧ abV e ≤ ((16 : Nat) : Int) by omega)]
    have ht : (((abV e).toNat : Nat) : Int) = abV e := by omega
    have hm : aqB s (abV e) = s := aCh hs
    refine aaX.bind (aw6 (w := w) (s := s) (n := abV e) hn ⟨hs.1, by omega⟩ s hm _ rfl _ (fun self a b i h0 h16 => ?_) (abV e).toNat _ 0 (-1) (-1) (Int.le_refl 0) (by omega) (by omega)) ?_
    · simp only [ht, ama, hm, Option.bind_some]
      refine ite_congr rfl (fun hlt => ?_) fun _ => rfl
      have hsi : wi (s + i) = s + i := aaW (aaC (by omega))
      have hv2 := awr (a := s + i) hn.1 (by omega)
      rw [if_pos (show abV e ≠ 0 by omega), hsi]
      generalize Int.tmod (s + i) (abV e) = u at hv2 ⊢
      rw [if_pos hv2.2]
      refine (ayq (z := (aqM ((bm.put v (e.m.gt (aaP e.l v))).at u), ⟨⟨false, 0, 0⟩, w, true, s, j2, bm.put v (e.m.gt (aaP e.l v))⟩, ())) ?_).trans ?_
      · rcases aF8 (v := u) (by omega) with h | h | h | h | h | h | h | h | h | h | h | h | h | h | h | h <;> subst h <;> exact ayq au0
      · by_cases c1 : u ≠ w
        · by_cases c2 : b < aqM ((bm.put v (e.m.gt (aaP e.l v))).at u)
          · rw [if_pos c1, if_pos c2, if_pos ⟨c1, c2⟩]
          · rw [if_pos c1, if_neg c2, if_neg (fun h => c2 h.2)]
        · rw [if_neg c1, if_neg (fun h => c1 h.1)]
    · have hc : aoP w (abV e) s (bm.put v (e.m.gt (aaP e.l v))) = avW w (abV e) s (bm.put v (e.m.gt (aaP e.l v))) (abV e).toNat 0 (-1, -1) := by unfold aoP; rw [hm]
      rw [hc]
      simp only [aa0, Option.bind_some]
      exact aaX.ite (fun _ => ⟨_, rfl, rfl⟩) fun _ => ⟨_, rfl, rfl⟩
  · rfl
theorem aw1 {w : Int} (hw : 1 ≤ e.c.workers) (s : ProbeS) (h : amy (abV e) s) : aaX ProbeV.o (akY w) (abj (akY w s) e) (aj1 w e s) := by
  cases s with
  | run s i bm => exact ar4 hw h
  | new =>
    have hn := atH hw
    have hd : 0 ≤ at4 e.k (abV e) ∧ at4 e.k (abV e) < abV e := axx ⟨hn.1, by omega⟩
    have h1 := ar4 (w := w) (s := at4 e.k (abV e)) (i := 0) (bm := aE8) hw ⟨hd, Int.le_refl 0, by omega⟩
    have hM : (if 16 < e.c.workers then 16 else e.c.workers) = abV e := rfl
    have e1 : abj (akY w .new) e = abj (akY w (.run (at4 e.k (abV e)) 0 aE8)) e := by
      unfold abj
      simp only [akY, aaA, o0, hM, Option.bind_some, Bool.false_eq_true, if_false, Bool.not_true, Bool.not_false, if_true, azG]
    rw [e1]
    exact h1
theorem azv {w : Int} (hw : 1 ≤ e.c.workers) {s s' : ProbeS} {e' : EnvP} (h : amy (abV e) s) (hs : aj1 w e s = (.go s', e')) : amy (abV e) s' := by
  have hn := atH hw
  have key : ∀ s i bm, (0 ≤ s ∧ s < abV e) → (0 ≤ i ∧ i ≤ abV e) → ain w e s i bm = (.go s', e') → amy (abV e) s' := fun s i bm hs0 hi hg => by
    have hp := aqe (w := w) (s := s) hi hn.2
    unfold ain at hg
    generalize al6 w (abV e) s i = j at hp hg
    split at hg
    · cases hg
    · rename_i hlt
      have hj1 : wi (j + 1) = j + 1 := aaW (aaC (by omega))
      have hp2 := aqe (w := w) (s := s) (i := j + 1) ⟨by omega, by omega⟩ hn.2
      simp only [hj1] at hg
      split at hg
      · split at hg <;> cases hg
      · cases hg
        exact ⟨hs0, by omega, by omega⟩
  cases s with
  | run s i bm => exact key s i bm h.1 h.2 hs
  | new => exact key _ 0 _ (axx ⟨hn.1, by omega⟩) ⟨Int.le_refl 0, by omega⟩ hs
end
end
section
open Go Go.RowKit
set_option maxRecDepth 100000
inductive One (m : MemV) : MemV → Prop where
  | no : One m m
  | yes (k a v : Int) (h : 0 ≤ a ∧ a < (m.cells.length : Int)) (hk : k < 2 → v = aeo m.cells a) : One m ⟨m.cells.set a.toNat v, ⟨k, a, aeo m.cells a, v⟩, wi (m.count + 1)⟩
structure Stp (j : Nat) (e e' : EnvP) : Prop where
  c : e'.c = e.c
  l : e'.l = e.l
  k : e'.k = e.k
  rl : e'.recs.length = e.recs.length
  m : One e.m e'.m
  ev : e'.evs.length ≤ e.evs.length + j
  kd : ∀ K, (∀ r ∈ e.recs, r.kids.length ≤ K) → ∀ r ∈ e'.recs, r.kids.length ≤ K + 1
section
variable {j : Nat} {e e' : EnvP}
theorem Stp.refl : Stp 0 e e := ⟨rfl, rfl, rfl, rfl, .no, Nat.le_refl _, fun K h r hr => Nat.le_succ_of_le (h r hr)⟩
theorem Stp.le {i : Nat} (h : Stp j e e') (hi : j ≤ i) : Stp i e e' := ⟨h.c, h.l, h.k, h.rl, h.m, Nat.le_trans h.ev (Nat.add_le_add_left hi _), h.kd⟩
theorem axr {m : MemV} {k a v : Int} (hk : k < 2 → 0 ≤ a → a < (m.cells.length : Int) → v = aeo m.cells a) : One m (m.pt k a v) := by
  unfold MemV.pt
  by_cases h : 0 ≤ a ∧ a < (m.cells.length : Int)
  · rw [if_pos h]; exact .yes k a v h fun hk' => hk hk' h.1 h.2
  · rw [if_neg h]; exact .no
theorem Stp.pt {k a v : Int} (hk : 2 ≤ k) : Stp 0 e (e.pt k a v) := ⟨rfl, rfl, rfl, rfl, axr fun h => absurd h (by omega), Nat.le_refl _, fun K h r hr => Nat.le_succ_of_le (h r hr)⟩
theorem Stp.lk {a : Int} : Stp 0 e (e.lk a) := ⟨rfl, rfl, rfl, rfl, axr fun _ h1 h2 => by unfold MemV.gt; rw [if_pos ⟨h1, h2⟩], Nat.le_refl _, fun K h r hr => Nat.le_succ_of_le (h r hr)⟩
theorem Stp.cas {a o v : Int} : Stp 0 e (e.cas a o v) := ⟨rfl, rfl, rfl, rfl, axr fun h => absurd h (by omega), Nat.le_refl _, fun K h r hr => Nat.le_succ_of_le (h r hr)⟩
theorem Stp.em {k w t o l : Int} (h : Stp j e e') : Stp (j + 1) e (e'.em k w t o l) := ⟨h.c, h.l, h.k, h.rl, h.m, by
  show (e'.evs ++ [_]).length ≤ _
  rw [List.length_append, List.length_singleton]
  have := h.ev
  omega, h.kd⟩
theorem Stp.pr {t : Int} {r : RecP} (h : Stp j e e') (hr : ∀ K, (∀ r ∈ e.recs, r.kids.length ≤ K) → r.kids.length ≤ K + 1) : Stp j e (e'.pr t r) := ⟨h.c, h.l, h.k, (by show (e'.recs.set _ _).length = _; rw [List.length_set]; exact h.rl), h.m, h.ev, fun K hK x hx => by
  rcases List.mem_or_eq_of_mem_set hx with hx | rfl
  · exact h.kd K hK x hx
  · exact hr K hK⟩
theorem anm {q : QV} {v : Int} (s : OPushS) : Stp 0 e (adX q v e s).2 := by
  cases s <;> unfold adX <;> first | exact .lk | exact .pt (by decide)
theorem axk {q : QV} (s : OPopS) : Stp 0 e (ajP q e s).2 := by
  cases s <;> unfold ajP <;> first | exact .lk | exact .pt (by decide) | exact .cas
theorem auw {q : QV} (s : StealS) : Stp 0 e (aec q e s).2 := by
  cases s <;> unfold aec <;> first | exact .lk | exact .pt (by decide) | exact .cas
theorem auG {a b : Int} {q : QV} (s : ResetS) : Stp 0 e (agc a b q e s).2 := by
  cases s <;> unfold agc <;> first | exact .lk | exact .pt (by decide)
theorem aDA {a b : Int} : Stp 0 e (aC6 a b e) := .pt (by decide)
theorem anA : Stp 0 e (af1 e) := .pt (by decide)
theorem apq {t v : Int} (s : PublishS) : Stp 0 e (aeq t v e s).2 := by
  unfold aeq
  split
  · exact .refl
  · cases s <;> exact .pt (by decide)
theorem ap9 {t : Int} (h : 0 ≤ t ∧ t < (e.recs.length : Int)) (K : Nat) (hK : ∀ r ∈ e.recs, r.kids.length ≤ K) : (e.rc t).kids.length ≤ K := by
  refine hK _ ?_
  have h1 := af6 (d := (dfR 26 : RecP)) (xs := e.recs) h
  exact List.mem_of_getElem? h1
theorem alA {w t : Int} (hr : ahF t e = true → 0 ≤ t ∧ t < (e.recs.length : Int)) : Stp 1 e (ahE w t e) := by
  unfold ahE
  split
  · rename_i h
    split
    · exact Stp.cas.em
    · refine (Stp.cas.pr fun K hK => ?_).em
      exact Nat.le_succ_of_le (ap9 (hr h) K hK)
  · exact Stp.cas.em
theorem atJ {o : Int} : Stp 0 e (atM o e) := .cas
theorem at1 : Stp 0 e (asA e) := .pt (by decide)
theorem alq {d t : Int} (s : InsertS) : Stp 0 e (acF d t e s).2 := by
  cases s <;> unfold acF <;> first | exact .lk | exact .pt (by decide)
theorem arX {w : Int} (s : RemoveS) : Stp 1 e (ac3 w e s).2 := by
  cases s <;> unfold ac3 <;> first | exact Stp.lk.le (by decide) | exact Stp.le (.pt (by decide)) (by decide) | exact Stp.em (.pt (by decide))
theorem aze {w : Int} (s : SleepS) : Stp 1 e (aga w e s).2 := by
  cases s <;> unfold aga <;> repeat' split
  all_goals first | exact Stp.lk.le (by decide) | exact Stp.le (.pt (by decide)) (by decide) | exact Stp.lk.em
theorem anE [Tb] {w v : Int} (s : WakeS) : Stp 1 e (aej w v e s).2 := by
  cases s <;> unfold aej <;> first | exact Stp.lk.le (by decide) | exact Stp.le (.pt (by decide)) (by decide) | exact Stp.em (.pt (by decide))
theorem auN {w t v : Int} (s : RaiseS) : Stp 1 e (aed w t v e s).2 := by
  unfold aed
  split
  · exact Stp.refl.le (by decide)
  · cases s
    · exact Stp.lk.le (by decide)
    · simp only
      split
      · exact Stp.cas.em
      · exact Stp.cas.le (by decide)
theorem auP {w : Int} (s : ProbeS) : Stp 0 e (aj1 w e s).2 := by
  have key : ∀ s i bm, Stp 0 e (ain w e s i bm).2 := fun s i bm => by
    unfold ain
    split
    · exact .refl
    · simp only
      split <;> exact .lk
  cases s
  · exact key _ _ _
  · exact key _ _ _
theorem agp {w v x : Int} (s : LPushS) : Stp 0 e (abS w v x e s).2 := by
  cases s with
  | new =>
    have h := anm (e := e) (q := aaj e.l w v) (v := x) .l1
    revert h
    simp only [abS]
    rcases adX (aaj e.l w v) x e .l1 with ⟨r | ⟨c, y⟩, e'⟩ <;> intro h <;> exact h
  | push s =>
    have h := anm (e := e) (q := aaj e.l w v) (v := x) s
    revert h
    simp only [abS]
    rcases adX (aaj e.l w v) x e s with ⟨r | ⟨c, y⟩, e'⟩ <;> intro h <;> exact h
  | set => exact aDA
theorem aCj {w : Int} (s : LPopS) : Stp 0 e (agK w e s).2 := by
  cases s with
  | l1 v => exact .lk
  | l2 v s =>
    have h := axk (e := e) (q := aaj e.l w v) s
    revert h
    simp only [agK]
    rcases ajP (aaj e.l w v) e s with ⟨r | ⟨c, y⟩, e'⟩ <;> intro h <;> exact h
  | l3 v s =>
    have h := auG (e := e) (a := aaP e.l w) (b := v) (q := aaj e.l w v) s
    revert h
    simp only [agK]
    rcases agc (aaP e.l w) v (aaj e.l w v) e s with ⟨r | ⟨c, y⟩, e'⟩ <;> intro h <;> exact h
theorem awm {w v : Int} (s : WalkS) : Stp 1 e (ae1 w v e s).2 := by
  cases s with
  | l1 t =>
    by_cases hf : awj e t v
    · have h := auN (e := e) (w := w) (t := t) (v := v) (.l1 0)
      simp only [ae1, hf, not_true, if_false]
      revert h
      rcases aed w t v e (.l1 0) with ⟨r | ⟨c, y⟩, e'⟩ <;> intro h <;> exact h
    · simp only [ae1, hf, not_false_eq_true, if_true]
      exact Stp.refl.le (by decide)
  | raise t s =>
    have h := auN (e := e) (w := w) (t := t) (v := v) s
    revert h
    simp only [ae1]
    rcases aed w t v e s with ⟨r | ⟨c, y⟩, e'⟩ <;> intro h <;> exact h
  | l2 t => exact Stp.lk.le (by decide)
  | push t s =>
    have h := agp (e := e) (w := w) (v := v) (x := t) s
    revert h
    simp only [ae1]
    rcases abS w v t e s with ⟨r | ⟨c, y⟩, e'⟩ <;> intro h
    · exact h.le (by decide)
    · show Stp 1 e (if c = 3 then _ else _)
      split
      · exact h.em
      · exact h.le (by decide)
  | l4 t => exact Stp.lk.le (by decide)
theorem aAb {w t : Int} (s : EnterS) : Stp 0 e (adx w t e s).2 := by
  cases s with
  | l1 =>
    by_cases hf : IsT e t
    · simp only [adx, hf, not_true, if_false]; exact .pt (by decide)
    · simp only [adx, hf, not_false_eq_true, if_true]; exact .refl
  | l2 => exact .pt (by decide)
  | l3 => exact .lk
  | l4 v s =>
    have h := agp (e := e) (w := w) (v := v) (x := t) s
    revert h
    simp only [adx]
    rcases abS w v t e s with ⟨r | ⟨c, y⟩, e'⟩ <;> intro h <;> exact h
theorem ay2 {w t : Int} (s : SweepS) : Stp 1 e (abe w t e s).2 := by
  cases s with
  | l1 =>
    by_cases hf : ¬ IsT e t ∨ e.c.age = 0
    · simp only [abe, hf, if_true]; exact Stp.refl.le (by decide)
    · simp only [abe, hf, if_false]; exact Stp.lk.le (by decide)
  | l2 => exact Stp.lk.le (by decide)
  | l3 => exact Stp.lk.le (by decide)
  | l4 q =>
    by_cases hf : e.hit (abM e.l t) q = true
    · simp only [abe, hf, if_true]; exact Stp.cas.em
    · simp only [abe, hf, if_false]; exact Stp.cas.le (by decide)
  | l5 q => exact Stp.le (.pt (by decide)) (by decide)
  | l6 q s =>
    have h := agp (e := e) (w := w) (v := wi (wi q + 1)) (x := t) s
    revert h
    simp only [abe]
    rcases abS w (wi (wi q + 1)) t e s with ⟨r | ⟨c, y⟩, e'⟩ <;> intro h
    · exact h.le (by decide)
    · show Stp 1 e (if c = 3 then _ else _)
      split
      · exact h.em
      · exact h.le (by decide)
theorem aA6 {w : Int} (hr : ∀ t, ahF t e = true → 0 ≤ t ∧ t < (e.recs.length : Int)) (s : TakeS) : Stp 1 e (aiz w e s).2 := by
  cases s with
  | pop s =>
    have h := aCj (e := e) (w := w) s
    revert h
    simp only [aiz]
    rcases agK w e s with ⟨r | ⟨c, y⟩, e'⟩ <;> intro h <;> exact h.le (by decide)
  | claim t => exact alA (hr t)
theorem aAe [Tb] {w : Int} (d : DrainS) : Stp 1 e (abk w e d).2 := by
  obtain ⟨x, b, p, la, n, c⟩ := d
  cases c with
  | l1 => exact Stp.lk.le (by decide)
  | l2 => exact atJ.le (by decide)
  | l3 s =>
    have h := arX (e := e) (w := w) s
    revert h
    simp only [abk]
    rcases ac3 w e s with ⟨r | ⟨c, y⟩, e'⟩ <;> intro h <;> exact h
  | l4 => exact Stp.lk.le (by decide)
  | l5 s =>
    have h := agp (e := e) (w := w) (v := p) (x := x) s
    revert h
    simp only [abk]
    rcases abS w p x e s with ⟨r | ⟨c, y⟩, e'⟩ <;> intro h <;> exact h.le (by decide)
  | l6 => exact at1.le (by decide)
  | l7 s =>
    have h := anE (e := e) (w := w) (v := la) s
    revert h
    simp only [abk]
    rcases aej w la e s with ⟨r | ⟨c, y⟩, e'⟩ <;> intro h <;> exact h
end
end
section
open Go Go.RowKit
set_option maxRecDepth 100000
structure EOk (K : Nat) (e : EnvP) : Prop where
  dq : 0 ≤ e.l.deque ∧ e.l.deque ≤ 65535
  tk : e.l.tasks = (e.recs.length : Int)
  ct : e.c.tasks = (e.recs.length : Int)
  wk : 1 ≤ e.c.workers
  ev : e.evs.length ≤ K
  kd : ∀ r ∈ e.recs, r.kids.length ≤ K
section
variable [Tb] {K : Nat} {e : EnvP}
theorem EOk.q (h : EOk K e) (w v : Int) : (aaj e.l w v).cap ≤ 9223372036854775807 := by
  have := h.dq
  unfold aaj
  repeat' split
  all_goals simp only; omega
theorem EOk.st (h : EOk K e) {t o : Int} (hh : e.hit (acT e.l t) o = true) : 0 ≤ t ∧ t < (e.recs.length : Int) := by
  have h1 : 0 ≤ acT e.l t := by
    have := of_decide_eq_true hh
    exact this.1.1
  unfold acT ahc atP at h1
  rw [← h.tk]
  split at h1
  · omega
  · split at h1 <;> omega
theorem EOk.step (h : EOk K e) {j : Nat} {e' : EnvP} (s : Stp j e e') : EOk (K + j + 1) e' := by
  refine ⟨?_, ?_, ?_, ?_, ?_, ?_⟩
  · rw [s.l]; exact h.dq
  · rw [s.l, s.rl]; exact h.tk
  · rw [s.c, s.rl]; exact h.ct
  · rw [s.c]; exact h.wk
  · have := s.ev; have := h.ev; omega
  · intro r hr
    have := s.kd K h.kd r hr
    omega
@[reducible] def aon (l : LayV) (w v x : Int) : LPushS → LPushV MV
  | .new => ⟨o0, w, v, x, 1, .nil⟩
  | .push s => ⟨o0, w, v, x, 1, .opush (au7 (aaj l w v) x s)⟩
  | .set => ⟨o0, w, v, x, 2, .set ⟨o0, aaP l w, v⟩⟩
@[reducible] def aCk (l : LayV) (w : Int) : LPopS → LPopV MV
  | .l1 v => ⟨o0, w, v, 1, .nil⟩
  | .l2 v s => ⟨o0, w, v, 2, .opop (azJ (aaj l w v) s)⟩
  | .l3 v s => ⟨o0, w, v, 3, .reset (arW (aaP l w) v (aaj l w v) s)⟩
@[reducible] def aA1 (l : LayV) (w v : Int) : WalkS → WalkV MV
  | .l1 t => ⟨o0, w, t, v, 1, .nil⟩
  | .raise t s => ⟨o0, w, t, v, 1, .raise (ar2 w t v s)⟩
  | .l2 t => ⟨o0, w, t, v, 2, .nil⟩
  | .push t s => ⟨o0, w, t, v, 3, .lpush (aon l w v t s)⟩
  | .l4 t => ⟨o0, w, t, v, 4, .nil⟩
@[reducible] def axW (l : LayV) (w t : Int) : EnterS → EnterV MV
  | .l1 => ⟨o0, w, t, 0, 1, .nil⟩
  | .l2 => ⟨o0, w, t, 0, 2, .nil⟩
  | .l3 => ⟨o0, w, t, 0, 3, .nil⟩
  | .l4 v s => ⟨o0, w, t, v, 4, .lpush (aon l w v t s)⟩
@[reducible] def agB (l : LayV) (w t : Int) : SweepS → SweepV MV
  | .l1 => ⟨o0, w, t, 1, 0, .nil⟩
  | .l2 => ⟨o0, w, t, 2, 0, .nil⟩
  | .l3 => ⟨o0, w, t, 3, 0, .nil⟩
  | .l4 q => ⟨o0, w, t, 4, q, .nil⟩
  | .l5 q => ⟨o0, w, t, 5, q, .nil⟩
  | .l6 q s => ⟨o0, w, t, 6, q, .lpush (aon l w (wi (wi q + 1)) t s)⟩
@[reducible] def aA7 (l : LayV) (w : Int) : TakeS → TakeV MV
  | .pop s => ⟨o0, w, false, .lpop (aCk l w s)⟩
  | .claim t => ⟨o0, w, true, .claim ⟨o0, w, t⟩⟩
@[reducible] def axY (l : LayV) (w p x last : Int) : DrainC → Int × MV
  | .l1 => (1, .nil)
  | .l2 => (2, .attempt ⟨o0, w, true⟩)
  | .l3 s => (3, .remove (ap6 w s))
  | .l4 => (4, .nil)
  | .l5 s => (5, .lpush (aon l w p x s))
  | .l6 => (6, .release ⟨o0⟩)
  | .l7 s => (7, .wake (arG w last s))
@[reducible] def avt (l : LayV) (w : Int) (d : DrainS) : DrainV MV :=
  ⟨o0, w, (axY l w d.p d.x d.last d.c).1, (axY l w d.p d.x d.last d.c).2, d.x, d.direct, d.p, d.last, d.count⟩
theorem akd : (SR1.spl MV.nil).isNone = true := rfl
theorem awB (x : OPushV) : (SR1.spl (MV.opush x)).isNone = false := rfl
theorem aBm (x : SetV) : (SR1.spl (MV.set x)).isNone = false := rfl
theorem awA (x : RaiseV) : (SR1.spl (MV.raise x)).isNone = false := rfl
theorem ai2 {w v x : Int} (hK : EOk K e) (s : LPushS) : aaX LPushV.o (aon e.l w v x) (acq (aon e.l w v x s) e) (abS w v x e s) := by
  have hq := hK.q w v
  cases s with
  | new =>
    have h := asc (e := e) (v := x) hq .l1
    have hn := anm (e := e) (q := aaj e.l w v) (v := x) .l1
    revert h hn
    simp only [abS, acq, akd, aaA, abf, o0, aiY, aof, ajX, Option.bind_some, if_true, Bool.false_eq_true, if_false]
    rcases adX (aaj e.l w v) x e .l1 with ⟨r | ⟨c, y⟩, e'⟩ <;> intro h hn
    · simp only [aaX, o0] at h
      simp only [h, Option.bind_some, Bool.not_false, if_true]
      rfl
    · simp only [aaX, o0] at h
      obtain ⟨x', h, ho⟩ := h
      have hnl : e'.l = e.l := hn.l
      simp only [h, ho, afB, Option.bind_some, Bool.not_true, Bool.false_eq_true, if_false, aeH, ajh, hnl, reduceIte, Int.reduceEq, aa0]
      exact aaX.ite (fun _ => ⟨_, rfl, rfl⟩) fun _ => rfl
  | push s =>
    have h := asc (e := e) (v := x) hq s
    have hn := anm (e := e) (q := aaj e.l w v) (v := x) s
    revert h hn
    simp only [abS, acq, awB, aaA, abf, o0, ajX, Option.bind_some, if_true, Bool.false_eq_true, if_false]
    rcases adX (aaj e.l w v) x e s with ⟨r | ⟨c, y⟩, e'⟩ <;> intro h hn
    · simp only [aaX] at h
      simp only [h, Option.bind_some, Bool.not_false, if_true]
      rfl
    · simp only [aaX] at h
      obtain ⟨x', h, ho⟩ := h
      have hnl : e'.l = e.l := hn.l
      simp only [h, ho, afB, Option.bind_some, Bool.not_true, Bool.false_eq_true, if_false, aeH, ajh, hnl, reduceIte, Int.reduceEq, aa0]
      exact aaX.ite (fun _ => ⟨_, rfl, rfl⟩) fun _ => rfl
  | set =>
    obtain ⟨y, h, ho⟩ := aBy (e := e) (a := aaP e.l w) (b := v)
    simp only [o0] at h
    simp only [abS, acq, aBm, aaA, abf, o0, ajX, h, ho, afB, Option.bind_some, Bool.not_true, if_true, Bool.false_eq_true, if_false, reduceIte, Int.reduceEq]
    exact ⟨_, rfl, rfl⟩
theorem azX {w : Int} (hK : EOk K e) (s : LPopS) : aaX LPopV.o (aCk e.l w) (acX (aCk e.l w s) e) (agK w e s) := by
  cases s with
  | l1 v =>
    simp only [agK, acX, ahY, aaA, abf, o0, aeH, abx, au0, aiY, aqr, Option.bind_some, if_true, Bool.false_eq_true, if_false, aa0, aci]
    exact aaX.ite (fun _ => ⟨_, rfl, rfl⟩) fun _ => rfl
  | l2 v s =>
    have h := azI (e := e) (hK.q w v) s
    have hn := axk (e := e) (q := aaj e.l w v) s
    revert h hn
    simp only [agK, acX, aaA, abf, o0, ajX, Option.bind_some, if_true, Bool.false_eq_true, if_false, reduceIte, Int.reduceEq]
    rcases ajP (aaj e.l w v) e s with ⟨r | ⟨c, y⟩, e'⟩ <;> intro h hn
    · simp only [aaX] at h
      simp only [h, Option.bind_some, Bool.not_false, if_true]
      rfl
    · simp only [aaX] at h
      obtain ⟨x', h, ho⟩ := h
      have hnl : e'.l = e.l := hn.l
      simp only [h, ho, afB, Option.bind_some, Bool.not_true, Bool.false_eq_true, if_true, if_false, aeH, aiY, agO, hnl, reduceIte, Int.reduceEq, aa0]
      exact aaX.ite (fun _ => ⟨_, rfl, rfl⟩) fun _ => rfl
  | l3 v s =>
    have h := arV (e := e) (a := aaP e.l w) (b := v) (q := aaj e.l w v) s
    revert h
    simp only [agK, acX, aaA, abf, o0, ajX, Option.bind_some, if_true, Bool.false_eq_true, if_false, reduceIte, Int.reduceEq]
    rcases agc (aaP e.l w) v (aaj e.l w v) e s with ⟨r | ⟨c, y⟩, e'⟩ <;> intro h
    · simp only [aaX] at h
      simp only [h, Option.bind_some, Bool.not_false, if_true]
      rfl
    · simp only [aaX] at h
      obtain ⟨x', h, ho⟩ := h
      simp only [h, ho, afB, Option.bind_some, Bool.not_true, Bool.false_eq_true, if_true, if_false]
      rfl
theorem ayT {w v : Int} (hK : EOk K e) (hk : K ≤ 100000000) (s : WalkS) : aaX WalkV.o (aA1 e.l w v) (abX (aA1 e.l w v s) e) (ae1 w v e s) := by
  have hl : e.evs.length ≤ 999999999 := by have := hK.ev; omega
  cases s with
  | l1 t =>
    by_cases hf : awj e t v
    · have h := ar1 (e := e) (w := w) (t := t) (v := v) hl (.l1 0)
      revert h
      simp only [ae1, hf, abX, aen, aqT, decide_true, not_true, Bool.not_true, akd, amn, aaA, abf, o0, adS, Option.bind_some, if_true, Bool.false_eq_true, if_false, reduceIte, Int.reduceEq]
      rcases aed w t v e (.l1 0) with ⟨r | ⟨c, y⟩, e'⟩ <;> intro h
      · simp only [aaX, o0] at h
        simp only [h, Option.bind_some, Bool.not_false, if_true]
        rfl
      · simp only [aaX, o0] at h
        obtain ⟨x', h, ho⟩ := h
        simp only [h, ho, abC, Option.bind_some, Bool.not_true, Bool.false_eq_true, if_true, if_false, aa0, aci, asz]
        exact aaX.ite (fun _ => rfl) fun _ => rfl
    · simp only [ae1, hf, abX, aen, aqT, decide_false, not_false_eq_true, Bool.not_false, akd, aaA, abf, o0, Option.bind_some, if_true, Bool.false_eq_true, if_false, reduceIte, Int.reduceEq]
      exact ⟨_, rfl, rfl⟩
  | raise t s =>
    have h := ar1 (e := e) (w := w) (t := t) (v := v) hl s
    revert h
    simp only [ae1, abX, aen, awA, aaA, abf, o0, adS, Option.bind_some, if_true, Bool.false_eq_true, if_false, reduceIte, Int.reduceEq]
    rcases aed w t v e s with ⟨r | ⟨c, y⟩, e'⟩ <;> intro h
    · simp only [aaX] at h
      simp only [h, Option.bind_some, Bool.not_false, if_true]
      rfl
    · simp only [aaX] at h
      obtain ⟨x', h, ho⟩ := h
      simp only [h, ho, abC, Option.bind_some, Bool.not_true, Bool.false_eq_true, if_true, if_false, aa0, aci, asz]
      exact aaX.ite (fun _ => rfl) fun _ => rfl
  | l2 t =>
    simp only [ae1, abX, aaA, abf, o0, aeU, abx, acw, Option.bind_some, if_true, Bool.false_eq_true, if_false, reduceIte, Int.reduceEq, aa0, asz]
    exact aaX.ite (fun _ => rfl) fun _ => rfl
  | push t s =>
    have h := ai2 (w := w) (v := v) (x := t) hK s
    have hn := agp (e := e) (w := w) (v := v) (x := t) s
    revert h hn
    simp only [ae1, abX, aic, aaA, abf, o0, adS, Option.bind_some, if_true, Bool.false_eq_true, if_false, reduceIte, Int.reduceEq]
    rcases abS w v t e s with ⟨r | ⟨c, y⟩, e'⟩ <;> intro h hn
    · simp only [aaX] at h
      simp only [h, Option.bind_some, Bool.not_false, if_true]
      rw [← hn.l]
      rfl
    · simp only [aaX] at h
      obtain ⟨x', h, ho⟩ := h
      have hl' : e'.evs.length ≤ 999999999 := by have h1 : e'.evs.length ≤ e.evs.length + 0 := hn.ev; have := hK.ev; omega
      simp only [h, ho, abC, Option.bind_some, Bool.not_true, Bool.false_eq_true, if_true, if_false, aca hl']
      by_cases hc : c = 3
      · simp only [hc, if_true]; rfl
      · simp only [hc, if_false]; rfl
  | l4 t =>
    simp only [ae1, abX, aaA, abf, o0, ak1, abx, Option.bind_some, if_true, Bool.false_eq_true, if_false, reduceIte, Int.reduceEq, aa0]
    exact aaX.ite (fun _ => ⟨_, rfl, rfl⟩) fun _ => rfl
theorem axV {w t : Int} (hK : EOk K e) (s : EnterS) : aaX EnterV.o (axW e.l w t) (abU (axW e.l w t s) e) (adx w t e s) := by
  cases s with
  | l1 =>
    by_cases hf : IsT e t
    · simp only [adx, hf, abU, ai6, decide_true, not_true, Bool.not_true, aaA, abf, aqi, o0, aiW, abr, Option.bind_some, if_true, Bool.false_eq_true, if_false, reduceIte, Int.reduceEq]
      rfl
    · simp only [adx, hf, abU, ai6, decide_false, not_false_eq_true, Bool.not_false, aaA, abf, o0, Option.bind_some, if_true, Bool.false_eq_true, if_false, reduceIte, Int.reduceEq]
      exact ⟨_, rfl, rfl⟩
  | l2 =>
    simp only [adx, abU, aaA, abf, o0, aeU, abr, Option.bind_some, if_true, Bool.false_eq_true, if_false, reduceIte, Int.reduceEq]
    rfl
  | l3 =>
    simp only [adx, abU, aaA, abf, o0, afQ, abx, acw, Option.bind_some, if_true, Bool.false_eq_true, if_false, reduceIte, Int.reduceEq]
    rfl
  | l4 v s =>
    have h := ai2 (w := w) (v := v) (x := t) hK s
    have hn := agp (e := e) (w := w) (v := v) (x := t) s
    revert h hn
    simp only [adx, abU, aaA, abf, o0, adS, Option.bind_some, if_true, Bool.false_eq_true, if_false, reduceIte, Int.reduceEq]
    rcases abS w v t e s with ⟨r | ⟨c, y⟩, e'⟩ <;> intro h hn
    · simp only [aaX] at h
      simp only [h, Option.bind_some, Bool.not_false, if_true]
      rfl
    · simp only [aaX] at h
      obtain ⟨x', h, ho⟩ := h
      simp only [h, ho, abC, Option.bind_some, Bool.not_true, Bool.false_eq_true, if_true, if_false]
      exact ⟨_, rfl, rfl⟩
theorem ayZ {w : Int} (hK : EOk K e) (hk : K ≤ 100000000) (s : TakeS) : aaX TakeV.o (aA7 e.l w) (aeG (aA7 e.l w s) e) (aiz w e s) := by
  have hl : e.evs.length ≤ 999999999 := by have := hK.ev; omega
  cases s with
  | pop s =>
    have h := azX (w := w) hK s
    revert h
    simp only [aiz, aeG, aaA, abf, o0, adS, Option.bind_some, if_true, Bool.false_eq_true, if_false]
    rcases agK w e s with ⟨r | ⟨c, y⟩, e'⟩ <;> intro h
    · simp only [aaX] at h
      simp only [h, Option.bind_some, Bool.not_false, if_true]
      rfl
    · simp only [aaX] at h
      obtain ⟨x', h, ho⟩ := h
      simp only [h, ho, abC, acu, Option.bind_some, Bool.not_true, Bool.false_eq_true, if_true, if_false, aa0]
      exact aaX.ite (fun _ => ⟨_, rfl, rfl⟩) fun _ => rfl
  | claim t =>
    obtain ⟨x', h, ho⟩ := alz (w := w) (t := t) hl hK.st
    simp only [o0] at h
    simp only [aiz, aeG, aaA, abf, o0, adS, h, Option.bind_some, if_true, Bool.false_eq_true, if_false, abC, Bool.not_true, afR]
    rcases Bool.eq_false_or_eq_true (ahF t e) with hc | hc
    · simp only [hc, if_true] at ho ⊢
      simp only [ho, if_true]
      exact ⟨_, rfl, rfl⟩
    · simp only [hc, Bool.false_eq_true, if_false] at ho ⊢
      simp only [ho, reduceIte, Int.reduceEq]
      rfl
end
end
section
open Go Go.RowKit
set_option maxRecDepth 100000
section
variable [Tb] {K : Nat} {e : EnvP}
theorem ay8 {w t : Int} (hK : EOk K e) (hk : K ≤ 100000000) : aaX SweepV.o (agB e.l w t) (aaG (agB e.l w t .l1) e) (abe w t e .l1) := by
  have hl : e.evs.length ≤ 999999999 := by have := hK.ev; omega
  have hm : ∀ m v, aee { e with m := m } v = some ((), ({ e with m := m, evs := e.evs ++ [v] }, ())) := fun m v => aca (e := { e with m := m }) hl
  by_cases c1 : t < 0
  · have hf : ¬ IsT e t ∨ e.c.age = 0 := .inl fun h => by have := h.1; omega
    simp only [abe]
    rw [if_pos hf]
    simp only [aaG, abz, c1, aaA, abf, o0, Option.bind_some, Bool.false_eq_true, if_false, reduceIte, Int.reduceEq]
    exact ⟨_, rfl, rfl⟩
  by_cases c2 : e.c.tasks ≤ t
  · have hf : ¬ IsT e t ∨ e.c.age = 0 := .inl fun h => by have := h.2; omega
    simp only [abe]
    rw [if_pos hf]
    simp only [aaG, abz, c1, c2, aaA, abf, o0, Option.bind_some, Bool.false_eq_true, if_false, reduceIte, Int.reduceEq]
    exact ⟨_, rfl, rfl⟩
  by_cases c3 : e.c.age = 0
  · have hf : ¬ IsT e t ∨ e.c.age = 0 := .inr c3
    simp only [abe]
    rw [if_pos hf]
    simp only [aaG, abz, c1, c2, c3, decide_true, aaA, abf, o0, Option.bind_some, Bool.false_eq_true, if_false, reduceIte, Int.reduceEq]
    exact ⟨_, rfl, rfl⟩
  have hf : ¬ (¬ IsT e t ∨ e.c.age = 0) := fun h => h.elim (fun h => h ⟨by omega, by omega⟩) c3
  simp only [abe]
  rw [if_neg hf]
  simp only [aaG, abz, c1, c2, c3, decide_false, aaA, abf, o0, Option.bind_some, Bool.false_eq_true, if_true, reduceIte, Int.reduceEq, aeU, abx, decide_eq_true_eq, aa0]
  refine aaX.iteL (fun h => ?_) fun h => ?_
  · rw [if_neg h]; exact ⟨_, rfl, rfl⟩
  · rw [if_pos (Classical.not_not.1 h)]; rfl
theorem ay7 {w t : Int} (hK : EOk K e) (hk : K ≤ 100000000) : aaX SweepV.o (agB e.l w t) (aaG (agB e.l w t .l2) e) (abe w t e .l2) := by
  have hl : e.evs.length ≤ 999999999 := by have := hK.ev; omega
  have hm : ∀ m v, aee { e with m := m } v = some ((), ({ e with m := m, evs := e.evs ++ [v] }, ())) := fun m v => aca (e := { e with m := m }) hl
  simp only [abe, aaG, abz, aaA, abf, aqi, o0, Option.bind_some, if_true, Bool.false_eq_true, if_false, reduceIte, Int.reduceEq, aiW, abx, decide_eq_true_eq, aa0]
  exact aaX.ite (fun _ => ⟨_, rfl, rfl⟩) fun _ => rfl
theorem ay6 {w t : Int} (hK : EOk K e) (hk : K ≤ 100000000) : aaX SweepV.o (agB e.l w t) (aaG (agB e.l w t .l3) e) (abe w t e .l3) := by
  have hl : e.evs.length ≤ 999999999 := by have := hK.ev; omega
  have hm : ∀ m v, aee { e with m := m } v = some ((), ({ e with m := m, evs := e.evs ++ [v] }, ())) := fun m v => aca (e := { e with m := m }) hl
  simp only [abe, aaG, abz, aaA, abf, o0, Option.bind_some, if_true, Bool.false_eq_true, if_false, reduceIte, Int.reduceEq, afQ, abx, decide_eq_true_eq, aa0]
  exact aaX.ite (fun _ => ⟨_, rfl, rfl⟩) fun _ => rfl
theorem ay5 {w t : Int} (hK : EOk K e) (hk : K ≤ 100000000) (q : Int) : aaX SweepV.o (agB e.l w t) (aaG (agB e.l w t (.l4 q)) e) (abe w t e (.l4 q)) := by
  have hl : e.evs.length ≤ 999999999 := by have := hK.ev; omega
  have hm : ∀ m v, aee { e with m := m } v = some ((), ({ e with m := m, evs := e.evs ++ [v] }, ())) := fun m v => aca (e := { e with m := m }) hl
  have he : ∀ x : SweepV MV, abH x 12 = some ((⟨12, x.worker, x.task, 0, wi (wi x.q + 1)⟩, ()), (x, ())) := fun x => id rfl
  simp only [abe, aaG, he, aaA, abf, o0, Option.bind_some, if_true, Bool.false_eq_true, if_false, reduceIte, Int.reduceEq, afQ, ai1, hm]
  exact aaX.iteN (fun _ => rfl) fun _ => ⟨_, rfl, rfl⟩
theorem ay4 {w t : Int} (hK : EOk K e) (hk : K ≤ 100000000) (q : Int) : aaX SweepV.o (agB e.l w t) (aaG (agB e.l w t (.l5 q)) e) (abe w t e (.l5 q)) := by
  have hl : e.evs.length ≤ 999999999 := by have := hK.ev; omega
  have hm : ∀ m v, aee { e with m := m } v = some ((), ({ e with m := m, evs := e.evs ++ [v] }, ())) := fun m v => aca (e := { e with m := m }) hl
  simp only [abe, aaG, aaA, abf, aqi, o0, Option.bind_some, if_true, Bool.false_eq_true, if_false, reduceIte, Int.reduceEq, aiW, abr, acw]
  rfl
theorem bnd {α β : Type} {a : α} {f : α → Option β} : (some a).bind f = f a := by
  generalize h : some a = x
  subst h
  rfl
theorem ay3 {w t : Int} (hK : EOk K e) (hk : K ≤ 100000000) (q : Int) (s : LPushS) : aaX SweepV.o (agB e.l w t) (aaG (agB e.l w t (.l6 q s)) e) (abe w t e (.l6 q s)) := by
  have h := ai2 (w := w) (v := wi (wi q + 1)) (x := t) hK s
  have hn := agp (e := e) (w := w) (v := wi (wi q + 1)) (x := t) s
  have he : ∀ x : SweepV MV, abH x 19 = some ((⟨19, x.worker, x.task, 0, wi (wi x.q + 1)⟩, ()), (x, ())) := fun x => id rfl
  revert h hn
  simp only [abe, aaG, he, bnd, aaA, abf, o0, adS, if_true, Bool.false_eq_true, if_false, reduceIte, Int.reduceEq]
  rcases abS w (wi (wi q + 1)) t e s with ⟨r | ⟨c, y⟩, e'⟩ <;> intro h hn
  · simp only [aaX] at h
    simp only [h, bnd, Bool.not_false, if_true]
    rfl
  · simp only [aaX] at h
    obtain ⟨x', h, ho⟩ := h
    have hl' : e'.evs.length ≤ 999999999 := by have h1 : e'.evs.length ≤ e.evs.length + 0 := hn.ev; have := hK.ev; omega
    simp only [h, ho, abC, bnd, Bool.not_true, Bool.false_eq_true, if_true, if_false, aca hl']
    by_cases hc : c = 3
    · simp only [hc, if_true]; exact ⟨_, rfl, rfl⟩
    · simp only [hc, if_false]; exact ⟨_, rfl, rfl⟩
theorem awu {w t : Int} (hK : EOk K e) (hk : K ≤ 100000000) (s : SweepS) : aaX SweepV.o (agB e.l w t) (aaG (agB e.l w t s) e) (abe w t e s) := by
  cases s with
  | l1 => exact ay8 hK hk
  | l2 => exact ay7 hK hk
  | l3 => exact ay6 hK hk
  | l4 q => exact ay5 hK hk q
  | l5 q => exact ay4 hK hk q
  | l6 q s => exact ay3 hK hk q s
end
end
section
open Go Go.RowKit
set_option maxRecDepth 100000
section
variable [Tb] {K : Nat} {e : EnvP}
theorem axM {w : Int} {l : LayV} {ln : Int} {m : MV} {d : DrainS} {e' : EnvP} : aaX DrainV.o (avt l w) (((aaZ ⟨⟨false, 0, 0⟩, w, ln, m, d.x, d.direct, d.p, d.last, d.count⟩).bind fun r => some ((r.1.1, ()), (r.2.1, e', ()))).bind fun r => some ((r.1.1, ()), (r.2.1, r.2.2.1, ()))) (ai8 d, e') := by
  obtain ⟨x, b, p, la, n, c⟩ := d
  unfold ai8
  simp only [aaZ, abf, bnd, o0, aci, aa0]
  exact aaX.ite (fun _ => ⟨_, rfl, rfl⟩) fun _ => aaX.ite (fun _ => ⟨_, rfl, rfl⟩) fun _ => ⟨_, rfl, rfl⟩
def arw (d : DrainS) : Prop := match d.c with
  | .l6 => True
  | .l7 _ => True
  | _ => d.direct = false
theorem axX {w : Int} (hK : EOk K e) (hk : K ≤ 100000000) (d : DrainS) (hd : arw d) : aaX DrainV.o (avt e.l w) (abl (avt e.l w d) e) (abk w e d) := by
  have hl : e.evs.length ≤ 999999999 := by have := hK.ev; omega
  obtain ⟨x, b, p, la, n, c⟩ := d
  cases c with
  | l1 =>
    simp only [abk, abl, aaM, atK, aaA, abf, agd, o0, abx, bnd, if_true, Bool.false_eq_true, if_false, reduceIte, Int.reduceEq, aa0]
    exact aaX.ite (fun _ => ⟨_, rfl, rfl⟩) fun _ => rfl
  | l2 =>
    obtain ⟨dn, x', h, ho, hd, _⟩ := aqD (e := e) (w := w) (b := true)
    rw [Bool.or_true] at hd
    subst hd
    have ho := ho rfl
    simp only [o0] at h
    simp only [abk, abl, acG, abo, aaM, afG, aaA, abf, o0, adS, h, bnd, if_true, Bool.false_eq_true, if_false, reduceIte, Int.reduceEq, abC, Bool.not_true]
    rcases Bool.eq_false_or_eq_true (e.hit 1 0) with hh | hh
    · simp only [hh, if_true] at ho ⊢
      simp only [ho, reduceIte, Int.reduceEq]
      rfl
    · simp only [hh, Bool.false_eq_true, if_false] at ho ⊢
      simp only [ho, reduceIte, Int.reduceEq]
      exact ⟨_, rfl, rfl⟩
  | l3 s =>
    have h := avU (e := e) (w := w) hl s
    have hn := arX (e := e) (w := w) s
    revert h hn
    simp only [abk, abl, aaA, abf, o0, adS, bnd, if_true, Bool.false_eq_true, if_false, reduceIte, Int.reduceEq]
    rcases ac3 w e s with ⟨r | ⟨c, y⟩, e'⟩ <;> intro h hn
    · simp only [aaX] at h
      simp only [h, bnd, Bool.not_false, if_true]
      rfl
    · simp only [aaX] at h
      obtain ⟨x', h, ho⟩ := h
      simp only [h, ho, abC, acG, aa1, aaM, afp, bnd, Bool.not_true, Bool.false_eq_true, if_true, if_false, reduceIte, Int.reduceEq, aci, aa0]
      exact aaX.ite (fun _ => rfl) fun _ => rfl
  | l4 =>
    simp only [abk, abl, aaM, acw, aaA, abf, o0, afQ, abx, bnd, if_true, Bool.false_eq_true, if_false, reduceIte, Int.reduceEq]
    rfl
  | l5 s =>
    have h := ai2 (w := w) (v := p) (x := x) hK s
    have hn := agp (e := e) (w := w) (v := p) (x := x) s
    revert h hn
    simp only [abk, abl, aaA, abf, o0, adS, bnd, if_true, Bool.false_eq_true, if_false, reduceIte, Int.reduceEq]
    rcases abS w p x e s with ⟨r | ⟨c, y⟩, e'⟩ <;> intro h hn
    · simp only [aaX] at h
      simp only [h, bnd, Bool.not_false, if_true]
      rfl
    · simp only [aaX] at h
      obtain ⟨x', h, ho⟩ := h
      have hc : e'.c = e.c := hn.c
      simp only [h, ho, abC, acG, acP, abo, aa1, aaM, afG, afp, bnd, Bool.not_true, Bool.false_eq_true, if_true, if_false, reduceIte, Int.reduceEq, aci, aa0, hc]
      have hb : b = false := hd
      subst hb
      simp only [Bool.false_eq_true, if_false]
      exact aaX.ite (fun _ => rfl) fun _ => aaX.ite (fun _ => rfl) fun _ => rfl
  | l6 =>
    obtain ⟨x', h, ho⟩ := avn (e := e)
    simp only [o0] at h
    simp only [abk, abl, acG, aaM, acV, aaA, abf, o0, adS, h, ho, bnd, if_true, Bool.false_eq_true, if_false, reduceIte, Int.reduceEq, abC, Bool.not_true, aci, aa0]
    exact aaX.ite (fun _ => rfl) fun _ => axM (d := ⟨x, b, p, la, n, .l6⟩)
  | l7 s =>
    have h := akx (e := e) (w := w) (v := la) hl s
    revert h
    simp only [abk, abl, aaA, abf, o0, adS, bnd, if_true, Bool.false_eq_true, if_false, reduceIte, Int.reduceEq]
    rcases aej w la e s with ⟨r | ⟨c, y⟩, e'⟩ <;> intro h
    · simp only [aaX] at h
      simp only [h, bnd, Bool.not_false, if_true]
      rfl
    · simp only [aaX] at h
      obtain ⟨x', h, ho⟩ := h
      simp only [h, ho, abC, acG, bnd, Bool.not_true, Bool.false_eq_true, if_true, if_false, reduceIte, Int.reduceEq]
      exact axM (d := ⟨x, b, p, la, n, .l7 s⟩)
theorem aAd {w : Int} {d d' : DrainS} {e' : EnvP} (hd : arw d) (h : abk w e d = (.go d', e')) : arw d' := by
  obtain ⟨x, b, p, la, n, c⟩ := d
  cases c with
  | l1 =>
    simp only [abk] at h
    split at h <;> cases h
    exact hd
  | l2 =>
    simp only [abk] at h
    split at h <;> cases h
    exact hd
  | l3 s =>
    simp only [abk] at h
    split at h
    · cases h; exact hd
    · split at h <;> cases h
      · trivial
      · exact hd
  | l4 => cases h; exact hd
  | l5 s =>
    simp only [abk] at h
    split at h
    · cases h; exact hd
    · split at h
      · cases h; trivial
      · split at h <;> cases h
        · exact hd
        · trivial
  | l6 =>
    simp only [abk] at h
    split at h
    · cases h; trivial
    · unfold ai8 at h
      repeat' split at h
      all_goals cases h
  | l7 s =>
    simp only [abk] at h
    split at h
    · cases h; trivial
    · unfold ai8 at h
      repeat' split at h
      all_goals cases h
end
end
section
open Go Go.RowKit
set_option maxRecDepth 100000
structure SOk (l : List Int) : Prop where
  ne : l ≠ []
  le : l.length ≤ 999999999
section
variable {l : List Int}
theorem SOk.n (h : SOk l) : wi (((l.length : Nat) : Int) - 1) = ((l.length - 1 : Nat) : Int) := by
  have h1 := List.length_pos_iff.2 h.ne
  have h2 := h.le
  rw [aaW (aaC (by omega))]; omega
theorem SOk.a (h : SOk l) : aae l ((l.length - 1 : Nat) : Int) = aaQ l := by
  have h1 := List.length_pos_iff.2 h.ne
  have h2 : l[l.length - 1]? = some (l[l.length - 1]'(by omega)) := List.getElem?_eq_getElem _
  simp only [aae, atL, aaQ, Int.toNat_natCast, List.getLast?_eq_getElem?, h2]
  rfl
theorem SOk.g (h : SOk l) : (0 ≤ ((l.length - 1 : Nat) : Int) ∧ ((l.length - 1 : Nat) : Int) < ((l.length : Nat) : Int)) = True := by
  have h1 := List.length_pos_iff.2 h.ne
  exact eq_true ⟨by omega, by omega⟩
theorem SOk.g2 (h : SOk l) : (0 ≤ ((l.length - 1 : Nat) : Int) ∧ ((l.length - 1 : Nat) : Int) ≤ ((l.length : Nat) : Int)) = True := by
  have h1 := List.length_pos_iff.2 h.ne
  exact eq_true ⟨by omega, by omega⟩
theorem SOk.t (h : SOk l) : l.take (((l.length - 1 : Nat) : Int)).toNat = l.dropLast := by
  rw [List.dropLast_eq_take]; simp
theorem SOk.s (h : SOk l) (y : Int) : l.set (((l.length - 1 : Nat) : Int)).toNat y = l.dropLast ++ [y] := by
  obtain ⟨a, b, rfl⟩ : ∃ a b, l = a ++ [b] := ⟨l.dropLast, l.getLast h.ne, (List.dropLast_concat_getLast h.ne).symm⟩
  simp
end
section
variable [Tb] {e : EnvP} {o : OutV} {w ln id ch lv wt : Int} {st : List Int} {m : MV}
theorem anw {rs : List RecP} {t : Int} {r : RecP} (h : 0 ≤ t ∧ t < (rs.length : Int)) : aab (rs.set t.toNat r) t = r := ays h
theorem ar0 {rs : List RecP} {t : Int} (h : 0 ≤ t ∧ t < (rs.length : Int)) : rs.set t.toNat (aab rs t) = rs := by
  have h1 := af6 (d := (dfR 26 : RecP)) (xs := rs) h
  have h2 : t.toNat < rs.length := by omega
  refine List.ext_getElem? fun i => ?_
  by_cases hi : t.toNat = i
  · subst hi
    rw [List.getElem?_set_self h2]
    exact h1.symm
  · rw [List.getElem?_set_ne hi]
def aft (x : RecP) (p : List Ins) : Int :=
  if x.waiting ≠ -1 then 1
  else if x.pc < 0 ∨ (p.length : Int) ≤ x.pc then 16
  else if (aco p x.pc).op = 0 then 2
  else if (aco p x.pc).op = 1 then 4
  else if (aco p x.pc).a < 0 ∨ (x.kids.length : Int) ≤ (aco p x.pc).a ∨ aae x.kids (aco p x.pc).a = -1 then 3
  else 9
theorem an5 {x : RecP} (h1 : ¬ x.prog < 0) (h2 : ¬ (e.c.progs.length : Int) ≤ x.prog) : e.prog x = atL [] e.c.progs x.prog := by
  unfold EnvP.prog
  rw [if_neg (by omega)]
theorem afE {x : RecP} (h : x.prog < 0 ∨ (e.c.progs.length : Int) ≤ x.prog) : e.prog x = [] := by
  unfold EnvP.prog
  rw [if_pos h]
theorem aye {x : RunV MV} (hS : SOk x.stack) (hT : 0 ≤ aaQ x.stack ∧ aaQ x.stack < (e.recs.length : Int)) : aeR x e = some ((aft (e.rc (aaQ x.stack)) (e.prog (e.rc (aaQ x.stack))), ()), (x, e, ())) := by
  unfold aeR
  simp only [hS.n, hS.a, hS.g, hT, and_self, if_true, ar0 hT]
  show _ = some ((aft (aab e.recs (aaQ x.stack)) (e.prog (aab e.recs (aaQ x.stack))), ()), (x, e, ()))
  generalize aab e.recs (aaQ x.stack) = r
  by_cases h1 : r.prog < 0
  · rw [afE (.inl h1)]
    simp only [h1, if_true, aft, List.length_nil]
    split
    · rfl
    · rw [if_pos (show r.pc < 0 ∨ ((0 : Nat) : Int) ≤ r.pc by omega)]
      split
      · rfl
      · rw [if_pos (by omega)]
  by_cases h2 : (e.c.progs.length : Int) ≤ r.prog
  · rw [afE (.inr h2)]
    simp only [h1, h2, if_true, if_false, aft, List.length_nil]
    split
    · rfl
    · rw [if_pos (show r.pc < 0 ∨ ((0 : Nat) : Int) ≤ r.pc by omega)]
      split
      · rfl
      · rw [if_pos (by omega)]
  rw [an5 h1 h2]
  generalize atL [] e.c.progs r.prog = p
  unfold aft
  rw [if_neg h1, if_neg h2]
  rw [if_pos (show 0 ≤ r.prog ∧ r.prog < (e.c.progs.length : Int) by omega)]
  by_cases hw : r.waiting ≠ -1
  · rw [if_pos hw, if_pos hw]
  rw [if_neg hw, if_neg hw]
  by_cases h3 : r.pc < 0
  · rw [if_pos h3, if_pos (.inl h3)]
  by_cases h4 : (p.length : Int) ≤ r.pc
  · rw [if_neg h3, if_pos h4, if_pos (.inr h4)]
  rw [if_neg h3, if_neg h4, if_neg (show ¬ (r.pc < 0 ∨ (p.length : Int) ≤ r.pc) by omega)]
  have hp : 0 ≤ r.pc ∧ r.pc < (p.length : Int) := by omega
  rw [if_pos hp]
  by_cases c1 : (aco p r.pc).op = 0
  · rw [if_pos c1, if_pos c1]
  rw [if_neg c1, if_neg c1, if_pos hp]
  by_cases c2 : (aco p r.pc).op = 1
  · rw [if_pos c2, if_pos c2]
  rw [if_neg c2, if_neg c2, if_pos hp]
  by_cases h5 : (aco p r.pc).a < 0
  · rw [if_pos h5, if_pos (.inl h5)]
  by_cases h6 : (r.kids.length : Int) ≤ (aco p r.pc).a
  · rw [if_neg h5, if_pos h6, if_pos (.inr (.inl h6))]
  rw [if_neg h5, if_neg h6, if_pos (show 0 ≤ (aco p r.pc).a ∧ (aco p r.pc).a < (r.kids.length : Int) by omega)]
  by_cases h7 : aae r.kids (aco p r.pc).a = -1
  · rw [if_pos h7, if_pos (.inr (.inr h7))]
  · rw [if_neg h7, if_neg (by omega)]
theorem alS {x : RunV MV} {v : Ev} (h : e.evs.length ≤ 999999999) : aaJ x e v = some ((), (x, { e with evs := e.evs ++ [{ v with worker := x.worker }] }, ())) := by
  unfold aaJ
  rw [aca h, bnd]
theorem aBx (hS : SOk st) (hT : 0 ≤ aaQ st ∧ aaQ st < (e.recs.length : Int)) : aaI ⟨o, w, st, 1, m, id, ch, lv, wt⟩ e = some ((false, ()), (⟨o, w, st, 0, .nil, id, ch, lv, wt⟩, (e.pt 2 (aii e.l (aaQ st)) 0).pr (aaQ st) { e.rc (aaQ st) with waiting := -1 }, ())) := by
  unfold aaI
  simp only [hS.n, hS.a, hS.g, hT, and_self, if_true, ak1, abr, aac, bnd]
  rfl
theorem aBw (hS : SOk st) (hT : 0 ≤ aaQ st ∧ aaQ st < (e.recs.length : Int)) (hp : ¬ ((e.rc (aaQ st)).pc < 0 ∨ ((e.prog (e.rc (aaQ st))).length : Int) ≤ (e.rc (aaQ st)).pc)) : aaI ⟨o, w, st, 2, m, id, ch, lv, wt⟩ e = some ((false, ()), (⟨o, w, st, 0, .nil, id, ch, lv, wt⟩, e.pr (aaQ st) (av6 (e.rc (aaQ st)) (aco (e.prog (e.rc (aaQ st))) (e.rc (aaQ st)).pc)), ())) := by
  unfold aaI
  simp only [hS.n, hS.a, hS.g, hT, and_self, if_true, Int.reduceEq, if_false, anw hT, List.set_set, aac, bnd, List.length_set]
  show _ = some ((false, ()), (_, { e with recs := e.recs.set (aaQ st).toNat (av6 (aab e.recs (aaQ st)) (aco (e.prog (aab e.recs (aaQ st))) (aab e.recs (aaQ st)).pc)) }, ()))
  have hp' : ¬ ((aab e.recs (aaQ st)).pc < 0 ∨ ((e.prog (aab e.recs (aaQ st))).length : Int) ≤ (aab e.recs (aaQ st)).pc) := hp
  generalize aab e.recs (aaQ st) = r at hp' ⊢
  by_cases h1 : r.prog < 0
  · rw [afE (.inl h1)] at hp'; simp only [List.length_nil] at hp'; omega
  by_cases h2 : (e.c.progs.length : Int) ≤ r.prog
  · rw [afE (.inr h2)] at hp'; simp only [List.length_nil] at hp'; omega
  rw [an5 h1 h2] at hp' ⊢
  have h3 : (0 ≤ r.prog ∧ r.prog < (e.c.progs.length : Int)) = True := eq_true (by omega)
  have h4 : (0 ≤ r.pc ∧ r.pc < ((atL [] e.c.progs r.prog).length : Int)) = True := eq_true (by omega)
  simp only [h1, h2, h3, h4, if_true, if_false, av6]
  by_cases h5 : r.left = 0
  · simp only [h5, if_true]
    split <;> rfl
  · simp only [h5, if_false]
    split <;> rfl
theorem aBv (hS : SOk st) (hT : 0 ≤ aaQ st ∧ aaQ st < (e.recs.length : Int)) : aaI ⟨o, w, st, 3, m, id, ch, lv, wt⟩ e = some ((false, ()), (⟨o, w, st, 0, .nil, id, ch, lv, wt⟩, e.pr (aaQ st) { e.rc (aaQ st) with pc := wi ((e.rc (aaQ st)).pc + 1) }, ())) := by
  unfold aaI
  simp only [hS.n, hS.a, hS.g, hT, and_self, if_true, Int.reduceEq, if_false, aac, bnd]
  rfl
end
end
section
open Go Go.RowKit
set_option maxRecDepth 100000
section
variable [Tb] {e : EnvP} {o : OutV} {w ln id ch lv wt : Int} {st : List Int} {m : MV}
theorem awe (hS : SOk st) (hT : 0 ≤ aaQ st ∧ aaQ st < (e.recs.length : Int)) (hp : ¬ ((e.rc (aaQ st)).pc < 0 ∨ ((e.prog (e.rc (aaQ st))).length : Int) ≤ (e.rc (aaQ st)).pc)) (hl : e.evs.length ≤ 999999999) (hk : (e.rc (aaQ st)).kids.length ≤ 999999999) (v : Int) :
    ab9 ⟨o, w, st, 4, m, id, ch, lv, wt⟩ e 3 v = some ((false, ()), (⟨o, w, st, 0, .nil, id, ch, lv, wt⟩, (e.pr (aaQ st) { e.rc (aaQ st) with pc := wi ((e.rc (aaQ st)).pc + 1), kids := (e.rc (aaQ st)).kids ++ [-1] }).em 4 w (aaQ st) 0 0, ())) := by
  unfold ab9
  have he : ∀ (x : RunV MV) (rs : List RecP) (v : Ev), aaJ x { e with recs := rs } v = some ((), (x, { e with recs := rs, evs := e.evs ++ [{ v with worker := x.worker }] }, ())) := fun x rs v => alS (e := { e with recs := rs }) hl
  simp only [hS.n, hS.a, hS.g, hT, and_self, if_true, anw hT, List.set_set, List.length_set]
  have hp' : ¬ ((aab e.recs (aaQ st)).pc < 0 ∨ ((e.prog (aab e.recs (aaQ st))).length : Int) ≤ (aab e.recs (aaQ st)).pc) := hp
  have hk' : (aab e.recs (aaQ st)).kids.length ≤ 999999999 := hk
  show _ = some ((false, ()), (_, EnvP.em { e with recs := e.recs.set (aaQ st).toNat { aab e.recs (aaQ st) with pc := wi ((aab e.recs (aaQ st)).pc + 1), kids := (aab e.recs (aaQ st)).kids ++ [-1] } } 4 w (aaQ st) 0 0, ()))
  generalize aab e.recs (aaQ st) = r at hp' hk' ⊢
  by_cases h1 : r.prog < 0
  · rw [afE (.inl h1)] at hp'; simp only [List.length_nil] at hp'; omega
  by_cases h2 : (e.c.progs.length : Int) ≤ r.prog
  · rw [afE (.inr h2)] at hp'; simp only [List.length_nil] at hp'; omega
  rw [an5 h1 h2] at hp'
  rw [if_neg h1, if_neg h2, if_pos (show 0 ≤ r.prog ∧ r.prog < (e.c.progs.length : Int) by omega), if_pos (show 0 ≤ r.pc ∧ r.pc < ((atL [] e.c.progs r.prog).length : Int) by omega), if_pos (show (((r.kids.length + ([-1] : List Int).length : Nat)) : Int) < 1000000000000 by rw [List.length_singleton]; omega)]
  rw [he, bnd, aac, bnd]
  rfl
theorem ayB (hS : SOk st) (hT : 0 ≤ aaQ st ∧ aaQ st < (e.recs.length : Int)) (hp : ¬ ((e.rc (aaQ st)).pc < 0 ∨ ((e.prog (e.rc (aaQ st))).length : Int) ≤ (e.rc (aaQ st)).pc)) (hk : (e.rc (aaQ st)).kids.length ≤ 999999999) (v : Int) (hv : 0 ≤ v ∧ v < (e.recs.length : Int)) :
    ab9 ⟨o, w, st, 4, m, id, ch, lv, wt⟩ e 1 v = some ((false, ()), (⟨o, w, st, 5, .publish ⟨o0, v, (aco (e.prog (e.rc (aaQ st))) (e.rc (aaQ st)).pc).b, 1⟩, v, ch, (aco (e.prog (e.rc (aaQ st))) (e.rc (aaQ st)).pc).b, wt⟩, (e.pr (aaQ st) { e.rc (aaQ st) with pc := wi ((e.rc (aaQ st)).pc + 1), kids := (e.rc (aaQ st)).kids ++ [v] }).pr v (aFu (aco (e.prog (e.rc (aaQ st))) (e.rc (aaQ st)).pc).a (aaQ st)), ())) := by
  unfold ab9
  simp only [hS.n, hS.a, hS.g, hT, and_self, if_true, anw hT, List.set_set, List.length_set, Int.reduceEq, if_false, hv]
  have hp' : ¬ ((aab e.recs (aaQ st)).pc < 0 ∨ ((e.prog (aab e.recs (aaQ st))).length : Int) ≤ (aab e.recs (aaQ st)).pc) := hp
  have hk' : (aab e.recs (aaQ st)).kids.length ≤ 999999999 := hk
  show _ = some ((false, ()), ((⟨o, w, st, 5, .publish ⟨o0, v, (aco (e.prog (aab e.recs (aaQ st))) (aab e.recs (aaQ st)).pc).b, 1⟩, v, ch, (aco (e.prog (aab e.recs (aaQ st))) (aab e.recs (aaQ st)).pc).b, wt⟩ : RunV MV), ({ e with recs := (e.recs.set (aaQ st).toNat { aab e.recs (aaQ st) with pc := wi ((aab e.recs (aaQ st)).pc + 1), kids := (aab e.recs (aaQ st)).kids ++ [v] }).set v.toNat ⟨(aco (e.prog (aab e.recs (aaQ st))) (aab e.recs (aaQ st)).pc).a, aaQ st, 0, 0, -1, [], false⟩ } : EnvP), ()))
  generalize aab e.recs (aaQ st) = r at hp' hk' ⊢
  by_cases h1 : r.prog < 0
  · rw [afE (.inl h1)] at hp'; simp only [List.length_nil] at hp'; omega
  by_cases h2 : (e.c.progs.length : Int) ≤ r.prog
  · rw [afE (.inr h2)] at hp'; simp only [List.length_nil] at hp'; omega
  rw [an5 h1 h2] at hp' ⊢
  rw [if_neg h1, if_neg h2, if_pos (show 0 ≤ r.prog ∧ r.prog < (e.c.progs.length : Int) by omega), if_pos (show 0 ≤ r.pc ∧ r.pc < ((atL [] e.c.progs r.prog).length : Int) by omega), if_pos (show (((r.kids.length + ([v] : List Int).length : Nat)) : Int) < 1000000000000 by rw [List.length_singleton]; omega)]
  rw [aiJ, bnd, aac, bnd]
theorem aFy (hS : SOk st) (hT : 0 ≤ aaQ st ∧ aaQ st < (e.recs.length : Int)) (hp : ¬ ((e.rc (aaQ st)).pc < 0 ∨ ((e.prog (e.rc (aaQ st))).length : Int) ≤ (e.rc (aaQ st)).pc)) (ha : ¬ ((aco (e.prog (e.rc (aaQ st))) (e.rc (aaQ st)).pc).a < 0 ∨ ((e.rc (aaQ st)).kids.length : Int) ≤ (aco (e.prog (e.rc (aaQ st))) (e.rc (aaQ st)).pc).a)) :
    aaK ⟨o, w, st, 9, m, id, ch, lv, wt⟩ e = some ((false, ()), (⟨o, w, st, 10, .nil, id, aae (e.rc (aaQ st)).kids (aco (e.prog (e.rc (aaQ st))) (e.rc (aaQ st)).pc).a, lv, wt⟩, (e.pt 2 (aii e.l (aaQ st)) (wu (wi (aae (e.rc (aaQ st)).kids (aco (e.prog (e.rc (aaQ st))) (e.rc (aaQ st)).pc).a + 1)))).pr (aaQ st) { e.rc (aaQ st) with pc := wi ((e.rc (aaQ st)).pc + 1), waiting := aae (e.rc (aaQ st)).kids (aco (e.prog (e.rc (aaQ st))) (e.rc (aaQ st)).pc).a }, ())) := by
  unfold aaK
  simp only [hS.n, hS.a, hS.g, hT, and_self, if_true, ar0 hT, anw hT, List.set_set, List.length_set]
  have hp' : ¬ ((aab e.recs (aaQ st)).pc < 0 ∨ ((e.prog (aab e.recs (aaQ st))).length : Int) ≤ (aab e.recs (aaQ st)).pc) := hp
  have ha' : ¬ ((aco (e.prog (aab e.recs (aaQ st))) (aab e.recs (aaQ st)).pc).a < 0 ∨ ((aab e.recs (aaQ st)).kids.length : Int) ≤ (aco (e.prog (aab e.recs (aaQ st))) (aab e.recs (aaQ st)).pc).a) := ha
  show _ = some ((false, ()), ((⟨o, w, st, 10, .nil, id, aae (aab e.recs (aaQ st)).kids (aco (e.prog (aab e.recs (aaQ st))) (aab e.recs (aaQ st)).pc).a, lv, wt⟩ : RunV MV), EnvP.pr (e.pt 2 (aii e.l (aaQ st)) (wu (wi (aae (aab e.recs (aaQ st)).kids (aco (e.prog (aab e.recs (aaQ st))) (aab e.recs (aaQ st)).pc).a + 1)))) (aaQ st) { aab e.recs (aaQ st) with pc := wi ((aab e.recs (aaQ st)).pc + 1), waiting := aae (aab e.recs (aaQ st)).kids (aco (e.prog (aab e.recs (aaQ st))) (aab e.recs (aaQ st)).pc).a }, ()))
  generalize aab e.recs (aaQ st) = r at hp' ha' ⊢
  by_cases h1 : r.prog < 0
  · rw [afE (.inl h1)] at hp'; simp only [List.length_nil] at hp'; omega
  by_cases h2 : (e.c.progs.length : Int) ≤ r.prog
  · rw [afE (.inr h2)] at hp'; simp only [List.length_nil] at hp'; omega
  rw [an5 h1 h2] at hp' ha' ⊢
  rw [if_neg h1, if_neg h2, if_pos (show 0 ≤ r.prog ∧ r.prog < (e.c.progs.length : Int) by omega), if_pos (show 0 ≤ r.pc ∧ r.pc < ((atL [] e.c.progs r.prog).length : Int) by omega), if_pos (show 0 ≤ (aco (atL [] e.c.progs r.prog) r.pc).a ∧ (aco (atL [] e.c.progs r.prog) r.pc).a < (r.kids.length : Int) by omega)]
  rw [ak1, bnd, abr, bnd, aac, bnd]
  rfl
theorem auK {α β : Type} {X : Option ((Bool × Unit) × (α × β × Unit))} : (X.bind fun r => some ((r.1.1, ()), (r.2.1, r.2.2.1, ()))) = X := by cases X <;> rfl
theorem ap3 (hS : SOk st) (hT : IsT e (aaQ st)) (hc : e.c.tasks = (e.recs.length : Int)) (X : Option ((Bool × Unit) × (RunV MV × EnvP × Unit))) (a b c : Option ((Bool × Unit) × (RunV MV × EnvP × Unit))) :
    (if aaQ st < 0 then a else if e.c.tasks ≤ aaQ st then b else if (e.recs.length : Int) ≤ aaQ st then c else X) = X := by
  have h1 := hT.1
  have h2 := hT.2
  rw [if_neg (by omega), if_neg (by omega), if_neg (by omega)]
theorem akR (hS : SOk st) (hT : IsT e (aaQ st)) (hc : e.c.tasks = (e.recs.length : Int)) (h : 4 ≤ ln ∧ ln ≤ 8) : abm ⟨o0, w, st, ln, m, id, ch, lv, wt⟩ e = abi ⟨o0, w, st, ln, m, id, ch, lv, wt⟩ e := by
  unfold abm
  simp only [aaA, abf, o0, bnd, hS.n, hS.a, hS.g, if_true, Bool.false_eq_true, if_false, auK, ap3 hS hT hc]
  rw [if_neg (by omega), if_neg (by omega), if_neg (by omega), if_neg (by omega), if_pos h.1, if_pos h.2]
theorem ajt (hS : SOk st) (hT : IsT e (aaQ st)) (hc : e.c.tasks = (e.recs.length : Int)) (h : 9 ≤ ln ∧ ln ≤ 15) : abm ⟨o0, w, st, ln, m, id, ch, lv, wt⟩ e = aaK ⟨o0, w, st, ln, m, id, ch, lv, wt⟩ e := by
  unfold abm
  simp only [aaA, abf, o0, bnd, hS.n, hS.a, hS.g, if_true, Bool.false_eq_true, if_false, auK, ap3 hS hT hc]
  rw [if_neg (by omega), if_neg (by omega), if_neg (by omega), if_neg (by omega), if_pos (show 4 ≤ ln by omega), if_neg (by omega), if_pos h.1, if_pos h.2]
theorem ahq (hS : SOk st) (hT : IsT e (aaQ st)) (hc : e.c.tasks = (e.recs.length : Int)) (h : 16 ≤ ln) : abm ⟨o0, w, st, ln, m, id, ch, lv, wt⟩ e = aav ⟨o0, w, st, ln, m, id, ch, lv, wt⟩ e := by
  unfold abm
  simp only [aaA, abf, o0, bnd, hS.n, hS.a, hS.g, if_true, Bool.false_eq_true, if_false, auK, ap3 hS hT hc]
  rw [if_neg (by omega), if_neg (by omega), if_neg (by omega), if_neg (by omega), if_pos (show 4 ≤ ln by omega), if_neg (by omega), if_pos (show 9 ≤ ln by omega), if_neg (by omega)]
theorem azl (hS : SOk st) (hT : IsT e (aaQ st)) (hc : e.c.tasks = (e.recs.length : Int)) {c : Int} (h : aft (e.rc (aaQ st)) (e.prog (e.rc (aaQ st))) = c) (hR : 0 ≤ aaQ st ∧ aaQ st < (e.recs.length : Int)) :
    abm ⟨o0, w, st, 0, m, id, ch, lv, wt⟩ e = if c = 4 then abi ⟨o0, w, st, 4, .alloc ⟨o0⟩, id, ch, lv, wt⟩ e else if c = 1 ∨ c = 2 ∨ c = 3 then aaI ⟨o0, w, st, c, m, id, ch, lv, wt⟩ e else if c = 9 then aaK ⟨o0, w, st, c, m, id, ch, lv, wt⟩ e else aav ⟨o0, w, st, c, m, id, ch, lv, wt⟩ e := by
  have hch := aye (x := ⟨⟨false, 0, 0⟩, w, st, 0, m, id, ch, lv, wt⟩) hS hR
  simp only [h] at hch
  have hv : c = 1 ∨ c = 16 ∨ c = 2 ∨ c = 4 ∨ c = 3 ∨ c = 9 := by
    rw [← h]
    unfold aft
    repeat' split
    all_goals simp
  unfold abm
  simp only [aaA, abf, o0, bnd, hS.n, hS.a, hS.g, if_true, Bool.false_eq_true, if_false, auK, ap3 hS hT hc, hch, aeP]
  rcases hv with rfl | rfl | rfl | rfl | rfl | rfl <;> simp only [Int.reduceEq, Int.reduceLE, if_true, if_false, or_self, or_true, true_or, false_or, or_false]
end
end
end Go.Proofs.YtclaldommncdbaaGreat
