/- The program's machines do what was said plainly, 1: memory, cells, words, the machines that run none inside. The program's machines do what was said plainly, 2: probing. What a step of the program's machines leaves of the environment: at most one access, few events, records of the same number. The program's machines do what was said plainly, 3: the machines that run others inside. The program's machines do what was said plainly: a sweep. The program's machines do what was said plainly, 4: a drain. The program's machines do what was said plainly, 5: running a task: parts. The program's machines do what was said plainly, 6: running a task: lines. -/
import Derived.Test.YteapeojalliebaaGreatHqan
set_option linter.all false
namespace Go.Proofs.YteapeojalliebaaGreat
section
open Go Go.RowKit
set_option maxRecDepth 100000
theorem ay6 {α : Type} {d : α} {xs : List α} {a : Int} {x : α} (h : 0 ≤ a ∧ a < (xs.length : Int)) : atL d (xs.set a.toNat x) a = x := by
  have : a.toNat < xs.length := by omega
  simp [atL, this]
theorem ajM {cs : List Int} {a x : Int} (h : 0 ≤ a ∧ a < (cs.length : Int)) : afQ (cs.set a.toNat x) a = x := ay6 h
theorem aEd {x : Int} (h : ¬ x < 1) (h2 : x ≤ 9223372036854775807) : wu x ≠ 0 := by
  simp only [wu, IntKind.wrap, IntKind.bits, IntKind.signed]
  simp
  omega
theorem aEe (a : Int) : 0 ≤ wu a ∧ wu a ≤ 18446744073709551615 := by
  simp only [wu, IntKind.wrap, IntKind.bits, IntKind.signed]
  simp
  omega
section
variable {m : MemV} {a o v : Int}
theorem abt : aco m a = some ((m.gt a, ()), (m.pt 1 a (m.gt a), ())) := by
  unfold aco MemV.gt MemV.pt
  by_cases h : 0 ≤ a ∧ a < (m.cells.length : Int)
  · have h1 : ¬ a < 0 := by omega
    have h2 : ¬ ((m.cells.length : Nat) : Int) ≤ a := by omega
    simp only [h1, h2, h, and_self, if_true, if_false, List.length_set, ajM h]
  · by_cases h1 : a < 0
    · simp only [h1, h, if_true, if_false]
    · have h2 : ((m.cells.length : Nat) : Int) ≤ a := by omega
      simp only [h1, h2, h, if_true, if_false]
theorem abo : aa2 m a v = some ((), (m.pt 2 a v, ())) := by
  unfold aa2 MemV.pt
  by_cases h : 0 ≤ a ∧ a < (m.cells.length : Int)
  · have h1 : ¬ a < 0 := by omega
    have h2 : ¬ ((m.cells.length : Nat) : Int) ≤ a := by omega
    simp only [h1, h2, h, and_self, if_true, if_false, List.length_set, ajM h]
  · by_cases h1 : a < 0
    · simp only [h1, h, if_true, if_false]
    · have h2 : ((m.cells.length : Nat) : Int) ≤ a := by omega
      simp only [h1, h2, h, if_true, if_false]
theorem ajo : ask m a o v = some ((m.hit a o, ()), (m.cas a o v, ())) := by
  unfold ask MemV.hit MemV.cas MemV.pt MemV.gt
  by_cases h : 0 ≤ a ∧ a < (m.cells.length : Int)
  · have h1 : ¬ a < 0 := by omega
    have h2 : ¬ ((m.cells.length : Nat) : Int) ≤ a := by omega
    by_cases hc : afQ m.cells a = o
    · simp only [h1, h2, h, hc, and_self, if_true, if_false, List.length_set, ajM h]
    · simp only [h1, h2, h, hc, and_self, if_true, if_false, List.length_set, ajM h, and_false]
  · by_cases h1 : a < 0
    · simp only [h1, h, if_true, if_false, false_and, decide_false]
    · have h2 : ((m.cells.length : Nat) : Int) ≤ a := by omega
      simp only [h1, h2, h, if_true, if_false, false_and, decide_false]
theorem avr : pOr m a v = some ((m.gt a, ()), (m.pt 4 a (orU (m.gt a) v), ())) := by
  unfold pOr MemV.gt MemV.pt
  by_cases h : 0 ≤ a ∧ a < (m.cells.length : Int)
  · have h1 : ¬ a < 0 := by omega
    have h2 : ¬ ((m.cells.length : Nat) : Int) ≤ a := by omega
    simp only [h1, h2, h, and_self, if_true, if_false, List.length_set, ajM h]
  · by_cases h1 : a < 0
    · simp only [h1, h, if_true, if_false]
    · have h2 : ((m.cells.length : Nat) : Int) ≤ a := by omega
      simp only [h1, h2, h, if_true, if_false]
theorem ao9 : aBx m a v = some ((m.gt a, ()), (m.pt 5 a (aot (m.gt a) v), ())) := by
  unfold aBx MemV.gt MemV.pt
  by_cases h : 0 ≤ a ∧ a < (m.cells.length : Int)
  · have h1 : ¬ a < 0 := by omega
    have h2 : ¬ ((m.cells.length : Nat) : Int) ≤ a := by omega
    simp only [h1, h2, h, and_self, if_true, if_false, List.length_set, ajM h]
  · by_cases h1 : a < 0
    · simp only [h1, h, if_true, if_false]
    · have h2 : ((m.cells.length : Nat) : Int) ≤ a := by omega
      simp only [h1, h2, h, if_true, if_false]
theorem aro : aDY m a v = some ((m.gt a, ()), (m.pt 6 a (wu (m.gt a + v)), ())) := by
  unfold aDY MemV.gt MemV.pt
  by_cases h : 0 ≤ a ∧ a < (m.cells.length : Int)
  · have h1 : ¬ a < 0 := by omega
    have h2 : ¬ ((m.cells.length : Nat) : Int) ≤ a := by omega
    simp only [h1, h2, h, and_self, if_true, if_false, List.length_set, ajM h]
  · by_cases h1 : a < 0
    · simp only [h1, h, if_true, if_false]
    · have h2 : ((m.cells.length : Nat) : Int) ≤ a := by omega
      simp only [h1, h2, h, if_true, if_false]
end
theorem amR {a n : Int} : azr a n = some ((arw a n, ()), ()) := by
  unfold azr arw
  by_cases h : n < 1
  · rw [if_pos h, if_pos h]
  · rw [if_neg h, if_neg h, if_pos (show n ≠ 0 by omega)]
    split <;> rfl
theorem aAk {k : ClkV} {n : Int} : aAl k n = some ((auA k n, ()), (k, ())) := by
  unfold aAl auA arw
  by_cases h : n < 1
  · rw [if_pos h, if_pos h]
  · rw [if_neg h, if_neg h, if_pos (show n ≠ 0 by omega)]
    split <;> rfl
theorem amS {n : Int} : azs n = some ((azw n, ()), ()) := by
  unfold azs azw
  rw [if_pos (aEe n).1]
  split
  · rfl
  · split <;> rfl
theorem arl {q : QV} {i : Int} (h : q.cap ≤ 9223372036854775807) : aub q i = some ((ahi q i, ()), ()) := by
  unfold aub ahi
  by_cases h1 : q.cap < 1
  · rw [if_pos h1, if_pos h1]
  · rw [if_neg h1, if_neg h1, if_pos (aEd h1 h)]
theorem aoh {b t : Int} : at7 b t = some ((szP b t, ()), ()) := rfl
theorem aqp {i n a w : Int} : pAt i n a w = some ((atP i n a w, ()), ()) := by
  unfold pAt atP
  split
  · rfl
  · split <;> rfl
theorem alI {l : LayV} {t f : Int} : asW l t f = some ((aev l t f, ()), ()) := by unfold asW; rw [aqp]; rfl
theorem aeN {l : LayV} {t : Int} : aer l t = some ((ac7 l t, ()), ()) := by unfold aer; rw [alI]; rfl
theorem afD {l : LayV} {t : Int} : ae5 l t = some ((aa7 l t, ()), ()) := by unfold ae5; rw [alI]; rfl
theorem ajj {l : LayV} {t : Int} : aiF l t = some ((ali l t, ()), ()) := by unfold aiF; rw [alI]; rfl
theorem alG {l : LayV} {t : Int} : ajh l t = some ((af2 l t, ()), ()) := by unfold ajh; rw [alI]; rfl
theorem ari {l : LayV} {t : Int} : anV l t = some ((agU l t, ()), ()) := by unfold anV; rw [alI]; rfl
theorem avq {l : LayV} {t : Int} : anU l t = some ((ae0 l t, ()), ()) := by unfold anU; rw [aqp]; rfl
theorem alK {l : LayV} {t : Int} : aqn l t = some ((ag3 l t, ()), ()) := by unfold aqn; rw [aqp]; rfl
theorem ag0 {l : LayV} {t : Int} : agG l t = some ((ahq l t, ()), ()) := by unfold agG; rw [aqp]; rfl
theorem aes {l : LayV} {t : Int} : ahd l t = some ((aaP l t, ()), ()) := by unfold ahd; rw [aqp]; rfl
theorem ajl {l : LayV} {w v : Int} : agH l w v = some ((aaB l w v, ()), ()) := by
  unfold agH aaB
  simp only [aqp, Option.bind_some]
  split
  · rfl
  · split <;> rfl
theorem aAd {d a t : Int} : aAe d a t = some (((ao6 d a t).1, (ao6 d a t).2, ()), ()) := by
  unfold aAe ao6
  repeat' split
  all_goals rfl
theorem asY {l n c : Int} : asZ l n c = some ((ayS l n c, ()), ()) := by
  unfold asZ ayS
  by_cases h : n < 1
  · rw [if_pos h, if_pos h]
  · rw [if_neg h, if_neg h, if_pos (show n ≠ 0 by omega)]
    repeat' split
    all_goals rfl
theorem aGh (a : Int) : 0 ≤ IntKind.u8.wrap a ∧ IntKind.u8.wrap a < 256 := by
  simp only [IntKind.wrap, IntKind.bits, IntKind.signed]
  simp
  omega
theorem avv {x : Int} : agT x = some ((arE x, ()), ()) := by
  have h : ∃ y, agT x = some ((y, ()), ()) := by
    have hs : ((ai6.size : Nat) : Int) = 256 := rfl
    unfold agT
    simp only [hs, aGh, and_self, if_true]
    repeat' split
    all_goals exact ⟨_, rfl⟩
  obtain ⟨y, hy⟩ := h
  unfold arE
  rw [hy]
theorem axO [Tb] {x : Int} : aFY x = some ((aGx x, ()), ()) := by
  unfold aFY aGx
  split <;> rfl
theorem ab2 {e : EnvP} {v : Ev} (h : e.evs.length ≤ 999999999) : adW e v = some ((), ({ e with evs := e.evs ++ [v] }, ())) := by
  unfold adW
  rw [if_pos (by rw [List.length_singleton]; omega)]
@[reducible] def o0 : OutV := ⟨false, 0, 0⟩
@[reducible] def avC (q : QV) (v : Int) : OPushS → OPushV
  | .l1 => ⟨o0, q, v, 1, 0⟩
  | .l2 b => ⟨o0, q, v, 2, b⟩
  | .l3 b => ⟨o0, q, v, 3, b⟩
  | .l4 b => ⟨o0, q, v, 4, b⟩
@[reducible] def aAn (q : QV) : OPopS → OPopV
  | .l1 => ⟨o0, q, 1, 0, 0⟩
  | .l2 b => ⟨o0, q, 2, b, 0⟩
  | .l3 b t => ⟨o0, q, 3, b, t⟩
  | .l4 b t => ⟨o0, q, 4, b, t⟩
  | .l5 b t => ⟨o0, q, 5, b, t⟩
  | .l6 b t => ⟨o0, q, 6, b, t⟩
  | .l7 b t => ⟨o0, q, 7, b, t⟩
  | .l8 b t => ⟨o0, q, 8, b, t⟩
  | .l9 b t => ⟨o0, q, 9, b, t⟩
@[reducible] def au4 (q : QV) : StealS → StealV
  | .l1 => ⟨o0, q, 1, 0, 0⟩
  | .l2 t => ⟨o0, q, 2, t, 0⟩
  | .l3 t => ⟨o0, q, 3, t, 0⟩
  | .l4 t v => ⟨o0, q, 4, t, v⟩
@[reducible] def asK (a b : Int) (q : QV) : ResetS → ResetV
  | .l1 => ⟨o0, a, b, q, 1, 0⟩
  | .l2 => ⟨o0, a, b, q, 2, 0⟩
  | .l3 x => ⟨o0, a, b, q, 3, x⟩
  | .l4 x => ⟨o0, a, b, q, 4, x⟩
@[reducible] def alB (t v : Int) : PublishS → PublishV
  | .l1 => ⟨o0, t, v, 1⟩
  | .l2 => ⟨o0, t, v, 2⟩
  | .l3 => ⟨o0, t, v, 3⟩
@[reducible] def arD (d t : Int) : InsertS → InsertV
  | .l1 => ⟨o0, d, t, 1, 0, 0, 0, 0⟩
  | .l2 n => ⟨o0, d, t, 2, n, 0, 0, 0⟩
  | .l3 n i k x => ⟨o0, d, t, 3, n, i, k, x⟩
  | .l4 n i k x => ⟨o0, d, t, 4, n, i, k, x⟩
  | .l5 n i k x => ⟨o0, d, t, 5, n, i, k, x⟩
  | .l6 n i k x => ⟨o0, d, t, 6, n, i, k, x⟩
@[reducible] def aq2 (w : Int) : RemoveS → RemoveV
  | .l1 => ⟨o0, w, 1, 0, 0, 0, 0, 0, 0⟩
  | .l2 n => ⟨o0, w, 2, n, 0, 0, 0, 0, 0⟩
  | .l3 n x => ⟨o0, w, 3, n, 0, 0, x, 0, 0⟩
  | .l4 n x y => ⟨o0, w, 4, n, 0, 0, x, y, 0⟩
  | .l5 n i c x y z => ⟨o0, w, 5, n, i, c, x, y, z⟩
  | .l6 n i c x y z => ⟨o0, w, 6, n, i, c, x, y, z⟩
  | .l7 n i c x y z => ⟨o0, w, 7, n, i, c, x, y, z⟩
  | .l8 n i c x y z => ⟨o0, w, 8, n, i, c, x, y, z⟩
@[reducible] def asr (w v : Int) : WakeS → WakeV
  | .l1 j => ⟨o0, w, v, 1, j, 0⟩
  | .l2 j x => ⟨o0, w, v, 2, j, x⟩
  | .l3 j x => ⟨o0, w, v, 3, j, x⟩
@[reducible] def asz (w : Int) : SleepS → SleepV
  | .l1 => ⟨o0, w, 1, 0, 0, 0⟩
  | .l2 ep => ⟨o0, w, 2, ep, 0, 0⟩
  | .l3 ep => ⟨o0, w, 3, ep, 0, 0⟩
  | .l4 ep v => ⟨o0, w, 4, ep, v, 0⟩
  | .l5 ep v s => ⟨o0, w, 5, ep, v, s⟩
  | .l6 ep v s => ⟨o0, w, 6, ep, v, s⟩
  | .l7 ep v s => ⟨o0, w, 7, ep, v, s⟩
@[reducible] def alE (w : Int) : ProbeS → ProbeV
  | .new => ⟨o0, w, false, 0, 0, aF8⟩
  | .run s i bm => ⟨o0, w, true, s, i, bm⟩
@[reducible] def asQ (w t v : Int) : RaiseS → RaiseV
  | .l1 q => ⟨o0, w, t, v, 1, q⟩
  | .l2 q => ⟨o0, w, t, v, 2, q⟩
def aaV {σ X : Type} (og : X → OutV) (mk : σ → X) (res : Option ((Bool × Unit) × (X × EnvP × Unit))) (r : Rs σ × EnvP) : Prop :=
  match r with
  | (.go s, e) => res = some ((false, ()), (mk s, e, ()))
  | (.fin c v, e) => ∃ x, res = some ((true, ()), (x, e, ())) ∧ og x = ⟨true, c, v⟩
section
variable {σ X : Type} {og : X → OutV} {mk : σ → X} {a b : Option ((Bool × Unit) × (X × EnvP × Unit))} {r s : Rs σ × EnvP}
theorem aaV.ite {c : Prop} [Decidable c] (h1 : c → aaV og mk a r) (h2 : ¬ c → aaV og mk b s) : aaV og mk (if c then a else b) (if c then r else s) := by
  by_cases h : c
  · rw [if_pos h, if_pos h]; exact h1 h
  · rw [if_neg h, if_neg h]; exact h2 h
theorem aaV.iteN {c : Bool} (h1 : c = true → aaV og mk b r) (h2 : c = false → aaV og mk a s) : aaV og mk (if (!c) = true then a else b) (if c = true then r else s) := by
  cases c
  · exact h2 rfl
  · exact h1 rfl
theorem aaV.iteL {c : Prop} [Decidable c] (h1 : c → aaV og mk a r) (h2 : ¬ c → aaV og mk b r) : aaV og mk (if c then a else b) r := by
  by_cases h : c
  · rw [if_pos h]; exact h1 h
  · rw [if_neg h]; exact h2 h
theorem aaZ {c : Prop} [Decidable c] {x y : Rs σ} {e : EnvP} : ((if c then x else y), e) = if c then (x, e) else (y, e) := by split <;> rfl
theorem ati {c : Prop} [Decidable c] {x y : σ} : Rs.go (if c then x else y) = if c then Rs.go x else Rs.go y := by split <;> rfl
end
theorem ab4 {α β : Type} {c : Prop} [Decidable c] {x y : Option α} {f : α → Option β} : (if c then x else y).bind f = if c then x.bind f else y.bind f := by split <;> rfl
section
variable {e : EnvP}
theorem as2 {q : QV} {v : Int} (hq : q.cap ≤ 9223372036854775807) (s : OPushS) : aaV OPushV.o (avC q v) (adi (avC q v s) e) (agJ q v e s) := by
  cases s <;> simp only [adi, avC, agJ, aau, aba, o0, abt, abo, aoh, arl hq, Option.bind_some, Bool.false_eq_true, if_true, if_false, reduceIte, Int.reduceEq, aaZ]
  all_goals repeat' first | with_reducible refine aaV.ite (fun _ => ?_) fun _ => ?_ | with_reducible refine aaV.iteN (fun _ => ?_) fun _ => ?_
  all_goals first | rfl | exact ⟨_, rfl, rfl⟩
theorem aAm {q : QV} (hq : q.cap ≤ 9223372036854775807) (s : OPopS) : aaV OPopV.o (aAn q) (adJ (aAn q s) e) (ap3 q e s) := by
  cases s <;> simp only [adJ, ahe, aAn, ap3, aau, aba, o0, abt, abo, ajo, aoh, arl hq, Option.bind_some, Bool.false_eq_true, if_true, if_false, reduceIte, Int.reduceEq, aaZ, ab4]
  all_goals repeat' first | with_reducible refine aaV.ite (fun _ => ?_) fun _ => ?_ | with_reducible refine aaV.iteN (fun _ => ?_) fun _ => ?_
  all_goals first | rfl | exact ⟨_, rfl, rfl⟩
theorem axa {q : QV} (hq : q.cap ≤ 9223372036854775807) (s : StealS) : aaV StealV.o (au4 q) (acR (au4 q s) e) (akw q e s) := by
  cases s <;> simp only [acR, au4, akw, aau, aba, o0, abt, abo, ajo, aoh, arl hq, Option.bind_some, Bool.false_eq_true, if_true, if_false, reduceIte, Int.reduceEq, aaZ]
  all_goals repeat' first | with_reducible refine aaV.ite (fun _ => ?_) fun _ => ?_ | with_reducible refine aaV.iteN (fun _ => ?_) fun _ => ?_
  all_goals first | rfl | exact ⟨_, rfl, rfl⟩
theorem asJ {a b : Int} {q : QV} (s : ResetS) : aaV ResetV.o (asK a b q) (acx (asK a b q s) e) (ahB a b q e s) := by
  cases s <;> simp only [acx, asK, ahB, aau, aba, o0, abt, abo, ao9, avr, amS, aoh, Option.bind_some, Bool.false_eq_true, if_true, if_false, reduceIte, Int.reduceEq, aaZ]
  all_goals repeat' first | with_reducible refine aaV.ite (fun _ => ?_) fun _ => ?_ | with_reducible refine aaV.iteN (fun _ => ?_) fun _ => ?_
  all_goals first | rfl | exact ⟨_, rfl, rfl⟩
theorem aCp {a b : Int} : ∃ x, adm ⟨o0, a, b⟩ e = some ((true, ()), (x, aEr a b e, ())) ∧ x.o = ⟨true, 0, 0⟩ := by
  simp only [adm, aau, aba, o0, avr, amS, Option.bind_some, Bool.false_eq_true, if_true, if_false]
  exact ⟨_, rfl, rfl⟩
theorem ajt {t : Int} : afa e t = some ((decide (IsT e t), ()), (e, ())) := by
  unfold afa IsT
  by_cases h : 0 ≤ t
  · simp only [h, if_true, true_and]
  · simp only [h, if_false, false_and, decide_false]
theorem arL {t v : Int} : ajJ e t v = some ((decide (awZ e t v), ()), (e, ())) := by
  unfold ajJ awZ
  by_cases h : 0 ≤ t
  · by_cases h2 : t < e.c.tasks
    · by_cases h3 : 0 ≤ v
      · simp only [h, h2, h3, if_true, true_and]
      · simp only [h, h2, h3, if_true, if_false, false_and, and_false, decide_false]
    · simp only [h, h2, if_true, if_false, false_and, and_false, decide_false]
  · simp only [h, if_false, false_and, decide_false]
theorem atF : ∃ x, abK ⟨o0⟩ e = some ((true, ()), (x, aga e, ())) ∧ x.o = if IsT e (wi (e.gt 0)) then ⟨true, 1, wi (e.gt 0)⟩ else ⟨true, 3, 0⟩ := by
  simp only [abK, aau, aba, aCO, o0, aro, ajt, Option.bind_some, Bool.false_eq_true, if_true, if_false]
  by_cases h : IsT e (wi (e.gt 0))
  · have h' : IsT { e with m := e.m.pt 6 0 (wu (e.m.gt 0 + 1)) } (wi (e.m.gt 0)) := h
    simp only [h, h', decide_true, Bool.not_true, Bool.false_eq_true, if_true, if_false]
    exact ⟨_, rfl, rfl⟩
  · have h' : ¬ IsT { e with m := e.m.pt 6 0 (wu (e.m.gt 0 + 1)) } (wi (e.m.gt 0)) := h
    simp only [h, h', decide_false, Bool.not_false, if_true, if_false]
    exact ⟨_, rfl, rfl⟩
theorem at4 {t v : Int} (s : PublishS) : aaV PublishV.o (alB t v) (abC (alB t v s) e) (agd t v e s) := by
  by_cases h : IsT e t
  · cases s <;> simp only [abC, alB, agd, ajt, h, not_true, decide_true, Bool.not_true, aau, aba, arf, o0, abo, afD, ajj, aeN, Option.bind_some, Bool.false_eq_true, if_true, if_false, reduceIte, Int.reduceEq]
    all_goals first | rfl | exact ⟨_, rfl, rfl⟩
  · cases s <;> simp only [abC, alB, agd, ajt, h, not_false_eq_true, decide_false, Bool.not_false, aau, aba, o0, Option.bind_some, Bool.false_eq_true, if_true, if_false]
    all_goals exact ⟨_, rfl, rfl⟩
theorem arz {w : Int} {b : Bool} : ∃ d x, acv ⟨o0, w, b⟩ e = some ((d, ()), (x, awy w e, ())) ∧ (d = true → x.o = if e.hit 1 0 = true then ⟨true, 1, 0⟩ else ⟨true, 5, 0⟩) ∧ (d = (e.hit 1 0 || b)) ∧ (d = false → x = ⟨o0, w, b⟩) := by
  simp only [acv, aau, aba, axP, o0, ajo, Option.bind_some, Bool.false_eq_true, if_true, if_false]
  rcases Bool.eq_false_or_eq_true (e.m.hit 1 0) with h | h
  · simp only [h, if_true]; exact ⟨_, _, rfl, (fun _ => rfl), rfl, (fun h => by cases h)⟩
  · cases b
    · simp only [h, Bool.false_eq_true, if_false]; exact ⟨_, _, rfl, (fun h => by cases h), rfl, fun _ => rfl⟩
    · simp only [h, Bool.false_eq_true, if_false, if_true]; exact ⟨_, _, rfl, (fun _ => rfl), rfl, (fun h => by cases h)⟩
theorem avQ : ∃ x, acu ⟨o0⟩ e = some ((true, ()), (x, aux e, ())) ∧ x.o = ⟨true, 0, 0⟩ := by
  simp only [acu, aau, aba, axP, o0, abo, Option.bind_some, Bool.false_eq_true, if_true, if_false]
  exact ⟨_, rfl, rfl⟩
theorem amf {w t : Int} (hl : e.evs.length ≤ 999999999) (hr : e.hit (ac7 e.l t) 1 = true → 0 ≤ t ∧ t < (e.recs.length : Int)) : ∃ x, acS ⟨o0, w, t⟩ e = some ((true, ()), (x, ajE w t e, ())) ∧ x.o = if ahO t e = true then ⟨true, 1, t⟩ else ⟨true, 4, 0⟩ := by
  simp only [acS, aau, aba, o0, ajo, aeN, Option.bind_some, Bool.false_eq_true, if_true, if_false]
  unfold ajE ahO
  simp only [EnvP.hit] at hr ⊢
  rcases Bool.eq_false_or_eq_true (e.m.hit (ac7 e.l t) 1) with h | h
  · simp only [h, Bool.not_true, Bool.false_eq_true, if_true, if_false, hr h, and_self]
    by_cases hs : (aab e.recs t).started = true
    · have hs' : (e.rc t).started = true := hs
      simp only [hs, hs', if_true, ab2 (e := { e with m := e.m.cas (ac7 e.l t) 1 2 }) hl, Option.bind_some]
      exact ⟨_, rfl, rfl⟩
    · have hs' : ¬ (e.rc t).started = true := hs
      simp only [hs, hs', if_false, ab2 (e := { e with m := e.m.cas (ac7 e.l t) 1 2, recs := e.recs.set t.toNat { aab e.recs t with started := true } }) hl, Option.bind_some]
      exact ⟨_, rfl, rfl⟩
  · simp only [h, Bool.not_false, Bool.false_eq_true, if_true, if_false, ab2 (e := { e with m := e.m.cas (ac7 e.l t) 1 2 }) hl, Option.bind_some]
    exact ⟨_, rfl, rfl⟩
theorem aqx {d t : Int} (s : InsertS) : aaV InsertV.o (arD d t) (aby (arD d t s) e) (adL d t e s) := by
  cases s <;> simp only [aby, adk, asU, arD, adL, aau, aba, af5, arn, o0, abt, abo, aro, avq, aAd, Option.bind_some, Bool.false_eq_true, if_true, if_false, reduceIte, Int.reduceEq, aaZ, ab4, ati]
  all_goals repeat' first | with_reducible refine aaV.ite (fun _ => ?_) fun _ => ?_ | with_reducible refine aaV.iteN (fun _ => ?_) fun _ => ?_
  all_goals first | rfl | exact ⟨_, rfl, rfl⟩
theorem awp {w : Int} (hl : e.evs.length ≤ 999999999) (s : RemoveS) : aaV RemoveV.o (aq2 w) (abx (aq2 w s) e) (adV w e s) := by
  have hm : ∀ m v, adW { e with m := m } v = some ((), ({ e with m := m, evs := e.evs ++ [v] }, ())) := fun m v => ab2 (e := { e with m := m }) hl
  cases s <;> simp only [abx, ael, acO, acC, abV, atx, awE, aq2, adV, aau, aba, af5, at6, o0, abt, abo, avq, hm, Option.bind_some, Bool.false_eq_true, if_true, if_false, reduceIte, Int.reduceEq, aaZ, ab4, ati]
  all_goals repeat' first | with_reducible refine aaV.ite (fun _ => ?_) fun _ => ?_ | with_reducible refine aaV.iteN (fun _ => ?_) fun _ => ?_
  all_goals first | rfl | exact ⟨_, rfl, rfl⟩ | skip
  refine aaV.iteL (fun h => ?_) fun h => ?_
  · rw [if_pos h]
    exact aaV.ite (fun _ => rfl) fun _ => rfl
  · rw [if_neg h]
    exact aaV.ite (fun _ => rfl) fun _ => rfl
theorem asP {w t v : Int} (hl : e.evs.length ≤ 999999999) (s : RaiseS) : aaV RaiseV.o (asQ w t v) (ack (asQ w t v s) e) (afA w t v e s) := by
  have hm : ∀ m v, adW { e with m := m } v = some ((), ({ e with m := m, evs := e.evs ++ [v] }, ())) := fun m v => ab2 (e := { e with m := m }) hl
  by_cases h : awZ e t v
  · cases s <;> simp only [ack, asQ, afA, arL, h, not_true, decide_true, Bool.not_true, aau, aba, o0, abt, ajo, afD, hm, Option.bind_some, Bool.false_eq_true, if_true, if_false, reduceIte, Int.reduceEq, aaZ]
    all_goals repeat' first | with_reducible refine aaV.ite (fun _ => ?_) fun _ => ?_ | with_reducible refine aaV.iteN (fun _ => ?_) fun _ => ?_
    all_goals first | rfl | exact ⟨_, rfl, rfl⟩
  · cases s <;> simp only [ack, asQ, afA, arL, h, not_false_eq_true, decide_false, Bool.not_false, aau, aba, o0, Option.bind_some, Bool.false_eq_true, if_true, if_false]
    all_goals exact ⟨_, rfl, rfl⟩
theorem axh {w : Int} (hl : e.evs.length ≤ 999999999) (s : SleepS) : aaV SleepV.o (asz w) (acK (asz w s) e) (aiB w e s) := by
  have hm : ∀ m k v, adW { e with m := m, k := k } v = some ((), ({ e with m := m, k := k, evs := e.evs ++ [v] }, ())) := fun m k v => ab2 (e := { e with m := m, k := k }) hl
  by_cases hc : e.c.classes < 1
  · cases s <;> simp only [acK, agh, agf, asz, aiB, aiC, hc, aau, aba, arf, af5, o0, abt, avr, ao9, amS, amR, alK, ag0, aes, hm, Option.bind_some, Bool.false_eq_true, if_true, if_false, reduceIte, Int.reduceEq, aaZ, ab4]
    all_goals repeat' first | with_reducible refine aaV.ite (fun _ => ?_) fun _ => ?_ | with_reducible refine aaV.iteN (fun _ => ?_) fun _ => ?_
    all_goals first | rfl | exact ⟨_, rfl, rfl⟩
  · cases s <;> simp only [acK, agh, agf, asz, aiB, aiC, hc, aau, aba, arf, af5, o0, abt, avr, ao9, amS, amR, alK, ag0, aes, hm, Option.bind_some, Bool.false_eq_true, if_true, if_false, reduceIte, Int.reduceEq, aaZ, ab4]
    all_goals repeat' first | with_reducible refine aaV.ite (fun _ => ?_) fun _ => ?_ | with_reducible refine aaV.iteN (fun _ => ?_) fun _ => ?_
    all_goals first | rfl | exact ⟨_, rfl, rfl⟩
theorem alb [Tb] {w v : Int} (hl : e.evs.length ≤ 999999999) (s : WakeS) : aaV WakeV.o (asr w v) (ac8 (asr w v s) e) (afy w v e s) := by
  have hm : ∀ m v, adW { e with m := m } v = some ((), ({ e with m := m, evs := e.evs ++ [v] }, ())) := fun m v => ab2 (e := { e with m := m }) hl
  by_cases hc : e.c.classes < 1
  · cases s <;> simp only [ac8, asr, afy, anE, hc, aau, aba, axO, o0, abt, aro, ao9, amS, amR, asY, alK, ag0, hm, Option.bind_some, Bool.false_eq_true, if_true, if_false, reduceIte, Int.reduceEq, aaZ, ab4, decide_eq_true_eq]
    all_goals repeat' first | with_reducible refine aaV.ite (fun _ => ?_) fun _ => ?_ | with_reducible refine aaV.iteN (fun _ => ?_) fun _ => ?_
    all_goals first | rfl | exact ⟨_, rfl, rfl⟩
  · cases s <;> simp only [ac8, asr, afy, anE, hc, aau, aba, axO, o0, abt, aro, ao9, amS, amR, asY, alK, ag0, hm, Option.bind_some, Bool.false_eq_true, if_true, if_false, reduceIte, Int.reduceEq, aaZ, ab4, decide_eq_true_eq]
    all_goals repeat' first | with_reducible refine aaV.ite (fun _ => ?_) fun _ => ?_ | with_reducible refine aaV.iteN (fun _ => ?_) fun _ => ?_
    all_goals first | rfl | exact ⟨_, rfl, rfl⟩
end
section
variable {e : EnvP}
theorem axJ {x : ProbeV} {n : Int} (hn : 1 ≤ n) : ad5 x n = some ((decide (n ≤ amO x.worker n x.start x.next), ()), ({ x with next := amO x.worker n x.start x.next }, ())) := by
  unfold ad5 amO
  have h0 : n ≠ 0 := by omega
  by_cases h : x.next < n
  · by_cases h2 : Int.tmod (wi (x.start + x.next)) n = x.worker
    · simp only [h, h0, h2, ne_eq, not_false_eq_true, if_true, decide_true, Option.bind_some, and_self]
    · simp only [h, h0, h2, ne_eq, not_false_eq_true, if_true, decide_false, Option.bind_some, and_false, if_false, Bool.false_eq_true]
  · simp only [h, false_and, if_false, Option.bind_some, Bool.false_eq_true]
theorem aum (h : 1 ≤ e.c.workers) : 1 ≤ abO e ∧ abO e ≤ 16 := by
  unfold abO
  split <;> omega
theorem aw6 {a n : Int} (hn : 1 ≤ n) (ha : 0 ≤ a) : 0 ≤ Int.tmod a n ∧ Int.tmod a n < n := by
  rw [Int.tmod_eq_emod_of_nonneg ha]
  exact ⟨Int.emod_nonneg _ (by omega), Int.emod_lt_of_pos _ (by omega)⟩
theorem axH {w s : Int} {n : Int} (hn : 1 ≤ n ∧ n ≤ 16) (hs : 0 ≤ s ∧ s ≤ 100) (st : Int) (hst : arw st n = s) (x : ProbeV) (hx : x.start = st) (F : (Int × Int × Int × ProbeV × Unit → Option (Int × Int × Int × ProbeV × Unit)) → Int × Int × Int × ProbeV × Unit → Option (Int × Int × Int × ProbeV × Unit))
    (hF : ∀ self a b i, 0 ≤ i → i ≤ 16 → F self (a, b, i, x, ()) = if i < n then (if Int.tmod (wi (s + i)) n ≠ w ∧ b < arE (x.bm.at (Int.tmod (wi (s + i)) n)) then self (Int.tmod (wi (s + i)) n, arE (x.bm.at (Int.tmod (wi (s + i)) n)), wi (i + 1), x, ()) else self (a, b, wi (i + 1), x, ())) else some (a, b, i, x, ())) :
    ∀ (k fuel : Nat) (i a b : Int), 0 ≤ i → (i + (k : Int) = n) → k < fuel → lpF F fuel (a, b, i, x, ()) = some ((awr w n s x.bm k i (a, b)).1, (awr w n s x.bm k i (a, b)).2, n, x, ()) := by
  intro k
  induction k with
  | zero =>
    intro fuel i a b h0 hi hf
    obtain ⟨fuel, rfl⟩ : ∃ f, fuel = f + 1 := ⟨fuel - 1, by omega⟩
    show F (lpF F fuel) _ = _
    rw [hF _ _ _ _ h0 (by omega), if_neg (by omega)]
    have : i = n := by omega
    subst this
    rfl
  | succ k ih =>
    intro fuel i a b h0 hi hf
    obtain ⟨fuel, rfl⟩ : ∃ f, fuel = f + 1 := ⟨fuel - 1, by omega⟩
    show F (lpF F fuel) _ = _
    rw [hF _ _ _ _ h0 (by omega), if_pos (by omega)]
    have e1 : wi (i + 1) = i + 1 := aaH (aao (by omega))
    rw [e1]
    unfold awr
    split
    · exact ih fuel (i + 1) _ _ (by omega) (by omega) (by omega)
    · exact ih fuel (i + 1) _ _ (by omega) (by omega) (by omega)
theorem aaV.bind {σ X α : Type} {og : X → OutV} {mk : σ → X} {r : Rs σ × EnvP} {A : Option α} {f : α → Option ((Bool × Unit) × (X × EnvP × Unit))} {z : α} (h : A = some z) (h2 : aaV og mk (f z) r) : aaV og mk (A.bind f) r := by rw [h]; exact h2
theorem ay5 {α β : Type} {A : Option α} {f : α → Option β} {z : α} (h : A = some z) : A.bind f = f z := by rw [h]; rfl
theorem aaV.ite' {σ X : Type} {og : X → OutV} {mk : σ → X} {a b : Option ((Bool × Unit) × (X × EnvP × Unit))} {r s : Rs σ × EnvP} {c : Prop} [Decidable c] (h1 : c → aaV og mk b r) (h2 : ¬ c → aaV og mk a s) : aaV og mk (if (!decide c) = true then a else b) (if c then r else s) := by
  by_cases h : c
  · rw [if_pos h, decide_eq_true h]; exact h1 h
  · rw [if_neg h, decide_eq_false h]; exact h2 h
def anj (n : Int) : ProbeS → Prop
  | .new => True
  | .run s i _ => (0 ≤ s ∧ s < n) ∧ 0 ≤ i ∧ i ≤ n
theorem ax8 {a n : Int} (hn : 1 ≤ n ∧ n ≤ 1000000) : 0 ≤ arw a n ∧ arw a n < n := by
  unfold arw
  rw [if_neg (by omega)]
  have h1 : -n < Int.tmod a n := Int.lt_tmod_of_pos a (b := n) (by omega)
  have h2 : Int.tmod a n < n := Int.tmod_lt_of_pos a (b := n) (by omega)
  split
  · rw [aaH (aao (by omega))]; omega
  · omega
theorem aC5 {s n : Int} (h : 0 ≤ s ∧ s < n) : arw s n = s := by
  unfold arw
  rw [if_neg (by omega)]
  have e1 : Int.tmod s n = s := Int.tmod_eq_of_lt h.1 h.2
  rw [e1, if_neg (by omega)]
theorem arb {w n s i : Int} (hi : 0 ≤ i ∧ i ≤ n) (hn : n ≤ 16) : i ≤ amO w n s i ∧ amO w n s i ≤ n := by
  unfold amO
  split
  · rw [aaH (aao (by omega))]; omega
  · omega
theorem aHd {v : Int} (h : 0 ≤ v ∧ v < 16) : v = 15 ∨ v = 14 ∨ v = 13 ∨ v = 12 ∨ v = 11 ∨ v = 10 ∨ v = 9 ∨ v = 8 ∨ v = 7 ∨ v = 6 ∨ v = 5 ∨ v = 4 ∨ v = 3 ∨ v = 2 ∨ v = 1 ∨ v = 0 := by omega
theorem asT {w s i : Int} {bm : B16} (hw : 1 ≤ e.c.workers) (h : anj (abO e) (.run s i bm)) : aaV ProbeV.o (alE w) (abg (alE w (.run s i bm)) e) (akA w e s i bm) := by
  obtain ⟨hs, hi⟩ := h
  have hn := aum hw
  have hM : (if 16 < e.c.workers then 16 else e.c.workers) = abO e := rfl
  have hp := arb (w := w) (s := s) hi hn.2
  unfold abg akA
  simp only [alE, aau, o0, hM, Option.bind_some, Bool.false_eq_true, if_false, Bool.not_true, axJ hn.1, decide_eq_true_eq, aba]
  refine aaV.ite (fun _ => ⟨_, rfl, rfl⟩) fun hlt => ?_
  generalize hj : amO w (abO e) s i = j at hp hlt ⊢
  have hsj : wi (s + j) = s + j := aaH (aao (by omega))
  have hv := aw6 (a := s + j) hn.1 (by omega)
  have hj1 : wi (j + 1) = j + 1 := aaH (aao (by omega))
  rw [if_pos (show abO e ≠ 0 by omega), hsj, hj1]
  generalize hvv : Int.tmod (s + j) (abO e) = v at hv ⊢
  have hp2 := arb (w := w) (s := s) (i := j + 1) ⟨by omega, by omega⟩ hn.2
  simp only [aes, abt, Option.bind_some]
  refine aaV.bind (z := (⟨⟨false, 0, 0⟩, w, true, s, j, bm.put v (e.m.gt (aaP e.l v))⟩, { e with m := e.m.pt 1 (aaP e.l v) (e.m.gt (aaP e.l v)) }, ())) ?_ ?_
  · rcases aHd (v := v) (by omega) with h | h | h | h | h | h | h | h | h | h | h | h | h | h | h | h <;> subst h <;> rfl
  simp only [hj1, axJ hn.1, Option.bind_some]
  generalize hj2 : amO w (abO e) s (j + 1) = j2 at hp2 ⊢
  refine aaV.ite' (c := abO e ≤ j2) (fun h2 => ?_) (fun h2 => ?_)
  · simp only [if_true, if_pos (show 0 ≤ abO e ∧ abO e ≤ ((16 : Nat) : Int) by omega)]
    have ht : (((abO e).toNat : Nat) : Int) = abO e := by omega
    have hm : arw s (abO e) = s := aC5 hs
    refine aaV.bind (axH (w := w) (s := s) (n := abO e) hn ⟨hs.1, by omega⟩ s hm _ rfl _ (fun self a b i h0 h16 => ?_) (abO e).toNat _ 0 (-1) (-1) (Int.le_refl 0) (by omega) (by omega)) ?_
    · simp only [ht, amR, hm, Option.bind_some]
      refine ite_congr rfl (fun hlt => ?_) fun _ => rfl
      have hsi : wi (s + i) = s + i := aaH (aao (by omega))
      have hv2 := aw6 (a := s + i) hn.1 (by omega)
      rw [if_pos (show abO e ≠ 0 by omega), hsi]
      generalize Int.tmod (s + i) (abO e) = u at hv2 ⊢
      rw [if_pos hv2.2]
      refine (ay5 (z := (arE ((bm.put v (e.m.gt (aaP e.l v))).at u), ⟨⟨false, 0, 0⟩, w, true, s, j2, bm.put v (e.m.gt (aaP e.l v))⟩, ())) ?_).trans ?_
      · rcases aHd (v := u) (by omega) with h | h | h | h | h | h | h | h | h | h | h | h | h | h | h | h <;> subst h <;> exact ay5 avv
      · by_cases c1 : u ≠ w
        · by_cases c2 : b < arE ((bm.put v (e.m.gt (aaP e.l v))).at u)
          · rw [if_pos c1, if_pos c2, if_pos ⟨c1, c2⟩]
          · rw [if_pos c1, if_neg c2, if_neg (fun h => c2 h.2)]
        · rw [if_neg c1, if_neg (fun h => c1 h.1)]
    · have hc : apM w (abO e) s (bm.put v (e.m.gt (aaP e.l v))) = awr w (abO e) s (bm.put v (e.m.gt (aaP e.l v))) (abO e).toNat 0 (-1, -1) := by unfold apM; rw [hm]
      rw [hc]
      simp only [aaZ, Option.bind_some]
      exact aaV.ite (fun _ => ⟨_, rfl, rfl⟩) fun _ => ⟨_, rfl, rfl⟩
  · rfl
theorem axD {w : Int} (hw : 1 ≤ e.c.workers) (s : ProbeS) (h : anj (abO e) s) : aaV ProbeV.o (alE w) (abg (alE w s) e) (anp w e s) := by
  cases s with
  | run s i bm => exact asT hw h
  | new =>
    have hn := aum hw
    have hd : 0 ≤ auA e.k (abO e) ∧ auA e.k (abO e) < abO e := ax8 ⟨hn.1, by omega⟩
    have h1 := asT (w := w) (s := auA e.k (abO e)) (i := 0) (bm := aF8) hw ⟨hd, Int.le_refl 0, by omega⟩
    have hM : (if 16 < e.c.workers then 16 else e.c.workers) = abO e := rfl
    have e1 : abg (alE w .new) e = abg (alE w (.run (auA e.k (abO e)) 0 aF8)) e := by
      unfold abg
      simp only [alE, aau, o0, hM, Option.bind_some, Bool.false_eq_true, if_false, Bool.not_true, Bool.not_false, if_true, aAk]
    rw [e1]
    exact h1
theorem az9 {w : Int} (hw : 1 ≤ e.c.workers) {s s' : ProbeS} {e' : EnvP} (h : anj (abO e) s) (hs : anp w e s = (.go s', e')) : anj (abO e) s' := by
  have hn := aum hw
  have key : ∀ s i bm, (0 ≤ s ∧ s < abO e) → (0 ≤ i ∧ i ≤ abO e) → akA w e s i bm = (.go s', e') → anj (abO e) s' := fun s i bm hs0 hi hg => by
    have hp := arb (w := w) (s := s) hi hn.2
    unfold akA at hg
    generalize amO w (abO e) s i = j at hp hg
    split at hg
    · cases hg
    · rename_i hlt
      have hj1 : wi (j + 1) = j + 1 := aaH (aao (by omega))
      have hp2 := arb (w := w) (s := s) (i := j + 1) ⟨by omega, by omega⟩ hn.2
      simp only [hj1] at hg
      split at hg
      · split at hg <;> cases hg
      · cases hg
        exact ⟨hs0, by omega, by omega⟩
  cases s with
  | run s i bm => exact key s i bm h.1 h.2 hs
  | new => exact key _ 0 _ (ax8 ⟨hn.1, by omega⟩) ⟨Int.le_refl 0, by omega⟩ hs
end
inductive One (m : MemV) : MemV → Prop where
  | no : One m m
  | yes (k a v : Int) (h : 0 ≤ a ∧ a < (m.cells.length : Int)) (hk : k < 2 → v = afQ m.cells a) : One m ⟨m.cells.set a.toNat v, ⟨k, a, afQ m.cells a, v⟩, wi (m.count + 1)⟩
structure Stp (j : Nat) (e e' : EnvP) : Prop where
  c : e'.c = e.c
  l : e'.l = e.l
  k : e'.k = e.k
  rl : e'.recs.length = e.recs.length
  m : One e.m e'.m
  ev : e'.evs.length ≤ e.evs.length + j
  kd : ∀ K, (∀ r ∈ e.recs, r.kids.length ≤ K) → ∀ r ∈ e'.recs, r.kids.length ≤ K + 1
section
variable {j : Nat} {e e' : EnvP}
theorem Stp.refl : Stp 0 e e := ⟨rfl, rfl, rfl, rfl, .no, Nat.le_refl _, fun K h r hr => Nat.le_succ_of_le (h r hr)⟩
theorem Stp.le {i : Nat} (h : Stp j e e') (hi : j ≤ i) : Stp i e e' := ⟨h.c, h.l, h.k, h.rl, h.m, Nat.le_trans h.ev (Nat.add_le_add_left hi _), h.kd⟩
theorem ax3 {m : MemV} {k a v : Int} (hk : k < 2 → 0 ≤ a → a < (m.cells.length : Int) → v = afQ m.cells a) : One m (m.pt k a v) := by
  unfold MemV.pt
  by_cases h : 0 ≤ a ∧ a < (m.cells.length : Int)
  · rw [if_pos h]; exact .yes k a v h fun hk' => hk hk' h.1 h.2
  · rw [if_neg h]; exact .no
theorem Stp.pt {k a v : Int} (hk : 2 ≤ k) : Stp 0 e (e.pt k a v) := ⟨rfl, rfl, rfl, rfl, ax3 fun h => absurd h (by omega), Nat.le_refl _, fun K h r hr => Nat.le_succ_of_le (h r hr)⟩
theorem Stp.lk {a : Int} : Stp 0 e (e.lk a) := ⟨rfl, rfl, rfl, rfl, ax3 fun _ h1 h2 => by unfold MemV.gt; rw [if_pos ⟨h1, h2⟩], Nat.le_refl _, fun K h r hr => Nat.le_succ_of_le (h r hr)⟩
theorem Stp.cas {a o v : Int} : Stp 0 e (e.cas a o v) := ⟨rfl, rfl, rfl, rfl, ax3 fun h => absurd h (by omega), Nat.le_refl _, fun K h r hr => Nat.le_succ_of_le (h r hr)⟩
theorem Stp.em {k w t o l : Int} (h : Stp j e e') : Stp (j + 1) e (e'.em k w t o l) := ⟨h.c, h.l, h.k, h.rl, h.m, by
  show (e'.evs ++ [_]).length ≤ _
  rw [List.length_append, List.length_singleton]
  have := h.ev
  omega, h.kd⟩
theorem Stp.pr {t : Int} {r : RecP} (h : Stp j e e') (hr : ∀ K, (∀ r ∈ e.recs, r.kids.length ≤ K) → r.kids.length ≤ K + 1) : Stp j e (e'.pr t r) := ⟨h.c, h.l, h.k, (by show (e'.recs.set _ _).length = _; rw [List.length_set]; exact h.rl), h.m, h.ev, fun K hK x hx => by
  rcases List.mem_or_eq_of_mem_set hx with hx | rfl
  · exact h.kd K hK x hx
  · exact hr K hK⟩
theorem aoj {q : QV} {v : Int} (s : OPushS) : Stp 0 e (agJ q v e s).2 := by
  cases s <;> unfold agJ <;> first | exact .lk | exact .pt (by decide)
theorem axW {q : QV} (s : OPopS) : Stp 0 e (ap3 q e s).2 := by
  cases s <;> unfold ap3 <;> first | exact .lk | exact .pt (by decide) | exact .cas
theorem au3 {q : QV} (s : StealS) : Stp 0 e (akw q e s).2 := by
  cases s <;> unfold akw <;> first | exact .lk | exact .pt (by decide) | exact .cas
theorem avc {a b : Int} {q : QV} (s : ResetS) : Stp 0 e (ahB a b q e s).2 := by
  cases s <;> unfold ahB <;> first | exact .lk | exact .pt (by decide)
theorem aEq {a b : Int} : Stp 0 e (aEr a b e) := .pt (by decide)
theorem aou : Stp 0 e (aga e) := .pt (by decide)
theorem aql {t v : Int} (s : PublishS) : Stp 0 e (agd t v e s).2 := by
  unfold agd
  split
  · exact .refl
  · cases s <;> exact .pt (by decide)
theorem aq5 {t : Int} (h : 0 ≤ t ∧ t < (e.recs.length : Int)) (K : Nat) (hK : ∀ r ∈ e.recs, r.kids.length ≤ K) : (e.rc t).kids.length ≤ K := by
  refine hK _ ?_
  have h1 := aep (d := (dfR 26 : RecP)) (xs := e.recs) h
  exact List.mem_of_getElem? h1
theorem amg {w t : Int} (hr : ahO t e = true → 0 ≤ t ∧ t < (e.recs.length : Int)) : Stp 1 e (ajE w t e) := by
  unfold ajE
  split
  · rename_i h
    split
    · exact Stp.cas.em
    · refine (Stp.cas.pr fun K hK => ?_).em
      exact Nat.le_succ_of_le (aq5 (hr h) K hK)
  · exact Stp.cas.em
theorem auo {o : Int} : Stp 0 e (awy o e) := .cas
theorem auw : Stp 0 e (aux e) := .pt (by decide)
theorem al5 {d t : Int} (s : InsertS) : Stp 0 e (adL d t e s).2 := by
  cases s <;> unfold adL <;> first | exact .lk | exact .pt (by decide)
theorem asL {w : Int} (s : RemoveS) : Stp 1 e (adV w e s).2 := by
  cases s <;> unfold adV <;> first | exact Stp.lk.le (by decide) | exact Stp.le (.pt (by decide)) (by decide) | exact Stp.em (.pt (by decide))
theorem azU {w : Int} (s : SleepS) : Stp 1 e (aiB w e s).2 := by
  cases s <;> unfold aiB <;> repeat' split
  all_goals first | exact Stp.lk.le (by decide) | exact Stp.le (.pt (by decide)) (by decide) | exact Stp.lk.em
theorem aoy [Tb] {w v : Int} (s : WakeS) : Stp 1 e (afy w v e s).2 := by
  cases s <;> unfold afy <;> first | exact Stp.lk.le (by decide) | exact Stp.le (.pt (by decide)) (by decide) | exact Stp.em (.pt (by decide))
theorem avj {w t v : Int} (s : RaiseS) : Stp 1 e (afA w t v e s).2 := by
  unfold afA
  split
  · exact Stp.refl.le (by decide)
  · cases s
    · exact Stp.lk.le (by decide)
    · simp only
      split
      · exact Stp.cas.em
      · exact Stp.cas.le (by decide)
theorem avk {w : Int} (s : ProbeS) : Stp 0 e (anp w e s).2 := by
  have key : ∀ s i bm, Stp 0 e (akA w e s i bm).2 := fun s i bm => by
    unfold akA
    split
    · exact .refl
    · simp only
      split <;> exact .lk
  cases s
  · exact key _ _ _
  · exact key _ _ _
theorem agm {w v x : Int} (s : LPushS) : Stp 0 e (acM w v x e s).2 := by
  cases s with
  | new =>
    have h := aoj (e := e) (q := aaB e.l w v) (v := x) .l1
    revert h
    simp only [acM]
    rcases agJ (aaB e.l w v) x e .l1 with ⟨r | ⟨c, y⟩, e'⟩ <;> intro h <;> exact h
  | push s =>
    have h := aoj (e := e) (q := aaB e.l w v) (v := x) s
    revert h
    simp only [acM]
    rcases agJ (aaB e.l w v) x e s with ⟨r | ⟨c, y⟩, e'⟩ <;> intro h <;> exact h
  | set => exact aEq
theorem aC9 {w : Int} (s : LPopS) : Stp 0 e (ako w e s).2 := by
  cases s with
  | l1 v => exact .lk
  | l2 v s =>
    have h := axW (e := e) (q := aaB e.l w v) s
    revert h
    simp only [ako]
    rcases ap3 (aaB e.l w v) e s with ⟨r | ⟨c, y⟩, e'⟩ <;> intro h <;> exact h
  | l3 v s =>
    have h := avc (e := e) (a := aaP e.l w) (b := v) (q := aaB e.l w v) s
    revert h
    simp only [ako]
    rcases ahB (aaP e.l w) v (aaB e.l w v) e s with ⟨r | ⟨c, y⟩, e'⟩ <;> intro h <;> exact h
theorem aw1 {w v : Int} (s : WalkS) : Stp 1 e (aha w v e s).2 := by
  cases s with
  | l1 t =>
    by_cases hf : awZ e t v
    · have h := avj (e := e) (w := w) (t := t) (v := v) (.l1 0)
      simp only [aha, hf, not_true, if_false]
      revert h
      rcases afA w t v e (.l1 0) with ⟨r | ⟨c, y⟩, e'⟩ <;> intro h <;> exact h
    · simp only [aha, hf, not_false_eq_true, if_true]
      exact Stp.refl.le (by decide)
  | raise t s =>
    have h := avj (e := e) (w := w) (t := t) (v := v) s
    revert h
    simp only [aha]
    rcases afA w t v e s with ⟨r | ⟨c, y⟩, e'⟩ <;> intro h <;> exact h
  | l2 t => exact Stp.lk.le (by decide)
  | push t s =>
    have h := agm (e := e) (w := w) (v := v) (x := t) s
    revert h
    simp only [aha]
    rcases acM w v t e s with ⟨r | ⟨c, y⟩, e'⟩ <;> intro h
    · exact h.le (by decide)
    · show Stp 1 e (if c = 3 then _ else _)
      split
      · exact h.em
      · exact h.le (by decide)
  | l4 t => exact Stp.lk.le (by decide)
theorem aAU {w t : Int} (s : EnterS) : Stp 0 e (aeQ w t e s).2 := by
  cases s with
  | l1 =>
    by_cases hf : IsT e t
    · simp only [aeQ, hf, not_true, if_false]; exact .pt (by decide)
    · simp only [aeQ, hf, not_false_eq_true, if_true]; exact .refl
  | l2 => exact .pt (by decide)
  | l3 => exact .lk
  | l4 v s =>
    have h := agm (e := e) (w := w) (v := v) (x := t) s
    revert h
    simp only [aeQ]
    rcases acM w v t e s with ⟨r | ⟨c, y⟩, e'⟩ <;> intro h <;> exact h
theorem azI {w t : Int} (s : SweepS) : Stp 1 e (abZ w t e s).2 := by
  cases s with
  | l1 =>
    by_cases hf : ¬ IsT e t ∨ e.c.age = 0
    · simp only [abZ, hf, if_true]; exact Stp.refl.le (by decide)
    · simp only [abZ, hf, if_false]; exact Stp.lk.le (by decide)
  | l2 => exact Stp.lk.le (by decide)
  | l3 => exact Stp.lk.le (by decide)
  | l4 q =>
    by_cases hf : e.hit (aa7 e.l t) q = true
    · simp only [abZ, hf, if_true]; exact Stp.cas.em
    · simp only [abZ, hf, if_false]; exact Stp.cas.le (by decide)
  | l5 q => exact Stp.le (.pt (by decide)) (by decide)
  | l6 q s =>
    have h := agm (e := e) (w := w) (v := wi (wi q + 1)) (x := t) s
    revert h
    simp only [abZ]
    rcases acM w (wi (wi q + 1)) t e s with ⟨r | ⟨c, y⟩, e'⟩ <;> intro h
    · exact h.le (by decide)
    · show Stp 1 e (if c = 3 then _ else _)
      split
      · exact h.em
      · exact h.le (by decide)
theorem aBZ {w : Int} (hr : ∀ t, ahO t e = true → 0 ≤ t ∧ t < (e.recs.length : Int)) (s : TakeS) : Stp 1 e (anG w e s).2 := by
  cases s with
  | pop s =>
    have h := aC9 (e := e) (w := w) s
    revert h
    simp only [anG]
    rcases ako w e s with ⟨r | ⟨c, y⟩, e'⟩ <;> intro h <;> exact h.le (by decide)
  | claim t => exact amg (hr t)
theorem aAY [Tb] {w : Int} (d : DrainS) : Stp 1 e (aci w e d).2 := by
  obtain ⟨x, b, p, la, n, c⟩ := d
  cases c with
  | l1 => exact Stp.lk.le (by decide)
  | l2 => exact auo.le (by decide)
  | l3 s =>
    have h := asL (e := e) (w := w) s
    revert h
    simp only [aci]
    rcases adV w e s with ⟨r | ⟨c, y⟩, e'⟩ <;> intro h <;> exact h
  | l4 => exact Stp.lk.le (by decide)
  | l5 s =>
    have h := agm (e := e) (w := w) (v := p) (x := x) s
    revert h
    simp only [aci]
    rcases acM w p x e s with ⟨r | ⟨c, y⟩, e'⟩ <;> intro h <;> exact h.le (by decide)
  | l6 => exact auw.le (by decide)
  | l7 s =>
    have h := aoy (e := e) (w := w) (v := la) s
    revert h
    simp only [aci]
    rcases afy w la e s with ⟨r | ⟨c, y⟩, e'⟩ <;> intro h <;> exact h
end
structure EOk (K : Nat) (e : EnvP) : Prop where
  dq : 0 ≤ e.l.deque ∧ e.l.deque ≤ 65535
  tk : e.l.tasks = (e.recs.length : Int)
  ct : e.c.tasks = (e.recs.length : Int)
  wk : 1 ≤ e.c.workers
  ev : e.evs.length ≤ K
  kd : ∀ r ∈ e.recs, r.kids.length ≤ K
section
variable [Tb] {K : Nat} {e : EnvP}
theorem EOk.q (h : EOk K e) (w v : Int) : (aaB e.l w v).cap ≤ 9223372036854775807 := by
  have := h.dq
  unfold aaB
  repeat' split
  all_goals simp only; omega
theorem EOk.st (h : EOk K e) {t o : Int} (hh : e.hit (ac7 e.l t) o = true) : 0 ≤ t ∧ t < (e.recs.length : Int) := by
  have h1 : 0 ≤ ac7 e.l t := by
    have := of_decide_eq_true hh
    exact this.1.1
  unfold ac7 aev atP at h1
  rw [← h.tk]
  split at h1
  · omega
  · split at h1 <;> omega
theorem EOk.step (h : EOk K e) {j : Nat} {e' : EnvP} (s : Stp j e e') : EOk (K + j + 1) e' := by
  refine ⟨?_, ?_, ?_, ?_, ?_, ?_⟩
  · rw [s.l]; exact h.dq
  · rw [s.l, s.rl]; exact h.tk
  · rw [s.c, s.rl]; exact h.ct
  · rw [s.c]; exact h.wk
  · have := s.ev; have := h.ev; omega
  · intro r hr
    have := s.kd K h.kd r hr
    omega
@[reducible] def apk (l : LayV) (w v x : Int) : LPushS → LPushV MV
  | .new => ⟨o0, w, v, x, 1, .nil⟩
  | .push s => ⟨o0, w, v, x, 1, .opush (avC (aaB l w v) x s)⟩
  | .set => ⟨o0, w, v, x, 2, .set ⟨o0, aaP l w, v⟩⟩
@[reducible] def aDa (l : LayV) (w : Int) : LPopS → LPopV MV
  | .l1 v => ⟨o0, w, v, 1, .nil⟩
  | .l2 v s => ⟨o0, w, v, 2, .opop (aAn (aaB l w v) s)⟩
  | .l3 v s => ⟨o0, w, v, 3, .reset (asK (aaP l w) v (aaB l w v) s)⟩
@[reducible] def aBU (l : LayV) (w v : Int) : WalkS → WalkV MV
  | .l1 t => ⟨o0, w, t, v, 1, .nil⟩
  | .raise t s => ⟨o0, w, t, v, 1, .raise (asQ w t v s)⟩
  | .l2 t => ⟨o0, w, t, v, 2, .nil⟩
  | .push t s => ⟨o0, w, t, v, 3, .lpush (apk l w v t s)⟩
  | .l4 t => ⟨o0, w, t, v, 4, .nil⟩
@[reducible] def ayA (l : LayV) (w t : Int) : EnterS → EnterV MV
  | .l1 => ⟨o0, w, t, 0, 1, .nil⟩
  | .l2 => ⟨o0, w, t, 0, 2, .nil⟩
  | .l3 => ⟨o0, w, t, 0, 3, .nil⟩
  | .l4 v s => ⟨o0, w, t, v, 4, .lpush (apk l w v t s)⟩
@[reducible] def agA (l : LayV) (w t : Int) : SweepS → SweepV MV
  | .l1 => ⟨o0, w, t, 1, 0, .nil⟩
  | .l2 => ⟨o0, w, t, 2, 0, .nil⟩
  | .l3 => ⟨o0, w, t, 3, 0, .nil⟩
  | .l4 q => ⟨o0, w, t, 4, q, .nil⟩
  | .l5 q => ⟨o0, w, t, 5, q, .nil⟩
  | .l6 q s => ⟨o0, w, t, 6, q, .lpush (apk l w (wi (wi q + 1)) t s)⟩
@[reducible] def aB0 (l : LayV) (w : Int) : TakeS → TakeV MV
  | .pop s => ⟨o0, w, false, .lpop (aDa l w s)⟩
  | .claim t => ⟨o0, w, true, .claim ⟨o0, w, t⟩⟩
@[reducible] def ayD (l : LayV) (w p x last : Int) : DrainC → Int × MV
  | .l1 => (1, .nil)
  | .l2 => (2, .attempt ⟨o0, w, true⟩)
  | .l3 s => (3, .remove (aq2 w s))
  | .l4 => (4, .nil)
  | .l5 s => (5, .lpush (apk l w p x s))
  | .l6 => (6, .release ⟨o0⟩)
  | .l7 s => (7, .wake (asr w last s))
@[reducible] def avX (l : LayV) (w : Int) (d : DrainS) : DrainV MV :=
  ⟨o0, w, (ayD l w d.p d.x d.last d.c).1, (ayD l w d.p d.x d.last d.c).2, d.x, d.direct, d.p, d.last, d.count⟩
theorem akO : (SR1.spl MV.nil).isNone = true := rfl
theorem axe (x : OPushV) : (SR1.spl (MV.opush x)).isNone = false := rfl
theorem aCf (x : SetV) : (SR1.spl (MV.set x)).isNone = false := rfl
theorem axd (x : RaiseV) : (SR1.spl (MV.raise x)).isNone = false := rfl
theorem ajp {w v x : Int} (hK : EOk K e) (s : LPushS) : aaV LPushV.o (apk e.l w v x) (ach (apk e.l w v x s) e) (acM w v x e s) := by
  have hq := hK.q w v
  cases s with
  | new =>
    have h := as2 (e := e) (v := x) hq .l1
    have hn := aoj (e := e) (q := aaB e.l w v) (v := x) .l1
    revert h hn
    simp only [acM, ach, akO, aau, aba, o0, ajl, apc, ai7, Option.bind_some, if_true, Bool.false_eq_true, if_false]
    rcases agJ (aaB e.l w v) x e .l1 with ⟨r | ⟨c, y⟩, e'⟩ <;> intro h hn
    · simp only [aaV, o0] at h
      simp only [h, Option.bind_some, Bool.not_false, if_true]
      rfl
    · simp only [aaV, o0] at h
      obtain ⟨x', h, ho⟩ := h
      have hnl : e'.l = e.l := hn.l
      simp only [h, ho, aeM, Option.bind_some, Bool.not_true, Bool.false_eq_true, if_false, aes, ajL, hnl, reduceIte, Int.reduceEq, aaZ]
      exact aaV.ite (fun _ => ⟨_, rfl, rfl⟩) fun _ => rfl
  | push s =>
    have h := as2 (e := e) (v := x) hq s
    have hn := aoj (e := e) (q := aaB e.l w v) (v := x) s
    revert h hn
    simp only [acM, ach, axe, aau, aba, o0, ai7, Option.bind_some, if_true, Bool.false_eq_true, if_false]
    rcases agJ (aaB e.l w v) x e s with ⟨r | ⟨c, y⟩, e'⟩ <;> intro h hn
    · simp only [aaV] at h
      simp only [h, Option.bind_some, Bool.not_false, if_true]
      rfl
    · simp only [aaV] at h
      obtain ⟨x', h, ho⟩ := h
      have hnl : e'.l = e.l := hn.l
      simp only [h, ho, aeM, Option.bind_some, Bool.not_true, Bool.false_eq_true, if_false, aes, ajL, hnl, reduceIte, Int.reduceEq, aaZ]
      exact aaV.ite (fun _ => ⟨_, rfl, rfl⟩) fun _ => rfl
  | set =>
    obtain ⟨y, h, ho⟩ := aCp (e := e) (a := aaP e.l w) (b := v)
    simp only [o0] at h
    simp only [acM, ach, aCf, aau, aba, o0, ai7, h, ho, aeM, Option.bind_some, Bool.not_true, if_true, Bool.false_eq_true, if_false, reduceIte, Int.reduceEq]
    exact ⟨_, rfl, rfl⟩
theorem aAA {w : Int} (hK : EOk K e) (s : LPopS) : aaV LPopV.o (aDa e.l w) (acN (aDa e.l w s) e) (ako w e s) := by
  cases s with
  | l1 v =>
    simp only [ako, acN, aic, aau, aba, o0, aes, abt, avv, ajl, arp, Option.bind_some, if_true, Bool.false_eq_true, if_false, aaZ, ab4]
    exact aaV.ite (fun _ => ⟨_, rfl, rfl⟩) fun _ => rfl
  | l2 v s =>
    have h := aAm (e := e) (hK.q w v) s
    have hn := axW (e := e) (q := aaB e.l w v) s
    revert h hn
    simp only [ako, acN, aau, aba, o0, ai7, Option.bind_some, if_true, Bool.false_eq_true, if_false, reduceIte, Int.reduceEq]
    rcases ap3 (aaB e.l w v) e s with ⟨r | ⟨c, y⟩, e'⟩ <;> intro h hn
    · simp only [aaV] at h
      simp only [h, Option.bind_some, Bool.not_false, if_true]
      rfl
    · simp only [aaV] at h
      obtain ⟨x', h, ho⟩ := h
      have hnl : e'.l = e.l := hn.l
      simp only [h, ho, aeM, Option.bind_some, Bool.not_true, Bool.false_eq_true, if_true, if_false, aes, ajl, agS, hnl, reduceIte, Int.reduceEq, aaZ]
      exact aaV.ite (fun _ => ⟨_, rfl, rfl⟩) fun _ => rfl
  | l3 v s =>
    have h := asJ (e := e) (a := aaP e.l w) (b := v) (q := aaB e.l w v) s
    revert h
    simp only [ako, acN, aau, aba, o0, ai7, Option.bind_some, if_true, Bool.false_eq_true, if_false, reduceIte, Int.reduceEq]
    rcases ahB (aaP e.l w) v (aaB e.l w v) e s with ⟨r | ⟨c, y⟩, e'⟩ <;> intro h
    · simp only [aaV] at h
      simp only [h, Option.bind_some, Bool.not_false, if_true]
      rfl
    · simp only [aaV] at h
      obtain ⟨x', h, ho⟩ := h
      simp only [h, ho, aeM, Option.bind_some, Bool.not_true, Bool.false_eq_true, if_true, if_false]
      rfl
theorem azz {w v : Int} (hK : EOk K e) (hk : K ≤ 100000000) (s : WalkS) : aaV WalkV.o (aBU e.l w v) (abQ (aBU e.l w v s) e) (aha w v e s) := by
  have hl : e.evs.length ≤ 999999999 := by have := hK.ev; omega
  cases s with
  | l1 t =>
    by_cases hf : awZ e t v
    · have h := asP (e := e) (w := w) (t := t) (v := v) hl (.l1 0)
      revert h
      simp only [aha, hf, abQ, ad9, arL, decide_true, not_true, Bool.not_true, akO, am8, aau, aba, o0, adA, Option.bind_some, if_true, Bool.false_eq_true, if_false, reduceIte, Int.reduceEq]
      rcases afA w t v e (.l1 0) with ⟨r | ⟨c, y⟩, e'⟩ <;> intro h
      · simp only [aaV, o0] at h
        simp only [h, Option.bind_some, Bool.not_false, if_true]
        rfl
      · simp only [aaV, o0] at h
        obtain ⟨x', h, ho⟩ := h
        simp only [h, ho, abq, Option.bind_some, Bool.not_true, Bool.false_eq_true, if_true, if_false, aaZ, ab4, ati]
        exact aaV.ite (fun _ => rfl) fun _ => rfl
    · simp only [aha, hf, abQ, ad9, arL, decide_false, not_false_eq_true, Bool.not_false, akO, aau, aba, o0, Option.bind_some, if_true, Bool.false_eq_true, if_false, reduceIte, Int.reduceEq]
      exact ⟨_, rfl, rfl⟩
  | raise t s =>
    have h := asP (e := e) (w := w) (t := t) (v := v) hl s
    revert h
    simp only [aha, abQ, ad9, axd, aau, aba, o0, adA, Option.bind_some, if_true, Bool.false_eq_true, if_false, reduceIte, Int.reduceEq]
    rcases afA w t v e s with ⟨r | ⟨c, y⟩, e'⟩ <;> intro h
    · simp only [aaV] at h
      simp only [h, Option.bind_some, Bool.not_false, if_true]
      rfl
    · simp only [aaV] at h
      obtain ⟨x', h, ho⟩ := h
      simp only [h, ho, abq, Option.bind_some, Bool.not_true, Bool.false_eq_true, if_true, if_false, aaZ, ab4, ati]
      exact aaV.ite (fun _ => rfl) fun _ => rfl
  | l2 t =>
    simp only [aha, abQ, aau, aba, o0, aeN, abt, acp, Option.bind_some, if_true, Bool.false_eq_true, if_false, reduceIte, Int.reduceEq, aaZ, ati]
    exact aaV.ite (fun _ => rfl) fun _ => rfl
  | push t s =>
    have h := ajp (w := w) (v := v) (x := t) hK s
    have hn := agm (e := e) (w := w) (v := v) (x := t) s
    revert h hn
    simp only [aha, abQ, aiu, aau, aba, o0, adA, Option.bind_some, if_true, Bool.false_eq_true, if_false, reduceIte, Int.reduceEq]
    rcases acM w v t e s with ⟨r | ⟨c, y⟩, e'⟩ <;> intro h hn
    · simp only [aaV] at h
      simp only [h, Option.bind_some, Bool.not_false, if_true]
      rw [← hn.l]
      rfl
    · simp only [aaV] at h
      obtain ⟨x', h, ho⟩ := h
      have hl' : e'.evs.length ≤ 999999999 := by have h1 : e'.evs.length ≤ e.evs.length + 0 := hn.ev; have := hK.ev; omega
      simp only [h, ho, abq, Option.bind_some, Bool.not_true, Bool.false_eq_true, if_true, if_false, ab2 hl']
      by_cases hc : c = 3
      · simp only [hc, if_true]; rfl
      · simp only [hc, if_false]; rfl
  | l4 t =>
    simp only [aha, abQ, aau, aba, o0, alG, abt, Option.bind_some, if_true, Bool.false_eq_true, if_false, reduceIte, Int.reduceEq, aaZ]
    exact aaV.ite (fun _ => ⟨_, rfl, rfl⟩) fun _ => rfl
theorem ayz {w t : Int} (hK : EOk K e) (s : EnterS) : aaV EnterV.o (ayA e.l w t) (abN (ayA e.l w t s) e) (aeQ w t e s) := by
  cases s with
  | l1 =>
    by_cases hf : IsT e t
    · simp only [aeQ, hf, abN, ajt, decide_true, not_true, Bool.not_true, aau, aba, arf, o0, ajj, abo, Option.bind_some, if_true, Bool.false_eq_true, if_false, reduceIte, Int.reduceEq]
      rfl
    · simp only [aeQ, hf, abN, ajt, decide_false, not_false_eq_true, Bool.not_false, aau, aba, o0, Option.bind_some, if_true, Bool.false_eq_true, if_false, reduceIte, Int.reduceEq]
      exact ⟨_, rfl, rfl⟩
  | l2 =>
    simp only [aeQ, abN, aau, aba, o0, aeN, abo, Option.bind_some, if_true, Bool.false_eq_true, if_false, reduceIte, Int.reduceEq]
    rfl
  | l3 =>
    simp only [aeQ, abN, aau, aba, o0, afD, abt, acp, Option.bind_some, if_true, Bool.false_eq_true, if_false, reduceIte, Int.reduceEq]
    rfl
  | l4 v s =>
    have h := ajp (w := w) (v := v) (x := t) hK s
    have hn := agm (e := e) (w := w) (v := v) (x := t) s
    revert h hn
    simp only [aeQ, abN, aau, aba, o0, adA, Option.bind_some, if_true, Bool.false_eq_true, if_false, reduceIte, Int.reduceEq]
    rcases acM w v t e s with ⟨r | ⟨c, y⟩, e'⟩ <;> intro h hn
    · simp only [aaV] at h
      simp only [h, Option.bind_some, Bool.not_false, if_true]
      rfl
    · simp only [aaV] at h
      obtain ⟨x', h, ho⟩ := h
      simp only [h, ho, abq, Option.bind_some, Bool.not_true, Bool.false_eq_true, if_true, if_false]
      exact ⟨_, rfl, rfl⟩
theorem azG {w : Int} (hK : EOk K e) (hk : K ≤ 100000000) (s : TakeS) : aaV TakeV.o (aB0 e.l w) (aeq (aB0 e.l w s) e) (anG w e s) := by
  have hl : e.evs.length ≤ 999999999 := by have := hK.ev; omega
  cases s with
  | pop s =>
    have h := aAA (w := w) hK s
    revert h
    simp only [anG, aeq, aau, aba, o0, adA, Option.bind_some, if_true, Bool.false_eq_true, if_false]
    rcases ako w e s with ⟨r | ⟨c, y⟩, e'⟩ <;> intro h
    · simp only [aaV] at h
      simp only [h, Option.bind_some, Bool.not_false, if_true]
      rfl
    · simp only [aaV] at h
      obtain ⟨x', h, ho⟩ := h
      simp only [h, ho, abq, acn, Option.bind_some, Bool.not_true, Bool.false_eq_true, if_true, if_false, aaZ]
      exact aaV.ite (fun _ => ⟨_, rfl, rfl⟩) fun _ => rfl
  | claim t =>
    obtain ⟨x', h, ho⟩ := amf (w := w) (t := t) hl hK.st
    simp only [o0] at h
    simp only [anG, aeq, aau, aba, o0, adA, h, Option.bind_some, if_true, Bool.false_eq_true, if_false, abq, Bool.not_true, afF]
    rcases Bool.eq_false_or_eq_true (ahO t e) with hc | hc
    · simp only [hc, if_true] at ho ⊢
      simp only [ho, if_true]
      exact ⟨_, rfl, rfl⟩
    · simp only [hc, Bool.false_eq_true, if_false] at ho ⊢
      simp only [ho, reduceIte, Int.reduceEq]
      rfl
end
section
variable [Tb] {K : Nat} {e : EnvP}
theorem azO {w t : Int} (hK : EOk K e) (hk : K ≤ 100000000) : aaV SweepV.o (agA e.l w t) (aay (agA e.l w t .l1) e) (abZ w t e .l1) := by
  have hl : e.evs.length ≤ 999999999 := by have := hK.ev; omega
  have hm : ∀ m v, adW { e with m := m } v = some ((), ({ e with m := m, evs := e.evs ++ [v] }, ())) := fun m v => ab2 (e := { e with m := m }) hl
  by_cases c1 : t < 0
  · have hf : ¬ IsT e t ∨ e.c.age = 0 := .inl fun h => by have := h.1; omega
    simp only [abZ]
    rw [if_pos hf]
    simp only [aay, abv, c1, aau, aba, o0, Option.bind_some, Bool.false_eq_true, if_false, reduceIte, Int.reduceEq]
    exact ⟨_, rfl, rfl⟩
  by_cases c2 : e.c.tasks ≤ t
  · have hf : ¬ IsT e t ∨ e.c.age = 0 := .inl fun h => by have := h.2; omega
    simp only [abZ]
    rw [if_pos hf]
    simp only [aay, abv, c1, c2, aau, aba, o0, Option.bind_some, Bool.false_eq_true, if_false, reduceIte, Int.reduceEq]
    exact ⟨_, rfl, rfl⟩
  by_cases c3 : e.c.age = 0
  · have hf : ¬ IsT e t ∨ e.c.age = 0 := .inr c3
    simp only [abZ]
    rw [if_pos hf]
    simp only [aay, abv, c1, c2, c3, decide_true, aau, aba, o0, Option.bind_some, Bool.false_eq_true, if_false, reduceIte, Int.reduceEq]
    exact ⟨_, rfl, rfl⟩
  have hf : ¬ (¬ IsT e t ∨ e.c.age = 0) := fun h => h.elim (fun h => h ⟨by omega, by omega⟩) c3
  simp only [abZ]
  rw [if_neg hf]
  simp only [aay, abv, c1, c2, c3, decide_false, aau, aba, o0, Option.bind_some, Bool.false_eq_true, if_true, reduceIte, Int.reduceEq, aeN, abt, decide_eq_true_eq, aaZ]
  refine aaV.iteL (fun h => ?_) fun h => ?_
  · rw [if_neg h]; exact ⟨_, rfl, rfl⟩
  · rw [if_pos (Classical.not_not.1 h)]; rfl
theorem azN {w t : Int} (hK : EOk K e) (hk : K ≤ 100000000) : aaV SweepV.o (agA e.l w t) (aay (agA e.l w t .l2) e) (abZ w t e .l2) := by
  have hl : e.evs.length ≤ 999999999 := by have := hK.ev; omega
  have hm : ∀ m v, adW { e with m := m } v = some ((), ({ e with m := m, evs := e.evs ++ [v] }, ())) := fun m v => ab2 (e := { e with m := m }) hl
  simp only [abZ, aay, abv, aau, aba, arf, o0, Option.bind_some, if_true, Bool.false_eq_true, if_false, reduceIte, Int.reduceEq, ajj, abt, decide_eq_true_eq, aaZ]
  exact aaV.ite (fun _ => ⟨_, rfl, rfl⟩) fun _ => rfl
theorem azM {w t : Int} (hK : EOk K e) (hk : K ≤ 100000000) : aaV SweepV.o (agA e.l w t) (aay (agA e.l w t .l3) e) (abZ w t e .l3) := by
  have hl : e.evs.length ≤ 999999999 := by have := hK.ev; omega
  have hm : ∀ m v, adW { e with m := m } v = some ((), ({ e with m := m, evs := e.evs ++ [v] }, ())) := fun m v => ab2 (e := { e with m := m }) hl
  simp only [abZ, aay, abv, aau, aba, o0, Option.bind_some, if_true, Bool.false_eq_true, if_false, reduceIte, Int.reduceEq, afD, abt, decide_eq_true_eq, aaZ]
  exact aaV.ite (fun _ => ⟨_, rfl, rfl⟩) fun _ => rfl
theorem azL {w t : Int} (hK : EOk K e) (hk : K ≤ 100000000) (q : Int) : aaV SweepV.o (agA e.l w t) (aay (agA e.l w t (.l4 q)) e) (abZ w t e (.l4 q)) := by
  have hl : e.evs.length ≤ 999999999 := by have := hK.ev; omega
  have hm : ∀ m v, adW { e with m := m } v = some ((), ({ e with m := m, evs := e.evs ++ [v] }, ())) := fun m v => ab2 (e := { e with m := m }) hl
  have he : ∀ x : SweepV MV, abB x 12 = some ((⟨12, x.worker, x.task, 0, wi (wi x.q + 1)⟩, ()), (x, ())) := fun x => id rfl
  simp only [abZ, aay, he, aau, aba, o0, Option.bind_some, if_true, Bool.false_eq_true, if_false, reduceIte, Int.reduceEq, afD, ajo, hm]
  exact aaV.iteN (fun _ => rfl) fun _ => ⟨_, rfl, rfl⟩
theorem azK {w t : Int} (hK : EOk K e) (hk : K ≤ 100000000) (q : Int) : aaV SweepV.o (agA e.l w t) (aay (agA e.l w t (.l5 q)) e) (abZ w t e (.l5 q)) := by
  have hl : e.evs.length ≤ 999999999 := by have := hK.ev; omega
  have hm : ∀ m v, adW { e with m := m } v = some ((), ({ e with m := m, evs := e.evs ++ [v] }, ())) := fun m v => ab2 (e := { e with m := m }) hl
  simp only [abZ, aay, aau, aba, arf, o0, Option.bind_some, if_true, Bool.false_eq_true, if_false, reduceIte, Int.reduceEq, ajj, abo, acp]
  rfl
theorem bnd {α β : Type} {a : α} {f : α → Option β} : (some a).bind f = f a := by
  generalize h : some a = x
  subst h
  rfl
theorem azJ {w t : Int} (hK : EOk K e) (hk : K ≤ 100000000) (q : Int) (s : LPushS) : aaV SweepV.o (agA e.l w t) (aay (agA e.l w t (.l6 q s)) e) (abZ w t e (.l6 q s)) := by
  have h := ajp (w := w) (v := wi (wi q + 1)) (x := t) hK s
  have hn := agm (e := e) (w := w) (v := wi (wi q + 1)) (x := t) s
  have he : ∀ x : SweepV MV, abB x 19 = some ((⟨19, x.worker, x.task, 0, wi (wi x.q + 1)⟩, ()), (x, ())) := fun x => id rfl
  revert h hn
  simp only [abZ, aay, he, bnd, aau, aba, o0, adA, if_true, Bool.false_eq_true, if_false, reduceIte, Int.reduceEq]
  rcases acM w (wi (wi q + 1)) t e s with ⟨r | ⟨c, y⟩, e'⟩ <;> intro h hn
  · simp only [aaV] at h
    simp only [h, bnd, Bool.not_false, if_true]
    rfl
  · simp only [aaV] at h
    obtain ⟨x', h, ho⟩ := h
    have hl' : e'.evs.length ≤ 999999999 := by have h1 : e'.evs.length ≤ e.evs.length + 0 := hn.ev; have := hK.ev; omega
    simp only [h, ho, abq, bnd, Bool.not_true, Bool.false_eq_true, if_true, if_false, ab2 hl']
    by_cases hc : c = 3
    · simp only [hc, if_true]; exact ⟨_, rfl, rfl⟩
    · simp only [hc, if_false]; exact ⟨_, rfl, rfl⟩
theorem aw8 {w t : Int} (hK : EOk K e) (hk : K ≤ 100000000) (s : SweepS) : aaV SweepV.o (agA e.l w t) (aay (agA e.l w t s) e) (abZ w t e s) := by
  cases s with
  | l1 => exact azO hK hk
  | l2 => exact azN hK hk
  | l3 => exact azM hK hk
  | l4 q => exact azL hK hk q
  | l5 q => exact azK hK hk q
  | l6 q s => exact azJ hK hk q s
end
section
variable [Tb] {K : Nat} {e : EnvP}
theorem ayq {w : Int} {l : LayV} {ln : Int} {m : MV} {d : DrainS} {e' : EnvP} : aaV DrainV.o (avX l w) (((aaY ⟨⟨false, 0, 0⟩, w, ln, m, d.x, d.direct, d.p, d.last, d.count⟩).bind fun r => some ((r.1.1, ()), (r.2.1, e', ()))).bind fun r => some ((r.1.1, ()), (r.2.1, r.2.2.1, ()))) (anx d, e') := by
  obtain ⟨x, b, p, la, n, c⟩ := d
  unfold anx
  simp only [aaY, aba, bnd, o0, ab4, aaZ]
  exact aaV.ite (fun _ => ⟨_, rfl, rfl⟩) fun _ => aaV.ite (fun _ => ⟨_, rfl, rfl⟩) fun _ => ⟨_, rfl, rfl⟩
def asi (d : DrainS) : Prop := match d.c with
  | .l6 => True
  | .l7 _ => True
  | _ => d.direct = false
theorem ayC {w : Int} (hK : EOk K e) (hk : K ≤ 100000000) (d : DrainS) (hd : asi d) : aaV DrainV.o (avX e.l w) (abh (avX e.l w d) e) (aci w e d) := by
  have hl : e.evs.length ≤ 999999999 := by have := hK.ev; omega
  obtain ⟨x, b, p, la, n, c⟩ := d
  cases c with
  | l1 =>
    simp only [aci, abh, aaG, aup, aau, aba, af5, o0, abt, bnd, if_true, Bool.false_eq_true, if_false, reduceIte, Int.reduceEq, aaZ]
    exact aaV.ite (fun _ => ⟨_, rfl, rfl⟩) fun _ => rfl
  | l2 =>
    obtain ⟨dn, x', h, ho, hd, _⟩ := arz (e := e) (w := w) (b := true)
    rw [Bool.or_true] at hd
    subst hd
    have ho := ho rfl
    simp only [o0] at h
    simp only [aci, abh, acw, abk, aaG, aft, aau, aba, o0, adA, h, bnd, if_true, Bool.false_eq_true, if_false, reduceIte, Int.reduceEq, abq, Bool.not_true]
    rcases Bool.eq_false_or_eq_true (e.hit 1 0) with hh | hh
    · simp only [hh, if_true] at ho ⊢
      simp only [ho, reduceIte, Int.reduceEq]
      rfl
    · simp only [hh, Bool.false_eq_true, if_false] at ho ⊢
      simp only [ho, reduceIte, Int.reduceEq]
      exact ⟨_, rfl, rfl⟩
  | l3 s =>
    have h := awp (e := e) (w := w) hl s
    have hn := asL (e := e) (w := w) s
    revert h hn
    simp only [aci, abh, aau, aba, o0, adA, bnd, if_true, Bool.false_eq_true, if_false, reduceIte, Int.reduceEq]
    rcases adV w e s with ⟨r | ⟨c, y⟩, e'⟩ <;> intro h hn
    · simp only [aaV] at h
      simp only [h, bnd, Bool.not_false, if_true]
      rfl
    · simp only [aaV] at h
      obtain ⟨x', h, ho⟩ := h
      simp only [h, ho, abq, acw, aa0, aaG, aff, bnd, Bool.not_true, Bool.false_eq_true, if_true, if_false, reduceIte, Int.reduceEq, ab4, aaZ]
      exact aaV.ite (fun _ => rfl) fun _ => rfl
  | l4 =>
    simp only [aci, abh, aaG, acp, aau, aba, o0, afD, abt, bnd, if_true, Bool.false_eq_true, if_false, reduceIte, Int.reduceEq]
    rfl
  | l5 s =>
    have h := ajp (w := w) (v := p) (x := x) hK s
    have hn := agm (e := e) (w := w) (v := p) (x := x) s
    revert h hn
    simp only [aci, abh, aau, aba, o0, adA, bnd, if_true, Bool.false_eq_true, if_false, reduceIte, Int.reduceEq]
    rcases acM w p x e s with ⟨r | ⟨c, y⟩, e'⟩ <;> intro h hn
    · simp only [aaV] at h
      simp only [h, bnd, Bool.not_false, if_true]
      rfl
    · simp only [aaV] at h
      obtain ⟨x', h, ho⟩ := h
      have hc : e'.c = e.c := hn.c
      simp only [h, ho, abq, acw, acD, abk, aa0, aaG, aft, aff, bnd, Bool.not_true, Bool.false_eq_true, if_true, if_false, reduceIte, Int.reduceEq, ab4, aaZ, hc]
      have hb : b = false := hd
      subst hb
      simp only [Bool.false_eq_true, if_false]
      exact aaV.ite (fun _ => rfl) fun _ => aaV.ite (fun _ => rfl) fun _ => rfl
  | l6 =>
    obtain ⟨x', h, ho⟩ := avQ (e := e)
    simp only [o0] at h
    simp only [aci, abh, acw, aaG, acJ, aau, aba, o0, adA, h, ho, bnd, if_true, Bool.false_eq_true, if_false, reduceIte, Int.reduceEq, abq, Bool.not_true, ab4, aaZ]
    exact aaV.ite (fun _ => rfl) fun _ => ayq (d := ⟨x, b, p, la, n, .l6⟩)
  | l7 s =>
    have h := alb (e := e) (w := w) (v := la) hl s
    revert h
    simp only [aci, abh, aau, aba, o0, adA, bnd, if_true, Bool.false_eq_true, if_false, reduceIte, Int.reduceEq]
    rcases afy w la e s with ⟨r | ⟨c, y⟩, e'⟩ <;> intro h
    · simp only [aaV] at h
      simp only [h, bnd, Bool.not_false, if_true]
      rfl
    · simp only [aaV] at h
      obtain ⟨x', h, ho⟩ := h
      simp only [h, ho, abq, acw, bnd, Bool.not_true, Bool.false_eq_true, if_true, if_false, reduceIte, Int.reduceEq]
      exact ayq (d := ⟨x, b, p, la, n, .l7 s⟩)
theorem aAX {w : Int} {d d' : DrainS} {e' : EnvP} (hd : asi d) (h : aci w e d = (.go d', e')) : asi d' := by
  obtain ⟨x, b, p, la, n, c⟩ := d
  cases c with
  | l1 =>
    simp only [aci] at h
    split at h <;> cases h
    exact hd
  | l2 =>
    simp only [aci] at h
    split at h <;> cases h
    exact hd
  | l3 s =>
    simp only [aci] at h
    split at h
    · cases h; exact hd
    · split at h <;> cases h
      · trivial
      · exact hd
  | l4 => cases h; exact hd
  | l5 s =>
    simp only [aci] at h
    split at h
    · cases h; exact hd
    · split at h
      · cases h; trivial
      · split at h <;> cases h
        · exact hd
        · trivial
  | l6 =>
    simp only [aci] at h
    split at h
    · cases h; trivial
    · unfold anx at h
      repeat' split at h
      all_goals cases h
  | l7 s =>
    simp only [aci] at h
    split at h
    · cases h; trivial
    · unfold anx at h
      repeat' split at h
      all_goals cases h
end
structure SOk (l : List Int) : Prop where
  ne : l ≠ []
  le : l.length ≤ 999999999
section
variable {l : List Int}
theorem SOk.n (h : SOk l) : wi (((l.length : Nat) : Int) - 1) = ((l.length - 1 : Nat) : Int) := by
  have h1 := List.length_pos_iff.2 h.ne
  have h2 := h.le
  rw [aaH (aao (by omega))]; omega
theorem SOk.a (h : SOk l) : afP l ((l.length - 1 : Nat) : Int) = aaJ l := by
  have h1 := List.length_pos_iff.2 h.ne
  have h2 : l[l.length - 1]? = some (l[l.length - 1]'(by omega)) := List.getElem?_eq_getElem _
  simp only [afP, atL, aaJ, Int.toNat_natCast, List.getLast?_eq_getElem?, h2]
  rfl
theorem SOk.g (h : SOk l) : (0 ≤ ((l.length - 1 : Nat) : Int) ∧ ((l.length - 1 : Nat) : Int) < ((l.length : Nat) : Int)) = True := by
  have h1 := List.length_pos_iff.2 h.ne
  exact eq_true ⟨by omega, by omega⟩
theorem SOk.g2 (h : SOk l) : (0 ≤ ((l.length - 1 : Nat) : Int) ∧ ((l.length - 1 : Nat) : Int) ≤ ((l.length : Nat) : Int)) = True := by
  have h1 := List.length_pos_iff.2 h.ne
  exact eq_true ⟨by omega, by omega⟩
theorem SOk.t (h : SOk l) : l.take (((l.length - 1 : Nat) : Int)).toNat = l.dropLast := by
  rw [List.dropLast_eq_take]; simp
theorem SOk.s (h : SOk l) (y : Int) : l.set (((l.length - 1 : Nat) : Int)).toNat y = l.dropLast ++ [y] := by
  obtain ⟨a, b, rfl⟩ : ∃ a b, l = a ++ [b] := ⟨l.dropLast, l.getLast h.ne, (List.dropLast_concat_getLast h.ne).symm⟩
  simp
end
section
variable [Tb] {e : EnvP} {o : OutV} {w ln id ch lv wt : Int} {st : List Int} {m : MV}
theorem aor {rs : List RecP} {t : Int} {r : RecP} (h : 0 ≤ t ∧ t < (rs.length : Int)) : aab (rs.set t.toNat r) t = r := ay6 h
theorem asO {rs : List RecP} {t : Int} (h : 0 ≤ t ∧ t < (rs.length : Int)) : rs.set t.toNat (aab rs t) = rs := by
  have h1 := aep (d := (dfR 26 : RecP)) (xs := rs) h
  have h2 : t.toNat < rs.length := by omega
  refine List.ext_getElem? fun i => ?_
  by_cases hi : t.toNat = i
  · subst hi
    rw [List.getElem?_set_self h2]
    exact h1.symm
  · rw [List.getElem?_set_ne hi]
def afj (x : RecP) (p : List Ins) : Int :=
  if x.waiting ≠ -1 then 1
  else if x.pc < 0 ∨ (p.length : Int) ≤ x.pc then 16
  else if (ab9 p x.pc).op = 0 then 2
  else if (ab9 p x.pc).op = 1 then 4
  else if (ab9 p x.pc).a < 0 ∨ (x.kids.length : Int) ≤ (ab9 p x.pc).a ∨ afP x.kids (ab9 p x.pc).a = -1 then 3
  else 9
theorem ao1 {x : RecP} (h1 : ¬ x.prog < 0) (h2 : ¬ (e.c.progs.length : Int) ≤ x.prog) : e.prog x = atL [] e.c.progs x.prog := by
  unfold EnvP.prog
  rw [if_neg (by omega)]
theorem afr {x : RecP} (h : x.prog < 0 ∨ (e.c.progs.length : Int) ≤ x.prog) : e.prog x = [] := by
  unfold EnvP.prog
  rw [if_pos h]
theorem ayU {x : RunV MV} (hS : SOk x.stack) (hT : 0 ≤ aaJ x.stack ∧ aaJ x.stack < (e.recs.length : Int)) : aeL x e = some ((afj (e.rc (aaJ x.stack)) (e.prog (e.rc (aaJ x.stack))), ()), (x, e, ())) := by
  unfold aeL
  try simp only [tpI, tlI]
  simp only [hS.n, hS.a, hS.g, hT, and_self, if_true, asO hT]
  show _ = some ((afj (aab e.recs (aaJ x.stack)) (e.prog (aab e.recs (aaJ x.stack))), ()), (x, e, ()))
  generalize aab e.recs (aaJ x.stack) = r
  by_cases h1 : r.prog < 0
  · rw [afr (.inl h1)]
    simp only [h1, if_true, afj, List.length_nil]
    split
    · rfl
    · rw [if_pos (show r.pc < 0 ∨ ((0 : Nat) : Int) ≤ r.pc by omega)]
      split
      · rfl
      · rw [if_pos (by omega)]
  by_cases h2 : (e.c.progs.length : Int) ≤ r.prog
  · rw [afr (.inr h2)]
    simp only [h1, h2, if_true, if_false, afj, List.length_nil]
    split
    · rfl
    · rw [if_pos (show r.pc < 0 ∨ ((0 : Nat) : Int) ≤ r.pc by omega)]
      split
      · rfl
      · rw [if_pos (by omega)]
  rw [ao1 h1 h2]
  generalize atL [] e.c.progs r.prog = p
  unfold afj
  rw [if_neg h1, if_neg h2]
  rw [if_pos (show 0 ≤ r.prog ∧ r.prog < (e.c.progs.length : Int) by omega)]
  by_cases hw : r.waiting ≠ -1
  · rw [if_pos hw, if_pos hw]
  rw [if_neg hw, if_neg hw]
  by_cases h3 : r.pc < 0
  · rw [if_pos h3, if_pos (.inl h3)]
  by_cases h4 : (p.length : Int) ≤ r.pc
  · rw [if_neg h3, if_pos h4, if_pos (.inr h4)]
  rw [if_neg h3, if_neg h4, if_neg (show ¬ (r.pc < 0 ∨ (p.length : Int) ≤ r.pc) by omega)]
  have hp : 0 ≤ r.pc ∧ r.pc < (p.length : Int) := by omega
  rw [if_pos hp]
  by_cases c1 : (ab9 p r.pc).op = 0
  · rw [if_pos c1, if_pos c1]
  rw [if_neg c1, if_neg c1, if_pos hp]
  by_cases c2 : (ab9 p r.pc).op = 1
  · rw [if_pos c2, if_pos c2]
  rw [if_neg c2, if_neg c2, if_pos hp]
  by_cases h5 : (ab9 p r.pc).a < 0
  · rw [if_pos h5, if_pos (.inl h5)]
  by_cases h6 : (r.kids.length : Int) ≤ (ab9 p r.pc).a
  · rw [if_neg h5, if_pos h6, if_pos (.inr (.inl h6))]
  rw [if_neg h5, if_neg h6, if_pos (show 0 ≤ (ab9 p r.pc).a ∧ (ab9 p r.pc).a < (r.kids.length : Int) by omega)]
  by_cases h7 : afP r.kids (ab9 p r.pc).a = -1
  · rw [if_pos h7, if_pos (.inr (.inr h7))]
  · rw [if_neg h7, if_neg (by omega)]
theorem amA {x : RunV MV} {v : Ev} (h : e.evs.length ≤ 999999999) : aaC x e v = some ((), (x, { e with evs := e.evs ++ [{ v with worker := x.worker }] }, ())) := by
  unfold aaC
  try simp only [tpI, tlI]
  rw [ab2 h, bnd]
theorem aCo (hS : SOk st) (hT : 0 ≤ aaJ st ∧ aaJ st < (e.recs.length : Int)) : aaA ⟨o, w, st, 1, m, id, ch, lv, wt⟩ e = some ((false, ()), (⟨o, w, st, 0, .nil, id, ch, lv, wt⟩, (e.pt 2 (af2 e.l (aaJ st)) 0).pr (aaJ st) { e.rc (aaJ st) with waiting := -1 }, ())) := by
  unfold aaA
  try simp only [tpI, tlI]
  simp only [tpI, tlI, hS.n, hS.a, hS.g, hT, and_self, if_true, alG, abo, aac, bnd]
  rfl
theorem aCn (hS : SOk st) (hT : 0 ≤ aaJ st ∧ aaJ st < (e.recs.length : Int)) (hp : ¬ ((e.rc (aaJ st)).pc < 0 ∨ ((e.prog (e.rc (aaJ st))).length : Int) ≤ (e.rc (aaJ st)).pc)) : aaA ⟨o, w, st, 2, m, id, ch, lv, wt⟩ e = some ((false, ()), (⟨o, w, st, 0, .nil, id, ch, lv, wt⟩, e.pr (aaJ st) (awJ (e.rc (aaJ st)) (ab9 (e.prog (e.rc (aaJ st))) (e.rc (aaJ st)).pc)), ())) := by
  unfold aaA
  try simp only [tpI, tlI]
  simp only [tpI, tlI, hS.n, hS.a, hS.g, hT, and_self, if_true, Int.reduceEq, if_false, aor hT, List.set_set, aac, bnd, List.length_set]
  show _ = some ((false, ()), (_, { e with recs := e.recs.set (aaJ st).toNat (awJ (aab e.recs (aaJ st)) (ab9 (e.prog (aab e.recs (aaJ st))) (aab e.recs (aaJ st)).pc)) }, ()))
  have hp' : ¬ ((aab e.recs (aaJ st)).pc < 0 ∨ ((e.prog (aab e.recs (aaJ st))).length : Int) ≤ (aab e.recs (aaJ st)).pc) := hp
  generalize aab e.recs (aaJ st) = r at hp' ⊢
  by_cases h1 : r.prog < 0
  · rw [afr (.inl h1)] at hp'; simp only [List.length_nil] at hp'; omega
  by_cases h2 : (e.c.progs.length : Int) ≤ r.prog
  · rw [afr (.inr h2)] at hp'; simp only [List.length_nil] at hp'; omega
  rw [ao1 h1 h2] at hp' ⊢
  have h3 : (0 ≤ r.prog ∧ r.prog < (e.c.progs.length : Int)) = True := eq_true (by omega)
  have h4 : (0 ≤ r.pc ∧ r.pc < ((atL [] e.c.progs r.prog).length : Int)) = True := eq_true (by omega)
  simp only [h1, h2, h3, h4, if_true, if_false, awJ]
  by_cases h5 : r.left = 0
  · simp only [h5, if_true]
    split <;> rfl
  · simp only [h5, if_false]
    split <;> rfl
theorem aCm (hS : SOk st) (hT : 0 ≤ aaJ st ∧ aaJ st < (e.recs.length : Int)) : aaA ⟨o, w, st, 3, m, id, ch, lv, wt⟩ e = some ((false, ()), (⟨o, w, st, 0, .nil, id, ch, lv, wt⟩, e.pr (aaJ st) { e.rc (aaJ st) with pc := wi ((e.rc (aaJ st)).pc + 1) }, ())) := by
  unfold aaA
  try simp only [tpI, tlI]
  simp only [tpI, tlI, hS.n, hS.a, hS.g, hT, and_self, if_true, Int.reduceEq, if_false, aac, bnd]
  rfl
end
end
section
open Go Go.RowKit
set_option maxRecDepth 100000
set_option maxRecDepth 100000
section
variable [Tb] {e : EnvP} {o : OutV} {w ln id ch lv wt : Int} {st : List Int} {m : MV}
theorem awR (hS : SOk st) (hT : 0 ≤ aaJ st ∧ aaJ st < (e.recs.length : Int)) (hp : ¬ ((e.rc (aaJ st)).pc < 0 ∨ ((e.prog (e.rc (aaJ st))).length : Int) ≤ (e.rc (aaJ st)).pc)) (hl : e.evs.length ≤ 999999999) (hk : (e.rc (aaJ st)).kids.length ≤ 999999999) (v : Int) :
    ab1 ⟨o, w, st, 4, m, id, ch, lv, wt⟩ e 3 v = some ((false, ()), (⟨o, w, st, 0, .nil, id, ch, lv, wt⟩, (e.pr (aaJ st) { e.rc (aaJ st) with pc := wi ((e.rc (aaJ st)).pc + 1), kids := (e.rc (aaJ st)).kids ++ [-1] }).em 4 w (aaJ st) 0 0, ())) := by
  unfold ab1
  try unfold tpI
  try unfold tlI
  have he : ∀ (x : RunV MV) (rs : List RecP) (v : Ev), aaC x { e with recs := rs } v = some ((), (x, { e with recs := rs, evs := e.evs ++ [{ v with worker := x.worker }] }, ())) := fun x rs v => amA (e := { e with recs := rs }) hl
  simp only [hS.n, hS.a, hS.g, hT, and_self, if_true, aor hT, List.set_set, List.length_set]
  have hp' : ¬ ((aab e.recs (aaJ st)).pc < 0 ∨ ((e.prog (aab e.recs (aaJ st))).length : Int) ≤ (aab e.recs (aaJ st)).pc) := hp
  have hk' : (aab e.recs (aaJ st)).kids.length ≤ 999999999 := hk
  show _ = some ((false, ()), (_, EnvP.em { e with recs := e.recs.set (aaJ st).toNat { aab e.recs (aaJ st) with pc := wi ((aab e.recs (aaJ st)).pc + 1), kids := (aab e.recs (aaJ st)).kids ++ [-1] } } 4 w (aaJ st) 0 0, ()))
  generalize aab e.recs (aaJ st) = r at hp' hk' ⊢
  by_cases h1 : r.prog < 0
  · rw [afr (.inl h1)] at hp'; simp only [List.length_nil] at hp'; omega
  by_cases h2 : (e.c.progs.length : Int) ≤ r.prog
  · rw [afr (.inr h2)] at hp'; simp only [List.length_nil] at hp'; omega
  rw [ao1 h1 h2] at hp'
  rw [if_neg h1, if_neg h2, if_pos (show 0 ≤ r.prog ∧ r.prog < (e.c.progs.length : Int) by omega), if_pos (show 0 ≤ r.pc ∧ r.pc < ((atL [] e.c.progs r.prog).length : Int) by omega), if_pos (show (((r.kids.length + ([-1] : List Int).length : Nat)) : Int) < 1000000000000 by rw [List.length_singleton]; omega)]
  rw [he, bnd, aac, bnd]
  rfl
theorem azf (hS : SOk st) (hT : 0 ≤ aaJ st ∧ aaJ st < (e.recs.length : Int)) (hp : ¬ ((e.rc (aaJ st)).pc < 0 ∨ ((e.prog (e.rc (aaJ st))).length : Int) ≤ (e.rc (aaJ st)).pc)) (hk : (e.rc (aaJ st)).kids.length ≤ 999999999) (v : Int) (hv : 0 ≤ v ∧ v < (e.recs.length : Int)) :
    ab1 ⟨o, w, st, 4, m, id, ch, lv, wt⟩ e 1 v = some ((false, ()), (⟨o, w, st, 5, .publish ⟨o0, v, (ab9 (e.prog (e.rc (aaJ st))) (e.rc (aaJ st)).pc).b, 1⟩, v, ch, (ab9 (e.prog (e.rc (aaJ st))) (e.rc (aaJ st)).pc).b, wt⟩, (e.pr (aaJ st) { e.rc (aaJ st) with pc := wi ((e.rc (aaJ st)).pc + 1), kids := (e.rc (aaJ st)).kids ++ [v] }).pr v (aGs (ab9 (e.prog (e.rc (aaJ st))) (e.rc (aaJ st)).pc).a (aaJ st)), ())) := by
  unfold ab1
  try unfold tpI
  try unfold tlI
  simp only [hS.n, hS.a, hS.g, hT, and_self, if_true, aor hT, List.set_set, List.length_set, Int.reduceEq, if_false, hv]
  have hp' : ¬ ((aab e.recs (aaJ st)).pc < 0 ∨ ((e.prog (aab e.recs (aaJ st))).length : Int) ≤ (aab e.recs (aaJ st)).pc) := hp
  have hk' : (aab e.recs (aaJ st)).kids.length ≤ 999999999 := hk
  show _ = some ((false, ()), ((⟨o, w, st, 5, .publish ⟨o0, v, (ab9 (e.prog (aab e.recs (aaJ st))) (aab e.recs (aaJ st)).pc).b, 1⟩, v, ch, (ab9 (e.prog (aab e.recs (aaJ st))) (aab e.recs (aaJ st)).pc).b, wt⟩ : RunV MV), ({ e with recs := (e.recs.set (aaJ st).toNat { aab e.recs (aaJ st) with pc := wi ((aab e.recs (aaJ st)).pc + 1), kids := (aab e.recs (aaJ st)).kids ++ [v] }).set v.toNat ⟨(ab9 (e.prog (aab e.recs (aaJ st))) (aab e.recs (aaJ st)).pc).a, aaJ st, 0, 0, -1, [], false⟩ } : EnvP), ()))
  generalize aab e.recs (aaJ st) = r at hp' hk' ⊢
  by_cases h1 : r.prog < 0
  · rw [afr (.inl h1)] at hp'; simp only [List.length_nil] at hp'; omega
  by_cases h2 : (e.c.progs.length : Int) ≤ r.prog
  · rw [afr (.inr h2)] at hp'; simp only [List.length_nil] at hp'; omega
  rw [ao1 h1 h2] at hp' ⊢
  rw [if_neg h1, if_neg h2, if_pos (show 0 ≤ r.prog ∧ r.prog < (e.c.progs.length : Int) by omega), if_pos (show 0 ≤ r.pc ∧ r.pc < ((atL [] e.c.progs r.prog).length : Int) by omega), if_pos (show (((r.kids.length + ([v] : List Int).length : Nat)) : Int) < 1000000000000 by rw [List.length_singleton]; omega)]
  rw [ai5, bnd, aac, bnd]
theorem aGz (hS : SOk st) (hT : 0 ≤ aaJ st ∧ aaJ st < (e.recs.length : Int)) (hp : ¬ ((e.rc (aaJ st)).pc < 0 ∨ ((e.prog (e.rc (aaJ st))).length : Int) ≤ (e.rc (aaJ st)).pc)) (ha : ¬ ((ab9 (e.prog (e.rc (aaJ st))) (e.rc (aaJ st)).pc).a < 0 ∨ ((e.rc (aaJ st)).kids.length : Int) ≤ (ab9 (e.prog (e.rc (aaJ st))) (e.rc (aaJ st)).pc).a)) :
    aaF ⟨o, w, st, 9, m, id, ch, lv, wt⟩ e = some ((false, ()), (⟨o, w, st, 10, .nil, id, afP (e.rc (aaJ st)).kids (ab9 (e.prog (e.rc (aaJ st))) (e.rc (aaJ st)).pc).a, lv, wt⟩, (e.pt 2 (af2 e.l (aaJ st)) (wu (wi (afP (e.rc (aaJ st)).kids (ab9 (e.prog (e.rc (aaJ st))) (e.rc (aaJ st)).pc).a + 1)))).pr (aaJ st) { e.rc (aaJ st) with pc := wi ((e.rc (aaJ st)).pc + 1), waiting := afP (e.rc (aaJ st)).kids (ab9 (e.prog (e.rc (aaJ st))) (e.rc (aaJ st)).pc).a }, ())) := by
  unfold aaF
  try unfold tpI
  try unfold tlI
  simp only [hS.n, hS.a, hS.g, hT, and_self, if_true, asO hT, aor hT, List.set_set, List.length_set]
  have hp' : ¬ ((aab e.recs (aaJ st)).pc < 0 ∨ ((e.prog (aab e.recs (aaJ st))).length : Int) ≤ (aab e.recs (aaJ st)).pc) := hp
  have ha' : ¬ ((ab9 (e.prog (aab e.recs (aaJ st))) (aab e.recs (aaJ st)).pc).a < 0 ∨ ((aab e.recs (aaJ st)).kids.length : Int) ≤ (ab9 (e.prog (aab e.recs (aaJ st))) (aab e.recs (aaJ st)).pc).a) := ha
  show _ = some ((false, ()), ((⟨o, w, st, 10, .nil, id, afP (aab e.recs (aaJ st)).kids (ab9 (e.prog (aab e.recs (aaJ st))) (aab e.recs (aaJ st)).pc).a, lv, wt⟩ : RunV MV), EnvP.pr (e.pt 2 (af2 e.l (aaJ st)) (wu (wi (afP (aab e.recs (aaJ st)).kids (ab9 (e.prog (aab e.recs (aaJ st))) (aab e.recs (aaJ st)).pc).a + 1)))) (aaJ st) { aab e.recs (aaJ st) with pc := wi ((aab e.recs (aaJ st)).pc + 1), waiting := afP (aab e.recs (aaJ st)).kids (ab9 (e.prog (aab e.recs (aaJ st))) (aab e.recs (aaJ st)).pc).a }, ()))
  generalize aab e.recs (aaJ st) = r at hp' ha' ⊢
  by_cases h1 : r.prog < 0
  · rw [afr (.inl h1)] at hp'; simp only [List.length_nil] at hp'; omega
  by_cases h2 : (e.c.progs.length : Int) ≤ r.prog
  · rw [afr (.inr h2)] at hp'; simp only [List.length_nil] at hp'; omega
  rw [ao1 h1 h2] at hp' ha' ⊢
  rw [if_neg h1, if_neg h2, if_pos (show 0 ≤ r.prog ∧ r.prog < (e.c.progs.length : Int) by omega), if_pos (show 0 ≤ r.pc ∧ r.pc < ((atL [] e.c.progs r.prog).length : Int) by omega), if_pos (show 0 ≤ (ab9 (atL [] e.c.progs r.prog) r.pc).a ∧ (ab9 (atL [] e.c.progs r.prog) r.pc).a < (r.kids.length : Int) by omega)]
  rw [alG, bnd, abo, bnd, aac, bnd]
  rfl
theorem avg {α β : Type} {X : Option ((Bool × Unit) × (α × β × Unit))} : (X.bind fun r => some ((r.1.1, ()), (r.2.1, r.2.2.1, ()))) = X := by cases X <;> rfl
theorem aqZ (hS : SOk st) (hT : IsT e (aaJ st)) (hc : e.c.tasks = (e.recs.length : Int)) (X : Option ((Bool × Unit) × (RunV MV × EnvP × Unit))) (a b c : Option ((Bool × Unit) × (RunV MV × EnvP × Unit))) :
    (if aaJ st < 0 then a else if e.c.tasks ≤ aaJ st then b else if (e.recs.length : Int) ≤ aaJ st then c else X) = X := by
  have h1 := hT.1
  have h2 := hT.2
  rw [if_neg (by omega), if_neg (by omega), if_neg (by omega)]
theorem alx (hS : SOk st) (hT : IsT e (aaJ st)) (hc : e.c.tasks = (e.recs.length : Int)) (h : 4 ≤ ln ∧ ln ≤ 8) : abi ⟨o0, w, st, ln, m, id, ch, lv, wt⟩ e = abf ⟨o0, w, st, ln, m, id, ch, lv, wt⟩ e := by
  unfold abi
  try unfold tpI
  try unfold tlI
  simp only [aau, aba, o0, bnd, hS.n, hS.a, hS.g, if_true, Bool.false_eq_true, if_false, avg, aqZ hS hT hc]
  rw [if_neg (by omega), if_neg (by omega), if_neg (by omega), if_neg (by omega), if_pos h.1, if_pos h.2]
theorem ajW (hS : SOk st) (hT : IsT e (aaJ st)) (hc : e.c.tasks = (e.recs.length : Int)) (h : 9 ≤ ln ∧ ln ≤ 15) : abi ⟨o0, w, st, ln, m, id, ch, lv, wt⟩ e = aaF ⟨o0, w, st, ln, m, id, ch, lv, wt⟩ e := by
  unfold abi
  try unfold tpI
  try unfold tlI
  simp only [aau, aba, o0, bnd, hS.n, hS.a, hS.g, if_true, Bool.false_eq_true, if_false, avg, aqZ hS hT hc]
  rw [if_neg (by omega), if_neg (by omega), if_neg (by omega), if_neg (by omega), if_pos (show 4 ≤ ln by omega), if_neg (by omega), if_pos h.1, if_pos h.2]
theorem ahz (hS : SOk st) (hT : IsT e (aaJ st)) (hc : e.c.tasks = (e.recs.length : Int)) (h : 16 ≤ ln) : abi ⟨o0, w, st, ln, m, id, ch, lv, wt⟩ e = aap ⟨o0, w, st, ln, m, id, ch, lv, wt⟩ e := by
  unfold abi
  try unfold tpI
  try unfold tlI
  simp only [aau, aba, o0, bnd, hS.n, hS.a, hS.g, if_true, Bool.false_eq_true, if_false, avg, aqZ hS hT hc]
  rw [if_neg (by omega), if_neg (by omega), if_neg (by omega), if_neg (by omega), if_pos (show 4 ≤ ln by omega), if_neg (by omega), if_pos (show 9 ≤ ln by omega), if_neg (by omega)]
theorem az1 (hS : SOk st) (hT : IsT e (aaJ st)) (hc : e.c.tasks = (e.recs.length : Int)) {c : Int} (h : afj (e.rc (aaJ st)) (e.prog (e.rc (aaJ st))) = c) (hR : 0 ≤ aaJ st ∧ aaJ st < (e.recs.length : Int)) :
    abi ⟨o0, w, st, 0, m, id, ch, lv, wt⟩ e = if c = 4 then abf ⟨o0, w, st, 4, .alloc ⟨o0⟩, id, ch, lv, wt⟩ e else if c = 1 ∨ c = 2 ∨ c = 3 then aaA ⟨o0, w, st, c, m, id, ch, lv, wt⟩ e else if c = 9 then aaF ⟨o0, w, st, c, m, id, ch, lv, wt⟩ e else aap ⟨o0, w, st, c, m, id, ch, lv, wt⟩ e := by
  have hch := ayU (x := ⟨⟨false, 0, 0⟩, w, st, 0, m, id, ch, lv, wt⟩) hS hR
  simp only [h] at hch
  have hv : c = 1 ∨ c = 16 ∨ c = 2 ∨ c = 4 ∨ c = 3 ∨ c = 9 := by
    rw [← h]
    unfold afj
    repeat' split
    all_goals simp
  unfold abi
  try unfold tpI
  try unfold tlI
  simp only [aau, aba, o0, bnd, hS.n, hS.a, hS.g, if_true, Bool.false_eq_true, if_false, avg, aqZ hS hT hc, hch, aeJ]
  rcases hv with rfl | rfl | rfl | rfl | rfl | rfl <;> simp only [Int.reduceEq, Int.reduceLE, if_true, if_false, or_self, or_true, true_or, false_or, or_false]
end
end
end Go.Proofs.YteapeojalliebaaGreat
