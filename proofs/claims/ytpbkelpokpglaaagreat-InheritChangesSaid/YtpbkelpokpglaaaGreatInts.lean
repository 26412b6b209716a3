/- Walk: two lists of numbers are compared. -/
import Derived.Test.YtpbkelpokpglaaaGreatKeep1
set_option linter.all false
namespace Go.Proofs.YtpbkelpokpglaaaGreat
open Go.RowKit
/-! ### Two lists of numbers -/
def eqTo (xs ys : List Int) (k : Nat) : Prop := ∀ i, i < k → ati xs i = ati ys i
theorem eqTo_all {xs ys : List Int} (hl : xs.length = ys.length) (h : eqTo xs ys xs.length) : xs = ys := by
  apply List.ext_getElem hl
  intro i h1 h2
  have := h i h1
  rwa [ati_get h1, ati_get h2] at this
theorem eqTo_ne {xs ys : List Int} {k : Nat} (h : ¬ ati xs k = ati ys k) : xs ≠ ys := by
  rintro rfl; exact h rfl
theorem eqTo_next {xs ys : List Int} {k : Nat} (h : eqTo xs ys k) (hx : ati xs k = ati ys k) : eqTo xs ys (k + 1) := fun i hi => by
  by_cases e : i = k
  · subst e; exact hx
  · exact h i (by omega)
set_option maxHeartbeats 2000000 in
theorem ints_any (A A' : Option Addr) (cap cap' : Nat) (xs ys : List Int) (w : World) (hx : Sl encInt 1 w w.heap.size A xs) (hy : Sl encInt 1 w w.heap.size A' ys) :
    Calls Tryz.prog 33 #[.slice A xs.length cap, .slice A' ys.length cap'] w fun e w' => e = .returned (.bool (decide (xs = ys))) ∧ Below w.heap.size w w' := by
  have hlx := hx.len
  have hly := hy.len
  by_cases hl : xs.length = ys.length
  · have t1 : ((xs.length : Int) != (ys.length : Int)) = false := by simp; omega
    have Hl := Lib.hid hl
    go_enter Tryz.func33, Tryz.ntmps33
    clear hl
    go_wp2
    go_loopw [5] (fun i wr => ∃ k : Nat, k ≤ xs.length ∧ i = .int .i64 k ∧ eqTo xs ys k ∧ Below w.heap.size w wr) (fun i _ => xs.length - (intOf i).toNat)
    case atStart => exact ⟨0, Nat.zero_le _, rfl, fun i hi => absurd hi (by omega), Below.refl _ _⟩
    case round =>
      obtain ⟨k, hk, rfl, he, hb⟩ := hrel
      obtain ⟨hcs, hfz⟩ := bcell hb
      by_cases hlt : k < xs.length
      · have hlt2 : k < ys.length := by have := Hl.out; omega
        obtain ⟨b, o, rfl, hbb, hcc⟩ := int_cell hx hlt
        obtain ⟨b2, o2, rfl, hbb2, hcc2⟩ := int_cell hy hlt2
        have c0 := hcc k hlt
        have c1 := hcc2 k hlt2
        by_cases hxy : ati xs k = ati ys k
        · have t2 : (ati xs k != ati ys k) = false := by simp [hxy]
          have hn := eqTo_next he hxy
          clear hxy
          go_wp2
          go_quiet (fail)
          go_wp2
          go_roundw
          case rel => exact ⟨k + 1, by omega, by go_num, hn, below_drewN hb _⟩
          case measure => simp [intOf] <;> omega
        · have t2 : (ati xs k != ati ys k) = true := by simpa using hxy
          have hn := Lib.hid (eqTo_ne hxy)
          clear hxy
          go_wp2
          go_quiet (fail)
          go_wp2
          go_ret
          exact ⟨ret_bool (by simp [hn.out]), below_drewN hb _⟩
      · have e : k = xs.length := by omega
        subst e
        have hn := Lib.hid (eqTo_all Hl.out he)
        go_wp2
        go_ret
        exact ⟨ret_bool (by simp [hn.out]), hb⟩
  · have t1 : ((xs.length : Int) != (ys.length : Int)) = true := by simp; omega
    have hn : Hid (xs ≠ ys) := fun e => hl (by rw [e])
    clear hl
    go_enter Tryz.func33, Tryz.ntmps33
    go_wp2
    go_ret
    exact ⟨ret_bool (by simp [hn.out]), Below.refl _ _⟩
end Go.Proofs.YtpbkelpokpglaaaGreat
