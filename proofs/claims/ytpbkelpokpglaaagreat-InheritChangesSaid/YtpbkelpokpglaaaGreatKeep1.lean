/- Walks: small functions of the references (Draw) and of the statements' helpers (Short, Number). -/
import Derived.Test.YtpbkelpokpglaaaGreatRows
import Derived.Test.YtpbkelpokpglaaaGreatBase
set_option linter.all false
namespace Go.Proofs.YtpbkelpokpglaaaGreat
open Go.RowKit
/-- Element i, 0 behind the end. -/
def ati (xs : List Int) (i : Nat) : Int := xs.getD i 0
theorem ati_get {xs : List Int} {i : Nat} (h : i < xs.length) : ati xs i = xs[i] := by simp [ati, List.getD, h]
theorem int_cell {w : World} {B : Nat} {A : Option Addr} {xs : List Int} (h : Sl encInt 1 w B A xs) {i : Nat} (hi : i < xs.length) : ∃ b o, A = some ⟨b, o, none⟩ ∧ b < B ∧
    ∀ (k : Nat), k < xs.length → w.cell? ⟨b, o + k, none⟩ = some (.int .i64 (ati xs k)) := by
  obtain ⟨b, o, e, hb, hc⟩ := h.at_ hi
  refine ⟨b, o, e, hb, fun k hk => ?_⟩
  rw [ati_get hk]
  have h := hc k hk 0 _ rfl
  rw [Nat.mul_one] at h
  exact h
end Go.Proofs.YtpbkelpokpglaaaGreat
