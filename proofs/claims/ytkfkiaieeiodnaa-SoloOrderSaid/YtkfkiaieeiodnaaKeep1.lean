/- Walks: small functions of the references (Draw) and of the statements' helpers (Short, Number). -/
import Derived.Test.YtkfkiaieeiodnaaRows
import Derived.Test.YtkfkiaieeiodnaaBase
namespace Go.Proofs.Ytkfkiaieeiodnaa
open Go.RowKit

/-- Element i, 0 behind the end. -/
def ati (xs : List Int) (i : Nat) : Int := xs.getD i 0
theorem ati_get {xs : List Int} {i : Nat} (h : i < xs.length) : ati xs i = xs[i] := by simp [ati, List.getD, h]
theorem int_cell {w : World} {B : Nat} {A : Option Addr} {xs : List Int} (h : Sl encInt 1 w B A xs) {i : Nat} (hi : i < xs.length) : ∃ b o, A = some ⟨b, o, none⟩ ∧ b < B ∧
    ∀ (k : Nat), k < xs.length → w.cell? ⟨b, o + k, none⟩ = some (.int .i64 (ati xs k)) := by
  obtain ⟨b, o, e, hb, hc⟩ := h.at_ hi
  refine ⟨b, o, e, hb, fun k hk => ?_⟩
  rw [ati_get hk]
  have h := hc k hk 0 _ rfl
  rw [Nat.mul_one] at h
  exact h
/-- Every element fits an int. -/
def IntsWf (xs : List Int) : Prop := ∀ i, -9223372036854775808 ≤ ati xs i ∧ ati xs i ≤ 9223372036854775807

def drawM (d n : Int) : Int := if n < 1 then 0 else d % n
theorem drawM_rng {d n : Int} (h : 1 ≤ n) : 0 ≤ drawM d n ∧ drawM d n < n := by
  unfold drawM; rw [if_neg (by omega)]; exact ⟨Int.emod_nonneg _ (by omega), Int.emod_lt_of_pos _ (by omega)⟩

theorem emod_of {d n q r : Int} (hd : d = n * q + r) (h0 : 0 ≤ r) (h1 : r < n) : d % n = r := by
  rw [hd, Int.add_comm, Int.add_mul_emod_self_left]; exact Int.emod_eq_of_lt h0 h1

set_option maxHeartbeats 1000000 in
theorem draw_any (d n : Int) (w : World) (hn2 : n ≤ 9223372036854775807) :
    Calls Try.prog 35 #[.int .i64 d, .int .i64 n] w fun e w' => e = .returned (.int .i64 (drawM d n)) ∧ w = w' := by
  by_cases hn : n < 1
  · have hf : Hid (drawM d n = 0) := by unfold drawM; exact if_pos hn
    go_enter Try.func35, Try.ntmps35
    go_wp2
    go_ret
    exact ⟨ret_int hf.out.symm, rfl⟩
  · have hp : 0 < n := by omega
    have hm := Int.tmod_lt_of_pos d hp
    have hm2 : -n < d.tmod n := by
      have := Int.tmod_lt_of_pos (-d) hp
      rw [Int.neg_tmod] at this; omega
    have hd := Int.mul_tdiv_add_tmod d n
    by_cases hneg : d.tmod n < 0
    · have hf : Hid (drawM d n = d.tmod n + n) := by
        show drawM d n = _
        unfold drawM; rw [if_neg hn]
        exact emod_of (q := d.tdiv n - 1) (by rw [Int.mul_sub]; omega) (by omega) (by omega)
      clear hd
      go_enter Try.func35, Try.ntmps35
      go_wp2
      go_ret
      exact ⟨ret_int hf.out.symm, rfl⟩
    · have hf : Hid (drawM d n = d.tmod n) := by
        show drawM d n = _
        unfold drawM; rw [if_neg hn]
        exact emod_of (q := d.tdiv n) (by omega) (by omega) (by omega)
      clear hd
      go_enter Try.func35, Try.ntmps35
      go_wp2
      go_ret
      exact ⟨ret_int hf.out.symm, rfl⟩

end Go.Proofs.Ytkfkiaieeiodnaa
