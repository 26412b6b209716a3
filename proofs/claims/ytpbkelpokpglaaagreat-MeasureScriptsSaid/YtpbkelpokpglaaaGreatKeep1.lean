/- Walks: small functions of the references (Draw) and of the statements' helpers (Short, Number). -/
import Derived.Test.YtpbkelpokpglaaaGreatRows
import Derived.Test.YtpbkelpokpglaaaGreatBase
set_option linter.all false
namespace Go.Proofs.YtpbkelpokpglaaaGreat
open Go.RowKit
/-- Element i, 0 behind the end. -/
def ati (xs : List Int) (i : Nat) : Int := xs.getD i 0
theorem ati_get {xs : List Int} {i : Nat} (h : i < xs.length) : ati xs i = xs[i] := by simp [ati, List.getD, h]
theorem int_cell {w : World} {B : Nat} {A : Option Addr} {xs : List Int} (h : Sl encInt 1 w B A xs) {i : Nat} (hi : i < xs.length) : ∃ b o, A = some ⟨b, o, none⟩ ∧ b < B ∧
    ∀ (k : Nat), k < xs.length → w.cell? ⟨b, o + k, none⟩ = some (.int .i64 (ati xs k)) := by
  obtain ⟨b, o, e, hb, hc⟩ := h.at_ hi
  refine ⟨b, o, e, hb, fun k hk => ?_⟩
  rw [ati_get hk]
  have h := hc k hk 0 _ rfl
  rw [Nat.mul_one] at h
  exact h
def encSl (x : Option Addr × Nat × Nat) : List Value := [.slice x.1 x.2.1 x.2.2]
def shortB (n : Nat) (ls : List (Option Addr × Nat × Nat)) : Bool := ls.all (fun x => decide (x.2.1 ≤ 400)) && decide (n ≤ 400)
def ShortInv (ls : List (Option Addr × Nat × Nat)) (k : Nat) : Prop := (ls.take k).all (fun x => decide (x.2.1 ≤ 400)) = true
set_option maxHeartbeats 1000000 in
theorem short_any (A A' : Option Addr) (n cap cap' : Nat) (ls : List (Option Addr × Nat × Nat)) (w : World) (hl : Sl encSl 1 w w.heap.size A' ls) (hlen : ∀ x ∈ ls, x.2.1 ≤ 9223372036854775807) (hn : n ≤ 9223372036854775807) :
    Calls Tryz.prog 7 #[.slice A n cap, .slice A' ls.length cap'] w fun e w' => e = .returned (.bool (shortB n ls)) ∧ w = w' := by
  have hln := hl.len
  go_enter Tryz.func7, Tryz.ntmps7
  go_wp2
  go_loop [5] (fun i => ∃ k : Nat, k ≤ ls.length ∧ i = .int .i64 k ∧ ShortInv ls k) (fun i => ls.length - (intOf i).toNat)
  case atStart => exact ⟨0, Nat.zero_le _, rfl, by simp [ShortInv]⟩
  case round =>
    obtain ⟨k, hk, rfl, hi⟩ := hrel
    by_cases hlt : k < ls.length
    · obtain ⟨b, o, rfl, hbb, hcc⟩ := hl.at_ hlt
      have c0 : w.cell? ⟨b, o + k, none⟩ = some (.slice ls[k].1 ls[k].2.1 ls[k].2.2) := by
        have h := hcc k hlt 0 _ rfl
        rw [Nat.mul_one] at h
        exact h
      have hll := hlen _ (List.getElem_mem hlt)
      by_cases hg : 400 < ls[k].2.1
      · have hres : Hid (shortB n ls = false) := by
          show shortB n ls = false
          unfold shortB
          have : ls.all (fun x => decide (x.2.1 ≤ 400)) = false := by rw [List.all_eq_false]; exact ⟨_, List.getElem_mem hlt, by simp; omega⟩
          rw [this]; rfl
        go_wp2
        go_ret
        exact ⟨ret_bool hres.out.symm, rfl⟩
      · go_wp2
        go_round
        case rel => exact ⟨k + 1, by omega, by go_num, by
          have hi' : (ls.take k).all (fun x => decide (x.2.1 ≤ 400)) = true := hi
          show (ls.take (k + 1)).all _ = true
          rw [List.take_succ_eq_append_getElem hlt, List.all_append, hi']; simp; omega⟩
        case measure => simp [intOf] <;> omega
    · have hres : Hid (shortB n ls = decide (n ≤ 400)) := by
        have hi' : (ls.take k).all (fun x => decide (x.2.1 ≤ 400)) = true := hi
        rw [List.take_of_length_le (by omega)] at hi'
        show shortB n ls = _
        unfold shortB; rw [hi']; rfl
      go_wp2
      go_ret
      exact ⟨ret_bool (by rw [hres.out]; simp only [decide_eq_decide]; omega), rfl⟩
end Go.Proofs.YtpbkelpokpglaaaGreat
