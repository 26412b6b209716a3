/- Decode's number: the coder reads the next byte. -/
import Derived.Test.YtpbkelpokpglaaaGreatKeep1
set_option linter.all false
namespace Go.Proofs.YtpbkelpokpglaaaGreat
open Go.RowKit
def byt (bs : List Nat) (i : Nat) : Nat := bs.getD i 0
theorem byt_get {bs : List Nat} {i : Nat} (h : i < bs.length) : byt bs i = bs[i] := by simp [byt, List.getD, h]
def BytesWf (bs : List Nat) : Prop := ∀ i, byt bs i ≤ 255
theorem byt_cell {w : World} {B : Nat} {A : Option Addr} {bs : List Nat} (h : Sl encByte 1 w B A bs) {i : Nat} (hi : i < bs.length) : ∃ b o, A = some ⟨b, o, none⟩ ∧ b < B ∧
    w.cell? ⟨b, o + i, none⟩ = some (.int .u8 (byt bs i : Nat)) := by
  obtain ⟨b, o, e, hb, hc⟩ := h.at_ hi
  refine ⟨b, o, e, hb, ?_⟩
  rw [byt_get hi]
  have h := hc i hi 0 _ rfl
  rw [Nat.mul_one] at h
  exact h
/-- The byte at a place modulo k, 0 behind the end. -/
def rd (bs : List Nat) (at_ : Nat) (k : Int) : Int := if at_ < bs.length then (byt bs at_ : Int) % k else 0
theorem rd_rng {bs : List Nat} {at_ : Nat} {k : Int} (h : 1 ≤ k) : 0 ≤ rd bs at_ k ∧ rd bs at_ k < k := by
  unfold rd; split
  · exact ⟨Int.emod_nonneg _ (by omega), Int.emod_lt_of_pos _ (by omega)⟩
  · omega
/-- The cells of a coder. -/
@[reducible] def cdr (A : Option Addr) (n cap at_ : Nat) : Array Value := #[.slice A n cap, .slice none 0 0, .int .i64 (at_ : Int), .bool false]
theorem drewN_setCell_grown (w : World) (n : Nat) (r i : Nat) (u : Value) : w.grownBy ((w.drewN n).setCell ⟨r, i, none⟩ u) (some r) :=
  ⟨rfl, rfl, rfl, by simp [World.setCell, World.drewN], fun k _ hne => Below.heap_setCell (w.drewN n) ⟨r, i, none⟩ u k (fun e => hne (by rw [e]))⟩
theorem Blk.drewN {w : World} {g : Nat} {t : TypeId} {cs : Array Value} (h : Blk w g t cs) (n : Nat) : Blk (w.drewN n) g t cs := h
set_option maxHeartbeats 1000000 in
theorem coder_any (A : Option Addr) (cap : Nat) (bs : List Nat) (r at_ : Nat) (k : Int) (w : World) (B : Nat) (hr : Blk w r 108 (cdr A bs.length cap at_)) (hx : Sl encByte 1 w B A bs) (hwf : BytesWf bs) (hat : at_ ≤ 4096) (hk1 : 1 ≤ k) (hk2 : k ≤ 9223372036854775807) :
    Calls Tryz.prog 54 #[.pointer (some ⟨r, 0, none⟩), .int .i64 k] w fun e w' => e = .returned (.int .i64 (rd bs at_ k)) ∧ w.grownBy w' (some r) ∧ Blk w' r 108 (cdr A bs.length cap (at_ + 1)) := by
  have hlx := hx.len
  have hc0 := hr.cell 0
  have hc2 := hr.cell 2
  have hf := hr.frozen
  by_cases hlt : at_ < bs.length
  · have hf2 : Hid (rd bs at_ k = (byt bs at_ : Int) % k) := if_pos hlt
    obtain ⟨b, o, rfl, hbb, hcc⟩ := byt_cell hx hlt
    have hby := hwf at_
    go_enter Tryz.func54, Tryz.ntmps54
    go_wp2
    go_quiet (fail)
    go_wp2
    go_quiet (fail)
    go_wp2
    go_ret
    exact ⟨ret_int (by rw [hf2.out]), drewN_setCell_grown _ _ _ _ _, hr.drewN _ |>.set_ _ _⟩
  · have hf2 : Hid (rd bs at_ k = 0) := if_neg hlt
    go_enter Tryz.func54, Tryz.ntmps54
    go_wp2
    go_quiet (fail)
    go_wp2
    go_ret
    exact ⟨ret_int (by rw [hf2.out]), drewN_setCell_grown _ _ _ _ _, hr.drewN _ |>.set_ _ _⟩
end Go.Proofs.YtpbkelpokpglaaaGreat
