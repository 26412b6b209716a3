/- Walks by program: words, sizes, powers, the remainder. -/
import Derived.Test.YtkfkiaieeiodnaaSo2
namespace Go.Proofs.Ytkfkiaieeiodnaa
open Go Go.RowKit
theorem and_mask {a : Int} (h0 : 0 ≤ a) (h1 : a ≤ 18446744073709551615) (k : Nat) (hk : k ≤ 63) : IntKind.u64.wrap (BitVec.ofInt IntKind.u64.bits a &&& BitVec.ofInt IntKind.u64.bits ((2 ^ k - 1 : Nat) : Int)).toNat = a % ((2 ^ k : Nat) : Int) := by
  obtain ⟨m, rfl⟩ := Int.eq_ofNat_of_zero_le h0
  have hk2 : (2 : Nat) ^ k ≤ 2 ^ 63 := Nat.pow_le_pow_right (by omega) hk
  have e : (BitVec.ofInt IntKind.u64.bits (m : Int) &&& BitVec.ofInt IntKind.u64.bits ((2 ^ k - 1 : Nat) : Int)).toNat = m % 2 ^ k := by
    rw [BitVec.toNat_and]
    simp only [IntKind.bits, BitVec.toNat_ofInt]
    rw [show ((m : Int) % ((2 ^ 64 : Nat) : Int)).toNat = m by omega, show (((2 ^ k - 1 : Nat) : Int) % ((2 ^ 64 : Nat) : Int)).toNat = 2 ^ k - 1 by omega]
    exact Nat.and_two_pow_sub_one_eq_mod m k
  rw [e]
  have : m % 2 ^ k < 2 ^ k := Nat.mod_lt _ (Nat.two_pow_pos k)
  rw [wu64 (by omega) (by omega)]
  omega
theorem shr_u {a b : Int} (h0 : 0 ≤ a) (k : Nat) (hk : min b.toNat IntKind.u64.bits = k) : a.fdiv (2 ^ min b.toNat IntKind.u64.bits) = a / ((2 ^ k : Nat) : Int) := by
  rw [hk, Int.fdiv_eq_ediv_of_nonneg _ (by exact Int.pow_nonneg (by omega))]
  simp
theorem shr_n {a b N : Int} (h0 : 0 ≤ a) (k : Nat) (hk : min b.toNat IntKind.u64.bits = k) (hN : ((2 ^ k : Nat) : Int) = N) : a.fdiv (2 ^ min b.toNat IntKind.u64.bits) = a / N := by
  rw [shr_u h0 k hk, hN]
theorem pow_u64 {k : Nat} (h : k < 63) : IntKind.u64.wrap (((2 ^ k : Nat) : Int) * 2) = ((2 ^ (k + 1) : Nat) : Int) := by
  have : (2 : Nat) ^ (k + 1) ≤ 2 ^ 63 := Nat.pow_le_pow_right (by omega) (by omega)
  have e : (2 : Nat) ^ (k + 1) = 2 ^ k * 2 := Nat.pow_succ ..
  rw [wu64 (by omega) (by omega)]
  omega
theorem shl_u {k : Nat} (h : k ≤ 63) : IntKind.u64.wrap (1 * 2 ^ min ((k : Int).toNat) IntKind.u64.bits) = ((2 ^ k : Nat) : Int) := by
  have h1 : min ((k : Int).toNat) IntKind.u64.bits = k := by
    show min ((k : Int).toNat) 64 = k
    rw [Int.toNat_natCast]; exact Nat.min_eq_left (by omega)
  have h2 : (2 : Nat) ^ k ≤ 2 ^ 63 := Nat.pow_le_pow_right (by omega) h
  rw [h1, Int.one_mul]
  have e : ((2 : Int) ^ k) = ((2 ^ k : Nat) : Int) := by simp
  rw [e]
  generalize 2 ^ k = q at *
  exact wu64 (by omega) (by omega)
theorem tmod_bd (d n : Int) (h : 0 < n) : -n < d.tmod n ∧ d.tmod n < n := by
  have hm2 := Int.tmod_lt_of_pos (-d) h
  rw [Int.neg_tmod] at hm2
  exact ⟨by omega, Int.tmod_lt_of_pos d h⟩
theorem drawM_small {d n : Int} (h : n < 1) : drawM d n = 0 := by unfold drawM; exact if_pos h
theorem drawM_neg {d n : Int} (h : ¬ n < 1) (h2 : d.tmod n < 0) : drawM d n = d.tmod n + n := by
  have hb := tmod_bd d n (by omega)
  have hd := Int.mul_tdiv_add_tmod d n
  unfold drawM; rw [if_neg h]
  exact emod_of (q := d.tdiv n - 1) (by rw [Int.mul_sub]; omega) (by omega) (by omega)
theorem drawM_pos {d n : Int} (h : ¬ n < 1) (h2 : ¬ d.tmod n < 0) : drawM d n = d.tmod n := by
  have hb := tmod_bd d n (by omega)
  have hd := Int.mul_tdiv_add_tmod d n
  unfold drawM; rw [if_neg h]
  exact emod_of (q := d.tdiv n) (by omega) (by omega) (by omega)

set_option maxRecDepth 100000 in
theorem unpack_spec (k : Int) (h0 : 0 ≤ k) (h1 : k ≤ 18446744073709551615) (B : Nat) (W : World) (L : List SProp) : Pure Try.prog 46 #[.int .u64 k] B W L (.tuple #[.int .i64 (k / 1099511627776), .int .i64 (k / 65536 % 16777216), .int .i64 (k % 65536)]) := by
  refine pure_enter Try.func46 rfl (m := 15) rfl (Nat.le_of_ble_eq_true rfl) (R := [(0, .int .u64 k)]) (by kernel_rfl) ?_
  refine ct_seq ?_
  refine ct_region ?_
  refine rt_q (op_assign .const).q wants_none (put_new (by kernel_rfl)) ?_
  refine rt_q (op_assign .const).q wants_none (put_new (by kernel_rfl)) ?_
  refine rt_q (op_assign .const).q wants_none (put_new (by kernel_rfl)) ?_
  refine rt_nil ?_
  refine et_then ?_
  refine ct_seq ?_
  refine ct_region ?_
  refine rt_q (op_move (.tmp mem3)).q wants_none (put_new (by kernel_rfl)) ?_
  refine rt_q (op_shr (.tmp mem0) .const (by omega) (shr_n (by omega) 40 rfl (by kernel_rfl : _ = (1099511627776 : Int)))).q wants_none (put_new (by kernel_rfl)) ?_
  refine rt_q (op_conv (.tmp mem0) Try.underlying33 Try.underlying3 (w64 (by omega) (by omega))).q wants_none (put_new (by kernel_rfl)) ?_
  refine rt_q (op_move (.tmp mem6)).q wants_none (put_new (by kernel_rfl)) ?_
  refine rt_q (op_shr (.tmp mem0) .const (by omega) (shr_n (by omega) 16 rfl (by kernel_rfl : _ = (65536 : Int)))).q wants_none (put_new (by kernel_rfl)) ?_
  refine rt_q (op_and (.tmp mem0) .const (and_mask (by omega) (by omega) 24 (by omega))).q wants_none (put_new (by kernel_rfl)) ?_
  refine rt_q (op_conv (.tmp mem0) Try.underlying33 Try.underlying3 (w64 (by omega) (by omega))).q wants_none (put_new (by kernel_rfl)) ?_
  refine rt_q (op_move (.tmp mem10)).q wants_none (put_new (by kernel_rfl)) ?_
  refine rt_q (op_and (.tmp mem0) .const (and_mask (by omega) (by omega) 16 (by omega))).q wants_none (put_new (by kernel_rfl)) ?_
  refine rt_q (op_conv (.tmp mem0) Try.underlying33 Try.underlying3 (w64 (by omega) (by omega))).q wants_none (put_new (by kernel_rfl)) ?_
  refine rt_q (op_assign (.tmp mem7)).q wants_none (put_over pick12 (by kernel_rfl)) ?_
  refine rt_q (op_assign (.tmp mem4)).q wants_none (put_over pick12 (by kernel_rfl)) ?_
  refine rt_q (op_assign (.tmp mem2)).q wants_none (put_over pick12 (by kernel_rfl)) ?_
  refine rt_nil ?_
  refine et_then ?_
  refine ct_ret ?_
  exact et_ret rfl (.cons mem2 (.cons mem1 (.cons mem0 .nil))) (by rfl) Ent.refl

set_option maxRecDepth 100000 in
theorem power_spec (i : Nat) (hi : i ≤ 63) (B : Nat) (W : World) (L : List SProp) : Pure Try.prog 71 #[.int .i64 ((i : Int))] B W L (.int .u64 ((2 ^ i : Nat) : Int)) := by
  refine pure_enter Try.func71 rfl (m := 11) rfl (Nat.le_of_ble_eq_true rfl) (R := [(0, .int .i64 ((i : Int)))]) (by kernel_rfl) ?_
  refine ct_seq ?_
  refine ct_region ?_
  refine rt_q (op_assign .const).q wants_none (put_new (by kernel_rfl)) ?_
  refine rt_nil ?_
  refine et_then ?_
  refine ct_seq ?_
  refine ct_region ?_
  refine rt_q (op_assign .const).q wants_none (put_new (by kernel_rfl)) ?_
  refine rt_nil ?_
  refine et_then ?_
  refine ct_seq ?_
  refine ct_block ?_
  refine ct_loop (X := Nat) (fun k => i - k) (fun k => k ≤ i) (fun k => [(3, .int .u64 (((2 ^ k : Nat) : Int))), (2, .int .u64 0), (0, .int .i64 (((i : Int) - (k : Int))))]) (fun k => L) 0 (by omega) (.cons mem0 (congrArg (Value.int .u64) (by first | rfl | omega | (simp; omega) | simp)) (.cons mem1 rfl (.cons mem2 (congrArg (Value.int .i64) (by first | rfl | omega | (simp; omega) | simp)) .nil))) (Ent.refl) (fun k hi1 => ?_)
  refine ct_seq ?_
  refine ct_seq ?_
  refine ct_region ?_
  refine rt_q (op_move (.tmp mem2)).q wants_none (put_new (by kernel_rfl)) ?_
  refine rt_q (op_gtr (.tmp mem0) .const).q wants_none (put_new (by kernel_rfl)) ?_
  refine rt_nil ?_
  refine et_then ?_
  refine ct_if (.tmp mem0) (fun h2 => ?_) (fun h2 => ?_)
  · refine ct_skip ?_
    refine et_then ?_
    refine ct_seq ?_
    refine ct_block ?_
    refine ct_region ?_
    refine rt_q (op_move (.tmp mem2)).q wants_none (put_new (by kernel_rfl)) ?_
    refine rt_q (op_mul (.tmp mem0) .const (pow_u64 (by omega))).q wants_none (put_new (by kernel_rfl)) ?_
    refine rt_q (op_assign (.tmp mem0)).q wants_none (put_over pick4 (by kernel_rfl)) ?_
    refine rt_nil ?_
    refine et_block ?_
    refine et_then ?_
    refine ct_region ?_
    refine rt_q (op_move (.tmp mem6)).q wants_none (put_new (by kernel_rfl)) ?_
    refine rt_q (op_sub (.tmp mem0) .const (w64 (by omega) (by omega))).q wants_none (put_new (by kernel_rfl)) ?_
    refine rt_q (op_assign (.tmp mem0)).q wants_none (put_over pick8 (by kernel_rfl)) ?_
    refine rt_nil ?_
    exact et_again (n := 11) ((k + 1)) (by omega) (by omega) (.cons mem3 (congrArg (Value.int .u64) (by first | rfl | omega | (simp; omega) | simp)) (.cons mem8 rfl (.cons mem0 (congrArg (Value.int .i64) (by first | rfl | omega | (simp; omega) | simp)) .nil))) (Ent.refl)
  · refine ct_exit ?_
    refine et_then_exit ?_
    refine et_then_exit ?_
    refine et_block_here ?_
    refine et_then ?_
    refine ct_seq ?_
    refine ct_region ?_
    refine rt_q (op_move (.tmp mem2)).q wants_none (put_new (by kernel_rfl)) ?_
    refine rt_q (op_assign (.tmp mem0)).q wants_none (put_over pick4 (by kernel_rfl)) ?_
    refine rt_nil ?_
    refine et_then ?_
    refine ct_ret ?_
    exact et_ret rfl (.cons mem0 .nil) (by rw [show i = k by omega]; rfl) Ent.refl

set_option maxRecDepth 100000 in
theorem refUnpack_spec (k : Int) (h0 : 0 ≤ k) (h1 : k ≤ 18446744073709551615) (B : Nat) (W : World) (L : List SProp) : Pure Try.prog 55 #[.int .u64 k] B W L (.tuple #[.int .i64 (k / 1099511627776), .int .i64 (k / 65536 % 16777216), .int .i64 (k % 65536)]) := by
  refine pure_enter Try.func55 rfl (m := 19) rfl (Nat.le_of_ble_eq_true rfl) (R := [(0, .int .u64 k)]) (by kernel_rfl) ?_
  refine ct_seq ?_
  refine ct_region ?_
  refine rt_q (op_assign .const).q wants_none (put_new (by kernel_rfl)) ?_
  refine rt_q (op_assign .const).q wants_none (put_new (by kernel_rfl)) ?_
  refine rt_q (op_assign .const).q wants_none (put_new (by kernel_rfl)) ?_
  refine rt_nil ?_
  refine et_then ?_
  refine ct_seq ?_
  refine ct_draw (by kernel_rfl) (by kernel_rfl) ?_
  refine qt_q (op_move (.tmp mem3)).q wants_none (put_new (by kernel_rfl)) ?_
  refine qt_q (oq_call0 (by kernel_rfl) (.cons .const .nil) (power_spec 40 (by omega) B W _)) wants_none (put_new (by kernel_rfl)) ?_
  refine qt_q (op_quo (.tmp mem1) (.tmp mem0) (by omega) (quou64 (by omega) (by omega) (by omega))).q wants_none (put_new (by kernel_rfl)) ?_
  refine qt_q (op_conv (.tmp mem0) Try.underlying33 Try.underlying3 (w64 (by omega) (by omega))).q wants_none (put_new (by kernel_rfl)) ?_
  refine qt_q (op_move (.tmp mem7)).q wants_none (put_new (by kernel_rfl)) ?_
  refine qt_q (oq_call0 (by kernel_rfl) (.cons .const .nil) (power_spec 16 (by omega) B W _)) wants_none (put_new (by kernel_rfl)) ?_
  refine qt_q (op_quo (.tmp mem1) (.tmp mem0) (by omega) (quou64 (by omega) (by omega) (by omega))).q wants_none (put_new (by kernel_rfl)) ?_
  refine qt_q (oq_call0 (by kernel_rfl) (.cons .const .nil) (power_spec 24 (by omega) B W _)) wants_none (put_new (by kernel_rfl)) ?_
  refine qt_q (op_rem (.tmp mem1) (.tmp mem0) (by omega) (rem64 (by omega))).q wants_none (put_new (by kernel_rfl)) ?_
  refine qt_q (op_conv (.tmp mem0) Try.underlying33 Try.underlying3 (w64 (by omega) (by omega))).q wants_none (put_new (by kernel_rfl)) ?_
  refine qt_q (op_move (.tmp mem13)).q wants_none (put_new (by kernel_rfl)) ?_
  refine qt_q (oq_call0 (by kernel_rfl) (.cons .const .nil) (power_spec 16 (by omega) B W _)) wants_none (put_new (by kernel_rfl)) ?_
  refine qt_q (op_rem (.tmp mem1) (.tmp mem0) (by omega) (rem64 (by omega))).q wants_none (put_new (by kernel_rfl)) ?_
  refine qt_q (op_conv (.tmp mem0) Try.underlying33 Try.underlying3 (w64 (by omega) (by omega))).q wants_none (put_new (by kernel_rfl)) ?_
  refine qt_q (op_assign (.tmp mem10)).q wants_none (put_over pick16 (by kernel_rfl)) ?_
  refine qt_q (op_assign (.tmp mem5)).q wants_none (put_over pick16 (by kernel_rfl)) ?_
  refine qt_q (op_assign (.tmp mem2)).q wants_none (put_over pick16 (by kernel_rfl)) ?_
  refine qt_nil ?_
  refine et_then ?_
  refine ct_ret ?_
  exact et_ret rfl (.cons mem2 (.cons mem1 (.cons mem0 .nil))) (by rfl) Ent.refl

set_option maxRecDepth 100000 in
theorem size_spec (a b : Int) (B : Nat) (W : World) (L : List SProp) : Pure Try.prog 51 #[.int .u64 a, .int .u64 b] B W L (.int .i64 (sizeV a b)) := by
  refine pure_enter Try.func51 rfl (m := 9) rfl (Nat.le_of_ble_eq_true rfl) (R := [(0, .int .u64 a), (1, .int .u64 b)]) (by kernel_rfl) ?_
  refine ct_seq ?_
  refine ct_region ?_
  refine rt_q (op_assign .const).q wants_none (put_new (by kernel_rfl)) ?_
  refine rt_nil ?_
  refine et_then ?_
  refine ct_seq ?_
  refine ct_region ?_
  refine rt_q (op_move (.tmp mem1)).q wants_none (put_new (by kernel_rfl)) ?_
  refine rt_q (op_move (.tmp mem3)).q wants_none (put_new (by kernel_rfl)) ?_
  refine rt_q (op_sub (.tmp mem1) (.tmp mem0) rfl).q wants_none (put_new (by kernel_rfl)) ?_
  refine rt_q (op_conv (.tmp mem0) Try.underlying33 Try.underlying3 rfl).q wants_none (put_new (by kernel_rfl)) ?_
  refine rt_q (op_assign (.tmp mem0)).q wants_none (put_over pick4 (by kernel_rfl)) ?_
  refine rt_nil ?_
  refine et_then ?_
  refine ct_ret ?_
  exact et_ret rfl (.cons mem0 .nil) (by rfl) Ent.refl

set_option maxRecDepth 100000 in
theorem refSize_spec (a b : Int) (B : Nat) (W : World) (L : List SProp) : Pure Try.prog 22 #[.int .u64 a, .int .u64 b] B W L (.int .i64 (sizeV a b)) := by
  refine pure_enter Try.func22 rfl (m := 9) rfl (Nat.le_of_ble_eq_true rfl) (R := [(0, .int .u64 a), (1, .int .u64 b)]) (by kernel_rfl) ?_
  refine ct_seq ?_
  refine ct_region ?_
  refine rt_q (op_assign .const).q wants_none (put_new (by kernel_rfl)) ?_
  refine rt_nil ?_
  refine et_then ?_
  refine ct_seq ?_
  refine ct_region ?_
  refine rt_q (op_move (.tmp mem1)).q wants_none (put_new (by kernel_rfl)) ?_
  refine rt_q (op_move (.tmp mem3)).q wants_none (put_new (by kernel_rfl)) ?_
  refine rt_q (op_sub (.tmp mem1) (.tmp mem0) rfl).q wants_none (put_new (by kernel_rfl)) ?_
  refine rt_q (op_conv (.tmp mem0) Try.underlying33 Try.underlying3 rfl).q wants_none (put_new (by kernel_rfl)) ?_
  refine rt_q (op_assign (.tmp mem0)).q wants_none (put_over pick4 (by kernel_rfl)) ?_
  refine rt_nil ?_
  refine et_then ?_
  refine ct_ret ?_
  exact et_ret rfl (.cons mem0 .nil) (by rfl) Ent.refl

set_option maxRecDepth 100000 in
theorem ring_spec (t d rg cap i : Int) (hr : 0 ≤ rg ∧ rg ≤ 80000) (hc : 1 ≤ cap ∧ cap ≤ 64) (hi : 0 ≤ i) (B : Nat) (W : World) (L : List SProp) : Pure Try.prog 52 #[.agg #[.int .i64 t, .int .i64 d, .int .i64 rg, .int .i64 cap], .int .u64 i] B W L (.int .i64 (rg + i % cap)) := by
  have hm1 := Int.emod_nonneg i (show cap ≠ 0 by omega)
  have hm2 := Int.emod_lt_of_pos i (show 0 < cap by omega)
  refine pure_enter Try.func52 rfl (m := 17) rfl (Nat.le_of_ble_eq_true rfl) (R := [(0, .agg #[.int .i64 t, .int .i64 d, .int .i64 rg, .int .i64 cap]), (1, .int .u64 i)]) (by kernel_rfl) ?_
  refine ct_seq ?_
  refine ct_region ?_
  refine rt_t (ot_box (.tmp mem0) (us := [.int .i64 t, .int .i64 d, .int .i64 rg, .int .i64 cap]) rfl) wants_none (fun _ => (put_new (by kernel_rfl))) ?_
  rintro b1
  refine rt_q (op_assign .const).q wants_none (put_new (by kernel_rfl)) ?_
  refine rt_nil ?_
  refine et_then ?_
  refine ct_seq ?_
  refine ct_seq ?_
  refine ct_region ?_
  refine rt_q (op_field (k := 3) (o' := 3) (.tmp mem1) (by kernel_rfl) (by rfl)).q wants_none (put_new (by kernel_rfl)) ?_
  refine rt_q (oq_load (o := 0) (i := 3) (.tmp mem0) mem0 (rfl) rfl (by kernel_rfl)) wants_none (put_new (by kernel_rfl)) ?_
  refine rt_q (op_lss (.tmp mem0) .const).q wants_none (put_new (by kernel_rfl)) ?_
  refine rt_nil ?_
  refine et_then ?_
  refine ct_if (.tmp mem0) (fun h2 => ?_) (fun h2 => ?_)
  · exact absurd h2 (by omega)
  · refine ct_skip ?_
    refine et_then ?_
    refine ct_seq ?_
    refine ct_draw (by kernel_rfl) (by kernel_rfl) ?_
    refine qt_q (op_field (k := 2) (o' := 2) (.tmp mem4) (by kernel_rfl) (by rfl)).q wants_none (put_new (by kernel_rfl)) ?_
    refine qt_q (oq_load (o := 0) (i := 2) (.tmp mem0) mem0 (rfl) rfl (by kernel_rfl)) wants_none (put_new (by kernel_rfl)) ?_
    refine qt_q (op_move (.tmp mem8)).q wants_none (put_new (by kernel_rfl)) ?_
    refine qt_q (op_field (k := 3) (o' := 3) (.tmp mem7) (by kernel_rfl) (by rfl)).q wants_none (put_new (by kernel_rfl)) ?_
    refine qt_q (oq_load (o := 0) (i := 3) (.tmp mem0) mem0 (rfl) rfl (by kernel_rfl)) wants_none (put_new (by kernel_rfl)) ?_
    refine qt_q (op_conv (.tmp mem0) Try.underlying3 Try.underlying33 (wu64 (by omega) (by omega))).q wants_none (put_new (by kernel_rfl)) ?_
    refine qt_q (op_rem (.tmp mem3) (.tmp mem0) (by omega) (rem64 (by omega))).q wants_none (put_new (by kernel_rfl)) ?_
    refine qt_q (op_conv (.tmp mem0) Try.underlying33 Try.underlying3 (w64 (by omega) (by omega))).q wants_none (put_new (by kernel_rfl)) ?_
    refine qt_q (op_add (.tmp mem6) (.tmp mem0) (w64 (by omega) (by omega))).q wants_none (put_new (by kernel_rfl)) ?_
    refine qt_q (op_assign (.tmp mem0)).q wants_none (put_over pick12 (by kernel_rfl)) ?_
    refine qt_nil ?_
    refine et_then ?_
    refine ct_ret ?_
    exact et_ret rfl (.cons mem0 .nil) (by rfl) Ent.drop

set_option maxRecDepth 100000 in
theorem refRing_spec (t d rg cap i : Int) (hr : 0 ≤ rg ∧ rg ≤ 80000) (hc : 1 ≤ cap ∧ cap ≤ 64) (hi : 0 ≤ i) (B : Nat) (W : World) (L : List SProp) : Pure Try.prog 23 #[.agg #[.int .i64 t, .int .i64 d, .int .i64 rg, .int .i64 cap], .int .u64 i] B W L (.int .i64 (rg + i % cap)) := by
  have hm1 := Int.emod_nonneg i (show cap ≠ 0 by omega)
  have hm2 := Int.emod_lt_of_pos i (show 0 < cap by omega)
  refine pure_enter Try.func23 rfl (m := 17) rfl (Nat.le_of_ble_eq_true rfl) (R := [(0, .agg #[.int .i64 t, .int .i64 d, .int .i64 rg, .int .i64 cap]), (1, .int .u64 i)]) (by kernel_rfl) ?_
  refine ct_seq ?_
  refine ct_region ?_
  refine rt_t (ot_box (.tmp mem0) (us := [.int .i64 t, .int .i64 d, .int .i64 rg, .int .i64 cap]) rfl) wants_none (fun _ => (put_new (by kernel_rfl))) ?_
  rintro b1
  refine rt_q (op_assign .const).q wants_none (put_new (by kernel_rfl)) ?_
  refine rt_nil ?_
  refine et_then ?_
  refine ct_seq ?_
  refine ct_seq ?_
  refine ct_region ?_
  refine rt_q (op_field (k := 3) (o' := 3) (.tmp mem1) (by kernel_rfl) (by rfl)).q wants_none (put_new (by kernel_rfl)) ?_
  refine rt_q (oq_load (o := 0) (i := 3) (.tmp mem0) mem0 (rfl) rfl (by kernel_rfl)) wants_none (put_new (by kernel_rfl)) ?_
  refine rt_q (op_lss (.tmp mem0) .const).q wants_none (put_new (by kernel_rfl)) ?_
  refine rt_nil ?_
  refine et_then ?_
  refine ct_if (.tmp mem0) (fun h2 => ?_) (fun h2 => ?_)
  · exact absurd h2 (by omega)
  · refine ct_skip ?_
    refine et_then ?_
    refine ct_seq ?_
    refine ct_draw (by kernel_rfl) (by kernel_rfl) ?_
    refine qt_q (op_field (k := 2) (o' := 2) (.tmp mem4) (by kernel_rfl) (by rfl)).q wants_none (put_new (by kernel_rfl)) ?_
    refine qt_q (oq_load (o := 0) (i := 2) (.tmp mem0) mem0 (rfl) rfl (by kernel_rfl)) wants_none (put_new (by kernel_rfl)) ?_
    refine qt_q (op_move (.tmp mem8)).q wants_none (put_new (by kernel_rfl)) ?_
    refine qt_q (op_field (k := 3) (o' := 3) (.tmp mem7) (by kernel_rfl) (by rfl)).q wants_none (put_new (by kernel_rfl)) ?_
    refine qt_q (oq_load (o := 0) (i := 3) (.tmp mem0) mem0 (rfl) rfl (by kernel_rfl)) wants_none (put_new (by kernel_rfl)) ?_
    refine qt_q (op_conv (.tmp mem0) Try.underlying3 Try.underlying33 (wu64 (by omega) (by omega))).q wants_none (put_new (by kernel_rfl)) ?_
    refine qt_q (op_rem (.tmp mem3) (.tmp mem0) (by omega) (rem64 (by omega))).q wants_none (put_new (by kernel_rfl)) ?_
    refine qt_q (op_conv (.tmp mem0) Try.underlying33 Try.underlying3 (w64 (by omega) (by omega))).q wants_none (put_new (by kernel_rfl)) ?_
    refine qt_q (op_add (.tmp mem6) (.tmp mem0) (w64 (by omega) (by omega))).q wants_none (put_new (by kernel_rfl)) ?_
    refine qt_q (op_assign (.tmp mem0)).q wants_none (put_over pick12 (by kernel_rfl)) ?_
    refine qt_nil ?_
    refine et_then ?_
    refine ct_ret ?_
    exact et_ret rfl (.cons mem0 .nil) (by rfl) Ent.drop

set_option maxRecDepth 100000 in
theorem mod_spec (d n : Int) (hn : n ≤ 9223372036854775807) (B : Nat) (W : World) (L : List SProp) : Pure Try.prog 68 #[.int .i64 d, .int .i64 n] B W L (.int .i64 (drawM d n)) := by
  refine pure_enter Try.func68 rfl (m := 17) rfl (Nat.le_of_ble_eq_true rfl) (R := [(0, .int .i64 d), (1, .int .i64 n)]) (by kernel_rfl) ?_
  refine ct_seq ?_
  refine ct_region ?_
  refine rt_q (op_assign .const).q wants_none (put_new (by kernel_rfl)) ?_
  refine rt_nil ?_
  refine et_then ?_
  refine ct_seq ?_
  refine ct_seq ?_
  refine ct_region ?_
  refine rt_q (op_move (.tmp mem2)).q wants_none (put_new (by kernel_rfl)) ?_
  refine rt_q (op_lss (.tmp mem0) .const).q wants_none (put_new (by kernel_rfl)) ?_
  refine rt_nil ?_
  refine et_then ?_
  refine ct_if (.tmp mem0) (fun h1 => ?_) (fun h1 => ?_)
  · refine ct_seq ?_
    refine ct_region ?_
    refine rt_q (op_assign .const).q wants_none (put_over pick2 (by kernel_rfl)) ?_
    refine rt_nil ?_
    refine et_then ?_
    refine ct_ret ?_
    refine et_then_ret ?_
    exact et_ret rfl (.cons mem0 .nil) (by exact congrArg (Value.int .i64) (by first | exact (drawM_small (by omega)).symm | exact (drawM_neg (by omega) (by omega)).symm | exact (drawM_pos (by omega) (by omega)).symm)) Ent.refl
  · obtain ⟨m1, m2⟩ := tmod_bd d n (by omega)
    refine ct_skip ?_
    refine et_then ?_
    refine ct_seq ?_
    refine ct_region ?_
    refine rt_q (op_move (.tmp mem3)).q wants_none (put_new (by kernel_rfl)) ?_
    refine rt_q (op_move (.tmp mem5)).q wants_none (put_new (by kernel_rfl)) ?_
    refine rt_q (op_rem (.tmp mem1) (.tmp mem0) (by omega) rfl).q wants_none (put_new (by kernel_rfl)) ?_
    refine rt_q (op_assign (.tmp mem0)).q wants_none (put_new (by kernel_rfl)) ?_
    refine rt_nil ?_
    refine et_then ?_
    refine ct_seq ?_
    refine ct_seq ?_
    refine ct_region ?_
    refine rt_q (op_move (.tmp mem0)).q wants_none (put_new (by kernel_rfl)) ?_
    refine rt_q (op_lss (.tmp mem0) .const).q wants_none (put_new (by kernel_rfl)) ?_
    refine rt_nil ?_
    refine et_then ?_
    refine ct_if (.tmp mem0) (fun h2 => ?_) (fun h2 => ?_)
    · refine ct_region ?_
      refine rt_q (op_move (.tmp mem2)).q wants_none (put_new (by kernel_rfl)) ?_
      refine rt_q (op_move (.tmp mem11)).q wants_none (put_new (by kernel_rfl)) ?_
      refine rt_q (op_add (.tmp mem1) (.tmp mem0) (w64 (by omega) (by omega))).q wants_none (put_new (by kernel_rfl)) ?_
      refine rt_q (op_assign (.tmp mem0)).q wants_none (put_over pick5 (by kernel_rfl)) ?_
      refine rt_nil ?_
      refine et_then ?_
      refine ct_seq ?_
      refine ct_region ?_
      refine rt_q (op_move (.tmp mem0)).q wants_none (put_new (by kernel_rfl)) ?_
      refine rt_q (op_assign (.tmp mem0)).q wants_none (put_over pick12 (by kernel_rfl)) ?_
      refine rt_nil ?_
      refine et_then ?_
      refine ct_ret ?_
      exact et_ret rfl (.cons mem0 .nil) (by exact congrArg (Value.int .i64) (by first | exact (drawM_small (by omega)).symm | exact (drawM_neg (by omega) (by omega)).symm | exact (drawM_pos (by omega) (by omega)).symm)) Ent.refl
    · refine ct_skip ?_
      refine et_then ?_
      refine ct_seq ?_
      refine ct_region ?_
      refine rt_q (op_move (.tmp mem2)).q wants_none (put_new (by kernel_rfl)) ?_
      refine rt_q (op_assign (.tmp mem0)).q wants_none (put_over pick9 (by kernel_rfl)) ?_
      refine rt_nil ?_
      refine et_then ?_
      refine ct_ret ?_
      exact et_ret rfl (.cons mem0 .nil) (by exact congrArg (Value.int .i64) (by first | exact (drawM_small (by omega)).symm | exact (drawM_neg (by omega) (by omega)).symm | exact (drawM_pos (by omega) (by omega)).symm)) Ent.refl

end Go.Proofs.Ytkfkiaieeiodnaa
