/- Walks by program: the sorts of the program and of its reference. -/
import Derived.Test.YtkfkiaieeiodnaaSo6
namespace Go.Proofs.Ytkfkiaieeiodnaa
open Go Go.RowKit

set_option maxRecDepth 100000 in
theorem pdq_spec (A : Option Addr) (cap : Nat) (xs : List Int) (lim : Int) (h1 : 1 ≤ xs.length) (h2 : xs.length ≤ 12) (B : Nat) (W : World) : Fn_ Try.prog 75 #[.slice A xs.length cap, .int .i64 0, .int .i64 (((xs.length : Nat) : Int)), .int .i64 lim] B W [rowS A xs.length cap 1 (xs.map (Value.int .u64))] (X := Unit) (fun _ => .tuple #[]) (fun _ => [rowS A xs.length cap 1 ((sortV xs).map (Value.int .u64))]) := by
  refine fn_enter Try.func75 rfl (m := 134) rfl (Nat.le_of_ble_eq_true rfl) (R := [(0, .slice A xs.length cap), (1, .int .i64 0), (2, .int .i64 (((xs.length : Nat) : Int))), (3, .int .i64 lim)]) (by kernel_rfl) (fun F => ?_)
  refine ct_seq ?_
  refine ct_region ?_
  refine rt_q (op_assign .const).q wants_none (put_new (by kernel_rfl)) ?_
  refine rt_nil ?_
  refine et_then ?_
  refine ct_seq ?_
  refine ct_region ?_
  refine rt_q (op_assign .const).q wants_none (put_new (by kernel_rfl)) ?_
  refine rt_nil ?_
  refine et_then ?_
  refine ct_block ?_
  refine ct_loop (X := Unit) (fun u => 0) (fun u => True) (fun u => [(9, .bool true), (8, .bool true), (0, .slice A xs.length cap), (1, .int .i64 0), (2, .int .i64 (((xs.length : Nat) : Int))), (3, .int .i64 lim)]) (fun u => rowS A xs.length cap 1 (xs.map (Value.int .u64)) :: [F]) () (trivial) (.cons mem0 rfl (.cons mem1 rfl (.cons mem2 rfl (.cons mem3 rfl (.cons mem4 rfl (.cons mem5 rfl .nil)))))) (Ent.refl) (fun u hi1 => ?_)
  refine ct_block ?_
  refine ct_seq ?_
  refine ct_region ?_
  refine rt_q (op_move (.tmp mem4)).q wants_none (put_new (by kernel_rfl)) ?_
  refine rt_q (op_move (.tmp mem4)).q wants_none (put_new (by kernel_rfl)) ?_
  refine rt_q (op_sub (.tmp mem1) (.tmp mem0) (w64 (by omega) (by omega))).q wants_none (put_new (by kernel_rfl)) ?_
  refine rt_q (op_assign (.tmp mem0)).q wants_none (put_new (by kernel_rfl)) ?_
  refine rt_nil ?_
  refine et_then ?_
  refine ct_seq ?_
  refine ct_seq ?_
  refine ct_region ?_
  refine rt_q (op_move (.tmp mem0)).q wants_none (put_new (by kernel_rfl)) ?_
  refine rt_q (op_leq (.tmp mem0) .const).q wants_none (put_new (by kernel_rfl)) ?_
  refine rt_nil ?_
  refine et_then ?_
  refine ct_if (.tmp mem0) (fun h2 => ?_) (fun h2 => ?_)
  · refine ct_seq ?_
    refine ct_region ?_
    refine rt_q (op_move (.tmp mem8)).q wants_none (put_new (by kernel_rfl)) ?_
    refine rt_q (op_move (.tmp mem10)).q wants_none (put_new (by kernel_rfl)) ?_
    refine rt_q (op_move (.tmp mem12)).q wants_none (put_new (by kernel_rfl)) ?_
    refine rt_t (ot_call0 (by kernel_rfl) (.cons (.tmp mem2) (.cons (.tmp mem1) (.cons (.tmp mem0) .nil))) (insSort_spec _ _ _ (by omega) (by omega) B W) (.cons pick0 .nil)) wants_none (fun _ => (put_new (by kernel_rfl))) (fun _ => ?_)
    refine rt_nil ?_
    refine et_then ?_
    refine ct_ret ?_
    refine et_then_ret ?_
    refine et_block_ret ?_
    refine et_then_ret ?_
    refine et_block_ret ?_
    exact et_fn () rfl .nil (by rfl) (Ent.refl)
  · exact absurd (by omega) h2

set_option maxRecDepth 100000 in
theorem len_spec (x : Int) (h0 : 0 ≤ x) (h1 : x ≤ 18446744073709551615) (B : Nat) (W : World) (L : List SProp) : Pure Try.prog 76 #[.int .u64 x] B W L (.int .i64 (lenV x)) := by
  refine pure_enter Try.func76 rfl (m := 8) rfl (Nat.le_of_ble_eq_true rfl) (R := [(0, .int .u64 x)]) (by kernel_rfl) ?_
  refine ct_seq ?_
  refine ct_region ?_
  refine rt_q (op_assign .const).q wants_none (put_new (by kernel_rfl)) ?_
  refine rt_nil ?_
  refine et_then ?_
  refine ct_seq ?_
  refine ct_false .const ?_
  refine ct_skip ?_
  refine et_then ?_
  refine ct_seq ?_
  refine ct_region ?_
  refine rt_q (op_move (.tmp mem1)).q wants_none (put_new (by kernel_rfl)) ?_
  refine rt_q (oq_call0 (by kernel_rfl) (.cons (.tmp mem0) .nil) (len64_spec _ (by omega) (by omega) B W _)) wants_none (put_new (by kernel_rfl)) ?_
  refine rt_q (op_assign (.tmp mem0)).q wants_none (put_over pick2 (by kernel_rfl)) ?_
  refine rt_nil ?_
  refine et_then ?_
  refine ct_ret ?_
  exact et_ret rfl (.cons mem0 .nil) (by rfl) Ent.refl

set_option maxRecDepth 100000 in
theorem sort_spec (A : Option Addr) (cap : Nat) (xs : List Int) (h1 : 1 ≤ xs.length) (h2 : xs.length ≤ 12) (B : Nat) (W : World) : Fn_ Try.prog 73 #[.slice A xs.length cap] B W [rowS A xs.length cap 1 (xs.map (Value.int .u64))] (X := Unit) (fun _ => .tuple #[]) (fun _ => [rowS A xs.length cap 1 ((sortV xs).map (Value.int .u64))]) := by
  refine fn_enter Try.func73 rfl (m := 11) rfl (Nat.le_of_ble_eq_true rfl) (R := [(0, .slice A xs.length cap)]) (by kernel_rfl) (fun F => ?_)
  refine ct_seq ?_
  refine ct_region ?_
  refine rt_q (op_move (.tmp mem0)).q wants_none (put_new (by kernel_rfl)) ?_
  refine rt_q (op_len (.tmp mem0) Try.underlying26).q wants_none (put_new (by kernel_rfl)) ?_
  refine rt_q (op_assign (.tmp mem0)).q wants_none (put_new (by kernel_rfl)) ?_
  refine rt_nil ?_
  refine et_then ?_
  refine ct_region ?_
  refine rt_q (op_move (.tmp mem3)).q wants_none (put_new (by kernel_rfl)) ?_
  refine rt_q (op_move (.tmp mem1)).q wants_none (put_new (by kernel_rfl)) ?_
  refine rt_q (op_move (.tmp mem2)).q wants_none (put_new (by kernel_rfl)) ?_
  refine rt_q (op_conv (.tmp mem0) Try.underlying3 Try.underlying34 (wu64 (by omega) (by omega))).q wants_none (put_new (by kernel_rfl)) ?_
  refine rt_q (oq_call0 (by kernel_rfl) (.cons (.tmp mem0) .nil) (len_spec _ (by omega) (by omega) B W _)) wants_none (put_new (by kernel_rfl)) ?_
  refine rt_t (ot_call0 (by kernel_rfl) (.cons (.tmp mem4) (.cons .const (.cons (.tmp mem3) (.cons (.tmp mem0) .nil)))) (pdq_spec _ _ _ _ (by omega) (by omega) B W) (.cons pick0 .nil)) wants_none (fun _ => (put_new (by kernel_rfl))) (fun _ => ?_)
  refine rt_nil ?_
  exact et_fn_end () rfl .nil (by rfl) (Ent.refl)

set_option maxRecDepth 100000 in
theorem clone_spec (A : Option Addr) (cap : Nat) (xs : List Int) (h1 : 1 ≤ xs.length) (h2 : xs.length ≤ 1024) {B : Nat} {W : World} (hS : Sl encU 1 W B A xs) : Fn_ Try.prog 72 #[.slice A xs.length cap] B W [] (X := Option Addr × Nat) (fun p => .slice p.1 xs.length p.2) (fun p => [rowS p.1 xs.length p.2 1 (xs.map (Value.int .u64))]) := by
  obtain ⟨ab, ao, rfl, hab, hac⟩ := hS.2 (fun e => by subst e; simp at h1)
  refine fn_enter Try.func72 rfl (m := 8) rfl (Nat.le_of_ble_eq_true rfl) (R := [(0, .slice (some ⟨ab, ao, none⟩) xs.length cap)]) (by kernel_rfl) (fun F => ?_)
  refine ct_seq ?_
  refine ct_region ?_
  refine rt_q (op_assign .const).q wants_none (put_new (by kernel_rfl)) ?_
  refine rt_nil ?_
  refine et_then ?_
  refine ct_seq ?_
  refine ct_seq ?_
  refine ct_region ?_
  refine rt_q (op_move (.tmp mem1)).q wants_none (put_new (by kernel_rfl)) ?_
  refine rt_q (op_eqnil (.tmp mem0) Try.underlying26).q wants_none (put_new (by kernel_rfl)) ?_
  refine rt_nil ?_
  refine et_then ?_
  refine ct_ifb (.tmp mem0) (fun h1 => ?_) (fun h1 => ?_)
  · exact absurd h1 (by simp)
  · refine ct_skip ?_
    refine et_then ?_
    refine ct_seq ?_
    refine ct_region ?_
    refine rt_t (ot_buildSlice (T' := 33) (us := []) .nil (fun _ => by kernel_rfl)) wants_none (fun _ => (put_new (by kernel_rfl))) ?_
    rintro b2
    refine rt_q (op_move (.tmp mem4)).q wants_none (put_new (by kernel_rfl)) ?_
    refine rt_ent (Ent.cons (rowS_of_pts (n := 0) (sz := 1) (vs := List.map (Value.int .u64) []) rfl (by unfold maxLen; omega)) Ent.refl) ?_
    refine rt_t (ot_appendG (by_ := 8) (z := .int .u64 0) (us := xs.map (Value.int .u64)) (.tmp mem1) (.tmp mem0) (src_sl (fun _ => rfl) hS rfl) pick0 Try.underlying26 (infoB_of (by kernel_rfl)) rfl (by decide) (by simp <;> omega) (by simp [List.all_eq_true, scalar]) (by unfold maxLen; omega) (by omega)) wants_none (fun _ => (put_new (by kernel_rfl))) ?_
    rintro ⟨A3, c3⟩
    refine rt_ent ent_app ?_
    refine rt_q (op_assign (.tmp mem0)).q wants_none (put_over pick5 (by kernel_rfl)) ?_
    refine rt_nil ?_
    refine et_then ?_
    refine ct_ret ?_
    exact et_fn (A3, c3) rfl (.cons mem0 .nil) (by simp only [tupled, Nat.zero_add]) (Ent.eq (by simp only [Nat.zero_add, List.nil_append, List.cons_append]))

set_option maxRecDepth 100000 in
theorem edfSorted_spec (A : Option Addr) (cap : Nat) (xs : List Int) (h1 : 1 ≤ xs.length) (h2 : xs.length ≤ 12) {B : Nat} {W : World} (hS : Sl encU 1 W B A xs) : Fn_ Try.prog 65 #[.slice A xs.length cap] B W [] (X := Option Addr × Nat) (fun p => .slice p.1 xs.length p.2) (fun p => [rowS p.1 xs.length p.2 1 ((sortV xs).map (Value.int .u64))]) := by
  refine fn_enter Try.func65 rfl (m := 9) rfl (Nat.le_of_ble_eq_true rfl) (R := [(0, .slice A xs.length cap)]) (by kernel_rfl) (fun F => ?_)
  refine ct_seq ?_
  refine ct_region ?_
  refine rt_q (op_assign .const).q wants_none (put_new (by kernel_rfl)) ?_
  refine rt_nil ?_
  refine et_then ?_
  refine ct_seq ?_
  refine ct_region ?_
  refine rt_q (op_move (.tmp mem1)).q wants_none (put_new (by kernel_rfl)) ?_
  refine rt_t (ot_call0 (by kernel_rfl) (.cons (.tmp mem0) .nil) (clone_spec _ _ _ (by first | omega | (simp <;> omega)) (by first | omega | (simp <;> omega)) hS) .nil) wants_none (fun _ => (put_new (by kernel_rfl))) ?_
  rintro ⟨A1, c1⟩
  refine rt_q (op_assign (.tmp mem0)).q wants_none (put_new (by kernel_rfl)) ?_
  refine rt_nil ?_
  refine et_then ?_
  refine ct_seq ?_
  refine ct_region ?_
  refine rt_q (op_move (.tmp mem0)).q wants_none (put_new (by kernel_rfl)) ?_
  refine rt_t (ot_call0 (by kernel_rfl) (.cons (.tmp mem0) .nil) (sort_spec _ _ _ (by omega) (by omega) B W) (.cons pick0 .nil)) wants_none (fun _ => (put_new (by kernel_rfl))) (fun _ => ?_)
  refine rt_nil ?_
  refine et_then ?_
  refine ct_seq ?_
  refine ct_region ?_
  refine rt_q (op_move (.tmp mem2)).q wants_none (put_new (by kernel_rfl)) ?_
  refine rt_q (op_assign (.tmp mem0)).q wants_none (put_over pick6 (by kernel_rfl)) ?_
  refine rt_nil ?_
  refine et_then ?_
  refine ct_ret ?_
  exact et_fn (A1, c1) rfl (.cons mem0 .nil) (by rfl) Ent.refl

end Go.Proofs.Ytkfkiaieeiodnaa
