/- Walks by program: places of cells, in the layout and in its reference. -/
import Derived.Test.YtkfkiaieeiodnaaSo0
namespace Go.Proofs.Ytkfkiaieeiodnaa
open Go Go.RowKit

set_option maxRecDepth 100000 in
theorem layAt_spec (i n a b : Int) (hb : 0 ≤ i → i < n → (-9223372036854775808 ≤ i * b ∧ i * b ≤ 9223372036854775807) ∧ -9223372036854775808 ≤ a + i * b ∧ a + i * b ≤ 9223372036854775807) (B : Nat) (W : World) (L : List SProp) : Pure Try.prog 70 #[.int .i64 i, .int .i64 n, .int .i64 a, .int .i64 b] B W L (.int .i64 (atV i n a b)) := by
  refine pure_enter Try.func70 rfl (m := 21) rfl (Nat.le_of_ble_eq_true rfl) (R := [(0, .int .i64 i), (1, .int .i64 n), (2, .int .i64 a), (3, .int .i64 b)]) (by kernel_rfl) ?_
  refine ct_seq ?_
  refine ct_region ?_
  refine rt_q (op_assign .const).q wants_none (put_new (by kernel_rfl)) ?_
  refine rt_nil ?_
  refine et_then ?_
  refine ct_seq ?_
  refine ct_seq ?_
  refine ct_region ?_
  refine rt_q (op_move (.tmp mem1)).q wants_none (put_new (by kernel_rfl)) ?_
  refine rt_q (op_lss (.tmp mem0) .const).q wants_none (put_new (by kernel_rfl)) ?_
  refine rt_q (op_move (.tmp mem0)).q wants_none (put_new (by kernel_rfl)) ?_
  refine rt_case turn0 turn0 (fun h1 => ?_) (fun h1 => ?_)
  · refine rt_skip (wants_some rfl rfl mem0 rfl) (put_new (by kernel_rfl)) ?_
    refine rt_skip (wants_some rfl rfl mem1 rfl) (put_new (by kernel_rfl)) ?_
    refine rt_skip (wants_some rfl rfl mem2 rfl) (put_new (by kernel_rfl)) ?_
    refine rt_q (op_pick (b := true) (.tmp mem3) .const).q wants_none (put_new (by kernel_rfl)) ?_
    refine rt_nil ?_
    refine et_then ?_
    refine ct_true (.tmp mem0) ?_
    refine ct_seq ?_
    refine ct_region ?_
    refine rt_q (op_assign .const).q wants_none (put_over pick7 (by kernel_rfl)) ?_
    refine rt_nil ?_
    refine et_then ?_
    refine ct_ret ?_
    refine et_then_ret ?_
    exact et_ret rfl (.cons mem0 .nil) (by unfold atV; first | rw [if_pos (by omega)]; rfl | rw [if_neg (by omega)]; rfl) Ent.refl
  · refine rt_q (op_move (.tmp mem4)).q (wants_some rfl rfl mem0 rfl) (put_new (by kernel_rfl)) ?_
    refine rt_q (op_move (.tmp mem6)).q (wants_some rfl rfl mem1 rfl) (put_new (by kernel_rfl)) ?_
    refine rt_q (op_geq (.tmp mem1) (.tmp mem0)).q (wants_some rfl rfl mem2 rfl) (put_new (by kernel_rfl)) ?_
    refine rt_q (op_pick (b := false) (.tmp mem3) (.tmp mem0)).q wants_none (put_new (by kernel_rfl)) ?_
    refine rt_nil ?_
    refine et_then ?_
    refine ct_if (.tmp mem0) (fun h2 => ?_) (fun h2 => ?_)
    · refine ct_seq ?_
      refine ct_region ?_
      refine rt_q (op_assign .const).q wants_none (put_over pick7 (by kernel_rfl)) ?_
      refine rt_nil ?_
      refine et_then ?_
      refine ct_ret ?_
      refine et_then_ret ?_
      exact et_ret rfl (.cons mem0 .nil) (by unfold atV; first | rw [if_pos (by omega)]; rfl | rw [if_neg (by omega)]; rfl) Ent.refl
    · refine ct_skip ?_
      refine et_then ?_
      refine ct_seq ?_
      refine ct_region ?_
      refine rt_q (op_move (.tmp mem10)).q wants_none (put_new (by kernel_rfl)) ?_
      refine rt_q (op_move (.tmp mem9)).q wants_none (put_new (by kernel_rfl)) ?_
      refine rt_q (op_move (.tmp mem13)).q wants_none (put_new (by kernel_rfl)) ?_
      refine rt_q (op_mul (.tmp mem1) (.tmp mem0) (w64 (by omega) (by omega))).q wants_none (put_new (by kernel_rfl)) ?_
      refine rt_q (op_add (.tmp mem3) (.tmp mem0) (w64 (by omega) (by omega))).q wants_none (put_new (by kernel_rfl)) ?_
      refine rt_q (op_assign (.tmp mem0)).q wants_none (put_over pick12 (by kernel_rfl)) ?_
      refine rt_nil ?_
      refine et_then ?_
      refine ct_ret ?_
      exact et_ret rfl (.cons mem0 .nil) (by unfold atV; first | rw [if_pos (by omega)]; rfl | rw [if_neg (by omega)]; rfl) Ent.refl

set_option maxRecDepth 100000 in
theorem refIndex_spec (i n a b : Int) (hb : 0 ≤ i → i < n → (-9223372036854775808 ≤ i * b ∧ i * b ≤ 9223372036854775807) ∧ -9223372036854775808 ≤ a + i * b ∧ a + i * b ≤ 9223372036854775807) (B : Nat) (W : World) (L : List SProp) : Pure Try.prog 24 #[.int .i64 a, .int .i64 i, .int .i64 n, .int .i64 b] B W L (.int .i64 (atV i n a b)) := by
  refine pure_enter Try.func24 rfl (m := 21) rfl (Nat.le_of_ble_eq_true rfl) (R := [(0, .int .i64 a), (1, .int .i64 i), (2, .int .i64 n), (3, .int .i64 b)]) (by kernel_rfl) ?_
  refine ct_seq ?_
  refine ct_region ?_
  refine rt_q (op_assign .const).q wants_none (put_new (by kernel_rfl)) ?_
  refine rt_nil ?_
  refine et_then ?_
  refine ct_seq ?_
  refine ct_seq ?_
  refine ct_region ?_
  refine rt_q (op_move (.tmp mem2)).q wants_none (put_new (by kernel_rfl)) ?_
  refine rt_q (op_lss (.tmp mem0) .const).q wants_none (put_new (by kernel_rfl)) ?_
  refine rt_q (op_move (.tmp mem0)).q wants_none (put_new (by kernel_rfl)) ?_
  refine rt_case turn0 turn0 (fun h1 => ?_) (fun h1 => ?_)
  · refine rt_skip (wants_some rfl rfl mem0 rfl) (put_new (by kernel_rfl)) ?_
    refine rt_skip (wants_some rfl rfl mem1 rfl) (put_new (by kernel_rfl)) ?_
    refine rt_skip (wants_some rfl rfl mem2 rfl) (put_new (by kernel_rfl)) ?_
    refine rt_q (op_pick (b := true) (.tmp mem3) .const).q wants_none (put_new (by kernel_rfl)) ?_
    refine rt_nil ?_
    refine et_then ?_
    refine ct_true (.tmp mem0) ?_
    refine ct_seq ?_
    refine ct_region ?_
    refine rt_q (op_assign .const).q wants_none (put_over pick7 (by kernel_rfl)) ?_
    refine rt_nil ?_
    refine et_then ?_
    refine ct_ret ?_
    refine et_then_ret ?_
    exact et_ret rfl (.cons mem0 .nil) (by unfold atV; first | rw [if_pos (by omega)]; rfl | rw [if_neg (by omega)]; rfl) Ent.refl
  · refine rt_q (op_move (.tmp mem5)).q (wants_some rfl rfl mem0 rfl) (put_new (by kernel_rfl)) ?_
    refine rt_q (op_move (.tmp mem7)).q (wants_some rfl rfl mem1 rfl) (put_new (by kernel_rfl)) ?_
    refine rt_q (op_geq (.tmp mem1) (.tmp mem0)).q (wants_some rfl rfl mem2 rfl) (put_new (by kernel_rfl)) ?_
    refine rt_q (op_pick (b := false) (.tmp mem3) (.tmp mem0)).q wants_none (put_new (by kernel_rfl)) ?_
    refine rt_nil ?_
    refine et_then ?_
    refine ct_if (.tmp mem0) (fun h2 => ?_) (fun h2 => ?_)
    · refine ct_seq ?_
      refine ct_region ?_
      refine rt_q (op_assign .const).q wants_none (put_over pick7 (by kernel_rfl)) ?_
      refine rt_nil ?_
      refine et_then ?_
      refine ct_ret ?_
      refine et_then_ret ?_
      exact et_ret rfl (.cons mem0 .nil) (by unfold atV; first | rw [if_pos (by omega)]; rfl | rw [if_neg (by omega)]; rfl) Ent.refl
    · refine ct_skip ?_
      refine et_then ?_
      refine ct_seq ?_
      refine ct_region ?_
      refine rt_q (op_move (.tmp mem8)).q wants_none (put_new (by kernel_rfl)) ?_
      refine rt_q (op_move (.tmp mem10)).q wants_none (put_new (by kernel_rfl)) ?_
      refine rt_q (op_move (.tmp mem13)).q wants_none (put_new (by kernel_rfl)) ?_
      refine rt_q (op_mul (.tmp mem1) (.tmp mem0) (w64 (by omega) (by omega))).q wants_none (put_new (by kernel_rfl)) ?_
      refine rt_q (op_add (.tmp mem3) (.tmp mem0) (w64 (by omega) (by omega))).q wants_none (put_new (by kernel_rfl)) ?_
      refine rt_q (op_assign (.tmp mem0)).q wants_none (put_over pick12 (by kernel_rfl)) ?_
      refine rt_nil ?_
      refine et_then ?_
      refine ct_ret ?_
      exact et_ret rfl (.cons mem0 .nil) (by unfold atV; first | rw [if_pos (by omega)]; rfl | rw [if_neg (by omega)]; rfl) Ent.refl

set_option maxRecDepth 100000 in
theorem refDeques_spec (c : Cfg) (l : CfgAt) (hn : CNums c) (B : Nat) (W : World) (L : List SProp) : Pure Try.prog 37 #[.agg #[.int .i64 c.workers, .int .i64 c.levels, .int .i64 c.classes, .int .i64 c.tasks, .int .i64 c.deque, .int .i64 c.heap, .int .i64 c.batch, .int .i64 c.age, .int .i64 c.patience, .slice l.pa c.progs.length l.pc, .slice l.sa c.subs.length l.sc]] B W L (.int .i64 (layDeq c)) := by
  obtain ⟨h1, h2, h3, h4, h5, h6, h7, h8, h9, h10⟩ := hn
  refine pure_enter Try.func37 rfl (m := 13) rfl (Nat.le_of_ble_eq_true rfl) (R := [(0, .agg #[.int .i64 c.workers, .int .i64 c.levels, .int .i64 c.classes, .int .i64 c.tasks, .int .i64 c.deque, .int .i64 c.heap, .int .i64 c.batch, .int .i64 c.age, .int .i64 c.patience, .slice l.pa c.progs.length l.pc, .slice l.sa c.subs.length l.sc])]) (by kernel_rfl) ?_
  refine ct_seq ?_
  refine ct_region ?_
  refine rt_t (ot_box (.tmp mem0) (us := [.int .i64 c.workers, .int .i64 c.levels, .int .i64 c.classes, .int .i64 c.tasks, .int .i64 c.deque, .int .i64 c.heap, .int .i64 c.batch, .int .i64 c.age, .int .i64 c.patience, .slice l.pa c.progs.length l.pc, .slice l.sa c.subs.length l.sc]) rfl) wants_none (fun _ => (put_new (by kernel_rfl))) ?_
  rintro b1
  refine rt_q (op_assign .const).q wants_none (put_new (by kernel_rfl)) ?_
  refine rt_nil ?_
  refine et_then ?_
  refine ct_seq ?_
  refine ct_region ?_
  refine rt_q (op_field (k := 5) (o' := 5) (.tmp mem1) (by kernel_rfl) (by rfl)).q wants_none (put_new (by kernel_rfl)) ?_
  refine rt_q (oq_load (o := 0) (i := 5) (.tmp mem0) mem0 (rfl) rfl (by kernel_rfl)) wants_none (put_new (by kernel_rfl)) ?_
  refine rt_q (op_add .const (.tmp mem0) (w64 (by omega) (by omega))).q wants_none (put_new (by kernel_rfl)) ?_
  refine rt_q (op_field (k := 2) (o' := 2) (.tmp mem4) (by kernel_rfl) (by rfl)).q wants_none (put_new (by kernel_rfl)) ?_
  refine rt_q (oq_load (o := 0) (i := 2) (.tmp mem0) mem0 (rfl) rfl (by kernel_rfl)) wants_none (put_new (by kernel_rfl)) ?_
  refine rt_q (op_add (.tmp mem2) (.tmp mem0) (w64 (by omega) (by omega))).q wants_none (put_new (by kernel_rfl)) ?_
  refine rt_q (op_field (k := 0) (o' := 0) (.tmp mem7) (by kernel_rfl) (by rfl)).q wants_none (put_new (by kernel_rfl)) ?_
  refine rt_q (oq_load (o := 0) (i := 0) (.tmp mem0) mem0 (rfl) rfl (by kernel_rfl)) wants_none (put_new (by kernel_rfl)) ?_
  refine rt_q (op_mul .const (.tmp mem0) (w64 (by omega) (by omega))).q wants_none (put_new (by kernel_rfl)) ?_
  refine rt_q (op_add (.tmp mem3) (.tmp mem0) (w64 (by omega) (by omega))).q wants_none (put_new (by kernel_rfl)) ?_
  refine rt_q (op_assign (.tmp mem0)).q wants_none (put_over pick10 (by kernel_rfl)) ?_
  refine rt_nil ?_
  refine et_then ?_
  refine ct_ret ?_
  exact et_ret rfl (.cons mem0 .nil) (by unfold layDeq; exact congrArg (Value.int .i64) (by omega)) Ent.drop

set_option maxRecDepth 100000 in
theorem refCells_spec (c : Cfg) (l : CfgAt) (hn : CNums c) (B : Nat) (W : World) (L : List SProp) : Pure Try.prog 20 #[.agg #[.int .i64 c.workers, .int .i64 c.levels, .int .i64 c.classes, .int .i64 c.tasks, .int .i64 c.deque, .int .i64 c.heap, .int .i64 c.batch, .int .i64 c.age, .int .i64 c.patience, .slice l.pa c.progs.length l.pc, .slice l.sa c.subs.length l.sc]] B W L (.int .i64 (layCells c)) := by
  obtain ⟨h1, h2, h3, h4, h5, h6, h7, h8, h9, h10⟩ := hn
  have hdq : 8 ≤ layDeq c ∧ layDeq c ≤ 200 := by unfold layDeq; omega
  refine pure_enter Try.func20 rfl (m := 19) rfl (Nat.le_of_ble_eq_true rfl) (R := [(0, .agg #[.int .i64 c.workers, .int .i64 c.levels, .int .i64 c.classes, .int .i64 c.tasks, .int .i64 c.deque, .int .i64 c.heap, .int .i64 c.batch, .int .i64 c.age, .int .i64 c.patience, .slice l.pa c.progs.length l.pc, .slice l.sa c.subs.length l.sc])]) (by kernel_rfl) ?_
  refine ct_seq ?_
  refine ct_region ?_
  refine rt_t (ot_box (.tmp mem0) (us := [.int .i64 c.workers, .int .i64 c.levels, .int .i64 c.classes, .int .i64 c.tasks, .int .i64 c.deque, .int .i64 c.heap, .int .i64 c.batch, .int .i64 c.age, .int .i64 c.patience, .slice l.pa c.progs.length l.pc, .slice l.sa c.subs.length l.sc]) rfl) wants_none (fun _ => (put_new (by kernel_rfl))) ?_
  rintro b1
  refine rt_q (op_assign .const).q wants_none (put_new (by kernel_rfl)) ?_
  refine rt_nil ?_
  refine et_then ?_
  refine ct_seq ?_
  refine ct_draw (by kernel_rfl) (by kernel_rfl) ?_
  refine qt_q (oq_loadA (o := 0) (i := 0) (k := 11) (us := [.int .i64 c.workers, .int .i64 c.levels, .int .i64 c.classes, .int .i64 c.tasks, .int .i64 c.deque, .int .i64 c.heap, .int .i64 c.batch, .int .i64 c.age, .int .i64 c.patience, .slice l.pa c.progs.length l.pc, .slice l.sa c.subs.length l.sc]) (.tmp mem1) mem0 (rfl) (by kernel_rfl) rfl rfl) wants_none (put_new (by kernel_rfl)) ?_
  refine qt_q (oq_call0 (by kernel_rfl) (.cons (.tmp mem0) .nil) (refDeques_spec c l (by first | assumption | exact ⟨h1, h2, h3, h4, h5, h6, h7, h8, h9, h10⟩) B W _)) wants_none (put_new (by kernel_rfl)) ?_
  refine qt_q (op_field (k := 0) (o' := 0) (.tmp mem3) (by kernel_rfl) (by rfl)).q wants_none (put_new (by kernel_rfl)) ?_
  refine qt_q (oq_load (o := 0) (i := 0) (.tmp mem0) mem0 (rfl) rfl (by kernel_rfl)) wants_none (put_new (by kernel_rfl)) ?_
  refine qt_q (op_field (k := 1) (o' := 1) (.tmp mem5) (by kernel_rfl) (by rfl)).q wants_none (put_new (by kernel_rfl)) ?_
  refine qt_q (oq_load (o := 0) (i := 1) (.tmp mem0) mem0 (rfl) rfl (by kernel_rfl)) wants_none (put_new (by kernel_rfl)) ?_
  refine qt_q (op_mul (.tmp mem2) (.tmp mem0) (w64 (by omega) (by omega))).q wants_none (put_new (by kernel_rfl)) ?_
  refine qt_q (op_field (k := 4) (o' := 4) (.tmp mem8) (by kernel_rfl) (by rfl)).q wants_none (put_new (by kernel_rfl)) ?_
  refine qt_q (oq_load (o := 0) (i := 4) (.tmp mem0) mem0 (rfl) rfl (by kernel_rfl)) wants_none (put_new (by kernel_rfl)) ?_
  refine qt_q (op_add .const (.tmp mem0) (w64 (by omega) (by omega))).q wants_none (put_new (by kernel_rfl)) ?_
  refine qt_q (op_mul (.tmp mem3) (.tmp mem0) (w64 (by omega) (by omega))).q wants_none (put_new (by kernel_rfl)) ?_
  refine qt_q (op_add (.tmp mem9) (.tmp mem0) (w64 (by omega) (by omega))).q wants_none (put_new (by kernel_rfl)) ?_
  refine qt_q (op_field (k := 3) (o' := 3) (.tmp mem13) (by kernel_rfl) (by rfl)).q wants_none (put_new (by kernel_rfl)) ?_
  refine qt_q (oq_load (o := 0) (i := 3) (.tmp mem0) mem0 (rfl) rfl (by kernel_rfl)) wants_none (put_new (by kernel_rfl)) ?_
  refine qt_q (op_mul .const (.tmp mem0) (w64 (by omega) (by omega))).q wants_none (put_new (by kernel_rfl)) ?_
  refine qt_q (op_add (.tmp mem3) (.tmp mem0) (w64 (by omega) (by omega))).q wants_none (put_new (by kernel_rfl)) ?_
  refine qt_q (op_assign (.tmp mem0)).q wants_none (put_over pick16 (by kernel_rfl)) ?_
  refine qt_nil ?_
  refine et_then ?_
  refine ct_ret ?_
  exact et_ret rfl (.cons mem0 .nil) (by unfold layCells layTab; rfl) Ent.drop

set_option maxRecDepth 100000 in
theorem refSlot_spec (c : Cfg) (l : CfgAt) (hn : CNums c) (i : Int) (B : Nat) (W : World) (L : List SProp) : Pure Try.prog 11 #[.agg #[.int .i64 c.workers, .int .i64 c.levels, .int .i64 c.classes, .int .i64 c.tasks, .int .i64 c.deque, .int .i64 c.heap, .int .i64 c.batch, .int .i64 c.age, .int .i64 c.patience, .slice l.pa c.progs.length l.pc, .slice l.sa c.subs.length l.sc], .int .i64 i] B W L (.int .i64 (atV i c.heap 4 1)) := by
  obtain ⟨h1, h2, h3, h4, h5, h6, h7, h8, h9, h10⟩ := hn
  refine pure_enter Try.func11 rfl (m := 9) rfl (Nat.le_of_ble_eq_true rfl) (R := [(0, .agg #[.int .i64 c.workers, .int .i64 c.levels, .int .i64 c.classes, .int .i64 c.tasks, .int .i64 c.deque, .int .i64 c.heap, .int .i64 c.batch, .int .i64 c.age, .int .i64 c.patience, .slice l.pa c.progs.length l.pc, .slice l.sa c.subs.length l.sc]), (1, .int .i64 i)]) (by kernel_rfl) ?_
  refine ct_seq ?_
  refine ct_region ?_
  refine rt_t (ot_box (.tmp mem0) (us := [.int .i64 c.workers, .int .i64 c.levels, .int .i64 c.classes, .int .i64 c.tasks, .int .i64 c.deque, .int .i64 c.heap, .int .i64 c.batch, .int .i64 c.age, .int .i64 c.patience, .slice l.pa c.progs.length l.pc, .slice l.sa c.subs.length l.sc]) rfl) wants_none (fun _ => (put_new (by kernel_rfl))) ?_
  rintro b1
  refine rt_q (op_assign .const).q wants_none (put_new (by kernel_rfl)) ?_
  refine rt_nil ?_
  refine et_then ?_
  refine ct_seq ?_
  refine ct_region ?_
  refine rt_q (op_move (.tmp mem3)).q wants_none (put_new (by kernel_rfl)) ?_
  refine rt_q (op_field (k := 5) (o' := 5) (.tmp mem2) (by kernel_rfl) (by rfl)).q wants_none (put_new (by kernel_rfl)) ?_
  refine rt_q (oq_load (o := 0) (i := 5) (.tmp mem0) mem0 (rfl) rfl (by kernel_rfl)) wants_none (put_new (by kernel_rfl)) ?_
  refine rt_q (oq_call0 (by kernel_rfl) (.cons .const (.cons (.tmp mem2) (.cons (.tmp mem0) (.cons .const .nil)))) (refIndex_spec _ _ _ _ (by intro h1 h2; refine ⟨?_, ?_⟩ <;> omega) B W _)) wants_none (put_new (by kernel_rfl)) ?_
  refine rt_q (op_assign (.tmp mem0)).q wants_none (put_over pick4 (by kernel_rfl)) ?_
  refine rt_nil ?_
  refine et_then ?_
  refine ct_ret ?_
  exact et_ret rfl (.cons mem0 .nil) (by rfl) Ent.drop

set_option maxRecDepth 100000 in
theorem refTask_spec (c : Cfg) (l : CfgAt) (hn : CNums c) (t k : Int) (hk : 0 ≤ k) (hk4 : k ≤ 4) (B : Nat) (W : World) (L : List SProp) : Pure Try.prog 25 #[.agg #[.int .i64 c.workers, .int .i64 c.levels, .int .i64 c.classes, .int .i64 c.tasks, .int .i64 c.deque, .int .i64 c.heap, .int .i64 c.batch, .int .i64 c.age, .int .i64 c.patience, .slice l.pa c.progs.length l.pc, .slice l.sa c.subs.length l.sc], .int .i64 t, .int .i64 k] B W L (.int .i64 (atV t c.tasks (layTab c + k) 5)) := by
  obtain ⟨h1, h2, h3, h4, h5, h6, h7, h8, h9, h10⟩ := hn
  have hdq : 8 ≤ layDeq c ∧ layDeq c ≤ 200 := by unfold layDeq; omega
  have htb : 9 ≤ layDeq c + c.workers * c.levels * (2 + c.deque) ∧ layDeq c + c.workers * c.levels * (2 + c.deque) ≤ 70000 := by omega
  refine pure_enter Try.func25 rfl (m := 29) rfl (Nat.le_of_ble_eq_true rfl) (R := [(0, .agg #[.int .i64 c.workers, .int .i64 c.levels, .int .i64 c.classes, .int .i64 c.tasks, .int .i64 c.deque, .int .i64 c.heap, .int .i64 c.batch, .int .i64 c.age, .int .i64 c.patience, .slice l.pa c.progs.length l.pc, .slice l.sa c.subs.length l.sc]), (1, .int .i64 t), (2, .int .i64 k)]) (by kernel_rfl) ?_
  refine ct_seq ?_
  refine ct_region ?_
  refine rt_t (ot_box (.tmp mem0) (us := [.int .i64 c.workers, .int .i64 c.levels, .int .i64 c.classes, .int .i64 c.tasks, .int .i64 c.deque, .int .i64 c.heap, .int .i64 c.batch, .int .i64 c.age, .int .i64 c.patience, .slice l.pa c.progs.length l.pc, .slice l.sa c.subs.length l.sc]) rfl) wants_none (fun _ => (put_new (by kernel_rfl))) ?_
  rintro b1
  refine rt_q (op_assign .const).q wants_none (put_new (by kernel_rfl)) ?_
  refine rt_nil ?_
  refine et_then ?_
  refine ct_seq ?_
  refine ct_draw (by kernel_rfl) (by kernel_rfl) ?_
  refine qt_q (oq_loadA (o := 0) (i := 0) (k := 11) (us := [.int .i64 c.workers, .int .i64 c.levels, .int .i64 c.classes, .int .i64 c.tasks, .int .i64 c.deque, .int .i64 c.heap, .int .i64 c.batch, .int .i64 c.age, .int .i64 c.patience, .slice l.pa c.progs.length l.pc, .slice l.sa c.subs.length l.sc]) (.tmp mem1) mem0 (rfl) (by kernel_rfl) rfl rfl) wants_none (put_new (by kernel_rfl)) ?_
  refine qt_q (oq_call0 (by kernel_rfl) (.cons (.tmp mem0) .nil) (refDeques_spec c l (by first | assumption | exact ⟨h1, h2, h3, h4, h5, h6, h7, h8, h9, h10⟩) B W _)) wants_none (put_new (by kernel_rfl)) ?_
  refine qt_q (op_field (k := 0) (o' := 0) (.tmp mem3) (by kernel_rfl) (by rfl)).q wants_none (put_new (by kernel_rfl)) ?_
  refine qt_q (oq_load (o := 0) (i := 0) (.tmp mem0) mem0 (rfl) rfl (by kernel_rfl)) wants_none (put_new (by kernel_rfl)) ?_
  refine qt_q (op_field (k := 1) (o' := 1) (.tmp mem5) (by kernel_rfl) (by rfl)).q wants_none (put_new (by kernel_rfl)) ?_
  refine qt_q (oq_load (o := 0) (i := 1) (.tmp mem0) mem0 (rfl) rfl (by kernel_rfl)) wants_none (put_new (by kernel_rfl)) ?_
  refine qt_q (op_mul (.tmp mem2) (.tmp mem0) (w64 (by omega) (by omega))).q wants_none (put_new (by kernel_rfl)) ?_
  refine qt_q (op_field (k := 4) (o' := 4) (.tmp mem8) (by kernel_rfl) (by rfl)).q wants_none (put_new (by kernel_rfl)) ?_
  refine qt_q (oq_load (o := 0) (i := 4) (.tmp mem0) mem0 (rfl) rfl (by kernel_rfl)) wants_none (put_new (by kernel_rfl)) ?_
  refine qt_q (op_add .const (.tmp mem0) (w64 (by omega) (by omega))).q wants_none (put_new (by kernel_rfl)) ?_
  refine qt_q (op_mul (.tmp mem3) (.tmp mem0) (w64 (by omega) (by omega))).q wants_none (put_new (by kernel_rfl)) ?_
  refine qt_q (op_add (.tmp mem9) (.tmp mem0) (w64 (by omega) (by omega))).q wants_none (put_new (by kernel_rfl)) ?_
  refine qt_q (op_move (.tmp mem15)).q wants_none (put_new (by kernel_rfl)) ?_
  refine qt_q (op_field (k := 3) (o' := 3) (.tmp mem14) (by kernel_rfl) (by rfl)).q wants_none (put_new (by kernel_rfl)) ?_
  refine qt_q (oq_load (o := 0) (i := 3) (.tmp mem0) mem0 (rfl) rfl (by kernel_rfl)) wants_none (put_new (by kernel_rfl)) ?_
  refine qt_q (oq_call0 (by kernel_rfl) (.cons (.tmp mem3) (.cons (.tmp mem2) (.cons (.tmp mem0) (.cons .const .nil)))) (refIndex_spec _ _ _ _ (by intro h1 h2; refine ⟨?_, ?_⟩ <;> omega) B W _)) wants_none (put_new (by kernel_rfl)) ?_
  refine qt_q (op_assign (.tmp mem0)).q wants_none (put_new (by kernel_rfl)) ?_
  refine qt_nil ?_
  refine et_then ?_
  refine ct_seq ?_
  refine ct_seq ?_
  refine ct_region ?_
  refine rt_q (op_move (.tmp mem0)).q wants_none (put_new (by kernel_rfl)) ?_
  refine rt_q (op_lss (.tmp mem0) .const).q wants_none (put_new (by kernel_rfl)) ?_
  refine rt_nil ?_
  refine et_then ?_
  refine ct_if (.tmp mem0) (fun h2 => ?_) (fun h2 => ?_)
  · have hat : atV t c.tasks (layDeq c + c.workers * c.levels * (2 + c.deque)) 5 ≤ 80000 ∧ -1 ≤ atV t c.tasks (layDeq c + c.workers * c.levels * (2 + c.deque)) 5 := by unfold atV; split <;> omega
    refine ct_seq ?_
    refine ct_region ?_
    refine rt_q (op_assign .const).q wants_none (put_over pick19 (by kernel_rfl)) ?_
    refine rt_nil ?_
    refine et_then ?_
    refine ct_ret ?_
    refine et_then_ret ?_
    exact et_ret rfl (.cons mem0 .nil) (by unfold atV at *; unfold layTab; first | (rw [if_pos (by split at * <;> omega)]; rfl) | (rw [if_neg (by split at * <;> omega)]; refine congrArg (Value.int .i64) ?_; split <;> omega)) Ent.drop
  · have hat : atV t c.tasks (layDeq c + c.workers * c.levels * (2 + c.deque)) 5 ≤ 80000 ∧ -1 ≤ atV t c.tasks (layDeq c + c.workers * c.levels * (2 + c.deque)) 5 := by unfold atV; split <;> omega
    refine ct_skip ?_
    refine et_then ?_
    refine ct_seq ?_
    refine ct_region ?_
    refine rt_q (op_move (.tmp mem2)).q wants_none (put_new (by kernel_rfl)) ?_
    refine rt_q (op_move (.tmp (memU mem4))).q wants_none (put_new (by kernel_rfl)) ?_
    refine rt_q (op_add (.tmp mem1) (.tmp mem0) (w64 (by omega) (by omega))).q wants_none (put_new (by kernel_rfl)) ?_
    refine rt_q (op_assign (.tmp mem0)).q wants_none (put_over (pickU pick2) (by kernel_rfl)) ?_
    refine rt_nil ?_
    refine et_then ?_
    refine ct_ret ?_
    exact et_ret rfl (.cons mem0 .nil) (by unfold atV at *; unfold layTab; first | (rw [if_pos (by split at * <;> omega)]; rfl) | (rw [if_neg (by split at * <;> omega)]; refine congrArg (Value.int .i64) ?_; split <;> omega)) Ent.drop

set_option maxRecDepth 100000 in
theorem refState_spec (c : Cfg) (l : CfgAt) (hn : CNums c) (t : Int) (B : Nat) (W : World) (L : List SProp) : Pure Try.prog 14 #[.agg #[.int .i64 c.workers, .int .i64 c.levels, .int .i64 c.classes, .int .i64 c.tasks, .int .i64 c.deque, .int .i64 c.heap, .int .i64 c.batch, .int .i64 c.age, .int .i64 c.patience, .slice l.pa c.progs.length l.pc, .slice l.sa c.subs.length l.sc], .int .i64 t] B W L (.int .i64 (atV t c.tasks (layTab c + 0) 5)) := by
  refine pure_enter Try.func14 rfl (m := 8) rfl (Nat.le_of_ble_eq_true rfl) (R := [(0, .agg #[.int .i64 c.workers, .int .i64 c.levels, .int .i64 c.classes, .int .i64 c.tasks, .int .i64 c.deque, .int .i64 c.heap, .int .i64 c.batch, .int .i64 c.age, .int .i64 c.patience, .slice l.pa c.progs.length l.pc, .slice l.sa c.subs.length l.sc]), (1, .int .i64 t)]) (by kernel_rfl) ?_
  refine ct_seq ?_
  refine ct_region ?_
  refine rt_t (ot_box (.tmp mem0) (us := [.int .i64 c.workers, .int .i64 c.levels, .int .i64 c.classes, .int .i64 c.tasks, .int .i64 c.deque, .int .i64 c.heap, .int .i64 c.batch, .int .i64 c.age, .int .i64 c.patience, .slice l.pa c.progs.length l.pc, .slice l.sa c.subs.length l.sc]) rfl) wants_none (fun _ => (put_new (by kernel_rfl))) ?_
  rintro b1
  refine rt_q (op_assign .const).q wants_none (put_new (by kernel_rfl)) ?_
  refine rt_nil ?_
  refine et_then ?_
  refine ct_seq ?_
  refine ct_region ?_
  refine rt_q (oq_loadA (o := 0) (i := 0) (k := 11) (us := [.int .i64 c.workers, .int .i64 c.levels, .int .i64 c.classes, .int .i64 c.tasks, .int .i64 c.deque, .int .i64 c.heap, .int .i64 c.batch, .int .i64 c.age, .int .i64 c.patience, .slice l.pa c.progs.length l.pc, .slice l.sa c.subs.length l.sc]) (.tmp mem1) mem0 (rfl) (by kernel_rfl) rfl rfl) wants_none (put_new (by kernel_rfl)) ?_
  refine rt_q (op_move (.tmp mem4)).q wants_none (put_new (by kernel_rfl)) ?_
  refine rt_q (oq_call0 (by kernel_rfl) (.cons (.tmp mem1) (.cons (.tmp mem0) (.cons .const .nil))) (refTask_spec c l hn _ _ (by omega) (by omega) B W _)) wants_none (put_new (by kernel_rfl)) ?_
  refine rt_q (op_assign (.tmp mem0)).q wants_none (put_over pick3 (by kernel_rfl)) ?_
  refine rt_nil ?_
  refine et_then ?_
  refine ct_ret ?_
  exact et_ret rfl (.cons mem0 .nil) (by rfl) Ent.drop

set_option maxRecDepth 100000 in
theorem refLevel_spec (c : Cfg) (l : CfgAt) (hn : CNums c) (t : Int) (B : Nat) (W : World) (L : List SProp) : Pure Try.prog 12 #[.agg #[.int .i64 c.workers, .int .i64 c.levels, .int .i64 c.classes, .int .i64 c.tasks, .int .i64 c.deque, .int .i64 c.heap, .int .i64 c.batch, .int .i64 c.age, .int .i64 c.patience, .slice l.pa c.progs.length l.pc, .slice l.sa c.subs.length l.sc], .int .i64 t] B W L (.int .i64 (atV t c.tasks (layTab c + 1) 5)) := by
  refine pure_enter Try.func12 rfl (m := 8) rfl (Nat.le_of_ble_eq_true rfl) (R := [(0, .agg #[.int .i64 c.workers, .int .i64 c.levels, .int .i64 c.classes, .int .i64 c.tasks, .int .i64 c.deque, .int .i64 c.heap, .int .i64 c.batch, .int .i64 c.age, .int .i64 c.patience, .slice l.pa c.progs.length l.pc, .slice l.sa c.subs.length l.sc]), (1, .int .i64 t)]) (by kernel_rfl) ?_
  refine ct_seq ?_
  refine ct_region ?_
  refine rt_t (ot_box (.tmp mem0) (us := [.int .i64 c.workers, .int .i64 c.levels, .int .i64 c.classes, .int .i64 c.tasks, .int .i64 c.deque, .int .i64 c.heap, .int .i64 c.batch, .int .i64 c.age, .int .i64 c.patience, .slice l.pa c.progs.length l.pc, .slice l.sa c.subs.length l.sc]) rfl) wants_none (fun _ => (put_new (by kernel_rfl))) ?_
  rintro b1
  refine rt_q (op_assign .const).q wants_none (put_new (by kernel_rfl)) ?_
  refine rt_nil ?_
  refine et_then ?_
  refine ct_seq ?_
  refine ct_region ?_
  refine rt_q (oq_loadA (o := 0) (i := 0) (k := 11) (us := [.int .i64 c.workers, .int .i64 c.levels, .int .i64 c.classes, .int .i64 c.tasks, .int .i64 c.deque, .int .i64 c.heap, .int .i64 c.batch, .int .i64 c.age, .int .i64 c.patience, .slice l.pa c.progs.length l.pc, .slice l.sa c.subs.length l.sc]) (.tmp mem1) mem0 (rfl) (by kernel_rfl) rfl rfl) wants_none (put_new (by kernel_rfl)) ?_
  refine rt_q (op_move (.tmp mem4)).q wants_none (put_new (by kernel_rfl)) ?_
  refine rt_q (oq_call0 (by kernel_rfl) (.cons (.tmp mem1) (.cons (.tmp mem0) (.cons .const .nil))) (refTask_spec c l hn _ _ (by omega) (by omega) B W _)) wants_none (put_new (by kernel_rfl)) ?_
  refine rt_q (op_assign (.tmp mem0)).q wants_none (put_over pick3 (by kernel_rfl)) ?_
  refine rt_nil ?_
  refine et_then ?_
  refine ct_ret ?_
  exact et_ret rfl (.cons mem0 .nil) (by rfl) Ent.drop

set_option maxRecDepth 100000 in
theorem refQueue_spec (c : Cfg) (l : CfgAt) (hn : CNums c) (w v : Int) (hw : 0 ≤ w ∧ w < c.workers) (hv : 0 ≤ v ∧ v < c.levels) (B : Nat) (W : World) (L : List SProp) : Pure Try.prog 21 #[.agg #[.int .i64 c.workers, .int .i64 c.levels, .int .i64 c.classes, .int .i64 c.tasks, .int .i64 c.deque, .int .i64 c.heap, .int .i64 c.batch, .int .i64 c.age, .int .i64 c.patience, .slice l.pa c.progs.length l.pc, .slice l.sa c.subs.length l.sc], .int .i64 w, .int .i64 v] B W L (.agg #[.int .i64 (topV c w v), .int .i64 (topV c w v + 1), .int .i64 (topV c w v + 2), .int .i64 c.deque]) := by
  obtain ⟨q1, q2, q3, q4, q5, q6⟩ := top_in hn hw hv
  obtain ⟨t1, t2, t3, t4, t5⟩ := tab_in hn
  have hn0 := hn
  obtain ⟨h1, h2, h3, h4, h5, h6, h7, h8, h9, h10⟩ := hn
  have hdq : 8 ≤ layDeq c ∧ layDeq c ≤ 200 := by unfold layDeq; omega
  refine pure_enter Try.func21 rfl (m := 48) rfl (Nat.le_of_ble_eq_true rfl) (R := [(0, .agg #[.int .i64 c.workers, .int .i64 c.levels, .int .i64 c.classes, .int .i64 c.tasks, .int .i64 c.deque, .int .i64 c.heap, .int .i64 c.batch, .int .i64 c.age, .int .i64 c.patience, .slice l.pa c.progs.length l.pc, .slice l.sa c.subs.length l.sc]), (1, .int .i64 w), (2, .int .i64 v)]) (by kernel_rfl) ?_
  refine ct_seq ?_
  refine ct_region ?_
  refine rt_t (ot_box (.tmp mem0) (us := [.int .i64 c.workers, .int .i64 c.levels, .int .i64 c.classes, .int .i64 c.tasks, .int .i64 c.deque, .int .i64 c.heap, .int .i64 c.batch, .int .i64 c.age, .int .i64 c.patience, .slice l.pa c.progs.length l.pc, .slice l.sa c.subs.length l.sc]) rfl) wants_none (fun _ => (put_new (by kernel_rfl))) ?_
  rintro b1
  refine rt_t (ot_alloc (v := .agg #[.int .i64 0, .int .i64 0, .int .i64 0, .int .i64 0]) (us := [.int .i64 0, .int .i64 0, .int .i64 0, .int .i64 0]) (by kernel_rfl) rfl) wants_none (fun _ => (put_new (by kernel_rfl))) ?_
  rintro b2
  refine rt_nil ?_
  refine et_then ?_
  refine ct_seq ?_
  refine ct_seq ?_
  refine ct_region ?_
  refine rt_q (op_move (.tmp mem3)).q wants_none (put_new (by kernel_rfl)) ?_
  refine rt_q (op_lss (.tmp mem0) .const).q wants_none (put_new (by kernel_rfl)) ?_
  refine rt_q (op_move (.tmp mem0)).q wants_none (put_new (by kernel_rfl)) ?_
  refine rt_case turn0 turn0 (fun h3 => ?_) (fun h3 => ?_)
  · exact absurd h3 (by omega)
  · refine rt_q (op_move (.tmp mem6)).q (wants_some rfl rfl mem0 rfl) (put_new (by kernel_rfl)) ?_
    refine rt_q (op_field (k := 0) (o' := 0) (.tmp mem5) (by kernel_rfl) (by rfl)).q (wants_some rfl rfl mem1 rfl) (put_new (by kernel_rfl)) ?_
    refine rt_q (oq_load (o := 0) (i := 0) (.tmp mem0) mem1 (rfl) rfl (by kernel_rfl)) (wants_some rfl rfl mem2 rfl) (put_new (by kernel_rfl)) ?_
    refine rt_q (op_geq (.tmp mem2) (.tmp mem0)).q (wants_some rfl rfl mem3 rfl) (put_new (by kernel_rfl)) ?_
    refine rt_q (op_pick (b := false) (.tmp mem4) (.tmp mem0)).q wants_none (put_new (by kernel_rfl)) ?_
    refine rt_q (op_move (.tmp mem0)).q wants_none (put_new (by kernel_rfl)) ?_
    refine rt_case turn0 turn0 (fun h4 => ?_) (fun h4 => ?_)
    · exact absurd h4 (by omega)
    · refine rt_q (op_move (.tmp mem13)).q (wants_some rfl rfl mem0 rfl) (put_new (by kernel_rfl)) ?_
      refine rt_q (op_lss (.tmp mem0) .const).q (wants_some rfl rfl mem1 rfl) (put_new (by kernel_rfl)) ?_
      refine rt_q (op_pick (b := false) (.tmp mem2) (.tmp mem0)).q wants_none (put_new (by kernel_rfl)) ?_
      refine rt_q (op_move (.tmp mem0)).q wants_none (put_new (by kernel_rfl)) ?_
      refine rt_case turn0 turn0 (fun h5 => ?_) (fun h5 => ?_)
      · exact absurd h5 (by omega)
      · refine rt_q (op_move (.tmp mem17)).q (wants_some rfl rfl mem0 rfl) (put_new (by kernel_rfl)) ?_
        refine rt_q (op_field (k := 1) (o' := 1) (.tmp mem15) (by kernel_rfl) (by rfl)).q (wants_some rfl rfl mem1 rfl) (put_new (by kernel_rfl)) ?_
        refine rt_q (oq_load (o := 0) (i := 1) (.tmp mem0) mem1 (rfl) rfl (by kernel_rfl)) (wants_some rfl rfl mem2 rfl) (put_new (by kernel_rfl)) ?_
        refine rt_q (op_geq (.tmp mem2) (.tmp mem0)).q (wants_some rfl rfl mem3 rfl) (put_new (by kernel_rfl)) ?_
        refine rt_q (op_pick (b := false) (.tmp mem4) (.tmp mem0)).q wants_none (put_new (by kernel_rfl)) ?_
        refine rt_nil ?_
        refine et_then ?_
        refine ct_if (.tmp mem0) (fun h6 => ?_) (fun h6 => ?_)
        · exact absurd h6 (by omega)
        · refine ct_skip ?_
          refine et_then ?_
          refine ct_seq ?_
          refine ct_draw (by kernel_rfl) (by kernel_rfl) ?_
          refine qt_q (oq_loadA (o := 0) (i := 0) (k := 11) (us := [.int .i64 c.workers, .int .i64 c.levels, .int .i64 c.classes, .int .i64 c.tasks, .int .i64 c.deque, .int .i64 c.heap, .int .i64 c.batch, .int .i64 c.age, .int .i64 c.patience, .slice l.pa c.progs.length l.pc, .slice l.sa c.subs.length l.sc]) (.tmp mem19) mem1 (rfl) (by kernel_rfl) rfl rfl) wants_none (put_new (by kernel_rfl)) ?_
          refine qt_q (oq_call0 (by kernel_rfl) (.cons (.tmp mem0) .nil) (refDeques_spec c l (by first | assumption | exact ⟨h1, h2, h3, h4, h5, h6, h7, h8, h9, h10⟩) B W _)) wants_none (put_new (by kernel_rfl)) ?_
          refine qt_q (op_move (.tmp (memU mem3))).q wants_none (put_new (by kernel_rfl)) ?_
          refine qt_q (op_field (k := 1) (o' := 1) (.tmp (memU mem2)) (by kernel_rfl) (by rfl)).q wants_none (put_new (by kernel_rfl)) ?_
          refine qt_q (oq_load (o := 0) (i := 1) (.tmp mem0) mem1 (rfl) rfl (by kernel_rfl)) wants_none (put_new (by kernel_rfl)) ?_
          refine qt_q (op_mul (.tmp mem2) (.tmp mem0) (w64 (by omega) (by omega))).q wants_none (put_new (by kernel_rfl)) ?_
          refine qt_q (op_move (.tmp (memU mem8))).q wants_none (put_new (by kernel_rfl)) ?_
          refine qt_q (op_add (.tmp mem1) (.tmp mem0) (w64 (by omega) (by omega))).q wants_none (put_new (by kernel_rfl)) ?_
          refine qt_q (op_field (k := 4) (o' := 4) (.tmp (memU mem7)) (by kernel_rfl) (by rfl)).q wants_none (put_new (by kernel_rfl)) ?_
          refine qt_q (oq_load (o := 0) (i := 4) (.tmp mem0) mem1 (rfl) rfl (by kernel_rfl)) wants_none (put_new (by kernel_rfl)) ?_
          refine qt_q (op_add .const (.tmp mem0) (w64 (by omega) (by omega))).q wants_none (put_new (by kernel_rfl)) ?_
          refine qt_q (op_mul (.tmp mem3) (.tmp mem0) (w64 (by omega) (by omega))).q wants_none (put_new (by kernel_rfl)) ?_
          refine qt_q (op_add (.tmp mem10) (.tmp mem0) (w64 (by omega) (by omega))).q wants_none (put_new (by kernel_rfl)) ?_
          refine qt_q (op_assign (.tmp mem0)).q wants_none (put_new (by kernel_rfl)) ?_
          refine qt_nil ?_
          refine et_then ?_
          refine ct_seq ?_
          refine ct_region ?_
          refine rt_q (op_move (.tmp mem0)).q wants_none (put_new (by kernel_rfl)) ?_
          refine rt_q (op_move (.tmp mem1)).q wants_none (put_new (by kernel_rfl)) ?_
          refine rt_q (op_add (.tmp mem0) .const (w64 (by omega) (by omega))).q wants_none (put_new (by kernel_rfl)) ?_
          refine rt_q (op_move (.tmp mem3)).q wants_none (put_new (by kernel_rfl)) ?_
          refine rt_q (op_add (.tmp mem0) .const (w64 (by omega) (by omega))).q wants_none (put_new (by kernel_rfl)) ?_
          refine rt_q (op_field (k := 4) (o' := 4) (.tmp (memU mem18)) (by kernel_rfl) (by rfl)).q wants_none (put_new (by kernel_rfl)) ?_
          refine rt_q (oq_load (o := 0) (i := 4) (.tmp mem0) mem1 (rfl) rfl (by kernel_rfl)) wants_none (put_new (by kernel_rfl)) ?_
          refine rt_q (op_build (v := .agg #[.int .i64 (((layDeq c) + (((w * c.levels) + v) * (2 + c.deque)))), .int .i64 ((((layDeq c) + (((w * c.levels) + v) * (2 + c.deque))) + 1)), .int .i64 ((((layDeq c) + (((w * c.levels) + v) * (2 + c.deque))) + 2)), .int .i64 c.deque]) (.cons (.tmp mem6) (.cons (.tmp mem4) (.cons (.tmp mem2) (.cons (.tmp mem0) .nil)))) (fun _ => by kernel_rfl)).q wants_none (put_new (by kernel_rfl)) ?_
          refine rt_t (ot_store (o := 0) (i := 0) (k := 4) (us := [.int .i64 (((layDeq c) + (((w * c.levels) + v) * (2 + c.deque)))), .int .i64 ((((layDeq c) + (((w * c.levels) + v) * (2 + c.deque))) + 1)), .int .i64 ((((layDeq c) + (((w * c.levels) + v) * (2 + c.deque))) + 2)), .int .i64 c.deque]) (ws := [.int .i64 (((layDeq c) + (((w * c.levels) + v) * (2 + c.deque)))), .int .i64 ((((layDeq c) + (((w * c.levels) + v) * (2 + c.deque))) + 1)), .int .i64 ((((layDeq c) + (((w * c.levels) + v) * (2 + c.deque))) + 2)), .int .i64 c.deque]) (.tmp (memU (memU mem0))) (.tmp mem0) turn0 (rfl) (by kernel_rfl) rfl (by decide) rfl rfl (by simp) rfl) wants_none (fun _ => put_none) (fun _ => ?_)
          refine rt_nil ?_
          refine et_then ?_
          refine ct_ret ?_
          exact et_ret rfl (.cellA (m := 4) (ws := [.int .i64 (((layDeq c) + (((w * c.levels) + v) * (2 + c.deque)))), .int .i64 ((((layDeq c) + (((w * c.levels) + v) * (2 + c.deque))) + 1)), .int .i64 ((((layDeq c) + (((w * c.levels) + v) * (2 + c.deque))) + 2)), .int .i64 c.deque]) (memU (memU mem0)) mem0 (by kernel_rfl) rfl rfl .nil) (by rfl) (Ent.drop.trans Ent.drop)

end Go.Proofs.Ytkfkiaieeiodnaa
