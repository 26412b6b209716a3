/- Walks by program: the layout. -/
import Derived.Test.YtkfkiaieeiodnaaSo1
namespace Go.Proofs.Ytkfkiaieeiodnaa
open Go Go.RowKit
def laySlp (c : Cfg) : Int := 4 + c.heap
def layEpo (c : Cfg) : Int := laySlp c + c.classes
def layBit (c : Cfg) : Int := layEpo c + c.workers
theorem layDeq_eq (c : Cfg) : layBit c + c.workers = layDeq c := by unfold layBit layEpo laySlp layDeq; omega
theorem cfgCheck_pure (c : Cfg) (l : CfgAt) {B : Nat} {W : World} (hc : CfgIn W B c l) (L : List SProp) : Pure Try.prog 28 #[cfgV c l] B W L (.int .i64 (cfgErr c)) :=
  pure_of_calls fun w hb hl => cfgCheck_any c l w ((hc.below hb).more hl)
theorem refCheck_pure (c : Cfg) (l : CfgAt) {B : Nat} {W : World} (hc : CfgIn W B c l) (L : List SProp) : Pure Try.prog 38 #[cfgV c l] B W L (.int .i64 (cfgErr c)) :=
  pure_of_calls fun w hb hl => refCheck_any c l w ((hc.below hb).more hl)
theorem draw_pure (d n : Int) (hn : n ≤ 9223372036854775807) {B : Nat} {W : World} (L : List SProp) : Pure Try.prog 35 #[.int .i64 d, .int .i64 n] B W L (.int .i64 (drawM d n)) :=
  pure_of_same fun w => draw_any d n w hn

set_option maxRecDepth 100000 in
theorem layCells_spec (c : Cfg) (hn : CNums c) (B : Nat) (W : World) (L : List SProp) : Pure Try.prog 40 #[.agg #[.int .i64 c.workers, .int .i64 c.levels, .int .i64 c.classes, .int .i64 c.tasks, .int .i64 c.deque, .int .i64 c.heap, .int .i64 ((laySlp c)), .int .i64 ((layEpo c)), .int .i64 ((layBit c)), .int .i64 ((layDeq c)), .int .i64 ((layTab c))]] B W L (.int .i64 (layCells c)) := by
  have hn0 := hn
  obtain ⟨h1, h2, h3, h4, h5, h6, h7, h8, h9, h10⟩ := hn
  obtain ⟨t1, t2, t3, t4, t5⟩ := tab_in hn0
  have hdq : 8 ≤ layDeq c ∧ layDeq c ≤ 200 := by unfold layDeq; omega
  refine pure_enter Try.func40 rfl (m := 9) rfl (Nat.le_of_ble_eq_true rfl) (R := [(0, .agg #[.int .i64 c.workers, .int .i64 c.levels, .int .i64 c.classes, .int .i64 c.tasks, .int .i64 c.deque, .int .i64 c.heap, .int .i64 ((laySlp c)), .int .i64 ((layEpo c)), .int .i64 ((layBit c)), .int .i64 ((layDeq c)), .int .i64 ((layTab c))])]) (by kernel_rfl) ?_
  refine ct_seq ?_
  refine ct_region ?_
  refine rt_t (ot_box (.tmp mem0) (us := [.int .i64 c.workers, .int .i64 c.levels, .int .i64 c.classes, .int .i64 c.tasks, .int .i64 c.deque, .int .i64 c.heap, .int .i64 ((laySlp c)), .int .i64 ((layEpo c)), .int .i64 ((layBit c)), .int .i64 ((layDeq c)), .int .i64 ((layTab c))]) rfl) wants_none (fun _ => (put_new (by kernel_rfl))) ?_
  rintro b1
  refine rt_q (op_assign .const).q wants_none (put_new (by kernel_rfl)) ?_
  refine rt_nil ?_
  refine et_then ?_
  refine ct_seq ?_
  refine ct_region ?_
  refine rt_q (op_field (k := 10) (o' := 10) (.tmp mem1) (by kernel_rfl) (by rfl)).q wants_none (put_new (by kernel_rfl)) ?_
  refine rt_q (oq_load (o := 0) (i := 10) (.tmp mem0) mem0 (rfl) rfl (by kernel_rfl)) wants_none (put_new (by kernel_rfl)) ?_
  refine rt_q (op_field (k := 3) (o' := 3) (.tmp mem3) (by kernel_rfl) (by rfl)).q wants_none (put_new (by kernel_rfl)) ?_
  refine rt_q (oq_load (o := 0) (i := 3) (.tmp mem0) mem0 (rfl) rfl (by kernel_rfl)) wants_none (put_new (by kernel_rfl)) ?_
  refine rt_q (op_mul .const (.tmp mem0) (w64 (by omega) (by omega))).q wants_none (put_new (by kernel_rfl)) ?_
  refine rt_q (op_add (.tmp mem3) (.tmp mem0) (w64 (by omega) (by omega))).q wants_none (put_new (by kernel_rfl)) ?_
  refine rt_q (op_assign (.tmp mem0)).q wants_none (put_over pick6 (by kernel_rfl)) ?_
  refine rt_nil ?_
  refine et_then ?_
  refine ct_ret ?_
  exact et_ret rfl (.cons mem0 .nil) (by rfl) Ent.drop

set_option maxRecDepth 100000 in
theorem laySlot_spec (c : Cfg) (hn : CNums c) (i : Int) (B : Nat) (W : World) (L : List SProp) : Pure Try.prog 66 #[.agg #[.int .i64 c.workers, .int .i64 c.levels, .int .i64 c.classes, .int .i64 c.tasks, .int .i64 c.deque, .int .i64 c.heap, .int .i64 ((laySlp c)), .int .i64 ((layEpo c)), .int .i64 ((layBit c)), .int .i64 ((layDeq c)), .int .i64 ((layTab c))], .int .i64 i] B W L (.int .i64 (atV i c.heap 4 1)) := by
  have hn0 := hn
  obtain ⟨h1, h2, h3, h4, h5, h6, h7, h8, h9, h10⟩ := hn
  obtain ⟨t1, t2, t3, t4, t5⟩ := tab_in hn0
  have hdq : 8 ≤ layDeq c ∧ layDeq c ≤ 200 := by unfold layDeq; omega
  refine pure_enter Try.func66 rfl (m := 9) rfl (Nat.le_of_ble_eq_true rfl) (R := [(0, .agg #[.int .i64 c.workers, .int .i64 c.levels, .int .i64 c.classes, .int .i64 c.tasks, .int .i64 c.deque, .int .i64 c.heap, .int .i64 ((laySlp c)), .int .i64 ((layEpo c)), .int .i64 ((layBit c)), .int .i64 ((layDeq c)), .int .i64 ((layTab c))]), (1, .int .i64 i)]) (by kernel_rfl) ?_
  refine ct_seq ?_
  refine ct_region ?_
  refine rt_t (ot_box (.tmp mem0) (us := [.int .i64 c.workers, .int .i64 c.levels, .int .i64 c.classes, .int .i64 c.tasks, .int .i64 c.deque, .int .i64 c.heap, .int .i64 ((laySlp c)), .int .i64 ((layEpo c)), .int .i64 ((layBit c)), .int .i64 ((layDeq c)), .int .i64 ((layTab c))]) rfl) wants_none (fun _ => (put_new (by kernel_rfl))) ?_
  rintro b1
  refine rt_q (op_assign .const).q wants_none (put_new (by kernel_rfl)) ?_
  refine rt_nil ?_
  refine et_then ?_
  refine ct_seq ?_
  refine ct_region ?_
  refine rt_q (op_move (.tmp mem3)).q wants_none (put_new (by kernel_rfl)) ?_
  refine rt_q (op_field (k := 5) (o' := 5) (.tmp mem2) (by kernel_rfl) (by rfl)).q wants_none (put_new (by kernel_rfl)) ?_
  refine rt_q (oq_load (o := 0) (i := 5) (.tmp mem0) mem0 (rfl) rfl (by kernel_rfl)) wants_none (put_new (by kernel_rfl)) ?_
  refine rt_q (oq_call0 (by kernel_rfl) (.cons (.tmp mem2) (.cons (.tmp mem0) (.cons .const (.cons .const .nil)))) (layAt_spec _ _ _ _ (by intro h1 h2; refine ⟨?_, ?_⟩ <;> omega) B W _)) wants_none (put_new (by kernel_rfl)) ?_
  refine rt_q (op_assign (.tmp mem0)).q wants_none (put_over pick4 (by kernel_rfl)) ?_
  refine rt_nil ?_
  refine et_then ?_
  refine ct_ret ?_
  exact et_ret rfl (.cons mem0 .nil) (by rfl) Ent.drop

set_option maxRecDepth 100000 in
theorem laySize_spec (c : Cfg) (hn : CNums c) (B : Nat) (W : World) (L : List SProp) : Pure Try.prog 64 #[.agg #[.int .i64 c.workers, .int .i64 c.levels, .int .i64 c.classes, .int .i64 c.tasks, .int .i64 c.deque, .int .i64 c.heap, .int .i64 ((laySlp c)), .int .i64 ((layEpo c)), .int .i64 ((layBit c)), .int .i64 ((layDeq c)), .int .i64 ((layTab c))]] B W L (.int .i64 2) := by
  have hn0 := hn
  obtain ⟨h1, h2, h3, h4, h5, h6, h7, h8, h9, h10⟩ := hn
  obtain ⟨t1, t2, t3, t4, t5⟩ := tab_in hn0
  have hdq : 8 ≤ layDeq c ∧ layDeq c ≤ 200 := by unfold layDeq; omega
  refine pure_enter Try.func64 rfl (m := 3) rfl (Nat.le_of_ble_eq_true rfl) (R := [(0, .agg #[.int .i64 c.workers, .int .i64 c.levels, .int .i64 c.classes, .int .i64 c.tasks, .int .i64 c.deque, .int .i64 c.heap, .int .i64 ((laySlp c)), .int .i64 ((layEpo c)), .int .i64 ((layBit c)), .int .i64 ((layDeq c)), .int .i64 ((layTab c))])]) (by kernel_rfl) ?_
  refine ct_seq ?_
  refine ct_region ?_
  refine rt_t (ot_box (.tmp mem0) (us := [.int .i64 c.workers, .int .i64 c.levels, .int .i64 c.classes, .int .i64 c.tasks, .int .i64 c.deque, .int .i64 c.heap, .int .i64 ((laySlp c)), .int .i64 ((layEpo c)), .int .i64 ((layBit c)), .int .i64 ((layDeq c)), .int .i64 ((layTab c))]) rfl) wants_none (fun _ => (put_new (by kernel_rfl))) ?_
  rintro b1
  refine rt_q (op_assign .const).q wants_none (put_new (by kernel_rfl)) ?_
  refine rt_nil ?_
  refine et_then ?_
  refine ct_seq ?_
  refine ct_region ?_
  refine rt_q (op_assign .const).q wants_none (put_over pick0 (by kernel_rfl)) ?_
  refine rt_nil ?_
  refine et_then ?_
  refine ct_ret ?_
  exact et_ret rfl (.cons mem0 .nil) (by rfl) Ent.drop

set_option maxRecDepth 100000 in
theorem layTask_spec (c : Cfg) (hn : CNums c) (t k : Int) (hk : 0 ≤ k) (hk4 : k ≤ 4) (B : Nat) (W : World) (L : List SProp) : Pure Try.prog 67 #[.agg #[.int .i64 c.workers, .int .i64 c.levels, .int .i64 c.classes, .int .i64 c.tasks, .int .i64 c.deque, .int .i64 c.heap, .int .i64 ((laySlp c)), .int .i64 ((layEpo c)), .int .i64 ((layBit c)), .int .i64 ((layDeq c)), .int .i64 ((layTab c))], .int .i64 t, .int .i64 k] B W L (.int .i64 (atV t c.tasks (layTab c + k) 5)) := by
  have hn0 := hn
  obtain ⟨h1, h2, h3, h4, h5, h6, h7, h8, h9, h10⟩ := hn
  obtain ⟨t1, t2, t3, t4, t5⟩ := tab_in hn0
  have hdq : 8 ≤ layDeq c ∧ layDeq c ≤ 200 := by unfold layDeq; omega
  refine pure_enter Try.func67 rfl (m := 15) rfl (Nat.le_of_ble_eq_true rfl) (R := [(0, .agg #[.int .i64 c.workers, .int .i64 c.levels, .int .i64 c.classes, .int .i64 c.tasks, .int .i64 c.deque, .int .i64 c.heap, .int .i64 ((laySlp c)), .int .i64 ((layEpo c)), .int .i64 ((layBit c)), .int .i64 ((layDeq c)), .int .i64 ((layTab c))]), (1, .int .i64 t), (2, .int .i64 k)]) (by kernel_rfl) ?_
  refine ct_seq ?_
  refine ct_region ?_
  refine rt_t (ot_box (.tmp mem0) (us := [.int .i64 c.workers, .int .i64 c.levels, .int .i64 c.classes, .int .i64 c.tasks, .int .i64 c.deque, .int .i64 c.heap, .int .i64 ((laySlp c)), .int .i64 ((layEpo c)), .int .i64 ((layBit c)), .int .i64 ((layDeq c)), .int .i64 ((layTab c))]) rfl) wants_none (fun _ => (put_new (by kernel_rfl))) ?_
  rintro b1
  refine rt_q (op_assign .const).q wants_none (put_new (by kernel_rfl)) ?_
  refine rt_nil ?_
  refine et_then ?_
  refine ct_seq ?_
  refine ct_region ?_
  refine rt_q (op_move (.tmp mem3)).q wants_none (put_new (by kernel_rfl)) ?_
  refine rt_q (op_field (k := 3) (o' := 3) (.tmp mem2) (by kernel_rfl) (by rfl)).q wants_none (put_new (by kernel_rfl)) ?_
  refine rt_q (oq_load (o := 0) (i := 3) (.tmp mem0) mem0 (rfl) rfl (by kernel_rfl)) wants_none (put_new (by kernel_rfl)) ?_
  refine rt_q (op_field (k := 10) (o' := 10) (.tmp mem4) (by kernel_rfl) (by rfl)).q wants_none (put_new (by kernel_rfl)) ?_
  refine rt_q (oq_load (o := 0) (i := 10) (.tmp mem0) mem0 (rfl) rfl (by kernel_rfl)) wants_none (put_new (by kernel_rfl)) ?_
  refine rt_q (op_move (.tmp mem9)).q wants_none (put_new (by kernel_rfl)) ?_
  refine rt_q (op_add (.tmp mem1) (.tmp mem0) (w64 (by omega) (by omega))).q wants_none (put_new (by kernel_rfl)) ?_
  refine rt_q (oq_call0 (by kernel_rfl) (.cons (.tmp mem6) (.cons (.tmp mem4) (.cons (.tmp mem0) (.cons .const .nil)))) (layAt_spec _ _ _ _ (by intro h1 h2; refine ⟨?_, ?_⟩ <;> omega) B W _)) wants_none (put_new (by kernel_rfl)) ?_
  refine rt_q (op_assign (.tmp mem0)).q wants_none (put_over pick8 (by kernel_rfl)) ?_
  refine rt_nil ?_
  refine et_then ?_
  refine ct_ret ?_
  exact et_ret rfl (.cons mem0 .nil) (by rfl) Ent.drop

set_option maxRecDepth 100000 in
theorem layState_spec (c : Cfg) (hn : CNums c) (t : Int) (B : Nat) (W : World) (L : List SProp) : Pure Try.prog 62 #[.agg #[.int .i64 c.workers, .int .i64 c.levels, .int .i64 c.classes, .int .i64 c.tasks, .int .i64 c.deque, .int .i64 c.heap, .int .i64 ((laySlp c)), .int .i64 ((layEpo c)), .int .i64 ((layBit c)), .int .i64 ((layDeq c)), .int .i64 ((layTab c))], .int .i64 t] B W L (.int .i64 (atV t c.tasks (layTab c + 0) 5)) := by
  refine pure_enter Try.func62 rfl (m := 8) rfl (Nat.le_of_ble_eq_true rfl) (R := [(0, .agg #[.int .i64 c.workers, .int .i64 c.levels, .int .i64 c.classes, .int .i64 c.tasks, .int .i64 c.deque, .int .i64 c.heap, .int .i64 ((laySlp c)), .int .i64 ((layEpo c)), .int .i64 ((layBit c)), .int .i64 ((layDeq c)), .int .i64 ((layTab c))]), (1, .int .i64 t)]) (by kernel_rfl) ?_
  refine ct_seq ?_
  refine ct_region ?_
  refine rt_t (ot_box (.tmp mem0) (us := [.int .i64 c.workers, .int .i64 c.levels, .int .i64 c.classes, .int .i64 c.tasks, .int .i64 c.deque, .int .i64 c.heap, .int .i64 ((laySlp c)), .int .i64 ((layEpo c)), .int .i64 ((layBit c)), .int .i64 ((layDeq c)), .int .i64 ((layTab c))]) rfl) wants_none (fun _ => (put_new (by kernel_rfl))) ?_
  rintro b1
  refine rt_q (op_assign .const).q wants_none (put_new (by kernel_rfl)) ?_
  refine rt_nil ?_
  refine et_then ?_
  refine ct_seq ?_
  refine ct_region ?_
  refine rt_q (oq_loadA (o := 0) (i := 0) (k := 11) (us := [.int .i64 c.workers, .int .i64 c.levels, .int .i64 c.classes, .int .i64 c.tasks, .int .i64 c.deque, .int .i64 c.heap, .int .i64 ((laySlp c)), .int .i64 ((layEpo c)), .int .i64 ((layBit c)), .int .i64 ((layDeq c)), .int .i64 ((layTab c))]) (.tmp mem1) mem0 (rfl) (by kernel_rfl) rfl rfl) wants_none (put_new (by kernel_rfl)) ?_
  refine rt_q (op_move (.tmp mem4)).q wants_none (put_new (by kernel_rfl)) ?_
  refine rt_q (oq_call0 (by kernel_rfl) (.cons (.tmp mem1) (.cons (.tmp mem0) (.cons .const .nil))) (layTask_spec c hn _ _ (by omega) (by omega) B W _)) wants_none (put_new (by kernel_rfl)) ?_
  refine rt_q (op_assign (.tmp mem0)).q wants_none (put_over pick3 (by kernel_rfl)) ?_
  refine rt_nil ?_
  refine et_then ?_
  refine ct_ret ?_
  exact et_ret rfl (.cons mem0 .nil) (by rfl) Ent.drop

set_option maxRecDepth 100000 in
theorem layLevel_spec (c : Cfg) (hn : CNums c) (t : Int) (B : Nat) (W : World) (L : List SProp) : Pure Try.prog 47 #[.agg #[.int .i64 c.workers, .int .i64 c.levels, .int .i64 c.classes, .int .i64 c.tasks, .int .i64 c.deque, .int .i64 c.heap, .int .i64 ((laySlp c)), .int .i64 ((layEpo c)), .int .i64 ((layBit c)), .int .i64 ((layDeq c)), .int .i64 ((layTab c))], .int .i64 t] B W L (.int .i64 (atV t c.tasks (layTab c + 1) 5)) := by
  refine pure_enter Try.func47 rfl (m := 8) rfl (Nat.le_of_ble_eq_true rfl) (R := [(0, .agg #[.int .i64 c.workers, .int .i64 c.levels, .int .i64 c.classes, .int .i64 c.tasks, .int .i64 c.deque, .int .i64 c.heap, .int .i64 ((laySlp c)), .int .i64 ((layEpo c)), .int .i64 ((layBit c)), .int .i64 ((layDeq c)), .int .i64 ((layTab c))]), (1, .int .i64 t)]) (by kernel_rfl) ?_
  refine ct_seq ?_
  refine ct_region ?_
  refine rt_t (ot_box (.tmp mem0) (us := [.int .i64 c.workers, .int .i64 c.levels, .int .i64 c.classes, .int .i64 c.tasks, .int .i64 c.deque, .int .i64 c.heap, .int .i64 ((laySlp c)), .int .i64 ((layEpo c)), .int .i64 ((layBit c)), .int .i64 ((layDeq c)), .int .i64 ((layTab c))]) rfl) wants_none (fun _ => (put_new (by kernel_rfl))) ?_
  rintro b1
  refine rt_q (op_assign .const).q wants_none (put_new (by kernel_rfl)) ?_
  refine rt_nil ?_
  refine et_then ?_
  refine ct_seq ?_
  refine ct_region ?_
  refine rt_q (oq_loadA (o := 0) (i := 0) (k := 11) (us := [.int .i64 c.workers, .int .i64 c.levels, .int .i64 c.classes, .int .i64 c.tasks, .int .i64 c.deque, .int .i64 c.heap, .int .i64 ((laySlp c)), .int .i64 ((layEpo c)), .int .i64 ((layBit c)), .int .i64 ((layDeq c)), .int .i64 ((layTab c))]) (.tmp mem1) mem0 (rfl) (by kernel_rfl) rfl rfl) wants_none (put_new (by kernel_rfl)) ?_
  refine rt_q (op_move (.tmp mem4)).q wants_none (put_new (by kernel_rfl)) ?_
  refine rt_q (oq_call0 (by kernel_rfl) (.cons (.tmp mem1) (.cons (.tmp mem0) (.cons .const .nil))) (layTask_spec c hn _ _ (by omega) (by omega) B W _)) wants_none (put_new (by kernel_rfl)) ?_
  refine rt_q (op_assign (.tmp mem0)).q wants_none (put_over pick3 (by kernel_rfl)) ?_
  refine rt_nil ?_
  refine et_then ?_
  refine ct_ret ?_
  exact et_ret rfl (.cons mem0 .nil) (by rfl) Ent.drop

set_option maxRecDepth 100000 in
theorem layQueue_spec (c : Cfg) (hn : CNums c) (w v : Int) (hw : 0 ≤ w ∧ w < c.workers) (hv : 0 ≤ v ∧ v < c.levels) (B : Nat) (W : World) (L : List SProp) : Pure Try.prog 50 #[.agg #[.int .i64 c.workers, .int .i64 c.levels, .int .i64 c.classes, .int .i64 c.tasks, .int .i64 c.deque, .int .i64 c.heap, .int .i64 ((laySlp c)), .int .i64 ((layEpo c)), .int .i64 ((layBit c)), .int .i64 ((layDeq c)), .int .i64 ((layTab c))], .int .i64 w, .int .i64 v] B W L (.agg #[.int .i64 (topV c w v), .int .i64 (topV c w v + 1), .int .i64 (topV c w v + 2), .int .i64 c.deque]) := by
  obtain ⟨q1, q2, q3, q4, q5, q6⟩ := top_in hn hw hv
  have hn0 := hn
  obtain ⟨h1, h2, h3, h4, h5, h6, h7, h8, h9, h10⟩ := hn
  obtain ⟨t1, t2, t3, t4, t5⟩ := tab_in hn0
  have hdq : 8 ≤ layDeq c ∧ layDeq c ≤ 200 := by unfold layDeq; omega
  have e1 : atV w c.workers (layDeq c) (c.levels * (2 + c.deque)) = layDeq c + w * (c.levels * (2 + c.deque)) := by unfold atV; rw [if_neg (by omega)]
  have e2 : atV v c.levels (atV w c.workers (layDeq c) (c.levels * (2 + c.deque))) (2 + c.deque) = topV c w v := by rw [e1]; unfold atV; rw [if_neg (by omega)]; exact topV_eq c w v
  refine pure_enter Try.func50 rfl (m := 44) rfl (Nat.le_of_ble_eq_true rfl) (R := [(0, .agg #[.int .i64 c.workers, .int .i64 c.levels, .int .i64 c.classes, .int .i64 c.tasks, .int .i64 c.deque, .int .i64 c.heap, .int .i64 ((laySlp c)), .int .i64 ((layEpo c)), .int .i64 ((layBit c)), .int .i64 ((layDeq c)), .int .i64 ((layTab c))]), (1, .int .i64 w), (2, .int .i64 v)]) (by kernel_rfl) ?_
  refine ct_seq ?_
  refine ct_region ?_
  refine rt_t (ot_box (.tmp mem0) (us := [.int .i64 c.workers, .int .i64 c.levels, .int .i64 c.classes, .int .i64 c.tasks, .int .i64 c.deque, .int .i64 c.heap, .int .i64 ((laySlp c)), .int .i64 ((layEpo c)), .int .i64 ((layBit c)), .int .i64 ((layDeq c)), .int .i64 ((layTab c))]) rfl) wants_none (fun _ => (put_new (by kernel_rfl))) ?_
  rintro b1
  refine rt_t (ot_alloc (v := .agg #[.int .i64 0, .int .i64 0, .int .i64 0, .int .i64 0]) (us := [.int .i64 0, .int .i64 0, .int .i64 0, .int .i64 0]) (by kernel_rfl) rfl) wants_none (fun _ => (put_new (by kernel_rfl))) ?_
  rintro b2
  refine rt_nil ?_
  refine et_then ?_
  refine ct_seq ?_
  refine ct_region ?_
  refine rt_q (op_field (k := 4) (o' := 4) (.tmp mem1) (by kernel_rfl) (by rfl)).q wants_none (put_new (by kernel_rfl)) ?_
  refine rt_q (oq_load (o := 0) (i := 4) (.tmp mem0) mem1 (rfl) rfl (by kernel_rfl)) wants_none (put_new (by kernel_rfl)) ?_
  refine rt_q (op_add .const (.tmp mem0) (w64 (by omega) (by omega))).q wants_none (put_new (by kernel_rfl)) ?_
  refine rt_q (op_assign (.tmp mem0)).q wants_none (put_new (by kernel_rfl)) ?_
  refine rt_nil ?_
  refine et_then ?_
  refine ct_seq ?_
  refine ct_region ?_
  refine rt_q (op_move (.tmp mem7)).q wants_none (put_new (by kernel_rfl)) ?_
  refine rt_q (op_field (k := 0) (o' := 0) (.tmp mem6) (by kernel_rfl) (by rfl)).q wants_none (put_new (by kernel_rfl)) ?_
  refine rt_q (oq_load (o := 0) (i := 0) (.tmp mem0) mem1 (rfl) rfl (by kernel_rfl)) wants_none (put_new (by kernel_rfl)) ?_
  refine rt_q (op_field (k := 9) (o' := 9) (.tmp mem8) (by kernel_rfl) (by rfl)).q wants_none (put_new (by kernel_rfl)) ?_
  refine rt_q (oq_load (o := 0) (i := 9) (.tmp mem0) mem1 (rfl) rfl (by kernel_rfl)) wants_none (put_new (by kernel_rfl)) ?_
  refine rt_q (op_field (k := 1) (o' := 1) (.tmp mem10) (by kernel_rfl) (by rfl)).q wants_none (put_new (by kernel_rfl)) ?_
  refine rt_q (oq_load (o := 0) (i := 1) (.tmp mem0) mem1 (rfl) rfl (by kernel_rfl)) wants_none (put_new (by kernel_rfl)) ?_
  refine rt_q (op_move (.tmp mem7)).q wants_none (put_new (by kernel_rfl)) ?_
  refine rt_q (op_mul (.tmp mem1) (.tmp mem0) (w64 (by omega) (by omega))).q wants_none (put_new (by kernel_rfl)) ?_
  refine rt_q (oq_call0 (by kernel_rfl) (.cons (.tmp mem8) (.cons (.tmp mem6) (.cons (.tmp mem4) (.cons (.tmp mem0) .nil)))) (layAt_spec _ _ _ _ (by intro h1 h2; refine ⟨?_, ?_⟩ <;> omega) B W _)) wants_none (put_new (by kernel_rfl)) ?_
  refine rt_q (op_assign (.tmp mem0)).q wants_none (put_new (by kernel_rfl)) ?_
  refine rt_nil ?_
  refine et_then ?_
  refine ct_seq ?_
  refine ct_region ?_
  refine rt_q (op_move (.tmp mem19)).q wants_none (put_new (by kernel_rfl)) ?_
  refine rt_q (op_field (k := 1) (o' := 1) (.tmp mem17) (by kernel_rfl) (by rfl)).q wants_none (put_new (by kernel_rfl)) ?_
  refine rt_q (oq_load (o := 0) (i := 1) (.tmp mem0) mem1 (rfl) rfl (by kernel_rfl)) wants_none (put_new (by kernel_rfl)) ?_
  refine rt_q (op_move (.tmp mem3)).q wants_none (put_new (by kernel_rfl)) ?_
  refine rt_q (op_move (.tmp mem15)).q wants_none (put_new (by kernel_rfl)) ?_
  refine rt_q (oq_call0 (by kernel_rfl) (.cons (.tmp mem4) (.cons (.tmp mem2) (.cons (.tmp mem1) (.cons (.tmp mem0) .nil)))) (layAt_spec _ _ _ _ (by intro h1 h2; refine ⟨?_, ?_⟩ <;> omega) B W _)) wants_none (put_new (by kernel_rfl)) ?_
  refine rt_q (op_assign (.tmp mem0)).q wants_none (put_new (by kernel_rfl)) ?_
  refine rt_nil ?_
  refine et_then ?_
  refine ct_seq ?_
  refine ct_seq ?_
  refine ct_region ?_
  refine rt_q (op_move (.tmp mem7)).q wants_none (put_new (by kernel_rfl)) ?_
  refine rt_q (op_lss (.tmp mem0) .const).q wants_none (put_new (by kernel_rfl)) ?_
  refine rt_q (op_move (.tmp mem0)).q wants_none (put_new (by kernel_rfl)) ?_
  refine rt_case turn0 turn0 (fun h3 => ?_) (fun h3 => ?_)
  · exact absurd h3 (by omega)
  · refine rt_q (op_move (.tmp mem3)).q (wants_some rfl rfl mem0 rfl) (put_new (by kernel_rfl)) ?_
    refine rt_q (op_lss (.tmp mem0) .const).q (wants_some rfl rfl mem1 rfl) (put_new (by kernel_rfl)) ?_
    refine rt_q (op_pick (b := false) (.tmp mem2) (.tmp mem0)).q wants_none (put_new (by kernel_rfl)) ?_
    refine rt_nil ?_
    refine et_then ?_
    refine ct_if (.tmp mem0) (fun h4 => ?_) (fun h4 => ?_)
    · exact absurd h4 (by omega)
    · refine ct_skip ?_
      refine et_then ?_
      refine ct_seq ?_
      refine ct_region ?_
      refine rt_q (op_move (.tmp mem6)).q wants_none (put_new (by kernel_rfl)) ?_
      refine rt_q (op_move (.tmp mem7)).q wants_none (put_new (by kernel_rfl)) ?_
      refine rt_q (op_add (.tmp mem0) .const (w64 (by omega) (by omega))).q wants_none (put_new (by kernel_rfl)) ?_
      refine rt_q (op_move (.tmp mem9)).q wants_none (put_new (by kernel_rfl)) ?_
      refine rt_q (op_add (.tmp mem0) .const (w64 (by omega) (by omega))).q wants_none (put_new (by kernel_rfl)) ?_
      refine rt_q (op_field (k := 4) (o' := 4) (.tmp (memU mem14)) (by kernel_rfl) (by rfl)).q wants_none (put_new (by kernel_rfl)) ?_
      refine rt_q (oq_load (o := 0) (i := 4) (.tmp mem0) mem1 (rfl) rfl (by kernel_rfl)) wants_none (put_new (by kernel_rfl)) ?_
      refine rt_q (op_build (v := .agg #[.int .i64 ((atV v c.levels ((atV w c.workers ((layDeq c)) ((c.levels * (2 + c.deque))))) ((2 + c.deque)))), .int .i64 (((atV v c.levels ((atV w c.workers ((layDeq c)) ((c.levels * (2 + c.deque))))) ((2 + c.deque))) + 1)), .int .i64 (((atV v c.levels ((atV w c.workers ((layDeq c)) ((c.levels * (2 + c.deque))))) ((2 + c.deque))) + 2)), .int .i64 c.deque]) (.cons (.tmp mem6) (.cons (.tmp mem4) (.cons (.tmp mem2) (.cons (.tmp mem0) .nil)))) (fun _ => by kernel_rfl)).q wants_none (put_new (by kernel_rfl)) ?_
      refine rt_t (ot_store (o := 0) (i := 0) (k := 4) (us := [.int .i64 ((atV v c.levels ((atV w c.workers ((layDeq c)) ((c.levels * (2 + c.deque))))) ((2 + c.deque)))), .int .i64 (((atV v c.levels ((atV w c.workers ((layDeq c)) ((c.levels * (2 + c.deque))))) ((2 + c.deque))) + 1)), .int .i64 (((atV v c.levels ((atV w c.workers ((layDeq c)) ((c.levels * (2 + c.deque))))) ((2 + c.deque))) + 2)), .int .i64 c.deque]) (ws := [.int .i64 ((atV v c.levels ((atV w c.workers ((layDeq c)) ((c.levels * (2 + c.deque))))) ((2 + c.deque)))), .int .i64 (((atV v c.levels ((atV w c.workers ((layDeq c)) ((c.levels * (2 + c.deque))))) ((2 + c.deque))) + 1)), .int .i64 (((atV v c.levels ((atV w c.workers ((layDeq c)) ((c.levels * (2 + c.deque))))) ((2 + c.deque))) + 2)), .int .i64 c.deque]) (.tmp (memU mem16)) (.tmp mem0) turn0 (rfl) (by kernel_rfl) rfl (by decide) rfl rfl (by simp) rfl) wants_none (fun _ => put_none) (fun _ => ?_)
      refine rt_nil ?_
      refine et_then ?_
      refine ct_ret ?_
      exact et_ret rfl (.cellA (m := 4) (ws := [.int .i64 ((atV v c.levels ((atV w c.workers ((layDeq c)) ((c.levels * (2 + c.deque))))) ((2 + c.deque)))), .int .i64 (((atV v c.levels ((atV w c.workers ((layDeq c)) ((c.levels * (2 + c.deque))))) ((2 + c.deque))) + 1)), .int .i64 (((atV v c.levels ((atV w c.workers ((layDeq c)) ((c.levels * (2 + c.deque))))) ((2 + c.deque))) + 2)), .int .i64 c.deque]) (memU mem16) mem0 (by kernel_rfl) rfl rfl .nil) (by rw [e2]; rfl) (Ent.drop.trans Ent.drop)

set_option maxRecDepth 100000 in
theorem layNew_spec (c : Cfg) (l : CfgAt) (hv : cfgErr c = 0) {B : Nat} {W : World} (hc : CfgIn W B c l) (L : List SProp) : Pure Try.prog 39 #[.agg #[.int .i64 c.workers, .int .i64 c.levels, .int .i64 c.classes, .int .i64 c.tasks, .int .i64 c.deque, .int .i64 c.heap, .int .i64 c.batch, .int .i64 c.age, .int .i64 c.patience, .slice l.pa c.progs.length l.pc, .slice l.sa c.subs.length l.sc]] B W L (.tuple #[.agg #[.int .i64 c.workers, .int .i64 c.levels, .int .i64 c.classes, .int .i64 c.tasks, .int .i64 c.deque, .int .i64 c.heap, .int .i64 ((laySlp c)), .int .i64 ((layEpo c)), .int .i64 ((layBit c)), .int .i64 ((layDeq c)), .int .i64 ((layTab c))], .int .i64 0]) := by
  have hn0 := cnums (nums_of_err hv)
  have hn1 := hn0
  obtain ⟨h1, h2, h3, h4, h5, h6, h7, h8, h9, h10⟩ := hn1
  have hdq := layDeq_eq c
  have hs1 : laySlp c = 4 + c.heap := rfl
  have hs2 : layEpo c = laySlp c + c.classes := rfl
  have hs3 : layBit c = layEpo c + c.workers := rfl
  refine pure_enter Try.func39 rfl (m := 61) rfl (Nat.le_of_ble_eq_true rfl) (R := [(0, .agg #[.int .i64 c.workers, .int .i64 c.levels, .int .i64 c.classes, .int .i64 c.tasks, .int .i64 c.deque, .int .i64 c.heap, .int .i64 c.batch, .int .i64 c.age, .int .i64 c.patience, .slice l.pa c.progs.length l.pc, .slice l.sa c.subs.length l.sc])]) (by kernel_rfl) ?_
  refine ct_seq ?_
  refine ct_region ?_
  refine rt_t (ot_box (.tmp mem0) (us := [.int .i64 c.workers, .int .i64 c.levels, .int .i64 c.classes, .int .i64 c.tasks, .int .i64 c.deque, .int .i64 c.heap, .int .i64 c.batch, .int .i64 c.age, .int .i64 c.patience, .slice l.pa c.progs.length l.pc, .slice l.sa c.subs.length l.sc]) rfl) wants_none (fun _ => (put_new (by kernel_rfl))) ?_
  rintro b1
  refine rt_t (ot_alloc (v := .agg #[.int .i64 0, .int .i64 0, .int .i64 0, .int .i64 0, .int .i64 0, .int .i64 0, .int .i64 0, .int .i64 0, .int .i64 0, .int .i64 0, .int .i64 0]) (us := [.int .i64 0, .int .i64 0, .int .i64 0, .int .i64 0, .int .i64 0, .int .i64 0, .int .i64 0, .int .i64 0, .int .i64 0, .int .i64 0, .int .i64 0]) (by kernel_rfl) rfl) wants_none (fun _ => (put_new (by kernel_rfl))) ?_
  rintro b2
  refine rt_q (op_assign .const).q wants_none (put_new (by kernel_rfl)) ?_
  refine rt_nil ?_
  refine et_then ?_
  refine ct_seq ?_
  refine ct_seq ?_
  refine ct_region ?_
  refine rt_q (oq_loadA (o := 0) (i := 0) (k := 11) (us := [.int .i64 c.workers, .int .i64 c.levels, .int .i64 c.classes, .int .i64 c.tasks, .int .i64 c.deque, .int .i64 c.heap, .int .i64 c.batch, .int .i64 c.age, .int .i64 c.patience, .slice l.pa c.progs.length l.pc, .slice l.sa c.subs.length l.sc]) (.tmp mem2) mem1 (rfl) (by kernel_rfl) rfl rfl) wants_none (put_new (by kernel_rfl)) ?_
  refine rt_q (oq_call0 (by kernel_rfl) (.cons (.tmp mem0) .nil) (cfgCheck_pure c l hc _)) wants_none (put_new (by kernel_rfl)) ?_
  refine rt_q (op_assign (.tmp mem0)).q wants_none (put_new (by kernel_rfl)) ?_
  refine rt_nil ?_
  refine et_then ?_
  refine ct_seq ?_
  refine ct_region ?_
  refine rt_q (op_move (.tmp mem0)).q wants_none (put_new (by kernel_rfl)) ?_
  refine rt_q (op_neq (.tmp mem0) .const).q wants_none (put_new (by kernel_rfl)) ?_
  refine rt_nil ?_
  refine et_then ?_
  refine ct_if (.tmp mem0) (fun h3 => ?_) (fun h3 => ?_)
  · exact absurd hv h3
  · refine ct_skip ?_
    refine et_then ?_
    refine ct_seq ?_
    refine ct_region ?_
    refine rt_q (op_field (k := 0) (o' := 0) (.tmp mem7) (by kernel_rfl) (by rfl)).q wants_none (put_new (by kernel_rfl)) ?_
    refine rt_q (oq_load (o := 0) (i := 0) (.tmp mem0) mem1 (rfl) rfl (by kernel_rfl)) wants_none (put_new (by kernel_rfl)) ?_
    refine rt_q (op_field (k := 1) (o' := 1) (.tmp mem9) (by kernel_rfl) (by rfl)).q wants_none (put_new (by kernel_rfl)) ?_
    refine rt_q (oq_load (o := 0) (i := 1) (.tmp mem0) mem1 (rfl) rfl (by kernel_rfl)) wants_none (put_new (by kernel_rfl)) ?_
    refine rt_q (op_field (k := 2) (o' := 2) (.tmp mem11) (by kernel_rfl) (by rfl)).q wants_none (put_new (by kernel_rfl)) ?_
    refine rt_q (oq_load (o := 0) (i := 2) (.tmp mem0) mem1 (rfl) rfl (by kernel_rfl)) wants_none (put_new (by kernel_rfl)) ?_
    refine rt_q (op_field (k := 3) (o' := 3) (.tmp mem13) (by kernel_rfl) (by rfl)).q wants_none (put_new (by kernel_rfl)) ?_
    refine rt_q (oq_load (o := 0) (i := 3) (.tmp mem0) mem1 (rfl) rfl (by kernel_rfl)) wants_none (put_new (by kernel_rfl)) ?_
    refine rt_q (op_field (k := 4) (o' := 4) (.tmp mem15) (by kernel_rfl) (by rfl)).q wants_none (put_new (by kernel_rfl)) ?_
    refine rt_q (oq_load (o := 0) (i := 4) (.tmp mem0) mem1 (rfl) rfl (by kernel_rfl)) wants_none (put_new (by kernel_rfl)) ?_
    refine rt_q (op_field (k := 5) (o' := 5) (.tmp mem17) (by kernel_rfl) (by rfl)).q wants_none (put_new (by kernel_rfl)) ?_
    refine rt_q (oq_load (o := 0) (i := 5) (.tmp mem0) mem1 (rfl) rfl (by kernel_rfl)) wants_none (put_new (by kernel_rfl)) ?_
    refine rt_q (op_build (v := .agg #[.int .i64 c.workers, .int .i64 c.levels, .int .i64 c.classes, .int .i64 c.tasks, .int .i64 c.deque, .int .i64 c.heap, .int .i64 0, .int .i64 0, .int .i64 0, .int .i64 0, .int .i64 0]) (.cons (.tmp mem10) (.cons (.tmp mem8) (.cons (.tmp mem6) (.cons (.tmp mem4) (.cons (.tmp mem2) (.cons (.tmp mem0) .nil)))))) (fun _ => by kernel_rfl)).q wants_none (put_new (by kernel_rfl)) ?_
    refine rt_t (ot_alloc (v := .agg #[.int .i64 0, .int .i64 0, .int .i64 0, .int .i64 0, .int .i64 0, .int .i64 0, .int .i64 0, .int .i64 0, .int .i64 0, .int .i64 0, .int .i64 0]) (us := [.int .i64 0, .int .i64 0, .int .i64 0, .int .i64 0, .int .i64 0, .int .i64 0, .int .i64 0, .int .i64 0, .int .i64 0, .int .i64 0, .int .i64 0]) (by kernel_rfl) rfl) wants_none (fun _ => (put_new (by kernel_rfl))) ?_
    rintro b4
    refine rt_t (ot_store (o := 0) (i := 0) (k := 11) (us := [.int .i64 c.workers, .int .i64 c.levels, .int .i64 c.classes, .int .i64 c.tasks, .int .i64 c.deque, .int .i64 c.heap, .int .i64 0, .int .i64 0, .int .i64 0, .int .i64 0, .int .i64 0]) (ws := [.int .i64 c.workers, .int .i64 c.levels, .int .i64 c.classes, .int .i64 c.tasks, .int .i64 c.deque, .int .i64 c.heap, .int .i64 0, .int .i64 0, .int .i64 0, .int .i64 0, .int .i64 0]) (.tmp mem0) (.tmp mem1) turn0 (rfl) (by kernel_rfl) rfl (by decide) rfl rfl (by simp) rfl) wants_none (fun _ => put_none) (fun _ => ?_)
    refine rt_nil ?_
    refine et_then ?_
    refine ct_seq ?_
    refine ct_region ?_
    refine rt_q (op_field (k := 5) (o' := 5) (.tmp mem0) (by kernel_rfl) (by rfl)).q wants_none (put_new (by kernel_rfl)) ?_
    refine rt_q (oq_load (o := 0) (i := 5) (.tmp mem0) mem0 (rfl) rfl (by kernel_rfl)) wants_none (put_new (by kernel_rfl)) ?_
    refine rt_q (op_add .const (.tmp mem0) (w64 (by omega) (by omega))).q wants_none (put_new (by kernel_rfl)) ?_
    refine rt_q (op_field (k := 6) (o' := 6) (.tmp mem3) (by kernel_rfl) (by rfl)).q wants_none (put_new (by kernel_rfl)) ?_
    refine rt_t (ot_store (o := 0) (i := 6) (k := 1) (us := [.int .i64 ((4 + c.heap))]) (ws := [.int .i64 c.workers, .int .i64 c.levels, .int .i64 c.classes, .int .i64 c.tasks, .int .i64 c.deque, .int .i64 c.heap, .int .i64 ((4 + c.heap)), .int .i64 0, .int .i64 0, .int .i64 0, .int .i64 0]) (.tmp mem0) (.tmp mem1) turn0 (rfl) (by kernel_rfl) rfl (by decide) rfl rfl (by simp) rfl) wants_none (fun _ => put_none) (fun _ => ?_)
    refine rt_nil ?_
    refine et_then ?_
    refine ct_seq ?_
    refine ct_region ?_
    refine rt_q (op_field (k := 6) (o' := 6) (.tmp mem4) (by kernel_rfl) (by rfl)).q wants_none (put_new (by kernel_rfl)) ?_
    refine rt_q (oq_load (o := 0) (i := 6) (.tmp mem0) mem0 (rfl) rfl (by kernel_rfl)) wants_none (put_new (by kernel_rfl)) ?_
    refine rt_q (op_field (k := 2) (o' := 2) (.tmp mem6) (by kernel_rfl) (by rfl)).q wants_none (put_new (by kernel_rfl)) ?_
    refine rt_q (oq_load (o := 0) (i := 2) (.tmp mem0) mem0 (rfl) rfl (by kernel_rfl)) wants_none (put_new (by kernel_rfl)) ?_
    refine rt_q (op_add (.tmp mem2) (.tmp mem0) (w64 (by omega) (by omega))).q wants_none (put_new (by kernel_rfl)) ?_
    refine rt_q (op_field (k := 7) (o' := 7) (.tmp mem9) (by kernel_rfl) (by rfl)).q wants_none (put_new (by kernel_rfl)) ?_
    refine rt_t (ot_store (o := 0) (i := 7) (k := 1) (us := [.int .i64 (((4 + c.heap) + c.classes))]) (ws := [.int .i64 c.workers, .int .i64 c.levels, .int .i64 c.classes, .int .i64 c.tasks, .int .i64 c.deque, .int .i64 c.heap, .int .i64 ((4 + c.heap)), .int .i64 (((4 + c.heap) + c.classes)), .int .i64 0, .int .i64 0, .int .i64 0]) (.tmp mem0) (.tmp mem1) turn0 (rfl) (by kernel_rfl) rfl (by decide) rfl rfl (by simp) rfl) wants_none (fun _ => put_none) (fun _ => ?_)
    refine rt_nil ?_
    refine et_then ?_
    refine ct_seq ?_
    refine ct_region ?_
    refine rt_q (op_field (k := 7) (o' := 7) (.tmp mem10) (by kernel_rfl) (by rfl)).q wants_none (put_new (by kernel_rfl)) ?_
    refine rt_q (oq_load (o := 0) (i := 7) (.tmp mem0) mem0 (rfl) rfl (by kernel_rfl)) wants_none (put_new (by kernel_rfl)) ?_
    refine rt_q (op_field (k := 0) (o' := 0) (.tmp mem12) (by kernel_rfl) (by rfl)).q wants_none (put_new (by kernel_rfl)) ?_
    refine rt_q (oq_load (o := 0) (i := 0) (.tmp mem0) mem0 (rfl) rfl (by kernel_rfl)) wants_none (put_new (by kernel_rfl)) ?_
    refine rt_q (op_add (.tmp mem2) (.tmp mem0) (w64 (by omega) (by omega))).q wants_none (put_new (by kernel_rfl)) ?_
    refine rt_q (op_field (k := 8) (o' := 8) (.tmp mem15) (by kernel_rfl) (by rfl)).q wants_none (put_new (by kernel_rfl)) ?_
    refine rt_t (ot_store (o := 0) (i := 8) (k := 1) (us := [.int .i64 ((((4 + c.heap) + c.classes) + c.workers))]) (ws := [.int .i64 c.workers, .int .i64 c.levels, .int .i64 c.classes, .int .i64 c.tasks, .int .i64 c.deque, .int .i64 c.heap, .int .i64 ((4 + c.heap)), .int .i64 (((4 + c.heap) + c.classes)), .int .i64 ((((4 + c.heap) + c.classes) + c.workers)), .int .i64 0, .int .i64 0]) (.tmp mem0) (.tmp mem1) turn0 (rfl) (by kernel_rfl) rfl (by decide) rfl rfl (by simp) rfl) wants_none (fun _ => put_none) (fun _ => ?_)
    refine rt_nil ?_
    refine et_then ?_
    refine ct_seq ?_
    refine ct_region ?_
    refine rt_q (op_field (k := 8) (o' := 8) (.tmp mem16) (by kernel_rfl) (by rfl)).q wants_none (put_new (by kernel_rfl)) ?_
    refine rt_q (oq_load (o := 0) (i := 8) (.tmp mem0) mem0 (rfl) rfl (by kernel_rfl)) wants_none (put_new (by kernel_rfl)) ?_
    refine rt_q (op_field (k := 0) (o' := 0) (.tmp mem18) (by kernel_rfl) (by rfl)).q wants_none (put_new (by kernel_rfl)) ?_
    refine rt_q (oq_load (o := 0) (i := 0) (.tmp mem0) mem0 (rfl) rfl (by kernel_rfl)) wants_none (put_new (by kernel_rfl)) ?_
    refine rt_q (op_add (.tmp mem2) (.tmp mem0) (w64 (by omega) (by omega))).q wants_none (put_new (by kernel_rfl)) ?_
    refine rt_q (op_field (k := 9) (o' := 9) (.tmp (memU mem1)) (by kernel_rfl) (by rfl)).q wants_none (put_new (by kernel_rfl)) ?_
    refine rt_t (ot_store (o := 0) (i := 9) (k := 1) (us := [.int .i64 (((((4 + c.heap) + c.classes) + c.workers) + c.workers))]) (ws := [.int .i64 c.workers, .int .i64 c.levels, .int .i64 c.classes, .int .i64 c.tasks, .int .i64 c.deque, .int .i64 c.heap, .int .i64 ((4 + c.heap)), .int .i64 (((4 + c.heap) + c.classes)), .int .i64 ((((4 + c.heap) + c.classes) + c.workers)), .int .i64 (((((4 + c.heap) + c.classes) + c.workers) + c.workers)), .int .i64 0]) (.tmp mem0) (.tmp mem1) turn0 (rfl) (by kernel_rfl) rfl (by decide) rfl rfl (by simp) rfl) wants_none (fun _ => put_none) (fun _ => ?_)
    refine rt_nil ?_
    refine et_then ?_
    refine ct_seq ?_
    refine ct_region ?_
    refine rt_q (op_field (k := 9) (o' := 9) (.tmp (memU mem2)) (by kernel_rfl) (by rfl)).q wants_none (put_new (by kernel_rfl)) ?_
    refine rt_q (oq_load (o := 0) (i := 9) (.tmp mem0) mem0 (rfl) rfl (by kernel_rfl)) wants_none (put_new (by kernel_rfl)) ?_
    refine rt_q (op_field (k := 0) (o' := 0) (.tmp (memU mem4)) (by kernel_rfl) (by rfl)).q wants_none (put_new (by kernel_rfl)) ?_
    refine rt_q (oq_load (o := 0) (i := 0) (.tmp mem0) mem0 (rfl) rfl (by kernel_rfl)) wants_none (put_new (by kernel_rfl)) ?_
    refine rt_q (op_field (k := 1) (o' := 1) (.tmp (memU mem6)) (by kernel_rfl) (by rfl)).q wants_none (put_new (by kernel_rfl)) ?_
    refine rt_q (oq_load (o := 0) (i := 1) (.tmp mem0) mem0 (rfl) rfl (by kernel_rfl)) wants_none (put_new (by kernel_rfl)) ?_
    refine rt_q (op_mul (.tmp mem2) (.tmp mem0) (w64 (by omega) (by omega))).q wants_none (put_new (by kernel_rfl)) ?_
    refine rt_q (op_field (k := 4) (o' := 4) (.tmp (memU mem9)) (by kernel_rfl) (by rfl)).q wants_none (put_new (by kernel_rfl)) ?_
    refine rt_q (oq_load (o := 0) (i := 4) (.tmp mem0) mem0 (rfl) rfl (by kernel_rfl)) wants_none (put_new (by kernel_rfl)) ?_
    refine rt_q (op_add .const (.tmp mem0) (w64 (by omega) (by omega))).q wants_none (put_new (by kernel_rfl)) ?_
    refine rt_q (op_mul (.tmp mem3) (.tmp mem0) (w64 (by omega) (by omega))).q wants_none (put_new (by kernel_rfl)) ?_
    refine rt_q (op_add (.tmp mem9) (.tmp mem0) (w64 (by omega) (by omega))).q wants_none (put_new (by kernel_rfl)) ?_
    refine rt_q (op_field (k := 10) (o' := 10) (.tmp (memU mem14)) (by kernel_rfl) (by rfl)).q wants_none (put_new (by kernel_rfl)) ?_
    refine rt_t (ot_store (o := 0) (i := 10) (k := 1) (us := [.int .i64 ((((((4 + c.heap) + c.classes) + c.workers) + c.workers) + ((c.workers * c.levels) * (2 + c.deque))))]) (ws := [.int .i64 c.workers, .int .i64 c.levels, .int .i64 c.classes, .int .i64 c.tasks, .int .i64 c.deque, .int .i64 c.heap, .int .i64 ((4 + c.heap)), .int .i64 (((4 + c.heap) + c.classes)), .int .i64 ((((4 + c.heap) + c.classes) + c.workers)), .int .i64 (((((4 + c.heap) + c.classes) + c.workers) + c.workers)), .int .i64 ((((((4 + c.heap) + c.classes) + c.workers) + c.workers) + ((c.workers * c.levels) * (2 + c.deque))))]) (.tmp mem0) (.tmp mem1) turn0 (rfl) (by kernel_rfl) rfl (by decide) rfl rfl (by simp) rfl) wants_none (fun _ => put_none) (fun _ => ?_)
    refine rt_nil ?_
    refine et_then ?_
    refine ct_seq ?_
    refine ct_region ?_
    refine rt_q (oq_loadA (o := 0) (i := 0) (k := 11) (us := [.int .i64 c.workers, .int .i64 c.levels, .int .i64 c.classes, .int .i64 c.tasks, .int .i64 c.deque, .int .i64 c.heap, .int .i64 ((4 + c.heap)), .int .i64 (((4 + c.heap) + c.classes)), .int .i64 ((((4 + c.heap) + c.classes) + c.workers)), .int .i64 (((((4 + c.heap) + c.classes) + c.workers) + c.workers)), .int .i64 ((((((4 + c.heap) + c.classes) + c.workers) + c.workers) + ((c.workers * c.levels) * (2 + c.deque))))]) (.tmp (memU mem15)) mem0 (rfl) (by kernel_rfl) rfl rfl) wants_none (put_new (by kernel_rfl)) ?_
    refine rt_t (ot_store (o := 0) (i := 0) (k := 11) (us := [.int .i64 c.workers, .int .i64 c.levels, .int .i64 c.classes, .int .i64 c.tasks, .int .i64 c.deque, .int .i64 c.heap, .int .i64 ((4 + c.heap)), .int .i64 (((4 + c.heap) + c.classes)), .int .i64 ((((4 + c.heap) + c.classes) + c.workers)), .int .i64 (((((4 + c.heap) + c.classes) + c.workers) + c.workers)), .int .i64 ((((((4 + c.heap) + c.classes) + c.workers) + c.workers) + ((c.workers * c.levels) * (2 + c.deque))))]) (ws := [.int .i64 c.workers, .int .i64 c.levels, .int .i64 c.classes, .int .i64 c.tasks, .int .i64 c.deque, .int .i64 c.heap, .int .i64 ((4 + c.heap)), .int .i64 (((4 + c.heap) + c.classes)), .int .i64 ((((4 + c.heap) + c.classes) + c.workers)), .int .i64 (((((4 + c.heap) + c.classes) + c.workers) + c.workers)), .int .i64 ((((((4 + c.heap) + c.classes) + c.workers) + c.workers) + ((c.workers * c.levels) * (2 + c.deque))))]) (.tmp (memU (memU mem16))) (.tmp mem0) turn1 (rfl) (by kernel_rfl) rfl (by decide) rfl rfl (by simp) rfl) wants_none (fun _ => put_none) (fun _ => ?_)
    refine rt_q (op_assign .const).q wants_none (put_over (pickU (pickU pick15)) (by kernel_rfl)) ?_
    refine rt_nil ?_
    refine et_then ?_
    refine ct_ret ?_
    exact et_ret rfl (.cellA (m := 11) (ws := [.int .i64 c.workers, .int .i64 c.levels, .int .i64 c.classes, .int .i64 c.tasks, .int .i64 c.deque, .int .i64 c.heap, .int .i64 ((4 + c.heap)), .int .i64 (((4 + c.heap) + c.classes)), .int .i64 ((((4 + c.heap) + c.classes) + c.workers)), .int .i64 (((((4 + c.heap) + c.classes) + c.workers) + c.workers)), .int .i64 ((((((4 + c.heap) + c.classes) + c.workers) + c.workers) + ((c.workers * c.levels) * (2 + c.deque))))]) (memU (memU mem16)) mem1 (by kernel_rfl) rfl rfl (.cons mem0 .nil)) (by rw [show layTab c = layDeq c + c.workers * c.levels * (2 + c.deque) from rfl, ← hdq]; rfl) (Ent.drop.trans (Ent.drop.trans Ent.drop))

set_option maxRecDepth 100000 in
theorem layNew_bad (c : Cfg) (l : CfgAt) (hv : cfgErr c ≠ 0) {B : Nat} {W : World} (hc : CfgIn W B c l) (L : List SProp) : Pure Try.prog 39 #[.agg #[.int .i64 c.workers, .int .i64 c.levels, .int .i64 c.classes, .int .i64 c.tasks, .int .i64 c.deque, .int .i64 c.heap, .int .i64 c.batch, .int .i64 c.age, .int .i64 c.patience, .slice l.pa c.progs.length l.pc, .slice l.sa c.subs.length l.sc]] B W L (.tuple #[.agg #[.int .i64 0, .int .i64 0, .int .i64 0, .int .i64 0, .int .i64 0, .int .i64 0, .int .i64 0, .int .i64 0, .int .i64 0, .int .i64 0, .int .i64 0], .int .i64 (cfgErr c)]) := by
  refine pure_enter Try.func39 rfl (m := 61) rfl (Nat.le_of_ble_eq_true rfl) (R := [(0, .agg #[.int .i64 c.workers, .int .i64 c.levels, .int .i64 c.classes, .int .i64 c.tasks, .int .i64 c.deque, .int .i64 c.heap, .int .i64 c.batch, .int .i64 c.age, .int .i64 c.patience, .slice l.pa c.progs.length l.pc, .slice l.sa c.subs.length l.sc])]) (by kernel_rfl) ?_
  refine ct_seq ?_
  refine ct_region ?_
  refine rt_t (ot_box (.tmp mem0) (us := [.int .i64 c.workers, .int .i64 c.levels, .int .i64 c.classes, .int .i64 c.tasks, .int .i64 c.deque, .int .i64 c.heap, .int .i64 c.batch, .int .i64 c.age, .int .i64 c.patience, .slice l.pa c.progs.length l.pc, .slice l.sa c.subs.length l.sc]) rfl) wants_none (fun _ => (put_new (by kernel_rfl))) ?_
  rintro b1
  refine rt_t (ot_alloc (v := .agg #[.int .i64 0, .int .i64 0, .int .i64 0, .int .i64 0, .int .i64 0, .int .i64 0, .int .i64 0, .int .i64 0, .int .i64 0, .int .i64 0, .int .i64 0]) (us := [.int .i64 0, .int .i64 0, .int .i64 0, .int .i64 0, .int .i64 0, .int .i64 0, .int .i64 0, .int .i64 0, .int .i64 0, .int .i64 0, .int .i64 0]) (by kernel_rfl) rfl) wants_none (fun _ => (put_new (by kernel_rfl))) ?_
  rintro b2
  refine rt_q (op_assign .const).q wants_none (put_new (by kernel_rfl)) ?_
  refine rt_nil ?_
  refine et_then ?_
  refine ct_seq ?_
  refine ct_seq ?_
  refine ct_region ?_
  refine rt_q (oq_loadA (o := 0) (i := 0) (k := 11) (us := [.int .i64 c.workers, .int .i64 c.levels, .int .i64 c.classes, .int .i64 c.tasks, .int .i64 c.deque, .int .i64 c.heap, .int .i64 c.batch, .int .i64 c.age, .int .i64 c.patience, .slice l.pa c.progs.length l.pc, .slice l.sa c.subs.length l.sc]) (.tmp mem2) mem1 (rfl) (by kernel_rfl) rfl rfl) wants_none (put_new (by kernel_rfl)) ?_
  refine rt_q (oq_call0 (by kernel_rfl) (.cons (.tmp mem0) .nil) (cfgCheck_pure c l hc _)) wants_none (put_new (by kernel_rfl)) ?_
  refine rt_q (op_assign (.tmp mem0)).q wants_none (put_new (by kernel_rfl)) ?_
  refine rt_nil ?_
  refine et_then ?_
  refine ct_seq ?_
  refine ct_region ?_
  refine rt_q (op_move (.tmp mem0)).q wants_none (put_new (by kernel_rfl)) ?_
  refine rt_q (op_neq (.tmp mem0) .const).q wants_none (put_new (by kernel_rfl)) ?_
  refine rt_nil ?_
  refine et_then ?_
  refine ct_if (.tmp mem0) (fun h3 => ?_) (fun h3 => ?_)
  · refine ct_seq ?_
    refine ct_region ?_
    refine rt_q (op_build (v := .agg #[.int .i64 0, .int .i64 0, .int .i64 0, .int .i64 0, .int .i64 0, .int .i64 0, .int .i64 0, .int .i64 0, .int .i64 0, .int .i64 0, .int .i64 0]) .nil (fun _ => by kernel_rfl)).q wants_none (put_new (by kernel_rfl)) ?_
    refine rt_q (op_move (.tmp mem3)).q wants_none (put_new (by kernel_rfl)) ?_
    refine rt_t (ot_store (o := 0) (i := 0) (k := 11) (us := [.int .i64 0, .int .i64 0, .int .i64 0, .int .i64 0, .int .i64 0, .int .i64 0, .int .i64 0, .int .i64 0, .int .i64 0, .int .i64 0, .int .i64 0]) (ws := [.int .i64 0, .int .i64 0, .int .i64 0, .int .i64 0, .int .i64 0, .int .i64 0, .int .i64 0, .int .i64 0, .int .i64 0, .int .i64 0, .int .i64 0]) (.tmp mem8) (.tmp mem1) turn0 (rfl) (by kernel_rfl) rfl (by decide) rfl rfl (by simp) rfl) wants_none (fun _ => put_none) (fun _ => ?_)
    refine rt_q (op_assign (.tmp mem0)).q wants_none (put_over pick7 (by kernel_rfl)) ?_
    refine rt_nil ?_
    refine et_then ?_
    refine ct_ret ?_
    refine et_then_ret ?_
    exact et_ret rfl (.cellA (m := 11) (ws := [.int .i64 0, .int .i64 0, .int .i64 0, .int .i64 0, .int .i64 0, .int .i64 0, .int .i64 0, .int .i64 0, .int .i64 0, .int .i64 0, .int .i64 0]) mem8 mem0 (by kernel_rfl) rfl rfl (.cons mem0 .nil)) (by rfl) (Ent.drop.trans Ent.drop)
  · exact absurd hv h3

end Go.Proofs.Ytkfkiaieeiodnaa
