/- Walks by program: SoloAny. -/
import Derived.Test.YtkfkiaieeiodnaaSo23
namespace Go.Proofs.Ytkfkiaieeiodnaa
open Go Go.RowKit
theorem small_pure (c : Cfg) (l : CfgAt) {B : Nat} {W : World} (hc : CfgIn W B c l) (L : List SProp) : Pure Try.prog 6 #[cfgV c l] B W L (.bool (smallB c)) :=
  pure_of_calls fun w hb hl => small_any c l w ((hc.below hb).more hl)
theorem small_heap {c : Cfg} (h : (!smallB c) = false) : c.heap ≤ 8 := by
  have h1 : smallB c = true := by simpa using h
  have h2 : SmallNums c := of_decide_eq_true (Bool.and_eq_true_iff.1 h1).1
  exact h2.2.2.2.2.1

set_option maxRecDepth 100000 in
theorem soloAny_spec (c : Cfg) (l : CfgAt) (CA : Option Addr) (cc : Nat) (cs : List Int) (d w v : Int) (hcc : cs.length ≤ cc) {B : Nat} {W : World} (hS : Sl encU 1 W B CA cs) (hcw : CWf cs) (hc : CfgIn W B c l) (L : List SProp) : Pure Try.prog 3 #[.agg #[.int .i64 c.workers, .int .i64 c.levels, .int .i64 c.classes, .int .i64 c.tasks, .int .i64 c.deque, .int .i64 c.heap, .int .i64 c.batch, .int .i64 c.age, .int .i64 c.patience, .slice l.pa c.progs.length l.pc, .slice l.sa c.subs.length l.sc], .slice CA cs.length cc, .int .i64 d, .int .i64 w, .int .i64 v] B W L (.bool true) := by
  refine pure_enter Try.func3 rfl (m := 28) rfl (Nat.le_of_ble_eq_true rfl) (R := [(0, .agg #[.int .i64 c.workers, .int .i64 c.levels, .int .i64 c.classes, .int .i64 c.tasks, .int .i64 c.deque, .int .i64 c.heap, .int .i64 c.batch, .int .i64 c.age, .int .i64 c.patience, .slice l.pa c.progs.length l.pc, .slice l.sa c.subs.length l.sc]), (1, .slice CA cs.length cc), (2, .int .i64 d), (3, .int .i64 w), (4, .int .i64 v)]) (by kernel_rfl) ?_
  refine ct_seq ?_
  refine ct_region ?_
  refine rt_t (ot_box (.tmp mem0) (us := [.int .i64 c.workers, .int .i64 c.levels, .int .i64 c.classes, .int .i64 c.tasks, .int .i64 c.deque, .int .i64 c.heap, .int .i64 c.batch, .int .i64 c.age, .int .i64 c.patience, .slice l.pa c.progs.length l.pc, .slice l.sa c.subs.length l.sc]) rfl) wants_none (fun _ => (put_new (by kernel_rfl))) ?_
  rintro b1
  refine rt_q (op_assign .const).q wants_none (put_new (by kernel_rfl)) ?_
  refine rt_nil ?_
  refine et_then ?_
  refine ct_seq ?_
  refine ct_seq ?_
  refine ct_region ?_
  refine rt_q (oq_loadA (o := 0) (i := 0) (k := 11) (us := [.int .i64 c.workers, .int .i64 c.levels, .int .i64 c.classes, .int .i64 c.tasks, .int .i64 c.deque, .int .i64 c.heap, .int .i64 c.batch, .int .i64 c.age, .int .i64 c.patience, .slice l.pa c.progs.length l.pc, .slice l.sa c.subs.length l.sc]) (.tmp mem1) mem0 (rfl) (by kernel_rfl) rfl rfl) wants_none (put_new (by kernel_rfl)) ?_
  refine rt_q (oq_call0 (by kernel_rfl) (.cons (.tmp mem0) .nil) (small_pure c l hc _)) wants_none (put_new (by kernel_rfl)) ?_
  refine rt_q (op_notb (.tmp mem0)).q wants_none (put_new (by kernel_rfl)) ?_
  refine rt_q (op_move (.tmp mem0)).q wants_none (put_new (by kernel_rfl)) ?_
  refine rt_caseb turn0 turn0 (fun h2 => ?_) (fun h2 => ?_)
  · refine rt_skip (wants_some rfl rfl mem0 rfl) (put_new (by kernel_rfl)) ?_
    refine rt_skip (wants_some rfl rfl mem1 rfl) (put_new (by kernel_rfl)) ?_
    refine rt_skip (wants_some rfl rfl mem2 rfl) (put_new (by kernel_rfl)) ?_
    refine rt_q (op_pick (b := true) (.tmp mem3) .const).q wants_none (put_new (by kernel_rfl)) ?_
    refine rt_nil ?_
    refine et_then ?_
    refine ct_true (.tmp mem0) ?_
    refine ct_seq ?_
    refine ct_region ?_
    refine rt_q (op_assign .const).q wants_none (put_over pick8 (by kernel_rfl)) ?_
    refine rt_nil ?_
    refine et_then ?_
    refine ct_ret ?_
    refine et_then_ret ?_
    exact et_ret rfl (.cons mem0 .nil) (by rfl) Ent.drop
  · refine rt_q (op_move (.tmp mem7)).q (wants_some rfl rfl mem0 rfl) (put_new (by kernel_rfl)) ?_
    refine rt_q (op_len (.tmp mem0) Try.underlying26).q (wants_some rfl rfl mem1 rfl) (put_new (by kernel_rfl)) ?_
    refine rt_q (op_gtr (.tmp mem0) .const).q (wants_some rfl rfl mem2 rfl) (put_new (by kernel_rfl)) ?_
    refine rt_q (op_pick (b := false) (.tmp mem3) (.tmp mem0)).q wants_none (put_new (by kernel_rfl)) ?_
    refine rt_nil ?_
    refine et_then ?_
    refine ct_if (.tmp mem0) (fun h3 => ?_) (fun h3 => ?_)
    · refine ct_seq ?_
      refine ct_region ?_
      refine rt_q (op_assign .const).q wants_none (put_over pick8 (by kernel_rfl)) ?_
      refine rt_nil ?_
      refine et_then ?_
      refine ct_ret ?_
      refine et_then_ret ?_
      exact et_ret rfl (.cons mem0 .nil) (by rfl) Ent.drop
    · refine ct_skip ?_
      refine et_then ?_
      refine ct_seq ?_
      refine ct_region ?_
      refine rt_q (oq_call0 (by kernel_rfl) .nil (awake_spec _)) wants_none (put_new (by kernel_rfl)) ?_
      refine rt_q (op_move (.tmp mem0)).q wants_none (put_new (by kernel_rfl)) ?_
      refine rt_q (oq_loadA (o := 0) (i := 0) (k := 11) (us := [.int .i64 c.workers, .int .i64 c.levels, .int .i64 c.classes, .int .i64 c.tasks, .int .i64 c.deque, .int .i64 c.heap, .int .i64 c.batch, .int .i64 c.age, .int .i64 c.patience, .slice l.pa c.progs.length l.pc, .slice l.sa c.subs.length l.sc]) (.tmp mem11) mem0 (rfl) (by kernel_rfl) rfl rfl) (wants_some rfl rfl mem0 rfl) (put_new (by kernel_rfl)) ?_
      refine rt_q (op_move (.tmp mem14)).q (wants_some rfl rfl mem1 rfl) (put_new (by kernel_rfl)) ?_
      refine rt_q (op_move (.tmp mem16)).q (wants_some rfl rfl mem2 rfl) (put_new (by kernel_rfl)) ?_
      refine rt_q (op_move (.tmp mem18)).q (wants_some rfl rfl mem3 rfl) (put_new (by kernel_rfl)) ?_
      refine rt_q (op_move (.tmp (memU mem0))).q (wants_some rfl rfl mem4 rfl) (put_new (by kernel_rfl)) ?_
      refine rt_q (oq_call0 (by kernel_rfl) (.cons (.tmp mem4) (.cons (.tmp mem3) (.cons (.tmp mem2) (.cons (.tmp mem1) (.cons (.tmp mem0) .nil))))) (agree_spec c l CA cc cs _ _ _ hcc (small_heap (by assumption)) hS hcw hc _)) (wants_some rfl rfl mem5 rfl) (put_new (by kernel_rfl)) ?_
      refine rt_q (op_pick (b := true) (.tmp mem6) (.tmp mem0)).q wants_none (put_new (by kernel_rfl)) ?_
      refine rt_q (op_assign (.tmp mem0)).q wants_none (put_over pick17 (by kernel_rfl)) ?_
      refine rt_nil ?_
      refine et_then ?_
      refine ct_ret ?_
      exact et_ret rfl (.cons mem0 .nil) (by rfl) Ent.drop

end Go.Proofs.Ytkfkiaieeiodnaa
