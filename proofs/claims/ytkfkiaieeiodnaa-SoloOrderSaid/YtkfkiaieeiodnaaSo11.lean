/- Walks by program: the reference's pictures. -/
import Derived.Test.YtkfkiaieeiodnaaSo10
namespace Go.Proofs.Ytkfkiaieeiodnaa
open Go Go.RowKit
theorem readyB_at {c : Cfg} {cs : List Int} {t : Int} (hn : CNums c) (h : 0 ≤ atV t c.tasks (layTab c + 0) 5) : 0 ≤ t ∧ t < c.tasks ∧ atV t c.tasks (layTab c + 0) 5 = layTab c + t * 5 := by
  unfold atV at *
  split at h
  · omega
  · rename_i h1; rw [if_neg h1]; omega
theorem readyB_not {c : Cfg} {cs : List Int} {t : Int} (hn : CNums c) (h : ¬ 0 ≤ atV t c.tasks (layTab c + 0) 5) : readyB c cs t = false := by
  obtain ⟨t1, _⟩ := tab_in hn
  unfold readyB
  unfold atV at h
  split at h
  · rename_i h1
    rcases h1 with h1 | h1
    · simp [show ¬ 0 ≤ t by omega]
    · simp [show ¬ t < c.tasks by omega]
  · omega

set_option maxRecDepth 100000 in
theorem refGood_spec (c : Cfg) (l : CfgAt) (CA : Option Addr) (cc : Nat) (cs : List Int) {B : Nat} {W : World} (hS : Sl encU 1 W B CA cs) (hcw : CWf cs) (hc : CfgIn W B c l) (L : List SProp) : Pure Try.prog 26 #[.agg #[.int .i64 c.workers, .int .i64 c.levels, .int .i64 c.classes, .int .i64 c.tasks, .int .i64 c.deque, .int .i64 c.heap, .int .i64 c.batch, .int .i64 c.age, .int .i64 c.patience, .slice l.pa c.progs.length l.pc, .slice l.sa c.subs.length l.sc], .slice CA cs.length cc] B W L (.bool (decide (cfgErr c = 0 ∧ (cs.length : Int) = layCells c))) := by
  refine pure_enter Try.func26 rfl (m := 15) rfl (Nat.le_of_ble_eq_true rfl) (R := [(0, .agg #[.int .i64 c.workers, .int .i64 c.levels, .int .i64 c.classes, .int .i64 c.tasks, .int .i64 c.deque, .int .i64 c.heap, .int .i64 c.batch, .int .i64 c.age, .int .i64 c.patience, .slice l.pa c.progs.length l.pc, .slice l.sa c.subs.length l.sc]), (1, .slice CA cs.length cc)]) (by kernel_rfl) ?_
  refine ct_seq ?_
  refine ct_region ?_
  refine rt_t (ot_box (.tmp mem0) (us := [.int .i64 c.workers, .int .i64 c.levels, .int .i64 c.classes, .int .i64 c.tasks, .int .i64 c.deque, .int .i64 c.heap, .int .i64 c.batch, .int .i64 c.age, .int .i64 c.patience, .slice l.pa c.progs.length l.pc, .slice l.sa c.subs.length l.sc]) rfl) wants_none (fun _ => (put_new (by kernel_rfl))) ?_
  rintro b1
  refine rt_q (op_assign .const).q wants_none (put_new (by kernel_rfl)) ?_
  refine rt_nil ?_
  refine et_then ?_
  refine ct_seq ?_
  refine ct_region ?_
  refine rt_q (oq_loadA (o := 0) (i := 0) (k := 11) (us := [.int .i64 c.workers, .int .i64 c.levels, .int .i64 c.classes, .int .i64 c.tasks, .int .i64 c.deque, .int .i64 c.heap, .int .i64 c.batch, .int .i64 c.age, .int .i64 c.patience, .slice l.pa c.progs.length l.pc, .slice l.sa c.subs.length l.sc]) (.tmp mem1) mem0 (rfl) (by kernel_rfl) rfl rfl) wants_none (put_new (by kernel_rfl)) ?_
  refine rt_q (oq_call0 (by kernel_rfl) (.cons (.tmp mem0) .nil) (refCheck_pure c l hc _)) wants_none (put_new (by kernel_rfl)) ?_
  refine rt_q (op_eql (.tmp mem0) .const).q wants_none (put_new (by kernel_rfl)) ?_
  refine rt_q (op_move (.tmp mem0)).q wants_none (put_new (by kernel_rfl)) ?_
  refine rt_case turn0 turn0 (fun h2 => ?_) (fun h2 => ?_)
  · refine rt_q (op_move (.tmp mem7)).q (wants_some rfl rfl mem0 rfl) (put_new (by kernel_rfl)) ?_
    refine rt_q (op_len (.tmp mem0) Try.underlying26).q (wants_some rfl rfl mem1 rfl) (put_new (by kernel_rfl)) ?_
    refine rt_q (oq_loadA (o := 0) (i := 0) (k := 11) (us := [.int .i64 c.workers, .int .i64 c.levels, .int .i64 c.classes, .int .i64 c.tasks, .int .i64 c.deque, .int .i64 c.heap, .int .i64 c.batch, .int .i64 c.age, .int .i64 c.patience, .slice l.pa c.progs.length l.pc, .slice l.sa c.subs.length l.sc]) (.tmp mem7) mem0 (rfl) (by kernel_rfl) rfl rfl) (wants_some rfl rfl mem2 rfl) (put_new (by kernel_rfl)) ?_
    refine rt_q (oq_call0 (by kernel_rfl) (.cons (.tmp mem0) .nil) (refCells_spec c l (cnums (nums_of_err (by assumption))) B W _)) (wants_some rfl rfl mem3 rfl) (put_new (by kernel_rfl)) ?_
    refine rt_q (op_eql (.tmp mem2) (.tmp mem0)).q (wants_some rfl rfl mem4 rfl) (put_new (by kernel_rfl)) ?_
    refine rt_q (op_pick (b := true) (.tmp mem5) (.tmp mem0)).q wants_none (put_new (by kernel_rfl)) ?_
    refine rt_q (op_assign (.tmp mem0)).q wants_none (put_over pick10 (by kernel_rfl)) ?_
    refine rt_nil ?_
    refine et_then ?_
    refine ct_ret ?_
    exact et_ret rfl (.cons mem0 .nil) (by simp [tupled, *] <;> rfl) Ent.drop
  · refine rt_skip (wants_some rfl rfl mem0 rfl) (put_new (by kernel_rfl)) ?_
    refine rt_skip (wants_some rfl rfl mem1 rfl) (put_new (by kernel_rfl)) ?_
    refine rt_skip (wants_some rfl rfl mem2 rfl) (put_new (by kernel_rfl)) ?_
    refine rt_skip (wants_some rfl rfl mem3 rfl) (put_new (by kernel_rfl)) ?_
    refine rt_skip (wants_some rfl rfl mem4 rfl) (put_new (by kernel_rfl)) ?_
    refine rt_q (op_pick (b := false) (.tmp mem5) .const).q wants_none (put_new (by kernel_rfl)) ?_
    refine rt_q (op_assign (.tmp mem0)).q wants_none (put_over pick10 (by kernel_rfl)) ?_
    refine rt_nil ?_
    refine et_then ?_
    refine ct_ret ?_
    exact et_ret rfl (.cons mem0 .nil) (by simp [tupled, *]) Ent.drop

set_option maxRecDepth 100000 in
theorem refReady_spec (c : Cfg) (l : CfgAt) (CA : Option Addr) (cc : Nat) (cs : List Int) (hn : CNums c) (hl : (cs.length : Int) = layCells c) (t : Int) {B : Nat} {W : World} (hS : Sl encU 1 W B CA cs) (hcw : CWf cs) (L : List SProp) : Pure Try.prog 53 #[.agg #[.int .i64 c.workers, .int .i64 c.levels, .int .i64 c.classes, .int .i64 c.tasks, .int .i64 c.deque, .int .i64 c.heap, .int .i64 c.batch, .int .i64 c.age, .int .i64 c.patience, .slice l.pa c.progs.length l.pc, .slice l.sa c.subs.length l.sc], .slice CA cs.length cc, .int .i64 t] B W L (.bool (readyB c cs t)) := by
  obtain ⟨t1, t2, t3, t4, t5⟩ := tab_in hn
  have ht := hn.t
  have hcl : layCells c = layTab c + 5 * c.tasks := rfl
  refine pure_enter Try.func53 rfl (m := 20) rfl (Nat.le_of_ble_eq_true rfl) (R := [(0, .agg #[.int .i64 c.workers, .int .i64 c.levels, .int .i64 c.classes, .int .i64 c.tasks, .int .i64 c.deque, .int .i64 c.heap, .int .i64 c.batch, .int .i64 c.age, .int .i64 c.patience, .slice l.pa c.progs.length l.pc, .slice l.sa c.subs.length l.sc]), (1, .slice CA cs.length cc), (2, .int .i64 t)]) (by kernel_rfl) ?_
  refine ct_seq ?_
  refine ct_region ?_
  refine rt_t (ot_box (.tmp mem0) (us := [.int .i64 c.workers, .int .i64 c.levels, .int .i64 c.classes, .int .i64 c.tasks, .int .i64 c.deque, .int .i64 c.heap, .int .i64 c.batch, .int .i64 c.age, .int .i64 c.patience, .slice l.pa c.progs.length l.pc, .slice l.sa c.subs.length l.sc]) rfl) wants_none (fun _ => (put_new (by kernel_rfl))) ?_
  rintro b1
  refine rt_q (op_assign .const).q wants_none (put_new (by kernel_rfl)) ?_
  refine rt_nil ?_
  refine et_then ?_
  refine ct_seq ?_
  refine ct_region ?_
  refine rt_q (oq_loadA (o := 0) (i := 0) (k := 11) (us := [.int .i64 c.workers, .int .i64 c.levels, .int .i64 c.classes, .int .i64 c.tasks, .int .i64 c.deque, .int .i64 c.heap, .int .i64 c.batch, .int .i64 c.age, .int .i64 c.patience, .slice l.pa c.progs.length l.pc, .slice l.sa c.subs.length l.sc]) (.tmp mem1) mem0 (rfl) (by kernel_rfl) rfl rfl) wants_none (put_new (by kernel_rfl)) ?_
  refine rt_q (op_move (.tmp mem5)).q wants_none (put_new (by kernel_rfl)) ?_
  refine rt_q (oq_call0 (by kernel_rfl) (.cons (.tmp mem1) (.cons (.tmp mem0) .nil)) (refState_spec c l hn _ B W _)) wants_none (put_new (by kernel_rfl)) ?_
  refine rt_q (op_assign (.tmp mem0)).q wants_none (put_new (by kernel_rfl)) ?_
  refine rt_nil ?_
  refine et_then ?_
  refine ct_seq ?_
  refine ct_region ?_
  refine rt_q (op_move (.tmp mem0)).q wants_none (put_new (by kernel_rfl)) ?_
  refine rt_q (op_geq (.tmp mem0) .const).q wants_none (put_new (by kernel_rfl)) ?_
  refine rt_q (op_move (.tmp mem0)).q wants_none (put_new (by kernel_rfl)) ?_
  refine rt_case turn0 turn0 (fun h2 => ?_) (fun h2 => ?_)
  · obtain ⟨ha1, ha2, hat⟩ := readyB_at (cs := cs) hn h2
    refine rt_q (op_move (.tmp mem10)).q (wants_some rfl rfl mem0 rfl) (put_new (by kernel_rfl)) ?_
    refine rt_q (op_move (.tmp mem4)).q (wants_some rfl rfl mem1 rfl) (put_new (by kernel_rfl)) ?_
    refine rt_q (op_indexW (i := ((atV t c.tasks (layTab c + 0) 5)).toNat) (.tmp mem1) (.tmp mem0) hS (by omega) (by omega) (by omega) (by kernel_rfl) (Nat.mul_one _)).q (wants_some rfl rfl mem2 rfl) (put_new (by kernel_rfl)) ?_
    refine rt_q (oq_loadW1 (i := ((atV t c.tasks (layTab c + 0) 5)).toNat) (j := 0) (.tmp mem0) hS (gi_get (by omega)) rfl (by omega) (by kernel_rfl)) (wants_some rfl rfl mem3 rfl) (put_new (by kernel_rfl)) ?_
    refine rt_q (op_eql (.tmp mem0) .const).q (wants_some rfl rfl mem4 rfl) (put_new (by kernel_rfl)) ?_
    refine rt_q (op_pick (b := true) (.tmp mem5) (.tmp mem0)).q wants_none (put_new (by kernel_rfl)) ?_
    refine rt_q (op_assign (.tmp mem0)).q wants_none (put_over pick13 (by kernel_rfl)) ?_
    refine rt_nil ?_
    refine et_then ?_
    refine ct_ret ?_
    exact et_ret rfl (.cons mem0 .nil) (by simp only [tupled, readyB]; rw [hat]; simp [*, cellAt] <;> rfl) Ent.drop
  · refine rt_skip (wants_some rfl rfl mem0 rfl) (put_new (by kernel_rfl)) ?_
    refine rt_skip (wants_some rfl rfl mem1 rfl) (put_new (by kernel_rfl)) ?_
    refine rt_skip (wants_some rfl rfl mem2 rfl) (put_new (by kernel_rfl)) ?_
    refine rt_skip (wants_some rfl rfl mem3 rfl) (put_new (by kernel_rfl)) ?_
    refine rt_skip (wants_some rfl rfl mem4 rfl) (put_new (by kernel_rfl)) ?_
    refine rt_q (op_pick (b := false) (.tmp mem5) .const).q wants_none (put_new (by kernel_rfl)) ?_
    refine rt_q (op_assign (.tmp mem0)).q wants_none (put_over pick13 (by kernel_rfl)) ?_
    refine rt_nil ?_
    refine et_then ?_
    refine ct_ret ?_
    exact et_ret rfl (.cons mem0 .nil) (by simp only [tupled]; rw [readyB_not hn (by assumption)]) Ent.drop

set_option maxRecDepth 100000 in
theorem refEntries_in (c : Cfg) (l : CfgAt) (CA : Option Addr) (cc : Nat) (cs : List Int) (hv0 : cfgErr c = 0) (hn : CNums c) (hl : (cs.length : Int) = layCells c) (w v : Int) (hw : 0 ≤ w ∧ w < c.workers) (hv : 0 ≤ v ∧ v < c.levels) {B : Nat} {W : World} (hS : Sl encU 1 W B CA cs) (hcw : CWf cs) (hc : CfgIn W B c l) : Fn_ Try.prog 13 #[.agg #[.int .i64 c.workers, .int .i64 c.levels, .int .i64 c.classes, .int .i64 c.tasks, .int .i64 c.deque, .int .i64 c.heap, .int .i64 c.batch, .int .i64 c.age, .int .i64 c.patience, .slice l.pa c.progs.length l.pc, .slice l.sa c.subs.length l.sc], .slice CA cs.length cc, .int .i64 w, .int .i64 v] B W [] (X := Option Addr × Nat) (fun p => .slice p.1 (entV c cs w v).length p.2) (fun p => [rowS p.1 (entV c cs w v).length p.2 1 ((entV c cs w v).map (Value.int .i64))]) := by
  obtain ⟨q1, q2, q3, q4, q5, q6⟩ := top_in hn hw hv
  obtain ⟨t1, t2, t3, t4, t5⟩ := tab_in hn
  have hd := hn.d
  have ht := hn.t
  have hcl : layCells c = layTab c + 5 * c.tasks := rfl
  have hen : entN c cs w v = (sizeV (gi cs (topV c w v + 1).toNat) (gi cs (topV c w v).toNat)) := rfl
  refine fn_enter Try.func13 rfl (m := 83) rfl (Nat.le_of_ble_eq_true rfl) (R := [(0, .agg #[.int .i64 c.workers, .int .i64 c.levels, .int .i64 c.classes, .int .i64 c.tasks, .int .i64 c.deque, .int .i64 c.heap, .int .i64 c.batch, .int .i64 c.age, .int .i64 c.patience, .slice l.pa c.progs.length l.pc, .slice l.sa c.subs.length l.sc]), (1, .slice CA cs.length cc), (2, .int .i64 w), (3, .int .i64 v)]) (by kernel_rfl) (fun F => ?_)
  refine ct_seq ?_
  refine ct_region ?_
  refine rt_t (ot_box (.tmp mem0) (us := [.int .i64 c.workers, .int .i64 c.levels, .int .i64 c.classes, .int .i64 c.tasks, .int .i64 c.deque, .int .i64 c.heap, .int .i64 c.batch, .int .i64 c.age, .int .i64 c.patience, .slice l.pa c.progs.length l.pc, .slice l.sa c.subs.length l.sc]) rfl) wants_none (fun _ => (put_new (by kernel_rfl))) ?_
  rintro b1
  refine rt_q (op_assign .const).q wants_none (put_new (by kernel_rfl)) ?_
  refine rt_nil ?_
  refine et_then ?_
  refine ct_seq ?_
  refine ct_seq ?_
  refine ct_region ?_
  refine rt_q (oq_loadA (o := 0) (i := 0) (k := 11) (us := [.int .i64 c.workers, .int .i64 c.levels, .int .i64 c.classes, .int .i64 c.tasks, .int .i64 c.deque, .int .i64 c.heap, .int .i64 c.batch, .int .i64 c.age, .int .i64 c.patience, .slice l.pa c.progs.length l.pc, .slice l.sa c.subs.length l.sc]) (.tmp mem1) mem0 (rfl) (by kernel_rfl) rfl rfl) wants_none (put_new (by kernel_rfl)) ?_
  refine rt_q (op_move (.tmp mem4)).q wants_none (put_new (by kernel_rfl)) ?_
  refine rt_q (oq_call0 (by kernel_rfl) (.cons (.tmp mem1) (.cons (.tmp mem0) .nil)) (refGood_spec c l CA cc cs hS hcw hc _)) wants_none (put_new (by kernel_rfl)) ?_
  refine rt_q (op_not (.tmp mem0)).q wants_none (put_new (by kernel_rfl)) ?_
  refine rt_q (op_move (.tmp mem0)).q wants_none (put_new (by kernel_rfl)) ?_
  refine rt_case turn0 turn0 (fun h2 => ?_) (fun h2 => ?_)
  · exact absurd ⟨hv0, hl⟩ h2
  · refine rt_q (op_move (.tmp mem9)).q (wants_some rfl rfl mem0 rfl) (put_new (by kernel_rfl)) ?_
    refine rt_q (op_lss (.tmp mem0) .const).q (wants_some rfl rfl mem1 rfl) (put_new (by kernel_rfl)) ?_
    refine rt_q (op_pick (b := false) (.tmp mem2) (.tmp mem0)).q wants_none (put_new (by kernel_rfl)) ?_
    refine rt_q (op_move (.tmp mem0)).q wants_none (put_new (by kernel_rfl)) ?_
    refine rt_case turn0 turn0 (fun h3 => ?_) (fun h3 => ?_)
    · exact absurd h3 (by omega)
    · refine rt_q (op_move (.tmp mem13)).q (wants_some rfl rfl mem0 rfl) (put_new (by kernel_rfl)) ?_
      refine rt_q (op_field (k := 0) (o' := 0) (.tmp mem11) (by kernel_rfl) (by rfl)).q (wants_some rfl rfl mem1 rfl) (put_new (by kernel_rfl)) ?_
      refine rt_q (oq_load (o := 0) (i := 0) (.tmp mem0) mem0 (rfl) rfl (by kernel_rfl)) (wants_some rfl rfl mem2 rfl) (put_new (by kernel_rfl)) ?_
      refine rt_q (op_geq (.tmp mem2) (.tmp mem0)).q (wants_some rfl rfl mem3 rfl) (put_new (by kernel_rfl)) ?_
      refine rt_q (op_pick (b := false) (.tmp mem4) (.tmp mem0)).q wants_none (put_new (by kernel_rfl)) ?_
      refine rt_q (op_move (.tmp mem0)).q wants_none (put_new (by kernel_rfl)) ?_
      refine rt_case turn0 turn0 (fun h4 => ?_) (fun h4 => ?_)
      · exact absurd h4 (by omega)
      · refine rt_q (op_move (.tmp (memU mem0))).q (wants_some rfl rfl mem0 rfl) (put_new (by kernel_rfl)) ?_
        refine rt_q (op_lss (.tmp mem0) .const).q (wants_some rfl rfl mem1 rfl) (put_new (by kernel_rfl)) ?_
        refine rt_q (op_pick (b := false) (.tmp mem2) (.tmp mem0)).q wants_none (put_new (by kernel_rfl)) ?_
        refine rt_q (op_move (.tmp mem0)).q wants_none (put_new (by kernel_rfl)) ?_
        refine rt_case turn0 turn0 (fun h5 => ?_) (fun h5 => ?_)
        · exact absurd h5 (by omega)
        · refine rt_q (op_move (.tmp (memU mem4))).q (wants_some rfl rfl mem0 rfl) (put_new (by kernel_rfl)) ?_
          refine rt_q (op_field (k := 1) (o' := 1) (.tmp (memU mem1)) (by kernel_rfl) (by rfl)).q (wants_some rfl rfl mem1 rfl) (put_new (by kernel_rfl)) ?_
          refine rt_q (oq_load (o := 0) (i := 1) (.tmp mem0) mem0 (rfl) rfl (by kernel_rfl)) (wants_some rfl rfl mem2 rfl) (put_new (by kernel_rfl)) ?_
          refine rt_q (op_geq (.tmp mem2) (.tmp mem0)).q (wants_some rfl rfl mem3 rfl) (put_new (by kernel_rfl)) ?_
          refine rt_q (op_pick (b := false) (.tmp mem4) (.tmp mem0)).q wants_none (put_new (by kernel_rfl)) ?_
          refine rt_nil ?_
          refine et_then ?_
          refine ct_if (.tmp mem0) (fun h6 => ?_) (fun h6 => ?_)
          · exact absurd h6 (by omega)
          · refine ct_skip ?_
            refine et_then ?_
            refine ct_seq ?_
            refine ct_region ?_
            refine rt_q (oq_loadA (o := 0) (i := 0) (k := 11) (us := [.int .i64 c.workers, .int .i64 c.levels, .int .i64 c.classes, .int .i64 c.tasks, .int .i64 c.deque, .int .i64 c.heap, .int .i64 c.batch, .int .i64 c.age, .int .i64 c.patience, .slice l.pa c.progs.length l.pc, .slice l.sa c.subs.length l.sc]) (.tmp (memU mem5)) mem0 (rfl) (by kernel_rfl) rfl rfl) wants_none (put_new (by kernel_rfl)) ?_
            refine rt_q (op_move (.tmp (memU mem9))).q wants_none (put_new (by kernel_rfl)) ?_
            refine rt_q (op_move (.tmp (memU mem11))).q wants_none (put_new (by kernel_rfl)) ?_
            refine rt_q (oq_call0 (by kernel_rfl) (.cons (.tmp mem2) (.cons (.tmp mem1) (.cons (.tmp mem0) .nil))) (refQueue_spec c l hn _ _ (by omega) (by omega) B W _)) wants_none (put_new (by kernel_rfl)) ?_
            refine rt_t (ot_alloc (v := .agg #[.int .i64 0, .int .i64 0, .int .i64 0, .int .i64 0]) (us := [.int .i64 0, .int .i64 0, .int .i64 0, .int .i64 0]) (by kernel_rfl) rfl) wants_none (fun _ => (put_new (by kernel_rfl))) ?_
            rintro b7
            refine rt_t (ot_store (o := 0) (i := 0) (k := 4) (us := [.int .i64 ((topV c w v)), .int .i64 ((topV c w v + 1)), .int .i64 ((topV c w v + 2)), .int .i64 c.deque]) (ws := [.int .i64 ((topV c w v)), .int .i64 ((topV c w v + 1)), .int .i64 ((topV c w v + 2)), .int .i64 c.deque]) (.tmp mem0) (.tmp mem1) turn0 (rfl) (by kernel_rfl) rfl (by decide) rfl rfl (by simp) rfl) wants_none (fun _ => put_none) (fun _ => ?_)
            refine rt_nil ?_
            refine et_then ?_
            refine ct_seq ?_
            refine ct_draw (by kernel_rfl) (by kernel_rfl) ?_
            refine qt_q (op_move (.tmp (memU mem12))).q wants_none (put_new (by kernel_rfl)) ?_
            refine qt_q (op_field (k := 0) (o' := 0) (.tmp mem1) (by kernel_rfl) (by rfl)).q wants_none (put_new (by kernel_rfl)) ?_
            refine qt_q (oq_load (o := 0) (i := 0) (.tmp mem0) mem0 (rfl) rfl (by kernel_rfl)) wants_none (put_new (by kernel_rfl)) ?_
            refine qt_q (op_indexW (i := ((topV c w v)).toNat) (.tmp mem2) (.tmp mem0) hS (by omega) (by omega) (by omega) (by kernel_rfl) (Nat.mul_one _)).q wants_none (put_new (by kernel_rfl)) ?_
            refine qt_q (oq_loadW1 (i := ((topV c w v)).toNat) (j := 0) (.tmp mem0) hS (gi_get (by omega)) rfl (by omega) (by kernel_rfl)) wants_none (put_new (by kernel_rfl)) ?_
            refine qt_q (op_move (.tmp (memU mem17))).q wants_none (put_new (by kernel_rfl)) ?_
            refine qt_q (op_field (k := 1) (o' := 1) (.tmp mem6) (by kernel_rfl) (by rfl)).q wants_none (put_new (by kernel_rfl)) ?_
            refine qt_q (oq_load (o := 0) (i := 1) (.tmp mem0) mem0 (rfl) rfl (by kernel_rfl)) wants_none (put_new (by kernel_rfl)) ?_
            refine qt_q (op_indexW (i := ((topV c w v + 1)).toNat) (.tmp mem2) (.tmp mem0) hS (by omega) (by omega) (by omega) (by kernel_rfl) (Nat.mul_one _)).q wants_none (put_new (by kernel_rfl)) ?_
            refine qt_q (oq_loadW1 (i := ((topV c w v + 1)).toNat) (j := 0) (.tmp mem0) hS (gi_get (by omega)) rfl (by omega) (by kernel_rfl)) wants_none (put_new (by kernel_rfl)) ?_
            refine qt_q (op_assign (.tmp mem5)).q wants_none (put_new (by kernel_rfl)) ?_
            refine qt_q (op_assign (.tmp mem1)).q wants_none (put_new (by kernel_rfl)) ?_
            refine qt_nil ?_
            refine et_then ?_
            refine ct_seq ?_
            refine ct_region ?_
            refine rt_q (op_move (.tmp mem0)).q wants_none (put_new (by kernel_rfl)) ?_
            refine rt_q (op_move (.tmp mem2)).q wants_none (put_new (by kernel_rfl)) ?_
            refine rt_q (oq_call0 (by kernel_rfl) (.cons (.tmp mem1) (.cons (.tmp mem0) .nil)) (refSize_spec _ _ B W _)) wants_none (put_new (by kernel_rfl)) ?_
            refine rt_q (op_assign (.tmp mem0)).q wants_none (put_new (by kernel_rfl)) ?_
            refine rt_nil ?_
            refine et_then ?_
            refine ct_seq ?_
            refine ct_seq ?_
            refine ct_region ?_
            refine rt_q (op_move (.tmp mem0)).q wants_none (put_new (by kernel_rfl)) ?_
            refine rt_q (op_lss (.tmp mem0) .const).q wants_none (put_new (by kernel_rfl)) ?_
            refine rt_q (op_move (.tmp mem0)).q wants_none (put_new (by kernel_rfl)) ?_
            refine rt_case turn0 turn0 (fun h8 => ?_) (fun h8 => ?_)
            · refine rt_skip (wants_some rfl rfl mem0 rfl) (put_new (by kernel_rfl)) ?_
              refine rt_skip (wants_some rfl rfl mem1 rfl) (put_new (by kernel_rfl)) ?_
              refine rt_skip (wants_some rfl rfl mem2 rfl) (put_new (by kernel_rfl)) ?_
              refine rt_skip (wants_some rfl rfl mem3 rfl) (put_new (by kernel_rfl)) ?_
              refine rt_q (op_pick (b := true) (.tmp mem4) .const).q wants_none (put_new (by kernel_rfl)) ?_
              refine rt_nil ?_
              refine et_then ?_
              refine ct_true (.tmp mem0) ?_
              refine ct_seq ?_
              refine ct_region ?_
              refine rt_q (op_assign .const).q wants_none (put_over (pickU (pickU pick13)) (by kernel_rfl)) ?_
              refine rt_nil ?_
              refine et_then ?_
              refine ct_ret ?_
              refine et_then_ret ?_
              exact et_fn (none, 0) rfl (.cons mem0 .nil) (by rw [entV_nil (by omega)]; rfl) (ent_none (entV_nil (by omega)) (by rw [entV_nil (by omega)]; rfl) (Ent.drop.trans Ent.drop))
            · refine rt_q (op_move (.tmp mem3)).q (wants_some rfl rfl mem0 rfl) (put_new (by kernel_rfl)) ?_
              refine rt_q (op_field (k := 4) (o' := 4) (.tmp (memU (memU mem10))) (by kernel_rfl) (by rfl)).q (wants_some rfl rfl mem1 rfl) (put_new (by kernel_rfl)) ?_
              refine rt_q (oq_load (o := 0) (i := 4) (.tmp mem0) mem1 (rfl) rfl (by kernel_rfl)) (wants_some rfl rfl mem2 rfl) (put_new (by kernel_rfl)) ?_
              refine rt_q (op_gtr (.tmp mem2) (.tmp mem0)).q (wants_some rfl rfl mem3 rfl) (put_new (by kernel_rfl)) ?_
              refine rt_q (op_pick (b := false) (.tmp mem4) (.tmp mem0)).q wants_none (put_new (by kernel_rfl)) ?_
              refine rt_nil ?_
              refine et_then ?_
              refine ct_if (.tmp mem0) (fun h9 => ?_) (fun h9 => ?_)
              · refine ct_seq ?_
                refine ct_region ?_
                refine rt_q (op_assign .const).q wants_none (put_over (pickU (pickU pick13)) (by kernel_rfl)) ?_
                refine rt_nil ?_
                refine et_then ?_
                refine ct_ret ?_
                refine et_then_ret ?_
                exact et_fn (none, 0) rfl (.cons mem0 .nil) (by rw [entV_nil (by omega)]; rfl) (ent_none (entV_nil (by omega)) (by rw [entV_nil (by omega)]; rfl) (Ent.drop.trans Ent.drop))
              · refine ct_skip ?_
                refine et_then ?_
                refine ct_seq ?_
                refine ct_region ?_
                refine rt_q (op_assign .const).q wants_none (put_new (by kernel_rfl)) ?_
                refine rt_nil ?_
                refine et_then ?_
                refine ct_seq ?_
                refine ct_seq ?_
                refine ct_region ?_
                refine rt_q (op_assign .const).q wants_none (put_new (by kernel_rfl)) ?_
                refine rt_nil ?_
                refine et_then ?_
                refine ct_block ?_
                refine ct_ent (ent_nil 1) ?_
                refine ct_loop3 (X := Nat) (Y := Option Addr) (Z := Nat) (fun i A cx => (entN c cs w v).toNat - i) (fun i A cx => i ≤ (entN c cs w v).toNat) (fun i A cx => [(14, .int .i64 ((i : Int))), (13, .slice A i cx), (12, .int .i64 ((sizeV ((gi cs (((topV c w v + 1)).toNat))) ((gi cs (((topV c w v)).toNat)))))), (10, .int .u64 ((gi cs (((topV c w v)).toNat)))), (9, .pointer (some ⟨b7, 0, none⟩)), (8, .slice none 0 0), (1, .slice CA cs.length cc)]) (fun i A cx => rowS A i cx 1 (((List.range i).map (entAt c cs w v (cellAt cs (topV c w v)))).map (Value.int .i64)) :: pts b7 0 [.int .i64 ((topV c w v)), .int .i64 ((topV c w v + 1)), .int .i64 ((topV c w v + 2)), .int .i64 c.deque] :: pts b1 0 [.int .i64 c.workers, .int .i64 c.levels, .int .i64 c.classes, .int .i64 c.tasks, .int .i64 c.deque, .int .i64 c.heap, .int .i64 c.batch, .int .i64 c.age, .int .i64 c.patience, .slice l.pa c.progs.length l.pc, .slice l.sa c.subs.length l.sc] :: [F]) 0 none 0 (by omega) (.cons mem0 (congrArg (Value.int .i64) (by first | rfl | omega | (simp; omega) | simp)) (.cons mem1 (by first | rfl | simp) (.cons mem10 rfl (.cons mem15 rfl (.cons (memU mem6) rfl (.cons (memU (memU mem15)) rfl (.cons (memU (memU mem18)) rfl .nil))))))) (Ent.refl) (fun i A cx hi10 => ?_)
                have hi0 := hi10
                refine ct_seq ?_
                refine ct_seq ?_
                refine ct_region ?_
                refine rt_q (op_move (.tmp mem0)).q wants_none (put_new (by kernel_rfl)) ?_
                refine rt_q (op_move (.tmp mem3)).q wants_none (put_new (by kernel_rfl)) ?_
                refine rt_q (op_lss (.tmp mem1) (.tmp mem0)).q wants_none (put_new (by kernel_rfl)) ?_
                refine rt_nil ?_
                refine et_then ?_
                refine ct_if (.tmp mem0) (fun h11 => ?_) (fun h11 => ?_)
                · refine ct_skip ?_
                  refine et_then ?_
                  refine ct_seq ?_
                  refine ct_block ?_
                  refine ct_region ?_
                  refine rt_q (op_move (.tmp mem4)).q wants_none (put_new (by kernel_rfl)) ?_
                  refine rt_q (op_move (.tmp mem10)).q wants_none (put_new (by kernel_rfl)) ?_
                  refine rt_q (oq_loadA (o := 0) (i := 0) (k := 4) (us := [.int .i64 ((topV c w v)), .int .i64 ((topV c w v + 1)), .int .i64 ((topV c w v + 2)), .int .i64 c.deque]) (.tmp mem9) mem1 (rfl) (by kernel_rfl) rfl rfl) wants_none (put_new (by kernel_rfl)) ?_
                  refine rt_q (op_move (.tmp mem9)).q wants_none (put_new (by kernel_rfl)) ?_
                  refine rt_q (op_move (.tmp mem7)).q wants_none (put_new (by kernel_rfl)) ?_
                  refine rt_q (op_conv (.tmp mem0) Try.underlying3 Try.underlying33 (wu64 (by omega) (by omega))).q wants_none (put_new (by kernel_rfl)) ?_
                  refine rt_q (op_add (.tmp mem2) (.tmp mem0) rfl).q wants_none (put_new (by kernel_rfl)) ?_
                  have hr0 := wrapu_bd (gi cs (topV c w v).toNat + (i : Int))
                  have hr1 := Int.emod_nonneg ((IntKind.u64.wrap ((gi cs (((topV c w v)).toNat)) + (i : Int)))) (show c.deque ≠ 0 by omega)
                  have hr2 := Int.emod_lt_of_pos ((IntKind.u64.wrap ((gi cs (((topV c w v)).toNat)) + (i : Int)))) (show 0 < c.deque by omega)
                  refine rt_q (oq_call0 (by kernel_rfl) (.cons (.tmp mem4) (.cons (.tmp mem0) .nil)) (refRing_spec _ _ _ _ _ (by omega) (by omega) (by omega) B W _)) wants_none (put_new (by kernel_rfl)) ?_
                  refine rt_q (op_indexW (i := (((topV c w v + 2) + (IntKind.u64.wrap ((gi cs (((topV c w v)).toNat)) + (i : Int))) % c.deque)).toNat) (.tmp mem6) (.tmp mem0) hS (by omega) (by omega) (by omega) (by kernel_rfl) (Nat.mul_one _)).q wants_none (put_new (by kernel_rfl)) ?_
                  refine rt_q (oq_loadW1 (i := (((topV c w v + 2) + (IntKind.u64.wrap ((gi cs (((topV c w v)).toNat)) + (i : Int))) % c.deque)).toNat) (j := 0) (.tmp mem0) hS (gi_get (by omega)) rfl (by omega) (by kernel_rfl)) wants_none (put_new (by kernel_rfl)) ?_
                  refine rt_q (op_conv (.tmp mem0) Try.underlying33 Try.underlying3 rfl).q wants_none (put_new (by kernel_rfl)) ?_
                  refine rt_t (ot_buildSlice (T' := 3) (us := [.int .i64 ((IntKind.i64.wrap (gi cs ((((topV c w v + 2) + (IntKind.u64.wrap ((gi cs (((topV c w v)).toNat)) + (i : Int))) % c.deque)).toNat))))]) (.cons (.tmp mem0) .nil) (fun _ => by kernel_rfl)) wants_none (fun _ => (put_new (by kernel_rfl))) ?_
                  rintro b12
                  refine rt_t (ot_append (by_ := 8) (z := .int .i64 0) (.tmp mem11) (.tmp mem0) (.cons pick1 (.cons pick0 .nil)) Try.underlying37 (infoB_of (by kernel_rfl)) rfl (by decide) rfl rfl (by decide) (by unfold maxLen; omega) (by omega)) wants_none (fun _ => (put_new (by kernel_rfl))) ?_
                  rintro ⟨A13, c13⟩
                  refine rt_ent ent_snoc ?_
                  refine rt_q (op_assign (.tmp mem0)).q wants_none (put_over pick17 (by kernel_rfl)) ?_
                  refine rt_nil ?_
                  refine et_block ?_
                  refine et_then ?_
                  refine ct_region ?_
                  refine rt_q (op_move (.tmp mem17)).q wants_none (put_new (by kernel_rfl)) ?_
                  refine rt_q (op_add (.tmp mem0) .const (w64 (by omega) (by omega))).q wants_none (put_new (by kernel_rfl)) ?_
                  refine rt_q (op_assign (.tmp mem0)).q wants_none (put_over pick19 (by kernel_rfl)) ?_
                  refine rt_nil ?_
                  exact et_again3 (n := 83) (i + 1) A13 c13 (by omega) (by omega) (.cons mem0 (congrArg (Value.int .i64) (by first | rfl | omega | (simp; omega) | simp)) (.cons mem3 (by first | rfl | simp) (.cons (memU mem0) rfl (.cons (memU mem1) rfl (.cons (memU mem2) rfl (.cons (memU mem3) rfl (.cons (memU mem4) rfl .nil))))))) (ent_rowd range_snoc rfl Ent.refl)
                · refine ct_exit ?_
                  refine et_then_exit ?_
                  refine et_then_exit ?_
                  refine et_block_here ?_
                  refine et_then ?_
                  refine ct_seq ?_
                  refine ct_region ?_
                  refine rt_q (op_move (.tmp mem4)).q wants_none (put_new (by kernel_rfl)) ?_
                  refine rt_q (op_assign (.tmp mem0)).q wants_none (put_over pick9 (by kernel_rfl)) ?_
                  refine rt_nil ?_
                  refine et_then ?_
                  refine ct_ret ?_
                  have hi1 : i = (entN c cs w v).toNat := by omega
                  have hal := entV_all (c := c) (cs := cs) (w := w) (l := v) (by omega) (by omega)
                  have hlen : (entV c cs w v).length = i := by rw [hal]; simp; omega
                  exact et_fn (A, cx) rfl (.cons mem0 .nil) (by rw [hlen]; rfl) (ent_rowd (by rw [hal, hi1]) hlen.symm (Ent.drop.trans Ent.drop))

set_option maxRecDepth 100000 in
theorem refFirsts_spec (c : Cfg) (l : CfgAt) (CA : Option Addr) (cc : Nat) (cs : List Int) (hv0 : cfgErr c = 0) (hn : CNums c) (hl : (cs.length : Int) = layCells c) (w : Int) (hw : 0 ≤ w ∧ w < c.workers) {B : Nat} {W : World} (hS : Sl encU 1 W B CA cs) (hcw : CWf cs) (hc : CfgIn W B c l) : Fn_ Try.prog 33 #[.agg #[.int .i64 c.workers, .int .i64 c.levels, .int .i64 c.classes, .int .i64 c.tasks, .int .i64 c.deque, .int .i64 c.heap, .int .i64 c.batch, .int .i64 c.age, .int .i64 c.patience, .slice l.pa c.progs.length l.pc, .slice l.sa c.subs.length l.sc], .slice CA cs.length cc, .int .i64 w] B W [] (X := Option Addr × Nat) (fun p => .tuple #[.slice p.1 (bestV c cs w).1.length p.2, .int .i64 (bestV c cs w).2]) (fun p => [rowS p.1 (bestV c cs w).1.length p.2 1 ((bestV c cs w).1.map (Value.int .i64))]) := by
  have hd := hn.d
  have hlv := hn.l
  refine fn_enter Try.func33 rfl (m := 49) rfl (Nat.le_of_ble_eq_true rfl) (R := [(0, .agg #[.int .i64 c.workers, .int .i64 c.levels, .int .i64 c.classes, .int .i64 c.tasks, .int .i64 c.deque, .int .i64 c.heap, .int .i64 c.batch, .int .i64 c.age, .int .i64 c.patience, .slice l.pa c.progs.length l.pc, .slice l.sa c.subs.length l.sc]), (1, .slice CA cs.length cc), (2, .int .i64 w)]) (by kernel_rfl) (fun F => ?_)
  refine ct_seq ?_
  refine ct_region ?_
  refine rt_t (ot_box (.tmp mem0) (us := [.int .i64 c.workers, .int .i64 c.levels, .int .i64 c.classes, .int .i64 c.tasks, .int .i64 c.deque, .int .i64 c.heap, .int .i64 c.batch, .int .i64 c.age, .int .i64 c.patience, .slice l.pa c.progs.length l.pc, .slice l.sa c.subs.length l.sc]) rfl) wants_none (fun _ => (put_new (by kernel_rfl))) ?_
  rintro b1
  refine rt_q (op_assign .const).q wants_none (put_new (by kernel_rfl)) ?_
  refine rt_q (op_assign .const).q wants_none (put_new (by kernel_rfl)) ?_
  refine rt_nil ?_
  refine et_then ?_
  refine ct_seq ?_
  refine ct_seq ?_
  refine ct_region ?_
  refine rt_q (op_field (k := 1) (o' := 1) (.tmp mem2) (by kernel_rfl) (by rfl)).q wants_none (put_new (by kernel_rfl)) ?_
  refine rt_q (oq_load (o := 0) (i := 1) (.tmp mem0) mem0 (rfl) rfl (by kernel_rfl)) wants_none (put_new (by kernel_rfl)) ?_
  refine rt_q (op_sub (.tmp mem0) .const (w64 (by omega) (by omega))).q wants_none (put_new (by kernel_rfl)) ?_
  refine rt_q (op_assign (.tmp mem0)).q wants_none (put_new (by kernel_rfl)) ?_
  refine rt_nil ?_
  refine et_then ?_
  refine ct_block ?_
  refine ct_loop (X := Nat) (fun k => k) (fun k => (k : Int) ≤ c.levels ∧ bestV c cs w = bestFrom c cs w k) (fun k => [(8, .int .i64 (((k : Int) - 1))), (3, .pointer (some ⟨b1, 0, none⟩)), (1, .slice CA cs.length cc), (2, .int .i64 w)]) (fun k => pts b1 0 [.int .i64 c.workers, .int .i64 c.levels, .int .i64 c.classes, .int .i64 c.tasks, .int .i64 c.deque, .int .i64 c.heap, .int .i64 c.batch, .int .i64 c.age, .int .i64 c.patience, .slice l.pa c.progs.length l.pc, .slice l.sa c.subs.length l.sc] :: [F]) c.levels.toNat (⟨by omega, rfl⟩) (.cons mem0 (congrArg (Value.int .i64) (by first | rfl | omega | (simp; omega) | simp)) (.cons mem6 rfl (.cons mem8 rfl (.cons mem9 rfl .nil)))) (Ent.refl) (fun k hi2 => ?_)
  obtain ⟨hk1, hk2⟩ := hi2
  refine ct_seq ?_
  refine ct_seq ?_
  refine ct_region ?_
  refine rt_q (op_move (.tmp mem0)).q wants_none (put_new (by kernel_rfl)) ?_
  refine rt_q (op_geq (.tmp mem0) .const).q wants_none (put_new (by kernel_rfl)) ?_
  refine rt_nil ?_
  refine et_then ?_
  refine ct_if (.tmp mem0) (fun h3 => ?_) (fun h3 => ?_)
  · refine ct_skip ?_
    refine et_then ?_
    refine ct_seq ?_
    refine ct_block ?_
    refine ct_seq ?_
    refine ct_region ?_
    refine rt_q (op_assign .const).q wants_none (put_new (by kernel_rfl)) ?_
    refine rt_nil ?_
    refine et_then ?_
    refine ct_seq ?_
    refine ct_region ?_
    refine rt_q (oq_loadA (o := 0) (i := 0) (k := 11) (us := [.int .i64 c.workers, .int .i64 c.levels, .int .i64 c.classes, .int .i64 c.tasks, .int .i64 c.deque, .int .i64 c.heap, .int .i64 c.batch, .int .i64 c.age, .int .i64 c.patience, .slice l.pa c.progs.length l.pc, .slice l.sa c.subs.length l.sc]) (.tmp mem4) mem0 (rfl) (by kernel_rfl) rfl rfl) wants_none (put_new (by kernel_rfl)) ?_
    refine rt_q (op_move (.tmp mem6)).q wants_none (put_new (by kernel_rfl)) ?_
    refine rt_q (op_move (.tmp mem8)).q wants_none (put_new (by kernel_rfl)) ?_
    refine rt_q (op_move (.tmp mem6)).q wants_none (put_new (by kernel_rfl)) ?_
    refine rt_t (ot_call0 (by kernel_rfl) (.cons (.tmp mem3) (.cons (.tmp mem2) (.cons (.tmp mem1) (.cons (.tmp mem0) .nil)))) (refEntries_in c l CA cc cs hv0 hn hl _ _ (by omega) (by omega) hS hcw hc) .nil) wants_none (fun _ => (put_new (by kernel_rfl))) ?_
    rintro ⟨A4, c4⟩
    refine rt_q (op_assign (.tmp mem0)).q wants_none (put_new (by kernel_rfl)) ?_
    refine rt_nil ?_
    refine et_then ?_
    refine ct_seq ?_
    refine ct_seq ?_
    refine ct_region ?_
    refine rt_q (op_assign .const).q wants_none (put_new (by kernel_rfl)) ?_
    refine rt_nil ?_
    refine et_then ?_
    refine ct_block ?_
    refine ct_ent (ent_nil 1) ?_
    have hxl := entV_len (c := c) (cs := cs) (w := w) (l := ((k : Int) - 1)) (by omega)
    refine ct_loop3 (X := Nat) (Y := Option Addr) (Z := Nat) (fun i A cx => (entV c cs w ((k : Int) - 1)).length - i) (fun i A cx => i ≤ (entV c cs w ((k : Int) - 1)).length) (fun i A cx => [(11, .int .i64 ((i : Int))), (10, .slice A4 ((entV c cs w (((k : Int) - 1))).length) c4), (23, .slice A4 ((entV c cs w (((k : Int) - 1))).length) c4), (22, .int .i64 (((k : Int) - 1))), (21, .int .i64 w), (20, .slice CA cs.length cc), (19, .agg #[.int .i64 c.workers, .int .i64 c.levels, .int .i64 c.classes, .int .i64 c.tasks, .int .i64 c.deque, .int .i64 c.heap, .int .i64 c.batch, .int .i64 c.age, .int .i64 c.patience, .slice l.pa c.progs.length l.pc, .slice l.sa c.subs.length l.sc]), (9, .slice A ((rdy c cs (entV c cs w ((k : Int) - 1)) i).length) cx), (16, .bool (decide (0 ≤ ((k : Int) - 1)))), (15, .int .i64 (((k : Int) - 1))), (8, .int .i64 (((k : Int) - 1))), (3, .pointer (some ⟨b1, 0, none⟩)), (1, .slice CA cs.length cc), (2, .int .i64 w)]) (fun i A cx => rowS A ((rdy c cs (entV c cs w ((k : Int) - 1)) i).length) cx 1 ((rdy c cs (entV c cs w ((k : Int) - 1)) i).map (Value.int .i64)) :: rowS A4 ((entV c cs w (((k : Int) - 1))).length) c4 1 ((entV c cs w (((k : Int) - 1))).map (Value.int .i64)) :: pts b1 0 [.int .i64 c.workers, .int .i64 c.levels, .int .i64 c.classes, .int .i64 c.tasks, .int .i64 c.deque, .int .i64 c.heap, .int .i64 c.batch, .int .i64 c.age, .int .i64 c.patience, .slice l.pa c.progs.length l.pc, .slice l.sa c.subs.length l.sc] :: [F]) 0 none 0 (by omega) (.cons mem0 (congrArg (Value.int .i64) (by first | rfl | omega | (simp; omega) | simp)) (.cons mem1 rfl (.cons mem2 rfl (.cons mem3 rfl (.cons mem4 rfl (.cons mem5 rfl (.cons mem6 rfl (.cons mem7 rfl (.cons mem8 rfl (.cons mem9 rfl (.cons mem10 rfl (.cons mem11 rfl (.cons mem12 rfl (.cons mem13 rfl .nil)))))))))))))) (Ent.refl) (fun i A cx hi5 => ?_)
    have hi0 := hi5
    have hrl := rdy_le (c := c) (cs := cs) (xs := (entV c cs w ((k : Int) - 1))) (i := i)
    refine ct_seq ?_
    refine ct_seq ?_
    refine ct_region ?_
    refine rt_q (op_move (.tmp mem0)).q wants_none (put_new (by kernel_rfl)) ?_
    refine rt_q (op_move (.tmp mem2)).q wants_none (put_new (by kernel_rfl)) ?_
    refine rt_q (op_len (.tmp mem0) Try.underlying37).q wants_none (put_new (by kernel_rfl)) ?_
    refine rt_q (op_lss (.tmp mem2) (.tmp mem0)).q wants_none (put_new (by kernel_rfl)) ?_
    refine rt_nil ?_
    refine et_then ?_
    refine ct_if (.tmp mem0) (fun h6 => ?_) (fun h6 => ?_)
    · refine ct_skip ?_
      refine et_then ?_
      refine ct_seq ?_
      refine ct_block ?_
      refine ct_seq ?_
      refine ct_draw (by kernel_rfl) (by kernel_rfl) ?_
      refine qt_q (oq_loadA (o := 0) (i := 0) (k := 11) (us := [.int .i64 c.workers, .int .i64 c.levels, .int .i64 c.classes, .int .i64 c.tasks, .int .i64 c.deque, .int .i64 c.heap, .int .i64 c.batch, .int .i64 c.age, .int .i64 c.patience, .slice l.pa c.progs.length l.pc, .slice l.sa c.subs.length l.sc]) (.tmp mem15) mem2 (rfl) (by kernel_rfl) rfl rfl) wants_none (put_new (by kernel_rfl)) ?_
      refine qt_q (op_move (.tmp mem17)).q wants_none (put_new (by kernel_rfl)) ?_
      refine qt_q (op_move (.tmp mem7)).q wants_none (put_new (by kernel_rfl)) ?_
      refine qt_q (op_move (.tmp mem7)).q wants_none (put_new (by kernel_rfl)) ?_
      refine qt_q (oq_indexS (i := i) (.tmp mem1) (.tmp mem0) mem1 (by omega) (by omega) (by omega) (by kernel_rfl) (Nat.mul_one _)) wants_none (put_new (by kernel_rfl)) ?_
      refine qt_q (oq_loadS (i := i) (.tmp mem0) mem1 (gi_map (by first | omega | (simp; omega))) (by kernel_rfl)) wants_none (put_new (by kernel_rfl)) ?_
      refine qt_q (oq_call0 (by kernel_rfl) (.cons (.tmp mem5) (.cons (.tmp mem4) (.cons (.tmp mem0) .nil))) (refReady_spec c l CA cc cs hn hl _ hS hcw _)) wants_none (put_new (by kernel_rfl)) ?_
      refine qt_nil ?_
      refine et_then ?_
      refine ct_ifb (.tmp mem0) (fun h7 => ?_) (fun h7 => ?_)
      · refine ct_region ?_
        refine rt_q (op_move (.tmp mem18)).q wants_none (put_new (by kernel_rfl)) ?_
        refine rt_q (op_move (.tmp mem13)).q wants_none (put_new (by kernel_rfl)) ?_
        refine rt_q (op_move (.tmp mem13)).q wants_none (put_new (by kernel_rfl)) ?_
        refine rt_q (oq_indexS (i := i) (.tmp mem1) (.tmp mem0) mem1 (by omega) (by omega) (by omega) (by kernel_rfl) (Nat.mul_one _)) wants_none (put_new (by kernel_rfl)) ?_
        refine rt_q (oq_loadS (i := i) (.tmp mem0) mem1 (gi_map (by first | omega | (simp; omega))) (by kernel_rfl)) wants_none (put_new (by kernel_rfl)) ?_
        refine rt_t (ot_buildSlice (T' := 3) (us := [.int .i64 ((gi ((entV c cs w (((k : Int) - 1)))) i))]) (.cons (.tmp mem0) .nil) (fun _ => by kernel_rfl)) wants_none (fun _ => (put_new (by kernel_rfl))) ?_
        rintro b8
        refine rt_t (ot_append (by_ := 8) (z := .int .i64 0) (.tmp mem5) (.tmp mem0) (.cons pick1 (.cons pick0 .nil)) Try.underlying37 (infoB_of (by kernel_rfl)) rfl (by decide) rfl rfl (by decide) (by unfold maxLen; omega) (by omega)) wants_none (fun _ => (put_new (by kernel_rfl))) ?_
        rintro ⟨A9, c9⟩
        refine rt_ent ent_snoc ?_
        refine rt_q (op_assign (.tmp mem0)).q wants_none (put_over (pickU pick5) (by kernel_rfl)) ?_
        refine rt_nil ?_
        refine et_block ?_
        refine et_then ?_
        refine ct_region ?_
        refine rt_q (op_move (.tmp mem19)).q wants_none (put_new (by kernel_rfl)) ?_
        refine rt_q (op_add (.tmp mem0) .const (w64 (by omega) (by omega))).q wants_none (put_new (by kernel_rfl)) ?_
        refine rt_q (op_assign (.tmp mem0)).q wants_none (put_over (pickU pick1) (by kernel_rfl)) ?_
        refine rt_nil ?_
        exact et_again3 (n := 49) (i + 1) A9 c9 (by omega) (by omega) (.cons mem0 (congrArg (Value.int .i64) (by first | rfl | omega | (simp; omega) | simp)) (.cons (memU mem2) rfl (.cons (memU mem3) rfl (.cons (memU mem4) rfl (.cons (memU mem5) rfl (.cons (memU mem6) rfl (.cons (memU mem7) rfl (.cons mem3 (congrArg (fun q => Value.slice _ q _) (rdy_len_yes (by omega) (by assumption))) (.cons (memU mem8) rfl (.cons (memU mem9) rfl (.cons (memU mem10) rfl (.cons (memU mem11) rfl (.cons (memU mem12) rfl (.cons (memU mem13) rfl .nil)))))))))))))) (ent_rowd (rdy_yes (by omega) (by assumption)) (rdy_len_yes (by omega) (by assumption)) Ent.refl)
      · refine ct_skip ?_
        refine et_block ?_
        refine et_then ?_
        refine ct_region ?_
        refine rt_q (op_move (.tmp mem11)).q wants_none (put_new (by kernel_rfl)) ?_
        refine rt_q (op_add (.tmp mem0) .const (w64 (by omega) (by omega))).q wants_none (put_new (by kernel_rfl)) ?_
        refine rt_q (op_assign (.tmp mem0)).q wants_none (put_over pick13 (by kernel_rfl)) ?_
        refine rt_nil ?_
        exact et_again3 (n := 49) (i + 1) A cx (by omega) (by omega) (.cons mem0 (congrArg (Value.int .i64) (by first | rfl | omega | (simp; omega) | simp)) (.cons mem14 rfl (.cons mem15 rfl (.cons mem16 rfl (.cons mem17 rfl (.cons mem18 rfl (.cons mem19 rfl (.cons (memU mem0) (congrArg (fun q => Value.slice _ q _) (by rw [rdy_no (by omega) (by assumption)])) (.cons (memU mem1) rfl (.cons (memU mem2) rfl (.cons (memU mem3) rfl (.cons (memU mem4) rfl (.cons (memU mem5) rfl (.cons (memU mem6) rfl .nil)))))))))))))) (ent_rowd (rdy_no (by omega) (by assumption)) (by rw [rdy_no (by omega) (by assumption)]) Ent.refl)
    · refine ct_exit ?_
      refine et_then_exit ?_
      refine et_then_exit ?_
      refine et_block_here ?_
      refine et_then ?_
      refine ct_seq ?_
      refine ct_region ?_
      refine rt_q (op_move (.tmp mem11)).q wants_none (put_new (by kernel_rfl)) ?_
      refine rt_q (op_len (.tmp mem0) Try.underlying37).q wants_none (put_new (by kernel_rfl)) ?_
      refine rt_q (op_gtr (.tmp mem0) .const).q wants_none (put_new (by kernel_rfl)) ?_
      refine rt_nil ?_
      refine et_then ?_
      refine ct_if (.tmp mem0) (fun h10 => ?_) (fun h10 => ?_)
      · refine ct_seq ?_
        refine ct_region ?_
        refine rt_q (op_move (.tmp mem14)).q wants_none (put_new (by kernel_rfl)) ?_
        refine rt_q (op_move (.tmp mem18)).q wants_none (put_new (by kernel_rfl)) ?_
        refine rt_q (op_assign (.tmp mem1)).q wants_none (put_new (by kernel_rfl)) ?_
        refine rt_q (op_assign (.tmp mem1)).q wants_none (put_new (by kernel_rfl)) ?_
        refine rt_nil ?_
        refine et_then ?_
        refine ct_ret ?_
        refine et_block_ret ?_
        refine et_then_ret ?_
        refine et_then_ret ?_
        refine et_block_ret ?_
        refine et_then_ret ?_
        have hra := rdy_all (c := c) (cs := cs) (xs := (entV c cs w ((k : Int) - 1))) (i := i) (by omega)
        have hb0 : bestV c cs w = (rdy c cs (entV c cs w ((k : Int) - 1)) i, (k : Int) - 1) := by rw [hk2, best_yes (by omega) (by rw [← hra]; exact len_ne (by assumption)), hra]
        exact et_fn (A, cx) rfl (.cons mem1 (.cons mem0 .nil)) (by rw [hb0]; rfl) (ent_rowd (by rw [hb0]) (by rw [hb0]) (Ent.drop.trans Ent.drop))
      · refine ct_skip ?_
        refine et_block ?_
        refine et_then ?_
        refine ct_region ?_
        refine rt_q (op_move (.tmp mem17)).q wants_none (put_new (by kernel_rfl)) ?_
        refine rt_q (op_sub (.tmp mem0) .const (w64 (by omega) (by omega))).q wants_none (put_new (by kernel_rfl)) ?_
        refine rt_q (op_assign (.tmp mem0)).q wants_none (put_over pick19 (by kernel_rfl)) ?_
        refine rt_nil ?_
        exact et_again (n := 49) ((k - 1)) (⟨by omega, by rw [hk2, best_no (by omega) (by rw [← rdy_all (i := i) (by omega)]; exact len_nil (by assumption))]⟩) (by omega) (.cons mem0 (congrArg (Value.int .i64) (by first | rfl | omega | (simp; omega) | simp)) (.cons (memU mem0) rfl (.cons (memU mem1) rfl (.cons (memU mem2) rfl .nil)))) ((Ent.drop.trans Ent.drop))
  · refine ct_exit ?_
    refine et_then_exit ?_
    refine et_then_exit ?_
    refine et_block_here ?_
    refine et_then ?_
    refine ct_seq ?_
    refine ct_region ?_
    refine rt_q (op_assign .const).q wants_none (put_new (by kernel_rfl)) ?_
    refine rt_q (op_assign .const).q wants_none (put_new (by kernel_rfl)) ?_
    refine rt_nil ?_
    refine et_then ?_
    refine ct_ret ?_
    have hb0 : bestV c cs w = ([], -1) := by rw [hk2, show k = 0 by omega]; rfl
    exact et_fn (none, 0) rfl (.cons mem1 (.cons mem0 .nil)) (by rw [hb0]; rfl) (ent_none (by rw [hb0]) (by rw [hb0]; rfl) Ent.drop)

end Go.Proofs.Ytkfkiaieeiodnaa
