/- Walks by program: what is ready, and the best of a worker. -/
import Derived.Test.YtkfkiaieeiodnaaSo9
namespace Go.Proofs.Ytkfkiaieeiodnaa
open Go Go.RowKit
def rdy (c : Cfg) (cs xs : List Int) (i : Nat) : List Int := (xs.take i).filter (readyB c cs)
theorem rdy_yes {c : Cfg} {cs xs : List Int} {i : Nat} (hi : i < xs.length) (h : readyB c cs (gi xs i) = true) : rdy c cs xs i ++ [gi xs i] = rdy c cs xs (i + 1) := by
  unfold rdy; rw [take_gi hi, List.filter_append]; simp [h]
theorem rdy_no {c : Cfg} {cs xs : List Int} {i : Nat} (hi : i < xs.length) (h : readyB c cs (gi xs i) = false) : rdy c cs xs i = rdy c cs xs (i + 1) := by
  unfold rdy; rw [take_gi hi, List.filter_append]; simp [h]
theorem rdy_len_yes {c : Cfg} {cs xs : List Int} {i : Nat} (hi : i < xs.length) (h : readyB c cs (gi xs i) = true) : (rdy c cs xs i).length + 1 = (rdy c cs xs (i + 1)).length := by
  rw [← rdy_yes hi h]; simp
theorem rdy_le {c : Cfg} {cs xs : List Int} {i : Nat} : (rdy c cs xs i).length ≤ xs.length := by
  unfold rdy
  refine Nat.le_trans (List.length_filter_le _ _) ?_
  simp; omega
theorem rdy_all {c : Cfg} {cs xs : List Int} {i : Nat} (h : i = xs.length) : rdy c cs xs i = xs.filter (readyB c cs) := by subst h; unfold rdy; rw [List.take_length]
theorem best_yes {c : Cfg} {cs : List Int} {w : Int} {k : Nat} (hk : 1 ≤ k) (h : (entV c cs w ((k : Int) - 1)).filter (readyB c cs) ≠ []) : bestFrom c cs w k = ((entV c cs w ((k : Int) - 1)).filter (readyB c cs), (k : Int) - 1) := by
  obtain ⟨j, rfl⟩ : ∃ j, k = j + 1 := ⟨k - 1, by omega⟩
  rw [show (((j + 1 : Nat) : Int) - 1) = (j : Int) by omega] at *
  rw [bestFrom, if_pos h]
theorem best_no {c : Cfg} {cs : List Int} {w : Int} {k : Nat} (hk : 1 ≤ k) (h : (entV c cs w ((k : Int) - 1)).filter (readyB c cs) = []) : bestFrom c cs w k = bestFrom c cs w (k - 1) := by
  obtain ⟨j, rfl⟩ : ∃ j, k = j + 1 := ⟨k - 1, by omega⟩
  rw [show (((j + 1 : Nat) : Int) - 1) = (j : Int) by omega] at *
  rw [bestFrom, if_neg (by simpa using h)]; rfl
theorem len_nil {xs : List Int} (h : ¬ 0 < ((xs.length : Nat) : Int)) : xs = [] := List.length_eq_zero_iff.1 (by omega)
theorem len_ne {xs : List Int} (h : 0 < ((xs.length : Nat) : Int)) : xs ≠ [] := fun e => by subst e; simp at h

set_option maxRecDepth 100000 in
theorem ready_spec (c : Cfg) (l : CfgAt) (CA : Option Addr) (cc : Nat) (cs : List Int) (hn : CNums c) (hl : (cs.length : Int) = layCells c) (t : Int) {B : Nat} {W : World} (hS : Sl encU 1 W B CA cs) (hcw : CWf cs) (L : List SProp) : Pure Try.prog 44 #[.agg #[.int .i64 c.workers, .int .i64 c.levels, .int .i64 c.classes, .int .i64 c.tasks, .int .i64 c.deque, .int .i64 c.heap, .int .i64 c.batch, .int .i64 c.age, .int .i64 c.patience, .slice l.pa c.progs.length l.pc, .slice l.sa c.subs.length l.sc, .int .i64 c.workers, .int .i64 c.levels, .int .i64 c.classes, .int .i64 c.tasks, .int .i64 c.deque, .int .i64 c.heap, .int .i64 ((laySlp c)), .int .i64 ((layEpo c)), .int .i64 ((layBit c)), .int .i64 ((layDeq c)), .int .i64 ((layTab c)), .slice CA cs.length cc], .int .i64 t] B W L (.bool (readyB c cs t)) := by
  obtain ⟨t1, t2, t3, t4, t5⟩ := tab_in hn
  have ht := hn.t
  have hcl : layCells c = layTab c + 5 * c.tasks := rfl
  refine pure_enter Try.func44 rfl (m := 25) rfl (Nat.le_of_ble_eq_true rfl) (R := [(0, .agg #[.int .i64 c.workers, .int .i64 c.levels, .int .i64 c.classes, .int .i64 c.tasks, .int .i64 c.deque, .int .i64 c.heap, .int .i64 c.batch, .int .i64 c.age, .int .i64 c.patience, .slice l.pa c.progs.length l.pc, .slice l.sa c.subs.length l.sc, .int .i64 c.workers, .int .i64 c.levels, .int .i64 c.classes, .int .i64 c.tasks, .int .i64 c.deque, .int .i64 c.heap, .int .i64 ((laySlp c)), .int .i64 ((layEpo c)), .int .i64 ((layBit c)), .int .i64 ((layDeq c)), .int .i64 ((layTab c)), .slice CA cs.length cc]), (1, .int .i64 t)]) (by kernel_rfl) ?_
  refine ct_seq ?_
  refine ct_region ?_
  refine rt_t (ot_box (.tmp mem0) (us := [.int .i64 c.workers, .int .i64 c.levels, .int .i64 c.classes, .int .i64 c.tasks, .int .i64 c.deque, .int .i64 c.heap, .int .i64 c.batch, .int .i64 c.age, .int .i64 c.patience, .slice l.pa c.progs.length l.pc, .slice l.sa c.subs.length l.sc, .int .i64 c.workers, .int .i64 c.levels, .int .i64 c.classes, .int .i64 c.tasks, .int .i64 c.deque, .int .i64 c.heap, .int .i64 ((laySlp c)), .int .i64 ((layEpo c)), .int .i64 ((layBit c)), .int .i64 ((layDeq c)), .int .i64 ((layTab c)), .slice CA cs.length cc]) rfl) wants_none (fun _ => (put_new (by kernel_rfl))) ?_
  rintro b1
  refine rt_q (op_assign .const).q wants_none (put_new (by kernel_rfl)) ?_
  refine rt_nil ?_
  refine et_then ?_
  refine ct_seq ?_
  refine ct_draw (by kernel_rfl) (by kernel_rfl) ?_
  refine qt_q (op_move (.tmp mem3)).q wants_none (put_new (by kernel_rfl)) ?_
  refine qt_q (op_geq (.tmp mem0) .const).q wants_none (put_new (by kernel_rfl)) ?_
  refine qt_q (op_move (.tmp mem0)).q wants_none (put_new (by kernel_rfl)) ?_
  refine qt_case turn0 turn0 (fun h2 => ?_) (fun h2 => ?_)
  · refine qt_q (op_move (.tmp mem6)).q (wants_some rfl rfl mem0 rfl) (put_new (by kernel_rfl)) ?_
    refine qt_q (op_field (k := 0) (o' := 0) (.tmp mem5) (by kernel_rfl) (by rfl)).q (wants_some rfl rfl mem1 rfl) (put_new (by kernel_rfl)) ?_
    refine qt_q (op_field (k := 3) (o' := 3) (.tmp mem0) (by kernel_rfl) (by rfl)).q (wants_some rfl rfl mem2 rfl) (put_new (by kernel_rfl)) ?_
    refine qt_q (oq_load (o := 0) (i := 3) (.tmp mem0) mem0 (rfl) rfl (by kernel_rfl)) (wants_some rfl rfl mem3 rfl) (put_new (by kernel_rfl)) ?_
    refine qt_q (op_lss (.tmp mem3) (.tmp mem0)).q (wants_some rfl rfl mem4 rfl) (put_new (by kernel_rfl)) ?_
    refine qt_q (op_pick (b := true) (.tmp mem5) (.tmp mem0)).q wants_none (put_new (by kernel_rfl)) ?_
    refine qt_q (op_move (.tmp mem0)).q wants_none (put_new (by kernel_rfl)) ?_
    refine qt_case turn0 turn0 (fun h3 => ?_) (fun h3 => ?_)
    · have hat : atV t c.tasks (layTab c + 0) 5 = layTab c + t * 5 := by unfold atV; rw [if_neg (by omega)]; omega
      refine qt_q (op_field (k := 22) (o' := 22) (.tmp mem11) (by kernel_rfl) (by rfl)).q (wants_some rfl rfl mem0 rfl) (put_new (by kernel_rfl)) ?_
      refine qt_q (oq_load (o := 0) (i := 22) (.tmp mem0) mem0 (rfl) rfl (by kernel_rfl)) (wants_some rfl rfl mem1 rfl) (put_new (by kernel_rfl)) ?_
      refine qt_q (op_field (k := 11) (o' := 11) (.tmp mem13) (by kernel_rfl) (by rfl)).q (wants_some rfl rfl mem2 rfl) (put_new (by kernel_rfl)) ?_
      refine qt_q (oq_loadA (o := 0) (i := 11) (k := 11) (us := [.int .i64 c.workers, .int .i64 c.levels, .int .i64 c.classes, .int .i64 c.tasks, .int .i64 c.deque, .int .i64 c.heap, .int .i64 ((laySlp c)), .int .i64 ((layEpo c)), .int .i64 ((layBit c)), .int .i64 ((layDeq c)), .int .i64 ((layTab c))]) (.tmp mem0) mem0 (rfl) (by kernel_rfl) rfl rfl) (wants_some rfl rfl mem3 rfl) (put_new (by kernel_rfl)) ?_
      refine qt_q (op_move (.tmp mem17)).q (wants_some rfl rfl mem4 rfl) (put_new (by kernel_rfl)) ?_
      refine qt_q (oq_call0 (by kernel_rfl) (.cons (.tmp mem1) (.cons (.tmp mem0) .nil)) (layState_spec c hn _ B W _)) (wants_some rfl rfl mem5 rfl) (put_new (by kernel_rfl)) ?_
      refine qt_q (op_indexW (i := ((atV t c.tasks (layTab c + 0) 5)).toNat) (.tmp mem4) (.tmp mem0) hS (by omega) (by omega) (by omega) (by kernel_rfl) (Nat.mul_one _)).q (wants_some rfl rfl mem6 rfl) (put_new (by kernel_rfl)) ?_
      refine qt_q (oq_loadW1 (i := ((atV t c.tasks (layTab c + 0) 5)).toNat) (j := 0) (.tmp mem0) hS (gi_get (by omega)) rfl (by omega) (by kernel_rfl)) (wants_some rfl rfl mem7 rfl) (put_new (by kernel_rfl)) ?_
      refine qt_q (op_eql (.tmp mem0) .const).q (wants_some rfl rfl mem8 rfl) (put_new (by kernel_rfl)) ?_
      refine qt_q (op_pick (b := true) (.tmp mem9) (.tmp mem0)).q wants_none (put_new (by kernel_rfl)) ?_
      refine qt_q (op_assign (.tmp mem0)).q wants_none (put_over (pickU pick0) (by kernel_rfl)) ?_
      refine qt_nil ?_
      refine et_then ?_
      refine ct_ret ?_
      exact et_ret rfl (.cons mem0 .nil) (by simp only [tupled, readyB]; rw [hat]; simp [*, cellAt] <;> rfl) Ent.drop
    · refine qt_skip (wants_some rfl rfl mem0 rfl) (put_new (by kernel_rfl)) ?_
      refine qt_skip (wants_some rfl rfl mem1 rfl) (put_new (by kernel_rfl)) ?_
      refine qt_skip (wants_some rfl rfl mem2 rfl) (put_new (by kernel_rfl)) ?_
      refine qt_skip (wants_some rfl rfl mem3 rfl) (put_new (by kernel_rfl)) ?_
      refine qt_skip (wants_some rfl rfl mem4 rfl) (put_new (by kernel_rfl)) ?_
      refine qt_skip (wants_some rfl rfl mem5 rfl) (put_new (by kernel_rfl)) ?_
      refine qt_skip (wants_some rfl rfl mem6 rfl) (put_new (by kernel_rfl)) ?_
      refine qt_skip (wants_some rfl rfl mem7 rfl) (put_new (by kernel_rfl)) ?_
      refine qt_skip (wants_some rfl rfl mem8 rfl) (put_new (by kernel_rfl)) ?_
      refine qt_q (op_pick (b := false) (.tmp mem9) .const).q wants_none (put_new (by kernel_rfl)) ?_
      refine qt_q (op_assign (.tmp mem0)).q wants_none (put_over (pickU pick0) (by kernel_rfl)) ?_
      refine qt_nil ?_
      refine et_then ?_
      refine ct_ret ?_
      exact et_ret rfl (.cons mem0 .nil) (by simp only [tupled, readyB]; simp [*]) Ent.drop
  · refine qt_skip (wants_some rfl rfl mem0 rfl) (put_new (by kernel_rfl)) ?_
    refine qt_skip (wants_some rfl rfl mem1 rfl) (put_new (by kernel_rfl)) ?_
    refine qt_skip (wants_some rfl rfl mem2 rfl) (put_new (by kernel_rfl)) ?_
    refine qt_skip (wants_some rfl rfl mem3 rfl) (put_new (by kernel_rfl)) ?_
    refine qt_skip (wants_some rfl rfl mem4 rfl) (put_new (by kernel_rfl)) ?_
    refine qt_q (op_pick (b := false) (.tmp mem5) .const).q wants_none (put_new (by kernel_rfl)) ?_
    refine qt_q (op_move (.tmp mem0)).q wants_none (put_new (by kernel_rfl)) ?_
    refine qt_skip (wants_some rfl rfl mem0 rfl) (put_new (by kernel_rfl)) ?_
    refine qt_skip (wants_some rfl rfl mem1 rfl) (put_new (by kernel_rfl)) ?_
    refine qt_skip (wants_some rfl rfl mem2 rfl) (put_new (by kernel_rfl)) ?_
    refine qt_skip (wants_some rfl rfl mem3 rfl) (put_new (by kernel_rfl)) ?_
    refine qt_skip (wants_some rfl rfl mem4 rfl) (put_new (by kernel_rfl)) ?_
    refine qt_skip (wants_some rfl rfl mem5 rfl) (put_new (by kernel_rfl)) ?_
    refine qt_skip (wants_some rfl rfl mem6 rfl) (put_new (by kernel_rfl)) ?_
    refine qt_skip (wants_some rfl rfl mem7 rfl) (put_new (by kernel_rfl)) ?_
    refine qt_skip (wants_some rfl rfl mem8 rfl) (put_new (by kernel_rfl)) ?_
    refine qt_q (op_pick (b := false) (.tmp mem9) .const).q wants_none (put_new (by kernel_rfl)) ?_
    refine qt_q (op_assign (.tmp mem0)).q wants_none (put_over (pickU pick0) (by kernel_rfl)) ?_
    refine qt_nil ?_
    refine et_then ?_
    refine ct_ret ?_
    exact et_ret rfl (.cons mem0 .nil) (by simp only [tupled, readyB]; simp [*]) Ent.drop

set_option maxRecDepth 100000 in
theorem best_spec (c : Cfg) (l : CfgAt) (CA : Option Addr) (cc : Nat) (cs : List Int) (hn : CNums c) (hl : (cs.length : Int) = layCells c) (w : Int) (hw : 0 ≤ w ∧ w < c.workers) {B : Nat} {W : World} (hS : Sl encU 1 W B CA cs) (hcw : CWf cs) : Fn_ Try.prog 29 #[.agg #[.int .i64 c.workers, .int .i64 c.levels, .int .i64 c.classes, .int .i64 c.tasks, .int .i64 c.deque, .int .i64 c.heap, .int .i64 c.batch, .int .i64 c.age, .int .i64 c.patience, .slice l.pa c.progs.length l.pc, .slice l.sa c.subs.length l.sc, .int .i64 c.workers, .int .i64 c.levels, .int .i64 c.classes, .int .i64 c.tasks, .int .i64 c.deque, .int .i64 c.heap, .int .i64 ((laySlp c)), .int .i64 ((layEpo c)), .int .i64 ((layBit c)), .int .i64 ((layDeq c)), .int .i64 ((layTab c)), .slice CA cs.length cc], .int .i64 w] B W [] (X := Option Addr × Nat) (fun p => .tuple #[.slice p.1 (bestV c cs w).1.length p.2, .int .i64 (bestV c cs w).2]) (fun p => [rowS p.1 (bestV c cs w).1.length p.2 1 ((bestV c cs w).1.map (Value.int .i64))]) := by
  have hd := hn.d
  have hlv := hn.l
  refine fn_enter Try.func29 rfl (m := 40) rfl (Nat.le_of_ble_eq_true rfl) (R := [(0, .agg #[.int .i64 c.workers, .int .i64 c.levels, .int .i64 c.classes, .int .i64 c.tasks, .int .i64 c.deque, .int .i64 c.heap, .int .i64 c.batch, .int .i64 c.age, .int .i64 c.patience, .slice l.pa c.progs.length l.pc, .slice l.sa c.subs.length l.sc, .int .i64 c.workers, .int .i64 c.levels, .int .i64 c.classes, .int .i64 c.tasks, .int .i64 c.deque, .int .i64 c.heap, .int .i64 ((laySlp c)), .int .i64 ((layEpo c)), .int .i64 ((layBit c)), .int .i64 ((layDeq c)), .int .i64 ((layTab c)), .slice CA cs.length cc]), (1, .int .i64 w)]) (by kernel_rfl) (fun F => ?_)
  refine ct_seq ?_
  refine ct_region ?_
  refine rt_t (ot_box (.tmp mem0) (us := [.int .i64 c.workers, .int .i64 c.levels, .int .i64 c.classes, .int .i64 c.tasks, .int .i64 c.deque, .int .i64 c.heap, .int .i64 c.batch, .int .i64 c.age, .int .i64 c.patience, .slice l.pa c.progs.length l.pc, .slice l.sa c.subs.length l.sc, .int .i64 c.workers, .int .i64 c.levels, .int .i64 c.classes, .int .i64 c.tasks, .int .i64 c.deque, .int .i64 c.heap, .int .i64 ((laySlp c)), .int .i64 ((layEpo c)), .int .i64 ((layBit c)), .int .i64 ((layDeq c)), .int .i64 ((layTab c)), .slice CA cs.length cc]) rfl) wants_none (fun _ => (put_new (by kernel_rfl))) ?_
  rintro b1
  refine rt_q (op_assign .const).q wants_none (put_new (by kernel_rfl)) ?_
  refine rt_q (op_assign .const).q wants_none (put_new (by kernel_rfl)) ?_
  refine rt_nil ?_
  refine et_then ?_
  refine ct_seq ?_
  refine ct_seq ?_
  refine ct_region ?_
  refine rt_q (op_field (k := 0) (o' := 0) (.tmp mem2) (by kernel_rfl) (by rfl)).q wants_none (put_new (by kernel_rfl)) ?_
  refine rt_q (op_field (k := 1) (o' := 1) (.tmp mem0) (by kernel_rfl) (by rfl)).q wants_none (put_new (by kernel_rfl)) ?_
  refine rt_q (oq_load (o := 0) (i := 1) (.tmp mem0) mem0 (rfl) rfl (by kernel_rfl)) wants_none (put_new (by kernel_rfl)) ?_
  refine rt_q (op_sub (.tmp mem0) .const (w64 (by omega) (by omega))).q wants_none (put_new (by kernel_rfl)) ?_
  refine rt_q (op_assign (.tmp mem0)).q wants_none (put_new (by kernel_rfl)) ?_
  refine rt_nil ?_
  refine et_then ?_
  refine ct_block ?_
  refine ct_loop (X := Nat) (fun k => k) (fun k => (k : Int) ≤ c.levels ∧ bestV c cs w = bestFrom c cs w k) (fun k => [(6, .int .i64 (((k : Int) - 1))), (2, .pointer (some ⟨b1, 0, none⟩)), (1, .int .i64 w)]) (fun k => pts b1 0 [.int .i64 c.workers, .int .i64 c.levels, .int .i64 c.classes, .int .i64 c.tasks, .int .i64 c.deque, .int .i64 c.heap, .int .i64 c.batch, .int .i64 c.age, .int .i64 c.patience, .slice l.pa c.progs.length l.pc, .slice l.sa c.subs.length l.sc, .int .i64 c.workers, .int .i64 c.levels, .int .i64 c.classes, .int .i64 c.tasks, .int .i64 c.deque, .int .i64 c.heap, .int .i64 ((laySlp c)), .int .i64 ((layEpo c)), .int .i64 ((layBit c)), .int .i64 ((layDeq c)), .int .i64 ((layTab c)), .slice CA cs.length cc] :: [F]) c.levels.toNat (⟨by omega, rfl⟩) (.cons mem0 (congrArg (Value.int .i64) (by first | rfl | omega | (simp; omega) | simp)) (.cons mem7 rfl (.cons mem9 rfl .nil))) (Ent.refl) (fun k hi2 => ?_)
  obtain ⟨hk1, hk2⟩ := hi2
  refine ct_seq ?_
  refine ct_seq ?_
  refine ct_region ?_
  refine rt_q (op_move (.tmp mem0)).q wants_none (put_new (by kernel_rfl)) ?_
  refine rt_q (op_geq (.tmp mem0) .const).q wants_none (put_new (by kernel_rfl)) ?_
  refine rt_nil ?_
  refine et_then ?_
  refine ct_if (.tmp mem0) (fun h3 => ?_) (fun h3 => ?_)
  · refine ct_skip ?_
    refine et_then ?_
    refine ct_seq ?_
    refine ct_block ?_
    refine ct_seq ?_
    refine ct_region ?_
    refine rt_q (op_assign .const).q wants_none (put_new (by kernel_rfl)) ?_
    refine rt_nil ?_
    refine et_then ?_
    refine ct_seq ?_
    refine ct_seq ?_
    refine ct_region ?_
    refine rt_q (oq_loadA (o := 0) (i := 0) (k := 23) (us := [.int .i64 c.workers, .int .i64 c.levels, .int .i64 c.classes, .int .i64 c.tasks, .int .i64 c.deque, .int .i64 c.heap, .int .i64 c.batch, .int .i64 c.age, .int .i64 c.patience, .slice l.pa c.progs.length l.pc, .slice l.sa c.subs.length l.sc, .int .i64 c.workers, .int .i64 c.levels, .int .i64 c.classes, .int .i64 c.tasks, .int .i64 c.deque, .int .i64 c.heap, .int .i64 ((laySlp c)), .int .i64 ((layEpo c)), .int .i64 ((layBit c)), .int .i64 ((layDeq c)), .int .i64 ((layTab c)), .slice CA cs.length cc]) (.tmp mem4) mem0 (rfl) (by kernel_rfl) rfl rfl) wants_none (put_new (by kernel_rfl)) ?_
    refine rt_q (op_move (.tmp mem6)).q wants_none (put_new (by kernel_rfl)) ?_
    refine rt_q (op_move (.tmp mem5)).q wants_none (put_new (by kernel_rfl)) ?_
    refine rt_t (ot_call0 (by kernel_rfl) (.cons (.tmp mem2) (.cons (.tmp mem1) (.cons (.tmp mem0) .nil))) (entries_spec c l CA cc cs hn hl _ _ (by omega) (by omega) hS hcw) .nil) wants_none (fun _ => (put_new (by kernel_rfl))) ?_
    rintro ⟨A4, c4⟩
    refine rt_q (op_len (.tmp mem0) Try.underlying37).q wants_none (put_new (by kernel_rfl)) ?_
    refine rt_q (op_move .const).q wants_none (put_new (by kernel_rfl)) ?_
    refine rt_nil ?_
    refine et_then ?_
    refine ct_block ?_
    refine ct_ent (ent_nil 1) ?_
    have hxl := entV_len (c := c) (cs := cs) (w := w) (l := ((k : Int) - 1)) (by omega)
    refine ct_loop3 (X := Nat) (Y := Option Addr) (Z := Nat) (fun i A cx => (entV c cs w ((k : Int) - 1)).length - i) (fun i A cx => i ≤ (entV c cs w ((k : Int) - 1)).length) (fun i A cx => [(23, .int .i64 ((i : Int))), (22, .int .i64 ((((entV c cs w (((k : Int) - 1))).length : Nat) : Int))), (21, .slice A4 ((entV c cs w (((k : Int) - 1))).length) c4), (20, .int .i64 (((k : Int) - 1))), (19, .int .i64 w), (18, .agg #[.int .i64 c.workers, .int .i64 c.levels, .int .i64 c.classes, .int .i64 c.tasks, .int .i64 c.deque, .int .i64 c.heap, .int .i64 c.batch, .int .i64 c.age, .int .i64 c.patience, .slice l.pa c.progs.length l.pc, .slice l.sa c.subs.length l.sc, .int .i64 c.workers, .int .i64 c.levels, .int .i64 c.classes, .int .i64 c.tasks, .int .i64 c.deque, .int .i64 c.heap, .int .i64 ((laySlp c)), .int .i64 ((layEpo c)), .int .i64 ((layBit c)), .int .i64 ((layDeq c)), .int .i64 ((layTab c)), .slice CA cs.length cc]), (7, .slice A ((rdy c cs (entV c cs w ((k : Int) - 1)) i).length) cx), (15, .bool (decide (0 ≤ ((k : Int) - 1)))), (14, .int .i64 (((k : Int) - 1))), (6, .int .i64 (((k : Int) - 1))), (2, .pointer (some ⟨b1, 0, none⟩)), (1, .int .i64 w)]) (fun i A cx => rowS A ((rdy c cs (entV c cs w ((k : Int) - 1)) i).length) cx 1 ((rdy c cs (entV c cs w ((k : Int) - 1)) i).map (Value.int .i64)) :: rowS A4 ((entV c cs w (((k : Int) - 1))).length) c4 1 ((entV c cs w (((k : Int) - 1))).map (Value.int .i64)) :: pts b1 0 [.int .i64 c.workers, .int .i64 c.levels, .int .i64 c.classes, .int .i64 c.tasks, .int .i64 c.deque, .int .i64 c.heap, .int .i64 c.batch, .int .i64 c.age, .int .i64 c.patience, .slice l.pa c.progs.length l.pc, .slice l.sa c.subs.length l.sc, .int .i64 c.workers, .int .i64 c.levels, .int .i64 c.classes, .int .i64 c.tasks, .int .i64 c.deque, .int .i64 c.heap, .int .i64 ((laySlp c)), .int .i64 ((layEpo c)), .int .i64 ((layBit c)), .int .i64 ((layDeq c)), .int .i64 ((layTab c)), .slice CA cs.length cc] :: [F]) 0 none 0 (by omega) (.cons mem0 (congrArg (Value.int .i64) (by first | rfl | omega | (simp; omega) | simp)) (.cons mem1 rfl (.cons mem2 rfl (.cons mem3 rfl (.cons mem4 rfl (.cons mem5 rfl (.cons mem6 rfl (.cons mem7 rfl (.cons mem8 rfl (.cons mem9 rfl (.cons mem10 rfl (.cons mem11 rfl .nil)))))))))))) (Ent.refl) (fun i A cx hi5 => ?_)
    have hi0 := hi5
    have hrl := rdy_le (c := c) (cs := cs) (xs := (entV c cs w ((k : Int) - 1))) (i := i)
    refine ct_seq ?_
    refine ct_region ?_
    refine rt_q (op_lss (.tmp mem0) (.tmp mem1)).q wants_none (put_new (by kernel_rfl)) ?_
    refine rt_nil ?_
    refine et_then ?_
    refine ct_seq ?_
    refine ct_if (.tmp mem0) (fun h6 => ?_) (fun h6 => ?_)
    · refine ct_skip ?_
      refine et_then ?_
      refine ct_seq ?_
      refine ct_block ?_
      refine ct_seq ?_
      refine ct_region ?_
      refine rt_q (oq_indexS (i := i) (.tmp mem3) (.tmp mem1) mem1 (by omega) (by omega) (by omega) (by kernel_rfl) (Nat.mul_one _)) wants_none (put_new (by kernel_rfl)) ?_
      refine rt_q (oq_loadS (i := i) (.tmp mem0) mem1 (gi_map (by first | omega | (simp; omega))) (by kernel_rfl)) wants_none (put_new (by kernel_rfl)) ?_
      refine rt_q (op_assign (.tmp mem0)).q wants_none (put_new (by kernel_rfl)) ?_
      refine rt_nil ?_
      refine et_then ?_
      refine ct_seq ?_
      refine ct_region ?_
      refine rt_q (oq_loadA (o := 0) (i := 0) (k := 23) (us := [.int .i64 c.workers, .int .i64 c.levels, .int .i64 c.classes, .int .i64 c.tasks, .int .i64 c.deque, .int .i64 c.heap, .int .i64 c.batch, .int .i64 c.age, .int .i64 c.patience, .slice l.pa c.progs.length l.pc, .slice l.sa c.subs.length l.sc, .int .i64 c.workers, .int .i64 c.levels, .int .i64 c.classes, .int .i64 c.tasks, .int .i64 c.deque, .int .i64 c.heap, .int .i64 ((laySlp c)), .int .i64 ((layEpo c)), .int .i64 ((layBit c)), .int .i64 ((layDeq c)), .int .i64 ((layTab c)), .slice CA cs.length cc]) (.tmp mem14) mem2 (rfl) (by kernel_rfl) rfl rfl) wants_none (put_new (by kernel_rfl)) ?_
      refine rt_q (op_move (.tmp mem1)).q wants_none (put_new (by kernel_rfl)) ?_
      refine rt_q (oq_call0 (by kernel_rfl) (.cons (.tmp mem1) (.cons (.tmp mem0) .nil)) (ready_spec c l CA cc cs hn hl _ hS hcw _)) wants_none (put_new (by kernel_rfl)) ?_
      refine rt_nil ?_
      refine et_then ?_
      refine ct_ifb (.tmp mem0) (fun h7 => ?_) (fun h7 => ?_)
      · refine ct_region ?_
        refine rt_q (op_move (.tmp mem13)).q wants_none (put_new (by kernel_rfl)) ?_
        refine rt_q (op_move (.tmp mem4)).q wants_none (put_new (by kernel_rfl)) ?_
        refine rt_t (ot_buildSlice (T' := 3) (us := [.int .i64 ((gi ((entV c cs w (((k : Int) - 1)))) i))]) (.cons (.tmp mem0) .nil) (fun _ => by kernel_rfl)) wants_none (fun _ => (put_new (by kernel_rfl))) ?_
        rintro b8
        refine rt_t (ot_append (by_ := 8) (z := .int .i64 0) (.tmp mem2) (.tmp mem0) (.cons pick1 (.cons pick0 .nil)) Try.underlying37 (infoB_of (by kernel_rfl)) rfl (by decide) rfl rfl (by decide) (by unfold maxLen; omega) (by omega)) wants_none (fun _ => (put_new (by kernel_rfl))) ?_
        rintro ⟨A9, c9⟩
        refine rt_ent ent_snoc ?_
        refine rt_q (op_assign (.tmp mem0)).q wants_none (put_over pick17 (by kernel_rfl)) ?_
        refine rt_nil ?_
        refine et_block ?_
        refine et_then ?_
        refine ct_region ?_
        refine rt_q (op_add (.tmp mem12) .const (w64 (by omega) (by omega))).q wants_none (put_new (by kernel_rfl)) ?_
        refine rt_q (op_move (.tmp mem0)).q wants_none (put_over pick13 (by kernel_rfl)) ?_
        refine rt_nil ?_
        exact et_again3 (n := 40) (i + 1) A9 c9 (by omega) (by omega) (.cons mem0 (congrArg (Value.int .i64) (by first | rfl | omega | (simp; omega) | simp)) (.cons mem14 rfl (.cons mem15 rfl (.cons mem16 rfl (.cons mem17 rfl (.cons mem18 rfl (.cons mem2 (congrArg (fun q => Value.slice _ q _) (rdy_len_yes (by omega) (by assumption))) (.cons mem19 rfl (.cons (memU mem0) rfl (.cons (memU mem1) rfl (.cons (memU mem2) rfl (.cons (memU mem3) rfl .nil)))))))))))) (ent_rowd (rdy_yes (by omega) (by assumption)) (rdy_len_yes (by omega) (by assumption)) Ent.refl)
      · refine ct_skip ?_
        refine et_block ?_
        refine et_then ?_
        refine ct_region ?_
        refine rt_q (op_add (.tmp mem7) .const (w64 (by omega) (by omega))).q wants_none (put_new (by kernel_rfl)) ?_
        refine rt_q (op_move (.tmp mem0)).q wants_none (put_over pick8 (by kernel_rfl)) ?_
        refine rt_nil ?_
        exact et_again3 (n := 40) (i + 1) A cx (by omega) (by omega) (.cons mem0 (congrArg (Value.int .i64) (by first | rfl | omega | (simp; omega) | simp)) (.cons mem9 rfl (.cons mem10 rfl (.cons mem11 rfl (.cons mem12 rfl (.cons mem13 rfl (.cons mem14 (congrArg (fun q => Value.slice _ q _) (by rw [rdy_no (by omega) (by assumption)])) (.cons mem15 rfl (.cons mem16 rfl (.cons mem17 rfl (.cons mem18 rfl (.cons mem19 rfl .nil)))))))))))) (ent_rowd (rdy_no (by omega) (by assumption)) (by rw [rdy_no (by omega) (by assumption)]) Ent.refl)
    · refine ct_exit ?_
      refine et_then_exit ?_
      refine et_then_exit ?_
      refine et_block_here ?_
      refine et_then ?_
      refine ct_seq ?_
      refine ct_region ?_
      refine rt_q (op_move (.tmp mem7)).q wants_none (put_new (by kernel_rfl)) ?_
      refine rt_q (op_len (.tmp mem0) Try.underlying37).q wants_none (put_new (by kernel_rfl)) ?_
      refine rt_q (op_gtr (.tmp mem0) .const).q wants_none (put_new (by kernel_rfl)) ?_
      refine rt_nil ?_
      refine et_then ?_
      refine ct_if (.tmp mem0) (fun h10 => ?_) (fun h10 => ?_)
      · refine ct_seq ?_
        refine ct_region ?_
        refine rt_q (op_move (.tmp mem10)).q wants_none (put_new (by kernel_rfl)) ?_
        refine rt_q (op_move (.tmp mem14)).q wants_none (put_new (by kernel_rfl)) ?_
        refine rt_q (op_assign (.tmp mem1)).q wants_none (put_new (by kernel_rfl)) ?_
        refine rt_q (op_assign (.tmp mem1)).q wants_none (put_new (by kernel_rfl)) ?_
        refine rt_nil ?_
        refine et_then ?_
        refine ct_ret ?_
        refine et_block_ret ?_
        refine et_then_ret ?_
        refine et_then_ret ?_
        refine et_block_ret ?_
        refine et_then_ret ?_
        have hra := rdy_all (c := c) (cs := cs) (xs := (entV c cs w ((k : Int) - 1))) (i := i) (by omega)
        have hb0 : bestV c cs w = (rdy c cs (entV c cs w ((k : Int) - 1)) i, (k : Int) - 1) := by rw [hk2, best_yes (by omega) (by rw [← hra]; exact len_ne (by assumption)), hra]
        exact et_fn (A, cx) rfl (.cons mem1 (.cons mem0 .nil)) (by rw [hb0]; rfl) (ent_rowd (by rw [hb0]) (by rw [hb0]) (Ent.drop.trans Ent.drop))
      · refine ct_skip ?_
        refine et_block ?_
        refine et_then ?_
        refine ct_region ?_
        refine rt_q (op_move (.tmp mem13)).q wants_none (put_new (by kernel_rfl)) ?_
        refine rt_q (op_sub (.tmp mem0) .const (w64 (by omega) (by omega))).q wants_none (put_new (by kernel_rfl)) ?_
        refine rt_q (op_assign (.tmp mem0)).q wants_none (put_over pick15 (by kernel_rfl)) ?_
        refine rt_nil ?_
        exact et_again (n := 40) ((k - 1)) (⟨by omega, by rw [hk2, best_no (by omega) (by rw [← rdy_all (i := i) (by omega)]; exact len_nil (by assumption))]⟩) (by omega) (.cons mem0 (congrArg (Value.int .i64) (by first | rfl | omega | (simp; omega) | simp)) (.cons mem16 rfl (.cons mem17 rfl .nil))) ((Ent.drop.trans Ent.drop))
  · refine ct_exit ?_
    refine et_then_exit ?_
    refine et_then_exit ?_
    refine et_block_here ?_
    refine et_then ?_
    refine ct_seq ?_
    refine ct_region ?_
    refine rt_q (op_assign .const).q wants_none (put_new (by kernel_rfl)) ?_
    refine rt_q (op_assign .const).q wants_none (put_new (by kernel_rfl)) ?_
    refine rt_nil ?_
    refine et_then ?_
    refine ct_ret ?_
    have hb0 : bestV c cs w = ([], -1) := by rw [hk2, show k = 0 by omega]; rfl
    exact et_fn (none, 0) rfl (.cons mem1 (.cons mem0 .nil)) (by rw [hb0]; rfl) (ent_none (by rw [hb0]) (by rw [hb0]; rfl) Ent.drop)

end Go.Proofs.Ytkfkiaieeiodnaa
