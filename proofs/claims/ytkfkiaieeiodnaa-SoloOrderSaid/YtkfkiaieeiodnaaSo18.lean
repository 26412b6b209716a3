/- Walks by program: what a worker alone starts, in the program and in the reference. -/
import Derived.Test.YtkfkiaieeiodnaaSo17
namespace Go.Proofs.Ytkfkiaieeiodnaa
open Go Go.RowKit
theorem next_stolen {c : Cfg} {cs : List Int} {d w : Int} (h : goodB c cs w = true) (hw : 1 ≤ c.workers) (hl : 1 ≤ c.levels) (hb : ¬ 0 ≤ (bestV c cs w).2) (hi : (injV c cs).isSome = false) : nextV c cs d w = stolenV c cs d w :=
  next_steal h hw hl hb hi rfl

set_option maxRecDepth 100000 in
theorem solNext_good (c : Cfg) (l : CfgAt) (CA : Option Addr) (cc : Nat) (cs : List Int) (hn : CNums c) (hl : (cs.length : Int) = layCells c) (hv0 : cfgErr c = 0) (d w : Int) (hw : 0 ≤ w ∧ w < c.workers) (hcc : cs.length ≤ cc) (h8 : c.heap ≤ 8) {B : Nat} {W : World} (hS : Sl encU 1 W B CA cs) (hcw : CWf cs) (hc : CfgIn W B c l) (L : List SProp) : Pure Try.prog 15 #[.agg #[.int .i64 c.workers, .int .i64 c.levels, .int .i64 c.classes, .int .i64 c.tasks, .int .i64 c.deque, .int .i64 c.heap, .int .i64 c.batch, .int .i64 c.age, .int .i64 c.patience, .slice l.pa c.progs.length l.pc, .slice l.sa c.subs.length l.sc], .slice CA cs.length cc, .int .i64 d, .int .i64 w] B W L (.tuple #[.int .i64 ((nextV c cs d w).getD 0), .bool (nextV c cs d w).isSome]) := by
  have hd := hn.d
  have hlv := hn.l
  have hww := hn.w
  have htt := hn.t
  have hgb := goodB_true (cs := cs) hv0 hl hw
  obtain ⟨b1, b2⟩ := best_bd c cs w hlv
  have hbi := best_iff (c := c) (cs := cs) (w := w) hlv.1
  have hbl := best_len c cs w hd.2
  refine pure_enter Try.func15 rfl (m := 57) rfl (Nat.le_of_ble_eq_true rfl) (R := [(0, .agg #[.int .i64 c.workers, .int .i64 c.levels, .int .i64 c.classes, .int .i64 c.tasks, .int .i64 c.deque, .int .i64 c.heap, .int .i64 c.batch, .int .i64 c.age, .int .i64 c.patience, .slice l.pa c.progs.length l.pc, .slice l.sa c.subs.length l.sc]), (1, .slice CA cs.length cc), (2, .int .i64 d), (3, .int .i64 w)]) (by kernel_rfl) ?_
  refine ct_seq ?_
  refine ct_region ?_
  refine rt_t (ot_box (.tmp mem0) (us := [.int .i64 c.workers, .int .i64 c.levels, .int .i64 c.classes, .int .i64 c.tasks, .int .i64 c.deque, .int .i64 c.heap, .int .i64 c.batch, .int .i64 c.age, .int .i64 c.patience, .slice l.pa c.progs.length l.pc, .slice l.sa c.subs.length l.sc]) rfl) wants_none (fun _ => (put_new (by kernel_rfl))) ?_
  rintro b1
  refine rt_q (op_assign .const).q wants_none (put_new (by kernel_rfl)) ?_
  refine rt_q (op_assign .const).q wants_none (put_new (by kernel_rfl)) ?_
  refine rt_nil ?_
  refine et_then ?_
  refine ct_seq ?_
  refine ct_region ?_
  refine rt_q (oq_loadA (o := 0) (i := 0) (k := 11) (us := [.int .i64 c.workers, .int .i64 c.levels, .int .i64 c.classes, .int .i64 c.tasks, .int .i64 c.deque, .int .i64 c.heap, .int .i64 c.batch, .int .i64 c.age, .int .i64 c.patience, .slice l.pa c.progs.length l.pc, .slice l.sa c.subs.length l.sc]) (.tmp mem2) mem0 (rfl) (by kernel_rfl) rfl rfl) wants_none (put_new (by kernel_rfl)) ?_
  refine rt_q (op_move (.tmp mem5)).q wants_none (put_new (by kernel_rfl)) ?_
  refine rt_q (op_move (.tmp mem8)).q wants_none (put_new (by kernel_rfl)) ?_
  refine rt_q (oq_call0 (by kernel_rfl) (.cons (.tmp mem2) (.cons (.tmp mem1) (.cons (.tmp mem0) .nil))) (newPic_good c l CA cc cs _ hv0 hn hl (by omega) (by omega) hS hcw hc _)) wants_none (put_new (by kernel_rfl)) ?_
  refine rt_q (op_move (.tmp mem0)).q wants_none (put_new (by kernel_rfl)) ?_
  refine rt_q (op_extract (.tmp mem0) rfl).q wants_none (put_new (by kernel_rfl)) ?_
  refine rt_q (op_extract (.tmp mem1) rfl).q wants_none (put_new (by kernel_rfl)) ?_
  refine rt_t (ot_alloc (v := .agg #[.int .i64 0, .int .i64 0, .int .i64 0, .int .i64 0, .int .i64 0, .int .i64 0, .int .i64 0, .int .i64 0, .int .i64 0, .slice none 0 0, .slice none 0 0, .int .i64 0, .int .i64 0, .int .i64 0, .int .i64 0, .int .i64 0, .int .i64 0, .int .i64 0, .int .i64 0, .int .i64 0, .int .i64 0, .int .i64 0, .slice none 0 0]) (us := [.int .i64 0, .int .i64 0, .int .i64 0, .int .i64 0, .int .i64 0, .int .i64 0, .int .i64 0, .int .i64 0, .int .i64 0, .slice none 0 0, .slice none 0 0, .int .i64 0, .int .i64 0, .int .i64 0, .int .i64 0, .int .i64 0, .int .i64 0, .int .i64 0, .int .i64 0, .int .i64 0, .int .i64 0, .int .i64 0, .slice none 0 0]) (by kernel_rfl) rfl) wants_none (fun _ => (put_new (by kernel_rfl))) ?_
  rintro b2
  refine rt_t (ot_store (o := 0) (i := 0) (k := 23) (us := [.int .i64 c.workers, .int .i64 c.levels, .int .i64 c.classes, .int .i64 c.tasks, .int .i64 c.deque, .int .i64 c.heap, .int .i64 c.batch, .int .i64 c.age, .int .i64 c.patience, .slice l.pa c.progs.length l.pc, .slice l.sa c.subs.length l.sc, .int .i64 c.workers, .int .i64 c.levels, .int .i64 c.classes, .int .i64 c.tasks, .int .i64 c.deque, .int .i64 c.heap, .int .i64 ((laySlp c)), .int .i64 ((layEpo c)), .int .i64 ((layBit c)), .int .i64 ((layDeq c)), .int .i64 ((layTab c)), .slice CA cs.length cc]) (ws := [.int .i64 c.workers, .int .i64 c.levels, .int .i64 c.classes, .int .i64 c.tasks, .int .i64 c.deque, .int .i64 c.heap, .int .i64 c.batch, .int .i64 c.age, .int .i64 c.patience, .slice l.pa c.progs.length l.pc, .slice l.sa c.subs.length l.sc, .int .i64 c.workers, .int .i64 c.levels, .int .i64 c.classes, .int .i64 c.tasks, .int .i64 c.deque, .int .i64 c.heap, .int .i64 ((laySlp c)), .int .i64 ((layEpo c)), .int .i64 ((layBit c)), .int .i64 ((layDeq c)), .int .i64 ((layTab c)), .slice CA cs.length cc]) (.tmp mem0) (.tmp mem2) turn0 (rfl) (by kernel_rfl) rfl (by decide) rfl rfl (by simp) rfl) wants_none (fun _ => put_none) (fun _ => ?_)
  refine rt_q (op_assign (.tmp mem1)).q wants_none (put_new (by kernel_rfl)) ?_
  refine rt_nil ?_
  refine et_then ?_
  refine ct_seq ?_
  refine ct_seq ?_
  refine ct_region ?_
  refine rt_q (op_move (.tmp mem0)).q wants_none (put_new (by kernel_rfl)) ?_
  refine rt_q (op_notb (.tmp mem0)).q wants_none (put_new (by kernel_rfl)) ?_
  refine rt_q (op_move (.tmp mem0)).q wants_none (put_new (by kernel_rfl)) ?_
  refine rt_q (oq_loadA (o := 0) (i := 0) (k := 11) (us := [.int .i64 c.workers, .int .i64 c.levels, .int .i64 c.classes, .int .i64 c.tasks, .int .i64 c.deque, .int .i64 c.heap, .int .i64 c.batch, .int .i64 c.age, .int .i64 c.patience, .slice l.pa c.progs.length l.pc, .slice l.sa c.subs.length l.sc]) (.tmp mem14) mem1 (rfl) (by kernel_rfl) rfl rfl) (wants_some rfl rfl mem0 rfl) (put_new (by kernel_rfl)) ?_
  refine rt_q (oq_call0 (by kernel_rfl) (.cons (.tmp mem0) .nil) (cfgCheck_pure c l hc _)) (wants_some rfl rfl mem1 rfl) (put_new (by kernel_rfl)) ?_
  refine rt_q (op_neq (.tmp mem0) .const).q (wants_some rfl rfl mem2 rfl) (put_new (by kernel_rfl)) ?_
  refine rt_q (op_pick (b := false) (.tmp mem3) (.tmp mem0)).q wants_none (put_new (by kernel_rfl)) ?_
  refine rt_nil ?_
  refine et_then ?_
  refine ct_if (.tmp mem0) (fun h3 => ?_) (fun h3 => ?_)
  · exact absurd hv0 h3
  · refine ct_skip ?_
    refine et_then ?_
    refine ct_seq ?_
    refine ct_seq ?_
    refine ct_region ?_
    refine rt_q (oq_loadA (o := 0) (i := 0) (k := 23) (us := [.int .i64 c.workers, .int .i64 c.levels, .int .i64 c.classes, .int .i64 c.tasks, .int .i64 c.deque, .int .i64 c.heap, .int .i64 c.batch, .int .i64 c.age, .int .i64 c.patience, .slice l.pa c.progs.length l.pc, .slice l.sa c.subs.length l.sc, .int .i64 c.workers, .int .i64 c.levels, .int .i64 c.classes, .int .i64 c.tasks, .int .i64 c.deque, .int .i64 c.heap, .int .i64 ((laySlp c)), .int .i64 ((layEpo c)), .int .i64 ((layBit c)), .int .i64 ((layDeq c)), .int .i64 ((layTab c)), .slice CA cs.length cc]) (.tmp mem8) mem0 (rfl) (by kernel_rfl) rfl rfl) wants_none (put_new (by kernel_rfl)) ?_
    refine rt_q (op_move (.tmp (memU mem3))).q wants_none (put_new (by kernel_rfl)) ?_
    refine rt_t (ot_call0 (by kernel_rfl) (.cons (.tmp mem1) (.cons (.tmp mem0) .nil)) (best_spec c l CA cc cs hn hl _ (by omega) hS hcw) .nil) wants_none (fun _ => (put_new (by kernel_rfl))) ?_
    rintro ⟨A4, c4⟩
    refine rt_q (op_move (.tmp mem0)).q wants_none (put_new (by kernel_rfl)) ?_
    refine rt_q (op_extract (.tmp mem0) rfl).q wants_none (put_new (by kernel_rfl)) ?_
    refine rt_q (op_extract (.tmp mem1) rfl).q wants_none (put_new (by kernel_rfl)) ?_
    refine rt_q (op_assign (.tmp mem1)).q wants_none (put_new (by kernel_rfl)) ?_
    refine rt_q (op_assign (.tmp mem1)).q wants_none (put_new (by kernel_rfl)) ?_
    refine rt_nil ?_
    refine et_then ?_
    refine ct_seq ?_
    refine ct_region ?_
    refine rt_q (op_move (.tmp mem0)).q wants_none (put_new (by kernel_rfl)) ?_
    refine rt_q (op_geq (.tmp mem0) .const).q wants_none (put_new (by kernel_rfl)) ?_
    refine rt_nil ?_
    refine et_then ?_
    refine ct_if (.tmp mem0) (fun h5 => ?_) (fun h5 => ?_)
    · refine ct_seq ?_
      refine ct_region ?_
      refine rt_q (op_move (.tmp mem3)).q wants_none (put_new (by kernel_rfl)) ?_
      refine rt_q (op_move (.tmp mem4)).q wants_none (put_new (by kernel_rfl)) ?_
      refine rt_q (op_len (.tmp mem0) Try.underlying37).q wants_none (put_new (by kernel_rfl)) ?_
      refine rt_q (op_sub (.tmp mem0) .const (w64 (by omega) (by omega))).q wants_none (put_new (by kernel_rfl)) ?_
      refine rt_q (oq_indexS (i := (((((bestV c cs w).1.length : Nat) : Int) - 1)).toNat) (.tmp mem3) (.tmp mem0) mem0 (by omega) (by omega) (by omega) (by kernel_rfl) (Nat.mul_one _)) wants_none (put_new (by kernel_rfl)) ?_
      refine rt_q (oq_loadS (i := (((((bestV c cs w).1.length : Nat) : Int) - 1)).toNat) (.tmp mem0) mem0 (gi_map (by first | omega | (simp; omega))) (by kernel_rfl)) wants_none (put_new (by kernel_rfl)) ?_
      refine rt_q (op_assign (.tmp mem0)).q wants_none (put_over (pickU pick13) (by kernel_rfl)) ?_
      refine rt_q (op_assign .const).q wants_none (put_over (pickU pick13) (by kernel_rfl)) ?_
      refine rt_nil ?_
      refine et_then ?_
      refine ct_ret ?_
      refine et_then_ret ?_
      exact et_ret rfl (.cons mem1 (.cons mem0 .nil)) (by have hix : (((bestV c cs w).1.length : Int) - 1).toNat = (bestV c cs w).1.length - 1 := (by omega); simp only [tupled, hix]; rw [next_best hgb hlv.1 (by omega) (k := (bestV c cs w).1.length - 1) (by omega)]; rfl) (Ent.drop.trans (Ent.drop.trans Ent.drop))
    · refine ct_skip ?_
      refine et_then ?_
      refine ct_seq ?_
      refine ct_seq ?_
      refine ct_region ?_
      refine rt_q (oq_loadA (o := 0) (i := 0) (k := 23) (us := [.int .i64 c.workers, .int .i64 c.levels, .int .i64 c.classes, .int .i64 c.tasks, .int .i64 c.deque, .int .i64 c.heap, .int .i64 c.batch, .int .i64 c.age, .int .i64 c.patience, .slice l.pa c.progs.length l.pc, .slice l.sa c.subs.length l.sc, .int .i64 c.workers, .int .i64 c.levels, .int .i64 c.classes, .int .i64 c.tasks, .int .i64 c.deque, .int .i64 c.heap, .int .i64 ((laySlp c)), .int .i64 ((layEpo c)), .int .i64 ((layBit c)), .int .i64 ((layDeq c)), .int .i64 ((layTab c)), .slice CA cs.length cc]) (.tmp mem18) mem1 (rfl) (by kernel_rfl) rfl rfl) wants_none (put_new (by kernel_rfl)) ?_
      refine rt_q (oq_call0 (by kernel_rfl) (.cons (.tmp mem0) .nil) (injected_spec c l CA cc cs hn hl hcc h8 hS hcw _)) wants_none (put_new (by kernel_rfl)) ?_
      refine rt_q (op_move (.tmp mem0)).q wants_none (put_new (by kernel_rfl)) ?_
      refine rt_q (op_extract (.tmp mem0) rfl).q wants_none (put_new (by kernel_rfl)) ?_
      refine rt_q (op_extract (.tmp mem1) rfl).q wants_none (put_new (by kernel_rfl)) ?_
      refine rt_q (op_assign (.tmp mem1)).q wants_none (put_new (by kernel_rfl)) ?_
      refine rt_q (op_assign (.tmp mem1)).q wants_none (put_new (by kernel_rfl)) ?_
      refine rt_nil ?_
      refine et_then ?_
      refine ct_seq ?_
      refine ct_region ?_
      refine rt_q (op_move (.tmp mem0)).q wants_none (put_new (by kernel_rfl)) ?_
      refine rt_nil ?_
      refine et_then ?_
      refine ct_ifb (.tmp mem0) (fun h6 => ?_) (fun h6 => ?_)
      · refine ct_seq ?_
        refine ct_region ?_
        refine rt_q (op_move (.tmp mem2)).q wants_none (put_new (by kernel_rfl)) ?_
        refine rt_q (op_assign (.tmp mem0)).q wants_none (put_over (pickU pick16) (by kernel_rfl)) ?_
        refine rt_q (op_assign .const).q wants_none (put_over (pickU pick16) (by kernel_rfl)) ?_
        refine rt_nil ?_
        refine et_then ?_
        refine ct_ret ?_
        refine et_then_ret ?_
        exact et_ret rfl (.cons mem1 (.cons mem0 .nil)) (by simp only [tupled]; rw [next_inj hgb hlv.1 (by omega) (by assumption)]; simp [*]) (Ent.drop.trans (Ent.drop.trans Ent.drop))
      · refine ct_skip ?_
        refine et_then ?_
        refine ct_seq ?_
        refine ct_region ?_
        refine rt_q (oq_loadA (o := 0) (i := 0) (k := 23) (us := [.int .i64 c.workers, .int .i64 c.levels, .int .i64 c.classes, .int .i64 c.tasks, .int .i64 c.deque, .int .i64 c.heap, .int .i64 c.batch, .int .i64 c.age, .int .i64 c.patience, .slice l.pa c.progs.length l.pc, .slice l.sa c.subs.length l.sc, .int .i64 c.workers, .int .i64 c.levels, .int .i64 c.classes, .int .i64 c.tasks, .int .i64 c.deque, .int .i64 c.heap, .int .i64 ((laySlp c)), .int .i64 ((layEpo c)), .int .i64 ((layBit c)), .int .i64 ((layDeq c)), .int .i64 ((layTab c)), .slice CA cs.length cc]) (.tmp (memU mem6)) mem1 (rfl) (by kernel_rfl) rfl rfl) wants_none (put_new (by kernel_rfl)) ?_
        refine rt_q (op_move (.tmp (memU (memU mem1)))).q wants_none (put_new (by kernel_rfl)) ?_
        refine rt_q (op_move (.tmp (memU (memU mem1)))).q wants_none (put_new (by kernel_rfl)) ?_
        refine rt_q (oq_call0 (by kernel_rfl) (.cons (.tmp mem2) (.cons (.tmp mem1) (.cons (.tmp mem0) .nil))) (stolen_spec c l CA cc cs hn hl _ _ hS hcw _)) wants_none (put_new (by kernel_rfl)) ?_
        refine rt_q (op_extract (.tmp mem0) rfl).q wants_none (put_new (by kernel_rfl)) ?_
        refine rt_q (op_extract (.tmp mem1) rfl).q wants_none (put_new (by kernel_rfl)) ?_
        refine rt_q (op_assign (.tmp mem1)).q wants_none (put_over (pickU (pickU pick1)) (by kernel_rfl)) ?_
        refine rt_q (op_assign (.tmp mem1)).q wants_none (put_over (pickU (pickU pick1)) (by kernel_rfl)) ?_
        refine rt_nil ?_
        refine et_then ?_
        refine ct_ret ?_
        exact et_ret rfl (.cons mem1 (.cons mem0 .nil)) (by simp only [tupled]; rw [next_stolen hgb hww.1 hlv.1 (by omega) (by assumption)]; rfl) (Ent.drop.trans (Ent.drop.trans Ent.drop))

set_option maxRecDepth 100000 in
theorem solNext_bad (c : Cfg) (l : CfgAt) (CA : Option Addr) (cc : Nat) (cs : List Int) (hv0 : cfgErr c = 0) (d w : Int) (hb : ¬ ((cs.length : Int) = layCells c ∧ 0 ≤ w ∧ w < c.workers)) {B : Nat} {W : World} (hS : Sl encU 1 W B CA cs) (hcw : CWf cs) (hc : CfgIn W B c l) (L : List SProp) : Pure Try.prog 15 #[.agg #[.int .i64 c.workers, .int .i64 c.levels, .int .i64 c.classes, .int .i64 c.tasks, .int .i64 c.deque, .int .i64 c.heap, .int .i64 c.batch, .int .i64 c.age, .int .i64 c.patience, .slice l.pa c.progs.length l.pc, .slice l.sa c.subs.length l.sc], .slice CA cs.length cc, .int .i64 d, .int .i64 w] B W L (.tuple #[.int .i64 0, .bool false]) := by
  refine pure_enter Try.func15 rfl (m := 57) rfl (Nat.le_of_ble_eq_true rfl) (R := [(0, .agg #[.int .i64 c.workers, .int .i64 c.levels, .int .i64 c.classes, .int .i64 c.tasks, .int .i64 c.deque, .int .i64 c.heap, .int .i64 c.batch, .int .i64 c.age, .int .i64 c.patience, .slice l.pa c.progs.length l.pc, .slice l.sa c.subs.length l.sc]), (1, .slice CA cs.length cc), (2, .int .i64 d), (3, .int .i64 w)]) (by kernel_rfl) ?_
  refine ct_seq ?_
  refine ct_region ?_
  refine rt_t (ot_box (.tmp mem0) (us := [.int .i64 c.workers, .int .i64 c.levels, .int .i64 c.classes, .int .i64 c.tasks, .int .i64 c.deque, .int .i64 c.heap, .int .i64 c.batch, .int .i64 c.age, .int .i64 c.patience, .slice l.pa c.progs.length l.pc, .slice l.sa c.subs.length l.sc]) rfl) wants_none (fun _ => (put_new (by kernel_rfl))) ?_
  rintro b1
  refine rt_q (op_assign .const).q wants_none (put_new (by kernel_rfl)) ?_
  refine rt_q (op_assign .const).q wants_none (put_new (by kernel_rfl)) ?_
  refine rt_nil ?_
  refine et_then ?_
  refine ct_seq ?_
  refine ct_region ?_
  refine rt_q (oq_loadA (o := 0) (i := 0) (k := 11) (us := [.int .i64 c.workers, .int .i64 c.levels, .int .i64 c.classes, .int .i64 c.tasks, .int .i64 c.deque, .int .i64 c.heap, .int .i64 c.batch, .int .i64 c.age, .int .i64 c.patience, .slice l.pa c.progs.length l.pc, .slice l.sa c.subs.length l.sc]) (.tmp mem2) mem0 (rfl) (by kernel_rfl) rfl rfl) wants_none (put_new (by kernel_rfl)) ?_
  refine rt_q (op_move (.tmp mem5)).q wants_none (put_new (by kernel_rfl)) ?_
  refine rt_q (op_move (.tmp mem8)).q wants_none (put_new (by kernel_rfl)) ?_
  refine rt_q (oq_call0 (by kernel_rfl) (.cons (.tmp mem2) (.cons (.tmp mem1) (.cons (.tmp mem0) .nil))) (newPic_bad c l CA cc cs _ hv0 (cnums (nums_of_err hv0)) hb hS hcw hc _)) wants_none (put_new (by kernel_rfl)) ?_
  refine rt_q (op_move (.tmp mem0)).q wants_none (put_new (by kernel_rfl)) ?_
  refine rt_q (op_extract (.tmp mem0) rfl).q wants_none (put_new (by kernel_rfl)) ?_
  refine rt_q (op_extract (.tmp mem1) rfl).q wants_none (put_new (by kernel_rfl)) ?_
  refine rt_t (ot_alloc (v := .agg #[.int .i64 0, .int .i64 0, .int .i64 0, .int .i64 0, .int .i64 0, .int .i64 0, .int .i64 0, .int .i64 0, .int .i64 0, .slice none 0 0, .slice none 0 0, .int .i64 0, .int .i64 0, .int .i64 0, .int .i64 0, .int .i64 0, .int .i64 0, .int .i64 0, .int .i64 0, .int .i64 0, .int .i64 0, .int .i64 0, .slice none 0 0]) (us := [.int .i64 0, .int .i64 0, .int .i64 0, .int .i64 0, .int .i64 0, .int .i64 0, .int .i64 0, .int .i64 0, .int .i64 0, .slice none 0 0, .slice none 0 0, .int .i64 0, .int .i64 0, .int .i64 0, .int .i64 0, .int .i64 0, .int .i64 0, .int .i64 0, .int .i64 0, .int .i64 0, .int .i64 0, .int .i64 0, .slice none 0 0]) (by kernel_rfl) rfl) wants_none (fun _ => (put_new (by kernel_rfl))) ?_
  rintro b2
  refine rt_t (ot_store (o := 0) (i := 0) (k := 23) (us := [.int .i64 0, .int .i64 0, .int .i64 0, .int .i64 0, .int .i64 0, .int .i64 0, .int .i64 0, .int .i64 0, .int .i64 0, .slice none 0 0, .slice none 0 0, .int .i64 0, .int .i64 0, .int .i64 0, .int .i64 0, .int .i64 0, .int .i64 0, .int .i64 0, .int .i64 0, .int .i64 0, .int .i64 0, .int .i64 0, .slice none 0 0]) (ws := [.int .i64 0, .int .i64 0, .int .i64 0, .int .i64 0, .int .i64 0, .int .i64 0, .int .i64 0, .int .i64 0, .int .i64 0, .slice none 0 0, .slice none 0 0, .int .i64 0, .int .i64 0, .int .i64 0, .int .i64 0, .int .i64 0, .int .i64 0, .int .i64 0, .int .i64 0, .int .i64 0, .int .i64 0, .int .i64 0, .slice none 0 0]) (.tmp mem0) (.tmp mem2) turn0 (rfl) (by kernel_rfl) rfl (by decide) rfl rfl (by simp) rfl) wants_none (fun _ => put_none) (fun _ => ?_)
  refine rt_q (op_assign (.tmp mem1)).q wants_none (put_new (by kernel_rfl)) ?_
  refine rt_nil ?_
  refine et_then ?_
  refine ct_seq ?_
  refine ct_seq ?_
  refine ct_region ?_
  refine rt_q (op_move (.tmp mem0)).q wants_none (put_new (by kernel_rfl)) ?_
  refine rt_q (op_notb (.tmp mem0)).q wants_none (put_new (by kernel_rfl)) ?_
  refine rt_q (op_move (.tmp mem0)).q wants_none (put_new (by kernel_rfl)) ?_
  refine rt_skip (wants_some rfl rfl mem0 rfl) (put_new (by kernel_rfl)) ?_
  refine rt_skip (wants_some rfl rfl mem1 rfl) (put_new (by kernel_rfl)) ?_
  refine rt_skip (wants_some rfl rfl mem2 rfl) (put_new (by kernel_rfl)) ?_
  refine rt_q (op_pick (b := true) (.tmp mem3) .const).q wants_none (put_new (by kernel_rfl)) ?_
  refine rt_nil ?_
  refine et_then ?_
  refine ct_true (.tmp mem0) ?_
  refine ct_seq ?_
  refine ct_region ?_
  refine rt_q (op_assign .const).q wants_none (put_over pick17 (by kernel_rfl)) ?_
  refine rt_q (op_assign .const).q wants_none (put_over pick17 (by kernel_rfl)) ?_
  refine rt_nil ?_
  refine et_then ?_
  refine ct_ret ?_
  refine et_then_ret ?_
  exact et_ret rfl (.cons mem1 (.cons mem0 .nil)) (by rfl) (Ent.drop.trans Ent.drop)

set_option maxRecDepth 100000 in
theorem solNext_err (c : Cfg) (l : CfgAt) (CA : Option Addr) (cc : Nat) (cs : List Int) (hv0 : cfgErr c ≠ 0) (d w : Int) {B : Nat} {W : World} (hS : Sl encU 1 W B CA cs) (hcw : CWf cs) (hc : CfgIn W B c l) (L : List SProp) : Pure Try.prog 15 #[.agg #[.int .i64 c.workers, .int .i64 c.levels, .int .i64 c.classes, .int .i64 c.tasks, .int .i64 c.deque, .int .i64 c.heap, .int .i64 c.batch, .int .i64 c.age, .int .i64 c.patience, .slice l.pa c.progs.length l.pc, .slice l.sa c.subs.length l.sc], .slice CA cs.length cc, .int .i64 d, .int .i64 w] B W L (.tuple #[.int .i64 0, .bool false]) := by
  refine pure_enter Try.func15 rfl (m := 57) rfl (Nat.le_of_ble_eq_true rfl) (R := [(0, .agg #[.int .i64 c.workers, .int .i64 c.levels, .int .i64 c.classes, .int .i64 c.tasks, .int .i64 c.deque, .int .i64 c.heap, .int .i64 c.batch, .int .i64 c.age, .int .i64 c.patience, .slice l.pa c.progs.length l.pc, .slice l.sa c.subs.length l.sc]), (1, .slice CA cs.length cc), (2, .int .i64 d), (3, .int .i64 w)]) (by kernel_rfl) ?_
  refine ct_seq ?_
  refine ct_region ?_
  refine rt_t (ot_box (.tmp mem0) (us := [.int .i64 c.workers, .int .i64 c.levels, .int .i64 c.classes, .int .i64 c.tasks, .int .i64 c.deque, .int .i64 c.heap, .int .i64 c.batch, .int .i64 c.age, .int .i64 c.patience, .slice l.pa c.progs.length l.pc, .slice l.sa c.subs.length l.sc]) rfl) wants_none (fun _ => (put_new (by kernel_rfl))) ?_
  rintro b1
  refine rt_q (op_assign .const).q wants_none (put_new (by kernel_rfl)) ?_
  refine rt_q (op_assign .const).q wants_none (put_new (by kernel_rfl)) ?_
  refine rt_nil ?_
  refine et_then ?_
  refine ct_seq ?_
  refine ct_region ?_
  refine rt_q (oq_loadA (o := 0) (i := 0) (k := 11) (us := [.int .i64 c.workers, .int .i64 c.levels, .int .i64 c.classes, .int .i64 c.tasks, .int .i64 c.deque, .int .i64 c.heap, .int .i64 c.batch, .int .i64 c.age, .int .i64 c.patience, .slice l.pa c.progs.length l.pc, .slice l.sa c.subs.length l.sc]) (.tmp mem2) mem0 (rfl) (by kernel_rfl) rfl rfl) wants_none (put_new (by kernel_rfl)) ?_
  refine rt_q (op_move (.tmp mem5)).q wants_none (put_new (by kernel_rfl)) ?_
  refine rt_q (op_move (.tmp mem8)).q wants_none (put_new (by kernel_rfl)) ?_
  refine rt_q (oq_call0 (by kernel_rfl) (.cons (.tmp mem2) (.cons (.tmp mem1) (.cons (.tmp mem0) .nil))) (newPic_err c l CA cc cs _ hv0 hS hcw hc _)) wants_none (put_new (by kernel_rfl)) ?_
  refine rt_q (op_move (.tmp mem0)).q wants_none (put_new (by kernel_rfl)) ?_
  refine rt_q (op_extract (.tmp mem0) rfl).q wants_none (put_new (by kernel_rfl)) ?_
  refine rt_q (op_extract (.tmp mem1) rfl).q wants_none (put_new (by kernel_rfl)) ?_
  refine rt_t (ot_alloc (v := .agg #[.int .i64 0, .int .i64 0, .int .i64 0, .int .i64 0, .int .i64 0, .int .i64 0, .int .i64 0, .int .i64 0, .int .i64 0, .slice none 0 0, .slice none 0 0, .int .i64 0, .int .i64 0, .int .i64 0, .int .i64 0, .int .i64 0, .int .i64 0, .int .i64 0, .int .i64 0, .int .i64 0, .int .i64 0, .int .i64 0, .slice none 0 0]) (us := [.int .i64 0, .int .i64 0, .int .i64 0, .int .i64 0, .int .i64 0, .int .i64 0, .int .i64 0, .int .i64 0, .int .i64 0, .slice none 0 0, .slice none 0 0, .int .i64 0, .int .i64 0, .int .i64 0, .int .i64 0, .int .i64 0, .int .i64 0, .int .i64 0, .int .i64 0, .int .i64 0, .int .i64 0, .int .i64 0, .slice none 0 0]) (by kernel_rfl) rfl) wants_none (fun _ => (put_new (by kernel_rfl))) ?_
  rintro b2
  refine rt_t (ot_store (o := 0) (i := 0) (k := 23) (us := [.int .i64 0, .int .i64 0, .int .i64 0, .int .i64 0, .int .i64 0, .int .i64 0, .int .i64 0, .int .i64 0, .int .i64 0, .slice none 0 0, .slice none 0 0, .int .i64 0, .int .i64 0, .int .i64 0, .int .i64 0, .int .i64 0, .int .i64 0, .int .i64 0, .int .i64 0, .int .i64 0, .int .i64 0, .int .i64 0, .slice none 0 0]) (ws := [.int .i64 0, .int .i64 0, .int .i64 0, .int .i64 0, .int .i64 0, .int .i64 0, .int .i64 0, .int .i64 0, .int .i64 0, .slice none 0 0, .slice none 0 0, .int .i64 0, .int .i64 0, .int .i64 0, .int .i64 0, .int .i64 0, .int .i64 0, .int .i64 0, .int .i64 0, .int .i64 0, .int .i64 0, .int .i64 0, .slice none 0 0]) (.tmp mem0) (.tmp mem2) turn0 (rfl) (by kernel_rfl) rfl (by decide) rfl rfl (by simp) rfl) wants_none (fun _ => put_none) (fun _ => ?_)
  refine rt_q (op_assign (.tmp mem1)).q wants_none (put_new (by kernel_rfl)) ?_
  refine rt_nil ?_
  refine et_then ?_
  refine ct_seq ?_
  refine ct_seq ?_
  refine ct_region ?_
  refine rt_q (op_move (.tmp mem0)).q wants_none (put_new (by kernel_rfl)) ?_
  refine rt_q (op_notb (.tmp mem0)).q wants_none (put_new (by kernel_rfl)) ?_
  refine rt_q (op_move (.tmp mem0)).q wants_none (put_new (by kernel_rfl)) ?_
  refine rt_skip (wants_some rfl rfl mem0 rfl) (put_new (by kernel_rfl)) ?_
  refine rt_skip (wants_some rfl rfl mem1 rfl) (put_new (by kernel_rfl)) ?_
  refine rt_skip (wants_some rfl rfl mem2 rfl) (put_new (by kernel_rfl)) ?_
  refine rt_q (op_pick (b := true) (.tmp mem3) .const).q wants_none (put_new (by kernel_rfl)) ?_
  refine rt_nil ?_
  refine et_then ?_
  refine ct_true (.tmp mem0) ?_
  refine ct_seq ?_
  refine ct_region ?_
  refine rt_q (op_assign .const).q wants_none (put_over pick17 (by kernel_rfl)) ?_
  refine rt_q (op_assign .const).q wants_none (put_over pick17 (by kernel_rfl)) ?_
  refine rt_nil ?_
  refine et_then ?_
  refine ct_ret ?_
  refine et_then_ret ?_
  exact et_ret rfl (.cons mem1 (.cons mem0 .nil)) (by rfl) (Ent.drop.trans Ent.drop)

theorem good_not {c : Cfg} {cs : List Int} {w : Int} (h : ¬ (cfgErr c = 0 ∧ (cs.length : Int) = layCells c ∧ 0 ≤ w ∧ w < c.workers)) : goodB c cs w = false := by
  cases hg : goodB c cs w with
  | false => rfl
  | true => exact absurd (goodB_spec hg) h
theorem refNext_any (c : Cfg) (l : CfgAt) (CA : Option Addr) (cc : Nat) (cs : List Int) (d w : Int) {B : Nat} {W : World} (hS : Sl encU 1 W B CA cs) (hcw : CWf cs) (hc : CfgIn W B c l) (L : List SProp) : Pure Try.prog 18 #[.agg #[.int .i64 c.workers, .int .i64 c.levels, .int .i64 c.classes, .int .i64 c.tasks, .int .i64 c.deque, .int .i64 c.heap, .int .i64 c.batch, .int .i64 c.age, .int .i64 c.patience, .slice l.pa c.progs.length l.pc, .slice l.sa c.subs.length l.sc], .slice CA cs.length cc, .int .i64 d, .int .i64 w] B W L (.tuple #[.int .i64 ((nextV c cs d w).getD 0), .bool (nextV c cs d w).isSome]) := by
  by_cases h : cfgErr c = 0 ∧ (cs.length : Int) = layCells c ∧ 0 ≤ w ∧ w < c.workers
  · exact refNext_good c l CA cc cs (cnums (nums_of_err h.1)) h.2.1 h.1 d w h.2.2 hS hcw hc L
  · rw [next_bad (good_not h)]
    exact refNext_bad c l CA cc cs d w h hS hcw hc L
theorem solNext_any (c : Cfg) (l : CfgAt) (CA : Option Addr) (cc : Nat) (cs : List Int) (d w : Int) (hcc : cs.length ≤ cc) (h8 : c.heap ≤ 8) {B : Nat} {W : World} (hS : Sl encU 1 W B CA cs) (hcw : CWf cs) (hc : CfgIn W B c l) (L : List SProp) : Pure Try.prog 15 #[.agg #[.int .i64 c.workers, .int .i64 c.levels, .int .i64 c.classes, .int .i64 c.tasks, .int .i64 c.deque, .int .i64 c.heap, .int .i64 c.batch, .int .i64 c.age, .int .i64 c.patience, .slice l.pa c.progs.length l.pc, .slice l.sa c.subs.length l.sc], .slice CA cs.length cc, .int .i64 d, .int .i64 w] B W L (.tuple #[.int .i64 ((nextV c cs d w).getD 0), .bool (nextV c cs d w).isSome]) := by
  by_cases h0 : cfgErr c = 0
  · by_cases h : (cs.length : Int) = layCells c ∧ 0 ≤ w ∧ w < c.workers
    · exact solNext_good c l CA cc cs (cnums (nums_of_err h0)) h.1 h0 d w h.2 hcc h8 hS hcw hc L
    · rw [next_bad (good_not (by omega))]
      exact solNext_bad c l CA cc cs h0 d w h hS hcw hc L
  · rw [next_bad (good_not (by omega))]
    exact solNext_err c l CA cc cs h0 d w hS hcw hc L

end Go.Proofs.Ytkfkiaieeiodnaa
