/- Walks by program: what the reference starts; what is stolen. -/
import Derived.Test.YtkfkiaieeiodnaaSo12
namespace Go.Proofs.Ytkfkiaieeiodnaa
open Go Go.RowKit
theorem bestFrom_at {c : Cfg} {cs : List Int} {w : Int} : ∀ k : Nat, ((bestFrom c cs w k).1 = [] ∧ (bestFrom c cs w k).2 = -1) ∨ ((bestFrom c cs w k).1 ≠ [] ∧ 0 ≤ (bestFrom c cs w k).2 ∧ (bestFrom c cs w k).2 < k ∧ (∀ t ∈ (bestFrom c cs w k).1, 0 ≤ t ∧ t < c.tasks))
  | 0 => .inl ⟨rfl, rfl⟩
  | k + 1 => by
    rw [bestFrom]
    split
    · rename_i h
      refine .inr ⟨h, by show (0 : Int) ≤ k; omega, by show (k : Int) < (k + 1 : Nat); omega, fun t ht => ?_⟩
      have := (List.mem_filter.1 ht).2
      simp [readyB] at this
      exact ⟨this.1.1, this.1.2⟩
    · rcases bestFrom_at k with h | ⟨h1, h2, h3, h4⟩
      · exact .inl h
      · exact .inr ⟨h1, h2, by omega, h4⟩
theorem best_at (c : Cfg) (cs : List Int) (w : Int) (hl : 1 ≤ c.levels) : ((bestV c cs w).1 = [] ∧ (bestV c cs w).2 = -1) ∨ ((bestV c cs w).1 ≠ [] ∧ 0 ≤ (bestV c cs w).2 ∧ (bestV c cs w).2 < c.levels ∧ (∀ t ∈ (bestV c cs w).1, 0 ≤ t ∧ t < c.tasks)) := by
  rcases bestFrom_at (c := c) (cs := cs) (w := w) c.levels.toNat with h | ⟨h1, h2, h3, h4⟩
  · exact .inl h
  · exact .inr ⟨h1, h2, by unfold bestV; omega, h4⟩
theorem bestFrom_len {c : Cfg} {cs : List Int} {w : Int} (hd : c.deque ≤ 64) : ∀ k : Nat, (bestFrom c cs w k).1.length ≤ 64
  | 0 => by simp [bestFrom]
  | k + 1 => by
    rw [bestFrom]
    split
    · exact Nat.le_trans (List.length_filter_le _ _) (entV_len hd)
    · exact bestFrom_len hd k
theorem best_len (c : Cfg) (cs : List Int) (w : Int) (hd : c.deque ≤ 64) : (bestV c cs w).1.length ≤ 64 := bestFrom_len hd _
theorem best_some {c : Cfg} {cs : List Int} {w : Int} (hl : 1 ≤ c.levels) (h : 0 ≤ (bestV c cs w).2) : (bestV c cs w).1 ≠ [] ∧ 1 ≤ (bestV c cs w).1.length ∧ (∀ t ∈ (bestV c cs w).1, 0 ≤ t ∧ t < c.tasks) ∧ (bestV c cs w).2 < c.levels := by
  rcases best_at c cs w hl with h1 | ⟨h1, h2, h3, h4⟩
  · omega
  · refine ⟨h1, ?_, h4, h3⟩
    cases hx : (bestV c cs w).1 with
    | nil => exact absurd hx h1
    | cons _ _ => simp
theorem best_none {c : Cfg} {cs : List Int} {w : Int} (hl : 1 ≤ c.levels) (h : ¬ 0 ≤ (bestV c cs w).2) : (bestV c cs w).1 = [] ∧ (bestV c cs w).2 = -1 := by
  rcases best_at c cs w hl with h1 | ⟨h1, h2, h3, h4⟩
  · exact h1
  · omega
theorem best_iff {c : Cfg} {cs : List Int} {w : Int} (hl : 1 ≤ c.levels) : 0 < (bestV c cs w).1.length ↔ 0 ≤ (bestV c cs w).2 := by
  rcases best_at c cs w hl with h1 | ⟨h1, h2, h3, h4⟩
  · rw [h1.1, h1.2]; simp
  · have := (best_some hl h2).2.1; omega
theorem steal_at {c : Cfg} {cs : List Int} {d w : Int} (hw : 1 ≤ c.workers) (hl : 1 ≤ c.levels) : ∀ i, ((stealFrom c cs d w i).1 = -1 ∧ (stealFrom c cs d w i).2 = -1) ∨ (0 ≤ (stealFrom c cs d w i).1 ∧ (stealFrom c cs d w i).1 < c.workers ∧ (stealFrom c cs d w i).2 = (bestV c cs (stealFrom c cs d w i).1).2 ∧ 0 ≤ (stealFrom c cs d w i).2)
  | 0 => .inl ⟨rfl, rfl⟩
  | i + 1 => by
    have h := steal_at (cs := cs) (d := d) (w := w) hw hl i
    rw [stealFrom]
    show _ ∨ _
    split
    · rename_i hc
      refine .inr ⟨Int.emod_nonneg _ (by omega), Int.emod_lt_of_pos _ (by omega), rfl, ?_⟩
      have h2 := hc.2
      show 0 ≤ (bestV c cs _).2
      rcases h with h | h <;> omega
    · exact h
def stT (c : Cfg) (cs : List Int) (d w : Int) (i : Nat) : Int := if (stealFrom c cs d w i).1 < 0 then -1 else gi (bestV c cs (stealFrom c cs d w i).1).1 0
theorem gi_mem {xs : List Int} {i : Nat} (h : i < xs.length) : gi xs i ∈ xs := List.mem_iff_getElem?.2 ⟨i, gi_get h⟩
theorem stT_at {c : Cfg} {cs : List Int} {d w : Int} (hw : 1 ≤ c.workers) (hl : 1 ≤ c.levels) (i : Nat) : -1 ≤ stT c cs d w i ∧ stT c cs d w i < c.tasks + 1 ∧ (0 ≤ stT c cs d w i ↔ 0 ≤ (stealFrom c cs d w i).1) ∧ -1 ≤ (stealFrom c cs d w i).2 ∧ (stealFrom c cs d w i).2 ≤ c.levels ∨ c.tasks < 0 := by
  by_cases ht : c.tasks < 0
  · exact .inr ht
  left
  unfold stT
  rcases steal_at (cs := cs) (d := d) (w := w) hw hl i with h | ⟨h1, h2, h3, h4⟩
  · rw [if_pos (by omega)]; omega
  · rw [if_neg (by omega)]
    obtain ⟨b1, b2, b3, b4⟩ := best_some (cs := cs) (w := (stealFrom c cs d w i).1) hl (by omega)
    have b5 := b3 _ (gi_mem b2)
    omega
theorem steal_yes {c : Cfg} {cs : List Int} {d w v : Int} {i : Nat} (hv : v = (drawM d c.workers + i) % c.workers) (h1 : v ≠ w) (h2 : (stealFrom c cs d w i).2 < (bestV c cs v).2) : stealFrom c cs d w (i + 1) = (v, (bestV c cs v).2) := by
  subst hv; rw [stealFrom]; exact if_pos ⟨h1, h2⟩
theorem steal_no {c : Cfg} {cs : List Int} {d w v : Int} {i : Nat} (hv : v = (drawM d c.workers + i) % c.workers) (h : ¬ (v ≠ w ∧ (stealFrom c cs d w i).2 < (bestV c cs v).2)) : stealFrom c cs d w (i + 1) = stealFrom c cs d w i := by
  subst hv; rw [stealFrom]; exact if_neg h
theorem stT_yes {c : Cfg} {cs : List Int} {d w v : Int} {i : Nat} (hs : stealFrom c cs d w (i + 1) = (v, (bestV c cs v).2)) (h0 : 0 ≤ v) : stT c cs d w (i + 1) = gi (bestV c cs v).1 0 := by
  unfold stT; rw [hs]; exact if_neg (by show ¬ v < 0; omega)
theorem stT_no {c : Cfg} {cs : List Int} {d w : Int} {i : Nat} (hs : stealFrom c cs d w (i + 1) = stealFrom c cs d w i) : stT c cs d w (i + 1) = stT c cs d w i := by
  unfold stT; rw [hs]
theorem goodB_true {c : Cfg} {cs : List Int} {w : Int} (h0 : cfgErr c = 0) (hl : (cs.length : Int) = layCells c) (hw : 0 ≤ w ∧ w < c.workers) : goodB c cs w = true := by simp [goodB, h0, hl, hw]
theorem goodB_false {c : Cfg} {cs : List Int} {w : Int} (h : goodB c cs w = false) : ¬ (cfgErr c = 0 ∧ (cs.length : Int) = layCells c ∧ 0 ≤ w ∧ w < c.workers) := by
  rintro ⟨h1, h2, h3⟩; rw [goodB_true h1 h2 h3] at h; cases h
theorem goodB_spec {c : Cfg} {cs : List Int} {w : Int} (h : goodB c cs w = true) : cfgErr c = 0 ∧ (cs.length : Int) = layCells c ∧ 0 ≤ w ∧ w < c.workers := by
  simp [goodB] at h; exact ⟨h.1.1.1, h.1.1.2, h.1.2, h.2⟩
theorem next_bad {c : Cfg} {cs : List Int} {d w : Int} (h : goodB c cs w = false) : nextV c cs d w = none := by unfold nextV; exact if_pos h
theorem next_best {c : Cfg} {cs : List Int} {d w : Int} (h : goodB c cs w = true) (hl : 1 ≤ c.levels) (hb : 0 ≤ (bestV c cs w).2) {k : Nat} (hk : k + 1 = (bestV c cs w).1.length) : nextV c cs d w = some (gi (bestV c cs w).1 k) := by
  unfold nextV; rw [if_neg (by rw [h]; simp), if_pos (best_some hl hb).1, List.getLast?_eq_getElem?, ← hk, Nat.add_sub_cancel]
  exact gi_get (by omega)
theorem next_inj {c : Cfg} {cs : List Int} {d w : Int} (h : goodB c cs w = true) (hl : 1 ≤ c.levels) (hb : ¬ 0 ≤ (bestV c cs w).2) (hi : (injV c cs).isSome = true) : nextV c cs d w = injV c cs := by
  unfold nextV; rw [if_neg (by rw [h]; simp), if_neg (by rw [(best_none hl hb).1]; simp)]
  cases hx : injV c cs with
  | none => rw [hx] at hi; cases hi
  | some t => rfl
theorem next_steal {c : Cfg} {cs : List Int} {d w : Int} (h : goodB c cs w = true) (hw : 1 ≤ c.workers) (hl : 1 ≤ c.levels) (hb : ¬ 0 ≤ (bestV c cs w).2) (hi : (injV c cs).isSome = false) {i : Nat} (hi2 : i = c.workers.toNat) :
    nextV c cs d w = if (stealFrom c cs d w i).1 < 0 then none else some (stT c cs d w i) := by
  unfold nextV; rw [if_neg (by rw [h]; simp), if_neg (by rw [(best_none hl hb).1]; simp)]
  subst hi2
  cases hx : injV c cs with
  | some t => rw [hx] at hi; cases hi
  | none =>
    show (if (stealFrom c cs d w c.workers.toNat).1 < 0 then none else (bestV c cs (stealFrom c cs d w c.workers.toNat).1).1.head?) = _
    by_cases hs : (stealFrom c cs d w c.workers.toNat).1 < 0
    · rw [if_pos hs, if_pos hs]
    · rw [if_neg hs, if_neg hs]
      unfold stT
      rw [if_neg hs, List.head?_eq_getElem?]
      rcases steal_at (cs := cs) (d := d) (w := w) hw hl c.workers.toNat with h1 | ⟨h1, h2, h3, h4⟩
      · omega
      · exact gi_get (best_some hl (by omega)).2.1
theorem nextW {a b : Option Int} (h : a = b) : Value.tuple #[.int .i64 (b.getD 0), .bool b.isSome] = .tuple #[.int .i64 (a.getD 0), .bool a.isSome] := by rw [h]
theorem best_bd (c : Cfg) (cs : List Int) (w : Int) (hl : 1 ≤ c.levels ∧ c.levels ≤ 64) : -1 ≤ (bestV c cs w).2 ∧ (bestV c cs w).2 < 64 := by
  rcases best_at c cs w hl.1 with h | h <;> omega
theorem steal_out {p t : Int} (h : 0 ≤ t ↔ 0 ≤ p) (ht : -1 ≤ t) : Value.tuple #[.int .i64 (if 0 < t then t else 0), .bool (decide (0 ≤ t))] = .tuple #[.int .i64 ((if p < 0 then none else some t : Option Int).getD 0), .bool (if p < 0 then none else some t : Option Int).isSome] := by
  by_cases hp : p < 0
  · rw [if_pos hp]
    have e1 : ¬ 0 < t := by omega
    have e2 : ¬ 0 ≤ t := by omega
    simp [e1, e2]
  · rw [if_neg hp]
    have e2 : 0 ≤ t := by omega
    by_cases e1 : 0 < t
    · simp [e1, e2]
    · simp [show t = 0 by omega]

set_option maxRecDepth 100000 in
theorem refNext_good (c : Cfg) (l : CfgAt) (CA : Option Addr) (cc : Nat) (cs : List Int) (hn : CNums c) (hl : (cs.length : Int) = layCells c) (hv0 : cfgErr c = 0) (d w : Int) (hw : 0 ≤ w ∧ w < c.workers) {B : Nat} {W : World} (hS : Sl encU 1 W B CA cs) (hcw : CWf cs) (hc : CfgIn W B c l) (L : List SProp) : Pure Try.prog 18 #[.agg #[.int .i64 c.workers, .int .i64 c.levels, .int .i64 c.classes, .int .i64 c.tasks, .int .i64 c.deque, .int .i64 c.heap, .int .i64 c.batch, .int .i64 c.age, .int .i64 c.patience, .slice l.pa c.progs.length l.pc, .slice l.sa c.subs.length l.sc], .slice CA cs.length cc, .int .i64 d, .int .i64 w] B W L (.tuple #[.int .i64 ((nextV c cs d w).getD 0), .bool (nextV c cs d w).isSome]) := by
  have hd := hn.d
  have hlv := hn.l
  have hww := hn.w
  have htt := hn.t
  have hgb := goodB_true (cs := cs) hv0 hl hw
  obtain ⟨b1, b2⟩ := best_bd c cs w hlv
  have hbi := best_iff (c := c) (cs := cs) (w := w) hlv.1
  have hbl := best_len c cs w hd.2
  refine pure_enter Try.func18 rfl (m := 96) rfl (Nat.le_of_ble_eq_true rfl) (R := [(0, .agg #[.int .i64 c.workers, .int .i64 c.levels, .int .i64 c.classes, .int .i64 c.tasks, .int .i64 c.deque, .int .i64 c.heap, .int .i64 c.batch, .int .i64 c.age, .int .i64 c.patience, .slice l.pa c.progs.length l.pc, .slice l.sa c.subs.length l.sc]), (1, .slice CA cs.length cc), (2, .int .i64 d), (3, .int .i64 w)]) (by kernel_rfl) ?_
  refine ct_seq ?_
  refine ct_region ?_
  refine rt_t (ot_box (.tmp mem0) (us := [.int .i64 c.workers, .int .i64 c.levels, .int .i64 c.classes, .int .i64 c.tasks, .int .i64 c.deque, .int .i64 c.heap, .int .i64 c.batch, .int .i64 c.age, .int .i64 c.patience, .slice l.pa c.progs.length l.pc, .slice l.sa c.subs.length l.sc]) rfl) wants_none (fun _ => (put_new (by kernel_rfl))) ?_
  rintro b1
  refine rt_q (op_assign .const).q wants_none (put_new (by kernel_rfl)) ?_
  refine rt_q (op_assign .const).q wants_none (put_new (by kernel_rfl)) ?_
  refine rt_nil ?_
  refine et_then ?_
  refine ct_seq ?_
  refine ct_seq ?_
  refine ct_region ?_
  refine rt_q (oq_loadA (o := 0) (i := 0) (k := 11) (us := [.int .i64 c.workers, .int .i64 c.levels, .int .i64 c.classes, .int .i64 c.tasks, .int .i64 c.deque, .int .i64 c.heap, .int .i64 c.batch, .int .i64 c.age, .int .i64 c.patience, .slice l.pa c.progs.length l.pc, .slice l.sa c.subs.length l.sc]) (.tmp mem2) mem0 (rfl) (by kernel_rfl) rfl rfl) wants_none (put_new (by kernel_rfl)) ?_
  refine rt_q (op_move (.tmp mem5)).q wants_none (put_new (by kernel_rfl)) ?_
  refine rt_q (oq_call0 (by kernel_rfl) (.cons (.tmp mem1) (.cons (.tmp mem0) .nil)) (refGood_spec c l CA cc cs hS hcw hc _)) wants_none (put_new (by kernel_rfl)) ?_
  refine rt_q (op_not (.tmp mem0)).q wants_none (put_new (by kernel_rfl)) ?_
  refine rt_q (op_move (.tmp mem0)).q wants_none (put_new (by kernel_rfl)) ?_
  refine rt_case turn0 turn0 (fun h2 => ?_) (fun h2 => ?_)
  · exact absurd ⟨hv0, hl⟩ h2
  · refine rt_q (op_move (.tmp mem11)).q (wants_some rfl rfl mem0 rfl) (put_new (by kernel_rfl)) ?_
    refine rt_q (op_lss (.tmp mem0) .const).q (wants_some rfl rfl mem1 rfl) (put_new (by kernel_rfl)) ?_
    refine rt_q (op_pick (b := false) (.tmp mem2) (.tmp mem0)).q wants_none (put_new (by kernel_rfl)) ?_
    refine rt_q (op_move (.tmp mem0)).q wants_none (put_new (by kernel_rfl)) ?_
    refine rt_case turn0 turn0 (fun h3 => ?_) (fun h3 => ?_)
    · exact absurd h3 (by omega)
    · refine rt_q (op_move (.tmp mem15)).q (wants_some rfl rfl mem0 rfl) (put_new (by kernel_rfl)) ?_
      refine rt_q (op_field (k := 0) (o' := 0) (.tmp mem12) (by kernel_rfl) (by rfl)).q (wants_some rfl rfl mem1 rfl) (put_new (by kernel_rfl)) ?_
      refine rt_q (oq_load (o := 0) (i := 0) (.tmp mem0) mem0 (rfl) rfl (by kernel_rfl)) (wants_some rfl rfl mem2 rfl) (put_new (by kernel_rfl)) ?_
      refine rt_q (op_geq (.tmp mem2) (.tmp mem0)).q (wants_some rfl rfl mem3 rfl) (put_new (by kernel_rfl)) ?_
      refine rt_q (op_pick (b := false) (.tmp mem4) (.tmp mem0)).q wants_none (put_new (by kernel_rfl)) ?_
      refine rt_nil ?_
      refine et_then ?_
      refine ct_if (.tmp mem0) (fun h4 => ?_) (fun h4 => ?_)
      · exact absurd h4 (by omega)
      · refine ct_skip ?_
        refine et_then ?_
        refine ct_seq ?_
        refine ct_seq ?_
        refine ct_region ?_
        refine rt_q (oq_loadA (o := 0) (i := 0) (k := 11) (us := [.int .i64 c.workers, .int .i64 c.levels, .int .i64 c.classes, .int .i64 c.tasks, .int .i64 c.deque, .int .i64 c.heap, .int .i64 c.batch, .int .i64 c.age, .int .i64 c.patience, .slice l.pa c.progs.length l.pc, .slice l.sa c.subs.length l.sc]) (.tmp mem16) mem0 (rfl) (by kernel_rfl) rfl rfl) wants_none (put_new (by kernel_rfl)) ?_
        refine rt_q (op_move (.tmp mem19)).q wants_none (put_new (by kernel_rfl)) ?_
        refine rt_q (op_move (.tmp (memU mem2))).q wants_none (put_new (by kernel_rfl)) ?_
        refine rt_t (ot_call0 (by kernel_rfl) (.cons (.tmp mem2) (.cons (.tmp mem1) (.cons (.tmp mem0) .nil))) (refFirsts_spec c l CA cc cs hv0 hn hl _ (by omega) hS hcw hc) .nil) wants_none (fun _ => (put_new (by kernel_rfl))) ?_
        rintro ⟨A5, c5⟩
        refine rt_q (op_move (.tmp mem0)).q wants_none (put_new (by kernel_rfl)) ?_
        refine rt_q (op_extract (.tmp mem0) rfl).q wants_none (put_new (by kernel_rfl)) ?_
        refine rt_q (op_extract (.tmp mem1) rfl).q wants_none (put_new (by kernel_rfl)) ?_
        refine rt_q (op_assign (.tmp mem1)).q wants_none (put_new (by kernel_rfl)) ?_
        refine rt_q (op_assign (.tmp mem1)).q wants_none (put_new (by kernel_rfl)) ?_
        refine rt_nil ?_
        refine et_then ?_
        refine ct_seq ?_
        refine ct_region ?_
        refine rt_q (op_move (.tmp mem1)).q wants_none (put_new (by kernel_rfl)) ?_
        refine rt_q (op_len (.tmp mem0) Try.underlying37).q wants_none (put_new (by kernel_rfl)) ?_
        refine rt_q (op_gtr (.tmp mem0) .const).q wants_none (put_new (by kernel_rfl)) ?_
        refine rt_nil ?_
        refine et_then ?_
        refine ct_if (.tmp mem0) (fun h6 => ?_) (fun h6 => ?_)
        · refine ct_seq ?_
          refine ct_region ?_
          refine rt_q (op_move (.tmp mem4)).q wants_none (put_new (by kernel_rfl)) ?_
          refine rt_q (op_move (.tmp mem5)).q wants_none (put_new (by kernel_rfl)) ?_
          refine rt_q (op_len (.tmp mem0) Try.underlying37).q wants_none (put_new (by kernel_rfl)) ?_
          refine rt_q (op_sub (.tmp mem0) .const (w64 (by omega) (by omega))).q wants_none (put_new (by kernel_rfl)) ?_
          refine rt_q (oq_indexS (i := (((((bestV c cs w).1.length : Nat) : Int) - 1)).toNat) (.tmp mem3) (.tmp mem0) mem0 (by omega) (by omega) (by omega) (by kernel_rfl) (Nat.mul_one _)) wants_none (put_new (by kernel_rfl)) ?_
          refine rt_q (oq_loadS (i := (((((bestV c cs w).1.length : Nat) : Int) - 1)).toNat) (.tmp mem0) mem0 (gi_map (by first | omega | (simp; omega))) (by kernel_rfl)) wants_none (put_new (by kernel_rfl)) ?_
          refine rt_q (op_assign (.tmp mem0)).q wants_none (put_over (pickU pick13) (by kernel_rfl)) ?_
          refine rt_q (op_assign .const).q wants_none (put_over (pickU pick13) (by kernel_rfl)) ?_
          refine rt_nil ?_
          refine et_then ?_
          refine ct_ret ?_
          refine et_then_ret ?_
          exact et_ret rfl (.cons mem1 (.cons mem0 .nil)) (by have hix : (((bestV c cs w).1.length : Int) - 1).toNat = (bestV c cs w).1.length - 1 := (by omega); simp only [tupled, hix]; rw [next_best hgb hlv.1 (by omega) (k := (bestV c cs w).1.length - 1) (by omega)]; rfl) (Ent.drop.trans Ent.drop)
        · refine ct_skip ?_
          refine et_then ?_
          refine ct_seq ?_
          refine ct_seq ?_
          refine ct_region ?_
          refine rt_q (oq_loadA (o := 0) (i := 0) (k := 11) (us := [.int .i64 c.workers, .int .i64 c.levels, .int .i64 c.classes, .int .i64 c.tasks, .int .i64 c.deque, .int .i64 c.heap, .int .i64 c.batch, .int .i64 c.age, .int .i64 c.patience, .slice l.pa c.progs.length l.pc, .slice l.sa c.subs.length l.sc]) (.tmp (memU mem8)) mem1 (rfl) (by kernel_rfl) rfl rfl) wants_none (put_new (by kernel_rfl)) ?_
          refine rt_q (op_move (.tmp (memU mem11))).q wants_none (put_new (by kernel_rfl)) ?_
          refine rt_q (oq_call0 (by kernel_rfl) (.cons (.tmp mem1) (.cons (.tmp mem0) .nil)) (refInj_spec c l CA cc cs hn hl hS hcw _)) wants_none (put_new (by kernel_rfl)) ?_
          refine rt_q (op_move (.tmp mem0)).q wants_none (put_new (by kernel_rfl)) ?_
          refine rt_q (op_extract (.tmp mem0) rfl).q wants_none (put_new (by kernel_rfl)) ?_
          refine rt_q (op_extract (.tmp mem1) rfl).q wants_none (put_new (by kernel_rfl)) ?_
          refine rt_q (op_assign (.tmp mem1)).q wants_none (put_new (by kernel_rfl)) ?_
          refine rt_q (op_assign (.tmp mem1)).q wants_none (put_new (by kernel_rfl)) ?_
          refine rt_nil ?_
          refine et_then ?_
          refine ct_seq ?_
          refine ct_region ?_
          refine rt_q (op_move (.tmp mem0)).q wants_none (put_new (by kernel_rfl)) ?_
          refine rt_nil ?_
          refine et_then ?_
          refine ct_ifb (.tmp mem0) (fun h7 => ?_) (fun h7 => ?_)
          · refine ct_seq ?_
            refine ct_region ?_
            refine rt_q (op_move (.tmp mem2)).q wants_none (put_new (by kernel_rfl)) ?_
            refine rt_q (op_assign (.tmp mem0)).q wants_none (put_over (pickU pick17) (by kernel_rfl)) ?_
            refine rt_q (op_assign .const).q wants_none (put_over (pickU pick17) (by kernel_rfl)) ?_
            refine rt_nil ?_
            refine et_then ?_
            refine ct_ret ?_
            refine et_then_ret ?_
            exact et_ret rfl (.cons mem1 (.cons mem0 .nil)) (by simp only [tupled]; rw [next_inj hgb hlv.1 (by omega) (by assumption)]; simp [*]) (Ent.drop.trans Ent.drop)
          · refine ct_skip ?_
            refine et_then ?_
            refine ct_seq ?_
            refine ct_region ?_
            refine rt_q (op_assign .const).q wants_none (put_new (by kernel_rfl)) ?_
            refine rt_q (op_assign .const).q wants_none (put_new (by kernel_rfl)) ?_
            refine rt_nil ?_
            refine et_then ?_
            refine ct_seq ?_
            refine ct_seq ?_
            refine ct_region ?_
            refine rt_q (op_assign .const).q wants_none (put_new (by kernel_rfl)) ?_
            refine rt_nil ?_
            refine et_then ?_
            refine ct_block ?_
            refine ct_loop (X := Nat) (fun i => c.workers.toNat - i) (fun i => (i : Int) ≤ c.workers) (fun i => [(16, .int .i64 ((i : Int))), (15, .int .i64 ((stealFrom c cs d w i).2)), (14, .int .i64 ((stT c cs d w i))), (9, .bool false), (8, .int .i64 0), (4, .pointer (some ⟨b1, 0, none⟩)), (1, .slice CA cs.length cc), (2, .int .i64 d), (3, .int .i64 w)]) (fun i => pts b1 0 [.int .i64 c.workers, .int .i64 c.levels, .int .i64 c.classes, .int .i64 c.tasks, .int .i64 c.deque, .int .i64 c.heap, .int .i64 c.batch, .int .i64 c.age, .int .i64 c.patience, .slice l.pa c.progs.length l.pc, .slice l.sa c.subs.length l.sc] :: L) 0 (by omega) (.cons mem0 (congrArg (Value.int .i64) (by first | rfl | omega | (simp; omega) | simp)) (.cons mem1 (congrArg (Value.int .i64) (by first | rfl | omega | (simp; omega) | simp)) (.cons mem2 (congrArg (Value.int .i64) (by first | rfl | omega | (simp; omega) | simp)) (.cons (memU mem18) rfl (.cons (memU mem19) rfl (.cons (memU (memU mem0)) rfl (.cons (memU (memU mem2)) rfl (.cons (memU (memU mem3)) rfl (.cons (memU (memU mem4)) rfl .nil))))))))) (Ent.drop) (fun i hi8 => ?_)
            have hi0 := hi8
            have hst := (stT_at (c := c) (cs := cs) (d := d) (w := w) hww.1 hlv.1 i).resolve_right (by omega)
            refine ct_seq ?_
            refine ct_seq ?_
            refine ct_region ?_
            refine rt_q (op_move (.tmp mem0)).q wants_none (put_new (by kernel_rfl)) ?_
            refine rt_q (op_field (k := 0) (o' := 0) (.tmp mem6) (by kernel_rfl) (by rfl)).q wants_none (put_new (by kernel_rfl)) ?_
            refine rt_q (oq_load (o := 0) (i := 0) (.tmp mem0) mem0 (rfl) rfl (by kernel_rfl)) wants_none (put_new (by kernel_rfl)) ?_
            refine rt_q (op_lss (.tmp mem2) (.tmp mem0)).q wants_none (put_new (by kernel_rfl)) ?_
            refine rt_nil ?_
            refine et_then ?_
            refine ct_if (.tmp mem0) (fun h9 => ?_) (fun h9 => ?_)
            · refine ct_skip ?_
              refine et_then ?_
              refine ct_seq ?_
              refine ct_block ?_
              refine ct_seq ?_
              refine ct_draw (by kernel_rfl) (by kernel_rfl) ?_
              refine qt_q (op_move (.tmp mem11)).q wants_none (put_new (by kernel_rfl)) ?_
              refine qt_q (op_field (k := 0) (o' := 0) (.tmp mem10) (by kernel_rfl) (by rfl)).q wants_none (put_new (by kernel_rfl)) ?_
              refine qt_q (oq_load (o := 0) (i := 0) (.tmp mem0) mem0 (rfl) rfl (by kernel_rfl)) wants_none (put_new (by kernel_rfl)) ?_
              have hdr := drawM_rng (d := d) (n := c.workers) (by omega)
              refine qt_q (oq_call0 (by kernel_rfl) (.cons (.tmp mem2) (.cons (.tmp mem0) .nil)) (draw_pure _ _ (by omega) _)) wants_none (put_new (by kernel_rfl)) ?_
              refine qt_q (op_move (.tmp mem8)).q wants_none (put_new (by kernel_rfl)) ?_
              refine qt_q (op_add (.tmp mem1) (.tmp mem0) (w64 (by omega) (by omega))).q wants_none (put_new (by kernel_rfl)) ?_
              refine qt_q (op_field (k := 0) (o' := 0) (.tmp mem15) (by kernel_rfl) (by rfl)).q wants_none (put_new (by kernel_rfl)) ?_
              refine qt_q (oq_load (o := 0) (i := 0) (.tmp mem0) mem0 (rfl) rfl (by kernel_rfl)) wants_none (put_new (by kernel_rfl)) ?_
              refine qt_q (op_rem (.tmp mem2) (.tmp mem0) (by omega) (rem64 (by omega))).q wants_none (put_new (by kernel_rfl)) ?_
              refine qt_q (op_assign (.tmp mem0)).q wants_none (put_new (by kernel_rfl)) ?_
              refine qt_nil ?_
              refine et_then ?_
              refine ct_seq ?_
              refine ct_region ?_
              refine rt_q (oq_loadA (o := 0) (i := 0) (k := 11) (us := [.int .i64 c.workers, .int .i64 c.levels, .int .i64 c.classes, .int .i64 c.tasks, .int .i64 c.deque, .int .i64 c.heap, .int .i64 c.batch, .int .i64 c.age, .int .i64 c.patience, .slice l.pa c.progs.length l.pc, .slice l.sa c.subs.length l.sc]) (.tmp mem19) mem0 (rfl) (by kernel_rfl) rfl rfl) wants_none (put_new (by kernel_rfl)) ?_
              refine rt_q (op_move (.tmp (memU mem1))).q wants_none (put_new (by kernel_rfl)) ?_
              refine rt_q (op_move (.tmp mem2)).q wants_none (put_new (by kernel_rfl)) ?_
              have hv1 := Int.emod_nonneg (drawM d c.workers + (i : Int)) (show c.workers ≠ 0 by omega)
              have hv2 := Int.emod_lt_of_pos (drawM d c.workers + (i : Int)) (show 0 < c.workers by omega)
              have hbv := best_bd c cs ((drawM d c.workers + (i : Int)) % c.workers) hlv
              have hbvi := best_iff (c := c) (cs := cs) (w := ((drawM d c.workers + (i : Int)) % c.workers)) hlv.1
              have hbvl := best_len c cs ((drawM d c.workers + (i : Int)) % c.workers) hd.2
              refine rt_t (ot_call0 (by kernel_rfl) (.cons (.tmp mem2) (.cons (.tmp mem1) (.cons (.tmp mem0) .nil))) (refFirsts_spec c l CA cc cs hv0 hn hl _ (by omega) hS hcw hc) .nil) wants_none (fun _ => (put_new (by kernel_rfl))) ?_
              rintro ⟨A10, c10⟩
              refine rt_q (op_move (.tmp mem0)).q wants_none (put_new (by kernel_rfl)) ?_
              refine rt_q (op_extract (.tmp mem0) rfl).q wants_none (put_new (by kernel_rfl)) ?_
              refine rt_q (op_extract (.tmp mem1) rfl).q wants_none (put_new (by kernel_rfl)) ?_
              refine rt_q (op_assign (.tmp mem1)).q wants_none (put_new (by kernel_rfl)) ?_
              refine rt_q (op_assign (.tmp mem1)).q wants_none (put_new (by kernel_rfl)) ?_
              refine rt_nil ?_
              refine et_then ?_
              refine ct_seq ?_
              refine ct_region ?_
              refine rt_q (op_move (.tmp mem9)).q wants_none (put_new (by kernel_rfl)) ?_
              refine rt_q (op_move (.tmp (memU mem12))).q wants_none (put_new (by kernel_rfl)) ?_
              refine rt_q (op_neq (.tmp mem1) (.tmp mem0)).q wants_none (put_new (by kernel_rfl)) ?_
              refine rt_q (op_move (.tmp mem0)).q wants_none (put_new (by kernel_rfl)) ?_
              refine rt_case turn0 turn0 (fun h11 => ?_) (fun h11 => ?_)
              · refine rt_q (op_move (.tmp mem4)).q (wants_some rfl rfl mem0 rfl) (put_new (by kernel_rfl)) ?_
                refine rt_q (op_move (.tmp (memU mem9))).q (wants_some rfl rfl mem1 rfl) (put_new (by kernel_rfl)) ?_
                refine rt_q (op_gtr (.tmp mem1) (.tmp mem0)).q (wants_some rfl rfl mem2 rfl) (put_new (by kernel_rfl)) ?_
                refine rt_q (op_pick (b := true) (.tmp mem3) (.tmp mem0)).q wants_none (put_new (by kernel_rfl)) ?_
                refine rt_nil ?_
                refine et_then ?_
                refine ct_if (.tmp mem0) (fun h12 => ?_) (fun h12 => ?_)
                · refine ct_region ?_
                  refine rt_q (op_move (.tmp mem9)).q wants_none (put_new (by kernel_rfl)) ?_
                  refine rt_q (oq_indexS (i := 0) (.tmp mem0) .const mem0 (by omega) (by omega) (by omega) (by kernel_rfl) (Nat.mul_one _)) wants_none (put_new (by kernel_rfl)) ?_
                  refine rt_q (oq_loadS (i := 0) (.tmp mem0) mem0 (gi_map (by first | omega | (simp; omega))) (by kernel_rfl)) wants_none (put_new (by kernel_rfl)) ?_
                  refine rt_q (op_move (.tmp mem11)).q wants_none (put_new (by kernel_rfl)) ?_
                  refine rt_q (op_assign (.tmp mem1)).q wants_none (put_over (pickU pick17) (by kernel_rfl)) ?_
                  refine rt_q (op_assign (.tmp mem1)).q wants_none (put_over (pickU pick17) (by kernel_rfl)) ?_
                  refine rt_nil ?_
                  refine et_block ?_
                  refine et_then ?_
                  refine ct_region ?_
                  refine rt_q (op_move (.tmp (memU mem17))).q wants_none (put_new (by kernel_rfl)) ?_
                  refine rt_q (op_add (.tmp mem0) .const (w64 (by omega) (by omega))).q wants_none (put_new (by kernel_rfl)) ?_
                  refine rt_q (op_assign (.tmp mem0)).q wants_none (put_over (pickU pick19) (by kernel_rfl)) ?_
                  refine rt_nil ?_
                  have hgs := steal_yes (c := c) (cs := cs) (d := d) (w := w) (v := ((drawM d c.workers + (i : Int)) % c.workers)) (i := i) rfl (by omega) (by omega)
                  have hgt := stT_yes hgs (by omega)
                  exact et_again (n := 96) ((i + 1)) (by omega) (by omega) (.cons mem0 (congrArg (Value.int .i64) (by first | rfl | omega | (simp; omega) | simp)) (.cons mem3 (congrArg (Value.int .i64) (by rw [hgs])) (.cons mem4 (congrArg (Value.int .i64) (by rw [hgt])) (.cons (memU (memU mem0)) rfl (.cons (memU (memU mem1)) rfl (.cons (memU (memU mem2)) rfl (.cons (memU (memU mem3)) rfl (.cons (memU (memU mem4)) rfl (.cons (memU (memU mem5)) rfl .nil))))))))) (Ent.drop)
                · refine ct_skip ?_
                  refine et_block ?_
                  refine et_then ?_
                  refine ct_region ?_
                  refine rt_q (op_move (.tmp (memU mem11))).q wants_none (put_new (by kernel_rfl)) ?_
                  refine rt_q (op_add (.tmp mem0) .const (w64 (by omega) (by omega))).q wants_none (put_new (by kernel_rfl)) ?_
                  refine rt_q (op_assign (.tmp mem0)).q wants_none (put_over (pickU pick13) (by kernel_rfl)) ?_
                  refine rt_nil ?_
                  have hgs : stealFrom c cs d w (i + 1) = (stealFrom c cs d w i) := steal_no (v := ((drawM d c.workers + (i : Int)) % c.workers)) rfl (by omega)
                  have hgt := stT_no hgs
                  exact et_again (n := 96) ((i + 1)) (by omega) (by omega) (.cons mem0 (congrArg (Value.int .i64) (by first | rfl | omega | (simp; omega) | simp)) (.cons (memU mem14) (congrArg (Value.int .i64) (by rw [hgs])) (.cons (memU mem15) (congrArg (Value.int .i64) (by rw [hgt])) (.cons (memU mem16) rfl (.cons (memU mem17) rfl (.cons (memU mem18) rfl (.cons (memU mem19) rfl (.cons (memU (memU mem0)) rfl (.cons (memU (memU mem1)) rfl .nil))))))))) (Ent.drop)
              · refine rt_skip (wants_some rfl rfl mem0 rfl) (put_new (by kernel_rfl)) ?_
                refine rt_skip (wants_some rfl rfl mem1 rfl) (put_new (by kernel_rfl)) ?_
                refine rt_skip (wants_some rfl rfl mem2 rfl) (put_new (by kernel_rfl)) ?_
                refine rt_q (op_pick (b := false) (.tmp mem3) .const).q wants_none (put_new (by kernel_rfl)) ?_
                refine rt_nil ?_
                refine et_then ?_
                refine ct_false (.tmp mem0) ?_
                refine ct_skip ?_
                refine et_block ?_
                refine et_then ?_
                refine ct_region ?_
                refine rt_q (op_move (.tmp (memU mem11))).q wants_none (put_new (by kernel_rfl)) ?_
                refine rt_q (op_add (.tmp mem0) .const (w64 (by omega) (by omega))).q wants_none (put_new (by kernel_rfl)) ?_
                refine rt_q (op_assign (.tmp mem0)).q wants_none (put_over (pickU pick13) (by kernel_rfl)) ?_
                refine rt_nil ?_
                have hgs : stealFrom c cs d w (i + 1) = (stealFrom c cs d w i) := steal_no (v := ((drawM d c.workers + (i : Int)) % c.workers)) rfl (by omega)
                have hgt := stT_no hgs
                exact et_again (n := 96) ((i + 1)) (by omega) (by omega) (.cons mem0 (congrArg (Value.int .i64) (by first | rfl | omega | (simp; omega) | simp)) (.cons (memU mem14) (congrArg (Value.int .i64) (by rw [hgs])) (.cons (memU mem15) (congrArg (Value.int .i64) (by rw [hgt])) (.cons (memU mem16) rfl (.cons (memU mem17) rfl (.cons (memU mem18) rfl (.cons (memU mem19) rfl (.cons (memU (memU mem0)) rfl (.cons (memU (memU mem1)) rfl .nil))))))))) (Ent.drop)
            · refine ct_exit ?_
              refine et_then_exit ?_
              refine et_then_exit ?_
              refine et_block_here ?_
              refine et_then ?_
              refine ct_seq ?_
              refine ct_region ?_
              refine rt_q (op_move (.tmp mem6)).q wants_none (put_new (by kernel_rfl)) ?_
              refine rt_q (op_max .const (.tmp mem0)).q wants_none (put_new (by kernel_rfl)) ?_
              refine rt_q (op_move (.tmp mem8)).q wants_none (put_new (by kernel_rfl)) ?_
              refine rt_q (op_geq (.tmp mem0) .const).q wants_none (put_new (by kernel_rfl)) ?_
              refine rt_q (op_assign (.tmp mem2)).q wants_none (put_over pick12 (by kernel_rfl)) ?_
              refine rt_q (op_assign (.tmp mem1)).q wants_none (put_over pick12 (by kernel_rfl)) ?_
              refine rt_nil ?_
              refine et_then ?_
              refine ct_ret ?_
              exact et_ret rfl (.cons mem1 (.cons mem0 .nil)) (by simp only [tupled]; rw [next_steal hgb hww.1 hlv.1 (by omega) (by assumption) (i := i) (by omega)]; exact steal_out (by omega) (by omega)) Ent.drop

set_option maxRecDepth 100000 in
theorem refNext_bad (c : Cfg) (l : CfgAt) (CA : Option Addr) (cc : Nat) (cs : List Int) (d w : Int) (hb : ¬ (cfgErr c = 0 ∧ (cs.length : Int) = layCells c ∧ 0 ≤ w ∧ w < c.workers)) {B : Nat} {W : World} (hS : Sl encU 1 W B CA cs) (hcw : CWf cs) (hc : CfgIn W B c l) (L : List SProp) : Pure Try.prog 18 #[.agg #[.int .i64 c.workers, .int .i64 c.levels, .int .i64 c.classes, .int .i64 c.tasks, .int .i64 c.deque, .int .i64 c.heap, .int .i64 c.batch, .int .i64 c.age, .int .i64 c.patience, .slice l.pa c.progs.length l.pc, .slice l.sa c.subs.length l.sc], .slice CA cs.length cc, .int .i64 d, .int .i64 w] B W L (.tuple #[.int .i64 0, .bool false]) := by
  refine pure_enter Try.func18 rfl (m := 96) rfl (Nat.le_of_ble_eq_true rfl) (R := [(0, .agg #[.int .i64 c.workers, .int .i64 c.levels, .int .i64 c.classes, .int .i64 c.tasks, .int .i64 c.deque, .int .i64 c.heap, .int .i64 c.batch, .int .i64 c.age, .int .i64 c.patience, .slice l.pa c.progs.length l.pc, .slice l.sa c.subs.length l.sc]), (1, .slice CA cs.length cc), (2, .int .i64 d), (3, .int .i64 w)]) (by kernel_rfl) ?_
  refine ct_seq ?_
  refine ct_region ?_
  refine rt_t (ot_box (.tmp mem0) (us := [.int .i64 c.workers, .int .i64 c.levels, .int .i64 c.classes, .int .i64 c.tasks, .int .i64 c.deque, .int .i64 c.heap, .int .i64 c.batch, .int .i64 c.age, .int .i64 c.patience, .slice l.pa c.progs.length l.pc, .slice l.sa c.subs.length l.sc]) rfl) wants_none (fun _ => (put_new (by kernel_rfl))) ?_
  rintro b1
  refine rt_q (op_assign .const).q wants_none (put_new (by kernel_rfl)) ?_
  refine rt_q (op_assign .const).q wants_none (put_new (by kernel_rfl)) ?_
  refine rt_nil ?_
  refine et_then ?_
  refine ct_seq ?_
  refine ct_seq ?_
  refine ct_region ?_
  refine rt_q (oq_loadA (o := 0) (i := 0) (k := 11) (us := [.int .i64 c.workers, .int .i64 c.levels, .int .i64 c.classes, .int .i64 c.tasks, .int .i64 c.deque, .int .i64 c.heap, .int .i64 c.batch, .int .i64 c.age, .int .i64 c.patience, .slice l.pa c.progs.length l.pc, .slice l.sa c.subs.length l.sc]) (.tmp mem2) mem0 (rfl) (by kernel_rfl) rfl rfl) wants_none (put_new (by kernel_rfl)) ?_
  refine rt_q (op_move (.tmp mem5)).q wants_none (put_new (by kernel_rfl)) ?_
  refine rt_q (oq_call0 (by kernel_rfl) (.cons (.tmp mem1) (.cons (.tmp mem0) .nil)) (refGood_spec c l CA cc cs hS hcw hc _)) wants_none (put_new (by kernel_rfl)) ?_
  refine rt_q (op_not (.tmp mem0)).q wants_none (put_new (by kernel_rfl)) ?_
  refine rt_q (op_move (.tmp mem0)).q wants_none (put_new (by kernel_rfl)) ?_
  refine rt_case turn0 turn0 (fun h2 => ?_) (fun h2 => ?_)
  · refine rt_skip (wants_some rfl rfl mem0 rfl) (put_new (by kernel_rfl)) ?_
    refine rt_skip (wants_some rfl rfl mem1 rfl) (put_new (by kernel_rfl)) ?_
    refine rt_q (op_pick (b := true) (.tmp mem2) .const).q wants_none (put_new (by kernel_rfl)) ?_
    refine rt_q (op_move (.tmp mem0)).q wants_none (put_new (by kernel_rfl)) ?_
    refine rt_skip (wants_some rfl rfl mem0 rfl) (put_new (by kernel_rfl)) ?_
    refine rt_skip (wants_some rfl rfl mem1 rfl) (put_new (by kernel_rfl)) ?_
    refine rt_skip (wants_some rfl rfl mem2 rfl) (put_new (by kernel_rfl)) ?_
    refine rt_skip (wants_some rfl rfl mem3 rfl) (put_new (by kernel_rfl)) ?_
    refine rt_q (op_pick (b := true) (.tmp mem4) .const).q wants_none (put_new (by kernel_rfl)) ?_
    refine rt_nil ?_
    refine et_then ?_
    refine ct_true (.tmp mem0) ?_
    refine ct_seq ?_
    refine ct_region ?_
    refine rt_q (op_assign .const).q wants_none (put_over pick15 (by kernel_rfl)) ?_
    refine rt_q (op_assign .const).q wants_none (put_over pick15 (by kernel_rfl)) ?_
    refine rt_nil ?_
    refine et_then ?_
    refine ct_ret ?_
    refine et_then_ret ?_
    exact et_ret rfl (.cons mem1 (.cons mem0 .nil)) (by rfl) Ent.drop
  · refine rt_q (op_move (.tmp mem11)).q (wants_some rfl rfl mem0 rfl) (put_new (by kernel_rfl)) ?_
    refine rt_q (op_lss (.tmp mem0) .const).q (wants_some rfl rfl mem1 rfl) (put_new (by kernel_rfl)) ?_
    refine rt_q (op_pick (b := false) (.tmp mem2) (.tmp mem0)).q wants_none (put_new (by kernel_rfl)) ?_
    refine rt_q (op_move (.tmp mem0)).q wants_none (put_new (by kernel_rfl)) ?_
    refine rt_case turn0 turn0 (fun h3 => ?_) (fun h3 => ?_)
    · refine rt_skip (wants_some rfl rfl mem0 rfl) (put_new (by kernel_rfl)) ?_
      refine rt_skip (wants_some rfl rfl mem1 rfl) (put_new (by kernel_rfl)) ?_
      refine rt_skip (wants_some rfl rfl mem2 rfl) (put_new (by kernel_rfl)) ?_
      refine rt_skip (wants_some rfl rfl mem3 rfl) (put_new (by kernel_rfl)) ?_
      refine rt_q (op_pick (b := true) (.tmp mem4) .const).q wants_none (put_new (by kernel_rfl)) ?_
      refine rt_nil ?_
      refine et_then ?_
      refine ct_true (.tmp mem0) ?_
      refine ct_seq ?_
      refine ct_region ?_
      refine rt_q (op_assign .const).q wants_none (put_over pick15 (by kernel_rfl)) ?_
      refine rt_q (op_assign .const).q wants_none (put_over pick15 (by kernel_rfl)) ?_
      refine rt_nil ?_
      refine et_then ?_
      refine ct_ret ?_
      refine et_then_ret ?_
      exact et_ret rfl (.cons mem1 (.cons mem0 .nil)) (by rfl) Ent.drop
    · refine rt_q (op_move (.tmp mem15)).q (wants_some rfl rfl mem0 rfl) (put_new (by kernel_rfl)) ?_
      refine rt_q (op_field (k := 0) (o' := 0) (.tmp mem12) (by kernel_rfl) (by rfl)).q (wants_some rfl rfl mem1 rfl) (put_new (by kernel_rfl)) ?_
      refine rt_q (oq_load (o := 0) (i := 0) (.tmp mem0) mem0 (rfl) rfl (by kernel_rfl)) (wants_some rfl rfl mem2 rfl) (put_new (by kernel_rfl)) ?_
      refine rt_q (op_geq (.tmp mem2) (.tmp mem0)).q (wants_some rfl rfl mem3 rfl) (put_new (by kernel_rfl)) ?_
      refine rt_q (op_pick (b := false) (.tmp mem4) (.tmp mem0)).q wants_none (put_new (by kernel_rfl)) ?_
      refine rt_nil ?_
      refine et_then ?_
      refine ct_if (.tmp mem0) (fun h4 => ?_) (fun h4 => ?_)
      · refine ct_seq ?_
        refine ct_region ?_
        refine rt_q (op_assign .const).q wants_none (put_over pick15 (by kernel_rfl)) ?_
        refine rt_q (op_assign .const).q wants_none (put_over pick15 (by kernel_rfl)) ?_
        refine rt_nil ?_
        refine et_then ?_
        refine ct_ret ?_
        refine et_then_ret ?_
        exact et_ret rfl (.cons mem1 (.cons mem0 .nil)) (by rfl) Ent.drop
      · exact absurd ⟨by omega, by omega, by omega, by omega⟩ hb

end Go.Proofs.Ytkfkiaieeiodnaa
