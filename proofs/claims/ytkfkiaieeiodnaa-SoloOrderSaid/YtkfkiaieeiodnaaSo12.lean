/- Walks by program: the reference's injector and its choice. -/
import Derived.Test.YtkfkiaieeiodnaaSo11
namespace Go.Proofs.Ytkfkiaieeiodnaa
open Go Go.RowKit
theorem inj_fuel {c : Cfg} {cs : List Int} (hb : 1 ≤ c.batch) : ∀ (f g : Nat) (l : List Int), l.length ≤ f → l.length ≤ g → injFrom c cs f l = injFrom c cs g l
  | 0, 0, l, _, _ => rfl
  | 0, g + 1, l, h, _ => by
    obtain rfl : l = [] := List.length_eq_zero_iff.1 (by omega)
    simp [injFrom]
  | f + 1, 0, l, _, h => by
    obtain rfl : l = [] := List.length_eq_zero_iff.1 (by omega)
    simp [injFrom]
  | f + 1, g + 1, l, h1, h2 => by
    unfold injFrom
    by_cases hl : l = []
    · rw [if_pos hl, if_pos hl]
    rw [if_neg hl, if_neg hl]
    split
    · rfl
    · have h3 : 1 ≤ l.length := by
        cases l with
        | nil => exact absurd rfl hl
        | cons _ _ => simp
      have h4 : 1 ≤ c.batch.toNat := by omega
      exact inj_fuel hb f g _ (by rw [List.length_drop]; omega) (by rw [List.length_drop]; omega)
def grpA (c : Cfg) (cs ks : List Int) (q j : Nat) : Int × Int × Bool := grpV c cs ((ks.drop q).take (j - q))
theorem inj_end {c : Cfg} {cs ks : List Int} {i q : Nat} (hi : ks.length = i) (h : i ≤ q) : injFrom c cs (i - q) (ks.drop q) = none := by
  rw [show i - q = 0 by omega]; rfl
theorem inj_cut {c : Cfg} {ks : List Int} {i q j : Nat} (hi : ks.length = i) (h1 : j = i ∨ j = q + c.batch.toNat) (h2 : j ≤ i) (h3 : j ≤ q + c.batch.toNat) : (ks.drop q).take c.batch.toNat = (ks.drop q).take (j - q) := by
  rcases h1 with h1 | h1
  · rw [List.take_of_length_le (by rw [List.length_drop]; omega), List.take_of_length_le (by rw [List.length_drop]; omega)]
  · rw [h1, Nat.add_sub_cancel_left]
theorem inj_yes {c : Cfg} {cs ks : List Int} {i q j : Nat} (hi : ks.length = i) (hq : q < i) (h1 : j = i ∨ j = q + c.batch.toNat) (h2 : j ≤ i) (h3 : j ≤ q + c.batch.toNat) (h : (grpA c cs ks q j).2.2 = true) : injFrom c cs (i - q) (ks.drop q) = some (grpA c cs ks q j).1 := by
  obtain ⟨k, hk⟩ : ∃ k, i - q = k + 1 := ⟨i - q - 1, by omega⟩
  rw [hk, injFrom, if_neg (by intro e; have := congrArg List.length e; rw [List.length_drop, List.length_nil] at this; omega), inj_cut hi h1 h2 h3]
  rw [show grpV c cs ((ks.drop q).take (j - q)) = grpA c cs ks q j from rfl, if_pos h]
theorem inj_no {c : Cfg} {cs ks : List Int} {i q j : Nat} (hb : 1 ≤ c.batch) (hi : ks.length = i) (hq : q < i) (h1 : j = i ∨ j = q + c.batch.toNat) (h2 : j ≤ i) (h3 : j ≤ q + c.batch.toNat) (h : (grpA c cs ks q j).2.2 = false) : injFrom c cs (i - q) (ks.drop q) = injFrom c cs (i - (q + c.batch.toNat)) (ks.drop (q + c.batch.toNat)) := by
  obtain ⟨k, hk⟩ : ∃ k, i - q = k + 1 := ⟨i - q - 1, by omega⟩
  rw [hk, injFrom, if_neg (by intro e; have := congrArg List.length e; rw [List.length_drop, List.length_nil] at this; omega), inj_cut hi h1 h2 h3]
  rw [show grpV c cs ((ks.drop q).take (j - q)) = grpA c cs ks q j from rfl, h, if_neg (by simp), List.drop_drop]
  exact inj_fuel hb _ _ _ (by rw [List.length_drop]; omega) (by rw [List.length_drop]; omega)
theorem grpA_step {c : Cfg} {cs ks : List Int} {q j : Nat} (hq : q ≤ j) (hj : j < ks.length) : grpA c cs ks q (j + 1) = grpStep c cs (grpA c cs ks q j) (gi ks j) := by
  unfold grpA grpV
  rw [show j + 1 - q = (j - q) + 1 by omega, take_gi (by rw [List.length_drop]; omega), List.foldl_append]
  simp only [List.foldl_cons, List.foldl_nil]
  congr 1
  simp [gi, List.getD_eq_getElem?_getD, List.getElem?_drop, show q + (j - q) = j by omega]
theorem grpA_no {c : Cfg} {cs ks : List Int} {q j : Nat} (hq : q ≤ j) (hj : j < ks.length) (h : readyB c cs (gi ks j % 65536) = false) : grpA c cs ks q (j + 1) = grpA c cs ks q j := by
  rw [grpA_step hq hj]; unfold grpStep taskOf; rw [if_pos h]
theorem grpA_yes {c : Cfg} {cs ks : List Int} {q j : Nat} (hq : q ≤ j) (hj : j < ks.length) (h : readyB c cs (gi ks j % 65536) = true) (h2 : (grpA c cs ks q j).2.2 = false ∨ (grpA c cs ks q j).2.1 ≤ cellAt cs (layTab c + 1 + gi ks j % 65536 * 5)) :
    grpA c cs ks q (j + 1) = (gi ks j % 65536, cellAt cs (layTab c + 1 + gi ks j % 65536 * 5), true) := by
  rw [grpA_step hq hj]; unfold grpStep taskOf; rw [if_neg (by rw [h]; simp), if_pos h2]
theorem grpA_less {c : Cfg} {cs ks : List Int} {q j : Nat} (hq : q ≤ j) (hj : j < ks.length) (h2 : ¬ ((grpA c cs ks q j).2.2 = false ∨ (grpA c cs ks q j).2.1 ≤ cellAt cs (layTab c + 1 + gi ks j % 65536 * 5))) :
    grpA c cs ks q (j + 1) = grpA c cs ks q j := by
  rw [grpA_step hq hj]; unfold grpStep taskOf; rw [if_neg h2, ite_self]
theorem grp_pos {c : Cfg} {cs : List Int} : ∀ (l : List Int) (s : Int × Int × Bool), (s.2.2 = true → 0 ≤ s.1 ∧ s.1 < c.tasks) → (l.foldl (grpStep c cs) s).2.2 = true → 0 ≤ (l.foldl (grpStep c cs) s).1 ∧ (l.foldl (grpStep c cs) s).1 < c.tasks
  | [], s, h => h
  | k :: l, s, h => by
    rw [List.foldl_cons]
    refine grp_pos l _ ?_
    unfold grpStep
    split
    · exact h
    · rename_i hr
      split
      · intro _
        simp [readyB] at hr
        exact ⟨by omega, by omega⟩
      · exact h
def grpB (s : Int × Int × Bool) : Int := if s.2.2 = true then s.1 else -1
theorem grpB_pos {c : Cfg} {cs ks : List Int} {q j : Nat} : (0 ≤ grpB (grpA c cs ks q j) ↔ (grpA c cs ks q j).2.2 = true) ∧ -1 ≤ grpB (grpA c cs ks q j) := by
  have h := grp_pos (c := c) (cs := cs) ((ks.drop q).take (j - q)) (0, 0, false) (by simp)
  change (grpA c cs ks q j).2.2 = true → 0 ≤ (grpA c cs ks q j).1 ∧ (grpA c cs ks q j).1 < c.tasks at h
  unfold grpB
  cases hs : (grpA c cs ks q j).2.2 with
  | true => simp; have := h hs; omega
  | false => simp
theorem grpB_some {s : Int × Int × Bool} (h : s.2.2 = true) : grpB s = s.1 := if_pos h
theorem injKeys_wf {cs : List Int} (h : CWf cs) : CWf (injKeys cs) := fun i => by
  by_cases hi : i < (injKeys cs).length
  · have hm : gi (injKeys cs) i ∈ injKeys cs := List.mem_iff_getElem?.2 ⟨i, gi_get hi⟩
    have h1 := (sortV_perm _).mem_iff.1 hm
    have h2 := List.mem_of_mem_drop (List.mem_of_mem_take h1)
    obtain ⟨k, hk⟩ := List.mem_iff_getElem?.1 h2
    have : gi cs k = gi (injKeys cs) i := by simp [gi, hk]
    rw [← this]; exact h k
  · have : gi (injKeys cs) i = 0 := by simp [gi, List.getElem?_eq_none (by omega : (injKeys cs).length ≤ i)]
    omega
theorem injKeys_len {c : Cfg} {cs : List Int} (h : 1 ≤ injN cs ∧ injN cs ≤ c.heap) (hc : 4 + c.heap < (cs.length : Int)) : (injKeys cs).length = (injN cs).toNat := by
  unfold injKeys; rw [sortV_len, List.length_take, List.length_drop]; omega
theorem drop_snoc {cs : List Int} {i : Nat} (h : 4 + i < cs.length) : (cs.drop 4).take i ++ [gi cs (4 + i)] = (cs.drop 4).take (i + 1) := by
  rw [take_gi (by rw [List.length_drop]; omega)]
  congr 2
  simp [gi, List.getD_eq_getElem?_getD, List.getElem?_drop]
theorem atV_in {i n f k : Int} (h0 : 0 ≤ i) (h1 : i < n) : atV i n f k = f + i * k := by unfold atV; rw [if_neg (by omega)]
theorem injV_out {c : Cfg} {cs : List Int} (h : injN cs < 1 ∨ c.heap < injN cs) : injV c cs = none := if_pos h
theorem injV_in {c : Cfg} {cs : List Int} (h : 1 ≤ injN cs ∧ injN cs ≤ c.heap) {i : Nat} (hi : i = (injN cs).toNat) : injV c cs = injFrom c cs (i - 0) ((injKeys cs).drop 0) := by
  subst hi; unfold injV; rw [if_neg (by omega)]; rfl
theorem refSorted_at (A0 : Option Addr) (cap n : Nat) (xs : List Int) (hn : xs.length = n) (h2 : xs.length ≤ 64) {B : Nat} {W : World} (hS : Sl encU 1 W B A0 xs) : Fn_ Try.prog 54 #[.slice A0 n cap] B W [] (X := Option Addr × Nat) (fun p => .slice p.1 n p.2) (fun p => [rowS p.1 n p.2 1 ((sortV xs).map (Value.int .u64))]) := by
  subst hn; exact refSorted_spec A0 cap xs h2 hS
theorem readyB_in {c : Cfg} {cs : List Int} {t : Int} (h : (!readyB c cs t) = false) : 0 ≤ t ∧ t < c.tasks := by
  simp [readyB] at h; exact ⟨h.1.1, h.1.2⟩
theorem readyB_yes {c : Cfg} {cs : List Int} {t : Int} (h : (!readyB c cs t) = false) : readyB c cs t = true := by simpa using h
theorem readyB_no {c : Cfg} {cs : List Int} {t : Int} (h : (!readyB c cs t) = true) : readyB c cs t = false := by simpa using h

set_option maxRecDepth 100000 in
theorem refInj_spec (c : Cfg) (l : CfgAt) (CA : Option Addr) (cc : Nat) (cs : List Int) (hn : CNums c) (hl : (cs.length : Int) = layCells c) {B : Nat} {W : World} (hS : Sl encU 1 W B CA cs) (hcw : CWf cs) (L : List SProp) : Pure Try.prog 34 #[.agg #[.int .i64 c.workers, .int .i64 c.levels, .int .i64 c.classes, .int .i64 c.tasks, .int .i64 c.deque, .int .i64 c.heap, .int .i64 c.batch, .int .i64 c.age, .int .i64 c.patience, .slice l.pa c.progs.length l.pc, .slice l.sa c.subs.length l.sc], .slice CA cs.length cc] B W L (.tuple #[.int .i64 ((injV c cs).getD 0), .bool (injV c cs).isSome]) := by
  obtain ⟨t1, t2, t3, t4, t5⟩ := tab_in hn
  have ht := hn.t
  have hcl : layCells c = layTab c + 5 * c.tasks := rfl
  have hd := hn.d
  have hh := hn.h
  have hbt := hn.b
  have hkw := injKeys_wf hcw
  refine pure_enter Try.func34 rfl (m := 98) rfl (Nat.le_of_ble_eq_true rfl) (R := [(0, .agg #[.int .i64 c.workers, .int .i64 c.levels, .int .i64 c.classes, .int .i64 c.tasks, .int .i64 c.deque, .int .i64 c.heap, .int .i64 c.batch, .int .i64 c.age, .int .i64 c.patience, .slice l.pa c.progs.length l.pc, .slice l.sa c.subs.length l.sc]), (1, .slice CA cs.length cc)]) (by kernel_rfl) ?_
  refine ct_seq ?_
  refine ct_region ?_
  refine rt_t (ot_box (.tmp mem0) (us := [.int .i64 c.workers, .int .i64 c.levels, .int .i64 c.classes, .int .i64 c.tasks, .int .i64 c.deque, .int .i64 c.heap, .int .i64 c.batch, .int .i64 c.age, .int .i64 c.patience, .slice l.pa c.progs.length l.pc, .slice l.sa c.subs.length l.sc]) rfl) wants_none (fun _ => (put_new (by kernel_rfl))) ?_
  rintro b1
  refine rt_q (op_assign .const).q wants_none (put_new (by kernel_rfl)) ?_
  refine rt_q (op_assign .const).q wants_none (put_new (by kernel_rfl)) ?_
  refine rt_nil ?_
  refine et_then ?_
  refine ct_seq ?_
  refine ct_region ?_
  refine rt_q (op_move (.tmp mem4)).q wants_none (put_new (by kernel_rfl)) ?_
  refine rt_q (op_indexW (i := 2) (.tmp mem0) .const hS (by omega) (by omega) (by omega) (by kernel_rfl) (Nat.mul_one _)).q wants_none (put_new (by kernel_rfl)) ?_
  refine rt_q (oq_loadW1 (i := 2) (j := 0) (.tmp mem0) hS (gi_get (by omega)) rfl (by omega) (by kernel_rfl)) wants_none (put_new (by kernel_rfl)) ?_
  refine rt_q (op_conv (.tmp mem0) Try.underlying33 Try.underlying3 (show _ = injN cs from rfl)).q wants_none (put_new (by kernel_rfl)) ?_
  refine rt_q (op_assign (.tmp mem0)).q wants_none (put_new (by kernel_rfl)) ?_
  refine rt_nil ?_
  refine et_then ?_
  refine ct_seq ?_
  refine ct_seq ?_
  refine ct_region ?_
  refine rt_q (op_move (.tmp mem0)).q wants_none (put_new (by kernel_rfl)) ?_
  refine rt_q (op_lss (.tmp mem0) .const).q wants_none (put_new (by kernel_rfl)) ?_
  refine rt_q (op_move (.tmp mem0)).q wants_none (put_new (by kernel_rfl)) ?_
  refine rt_case turn0 turn0 (fun h2 => ?_) (fun h2 => ?_)
  · refine rt_skip (wants_some rfl rfl mem0 rfl) (put_new (by kernel_rfl)) ?_
    refine rt_skip (wants_some rfl rfl mem1 rfl) (put_new (by kernel_rfl)) ?_
    refine rt_skip (wants_some rfl rfl mem2 rfl) (put_new (by kernel_rfl)) ?_
    refine rt_skip (wants_some rfl rfl mem3 rfl) (put_new (by kernel_rfl)) ?_
    refine rt_q (op_pick (b := true) (.tmp mem4) .const).q wants_none (put_new (by kernel_rfl)) ?_
    refine rt_nil ?_
    refine et_then ?_
    refine ct_true (.tmp mem0) ?_
    refine ct_seq ?_
    refine ct_region ?_
    refine rt_q (op_assign .const).q wants_none (put_over pick14 (by kernel_rfl)) ?_
    refine rt_q (op_assign .const).q wants_none (put_over pick14 (by kernel_rfl)) ?_
    refine rt_nil ?_
    refine et_then ?_
    refine ct_ret ?_
    refine et_then_ret ?_
    exact et_ret rfl (.cons mem1 (.cons mem0 .nil)) (by simp only [tupled]; first | (rw [injV_out (by omega)]; rfl) | (rw [hq1, inj_end hksl (by omega)]; rfl)) Ent.drop
  · refine rt_q (op_move (.tmp mem3)).q (wants_some rfl rfl mem0 rfl) (put_new (by kernel_rfl)) ?_
    refine rt_q (op_field (k := 5) (o' := 5) (.tmp mem11) (by kernel_rfl) (by rfl)).q (wants_some rfl rfl mem1 rfl) (put_new (by kernel_rfl)) ?_
    refine rt_q (oq_load (o := 0) (i := 5) (.tmp mem0) mem0 (rfl) rfl (by kernel_rfl)) (wants_some rfl rfl mem2 rfl) (put_new (by kernel_rfl)) ?_
    refine rt_q (op_gtr (.tmp mem2) (.tmp mem0)).q (wants_some rfl rfl mem3 rfl) (put_new (by kernel_rfl)) ?_
    refine rt_q (op_pick (b := false) (.tmp mem4) (.tmp mem0)).q wants_none (put_new (by kernel_rfl)) ?_
    refine rt_nil ?_
    refine et_then ?_
    refine ct_if (.tmp mem0) (fun h3 => ?_) (fun h3 => ?_)
    · refine ct_seq ?_
      refine ct_region ?_
      refine rt_q (op_assign .const).q wants_none (put_over pick14 (by kernel_rfl)) ?_
      refine rt_q (op_assign .const).q wants_none (put_over pick14 (by kernel_rfl)) ?_
      refine rt_nil ?_
      refine et_then ?_
      refine ct_ret ?_
      refine et_then_ret ?_
      exact et_ret rfl (.cons mem1 (.cons mem0 .nil)) (by simp only [tupled]; first | (rw [injV_out (by omega)]; rfl) | (rw [hq1, inj_end hksl (by omega)]; rfl)) Ent.drop
    · refine ct_skip ?_
      refine et_then ?_
      refine ct_seq ?_
      refine ct_region ?_
      refine rt_q (op_assign .const).q wants_none (put_new (by kernel_rfl)) ?_
      refine rt_nil ?_
      refine et_then ?_
      refine ct_seq ?_
      refine ct_seq ?_
      refine ct_region ?_
      refine rt_q (op_assign .const).q wants_none (put_new (by kernel_rfl)) ?_
      refine rt_nil ?_
      refine et_then ?_
      refine ct_block ?_
      refine ct_ent (ent_nil 1) ?_
      refine ct_loop3 (X := Nat) (Y := Option Addr) (Z := Nat) (fun i A cx => (injN cs).toNat - i) (fun i A cx => i ≤ (injN cs).toNat) (fun i A cx => [(8, .int .i64 ((i : Int))), (7, .slice A i cx), (6, .int .i64 ((injN cs))), (5, .bool false), (4, .int .i64 0), (2, .pointer (some ⟨b1, 0, none⟩)), (1, .slice CA cs.length cc)]) (fun i A cx => rowS A i cx 1 (((cs.drop 4).take i).map (Value.int .u64)) :: pts b1 0 [.int .i64 c.workers, .int .i64 c.levels, .int .i64 c.classes, .int .i64 c.tasks, .int .i64 c.deque, .int .i64 c.heap, .int .i64 c.batch, .int .i64 c.age, .int .i64 c.patience, .slice l.pa c.progs.length l.pc, .slice l.sa c.subs.length l.sc] :: L) 0 none 0 (by omega) (.cons mem0 (congrArg (Value.int .i64) (by first | rfl | omega | (simp; omega) | simp)) (.cons mem1 (by first | rfl | simp) (.cons mem10 rfl (.cons mem15 rfl (.cons mem16 rfl (.cons mem17 rfl (.cons mem19 rfl .nil))))))) (Ent.refl) (fun i A cx hi4 => ?_)
      have hi0 := hi4
      refine ct_seq ?_
      refine ct_seq ?_
      refine ct_region ?_
      refine rt_q (op_move (.tmp mem0)).q wants_none (put_new (by kernel_rfl)) ?_
      refine rt_q (op_move (.tmp mem3)).q wants_none (put_new (by kernel_rfl)) ?_
      refine rt_q (op_lss (.tmp mem1) (.tmp mem0)).q wants_none (put_new (by kernel_rfl)) ?_
      refine rt_nil ?_
      refine et_then ?_
      refine ct_if (.tmp mem0) (fun h5 => ?_) (fun h5 => ?_)
      · refine ct_skip ?_
        refine et_then ?_
        refine ct_seq ?_
        refine ct_block ?_
        refine ct_region ?_
        refine rt_q (op_move (.tmp mem4)).q wants_none (put_new (by kernel_rfl)) ?_
        refine rt_q (op_move (.tmp mem10)).q wants_none (put_new (by kernel_rfl)) ?_
        refine rt_q (oq_loadA (o := 0) (i := 0) (k := 11) (us := [.int .i64 c.workers, .int .i64 c.levels, .int .i64 c.classes, .int .i64 c.tasks, .int .i64 c.deque, .int .i64 c.heap, .int .i64 c.batch, .int .i64 c.age, .int .i64 c.patience, .slice l.pa c.progs.length l.pc, .slice l.sa c.subs.length l.sc]) (.tmp mem10) mem1 (rfl) (by kernel_rfl) rfl rfl) wants_none (put_new (by kernel_rfl)) ?_
        refine rt_q (op_move (.tmp mem6)).q wants_none (put_new (by kernel_rfl)) ?_
        have hat : atV (i : Int) c.heap 4 1 = 4 + (i : Int) * 1 := atV_in (by omega) (by omega)
        refine rt_q (oq_call0 (by kernel_rfl) (.cons (.tmp mem1) (.cons (.tmp mem0) .nil)) (refSlot_spec c l hn _ B W _)) wants_none (put_new (by kernel_rfl)) ?_
        refine rt_q (op_indexW (i := ((atV ((i : Int)) c.heap 4 1)).toNat) (.tmp mem3) (.tmp mem0) hS (by omega) (by omega) (by omega) (by kernel_rfl) (Nat.mul_one _)).q wants_none (put_new (by kernel_rfl)) ?_
        refine rt_q (oq_loadW1 (i := ((atV ((i : Int)) c.heap 4 1)).toNat) (j := 0) (.tmp mem0) hS (gi_get (by omega)) rfl (by omega) (by kernel_rfl)) wants_none (put_new (by kernel_rfl)) ?_
        refine rt_t (ot_buildSlice (T' := 33) (us := [.int .u64 ((gi cs (((atV ((i : Int)) c.heap 4 1)).toNat)))]) (.cons (.tmp mem0) .nil) (fun _ => by kernel_rfl)) wants_none (fun _ => (put_new (by kernel_rfl))) ?_
        rintro b6
        refine rt_t (ot_append (by_ := 8) (z := .int .u64 0) (.tmp mem7) (.tmp mem0) (.cons pick1 (.cons pick0 .nil)) Try.underlying26 (infoB_of (by kernel_rfl)) rfl (by decide) rfl rfl (by decide) (by unfold maxLen; omega) (by omega)) wants_none (fun _ => (put_new (by kernel_rfl))) ?_
        rintro ⟨A7, c7⟩
        refine rt_ent ent_snoc ?_
        refine rt_q (op_assign (.tmp mem0)).q wants_none (put_over pick13 (by kernel_rfl)) ?_
        refine rt_nil ?_
        refine et_block ?_
        refine et_then ?_
        refine ct_region ?_
        refine rt_q (op_move (.tmp mem13)).q wants_none (put_new (by kernel_rfl)) ?_
        refine rt_q (op_add (.tmp mem0) .const (w64 (by omega) (by omega))).q wants_none (put_new (by kernel_rfl)) ?_
        refine rt_q (op_assign (.tmp mem0)).q wants_none (put_over pick15 (by kernel_rfl)) ?_
        refine rt_nil ?_
        exact et_again3 (n := 98) (i + 1) A7 c7 (by omega) (by omega) (.cons mem0 (congrArg (Value.int .i64) (by first | rfl | omega | (simp; omega) | simp)) (.cons mem3 (by first | rfl | simp) (.cons mem16 rfl (.cons mem17 rfl (.cons mem18 rfl (.cons mem19 rfl (.cons (memU mem0) rfl .nil))))))) (ent_rowd (by rw [hat, show (4 + (i : Int) * 1).toNat = 4 + i by omega]; exact drop_snoc (by omega)) rfl Ent.refl)
      · refine ct_exit ?_
        refine et_then_exit ?_
        refine et_then_exit ?_
        refine et_block_here ?_
        refine et_then ?_
        refine ct_seq ?_
        refine ct_region ?_
        refine rt_q (op_move (.tmp mem4)).q wants_none (put_new (by kernel_rfl)) ?_
        have hiN : (i : Int) = injN cs := by omega
        have hkl : ((cs.drop 4).take i).length = i := by rw [List.length_take, List.length_drop]; omega
        have hks : sortV ((cs.drop 4).take i) = injKeys cs := by rw [show i = (injN cs).toNat by omega]; rfl
        have hksl : (injKeys cs).length = i := by rw [← hks, sortV_len]; exact hkl
        refine rt_t (ot_rekeep (by kernel_rfl) (.cons (.tmp mem0) .nil) (fun w hw => refSorted_at _ _ _ _ hkl (by omega) (sl_ints (fun _ => rfl) mem0 hw.2.2 hkl (by omega)))) wants_none (fun _ => (put_new (by kernel_rfl))) ?_
        rintro ⟨A8, c8⟩
        refine rt_ent (ent_rowd hks rfl Ent.refl) ?_
        refine rt_q (op_assign (.tmp mem0)).q wants_none (put_over pick6 (by kernel_rfl)) ?_
        refine rt_nil ?_
        refine et_then ?_
        refine ct_seq ?_
        refine ct_seq ?_
        refine ct_region ?_
        refine rt_q (op_assign .const).q wants_none (put_new (by kernel_rfl)) ?_
        refine rt_nil ?_
        refine et_then ?_
        refine ct_block ?_
        refine ct_loop (X := Nat) (fun q => i - q) (fun q => q ≤ i + 64 ∧ injV c cs = injFrom c cs (i - q) ((injKeys cs).drop q)) (fun q => [(9, .int .i64 ((q : Int))), (7, .slice A8 i c8), (6, .int .i64 ((injN cs))), (2, .pointer (some ⟨b1, 0, none⟩)), (1, .slice CA cs.length cc)]) (fun q => rowS A8 i c8 1 ((injKeys cs).map (Value.int .u64)) :: rowS A i cx 1 (((cs.drop 4).take i).map (Value.int .u64)) :: pts b1 0 [.int .i64 c.workers, .int .i64 c.levels, .int .i64 c.classes, .int .i64 c.tasks, .int .i64 c.deque, .int .i64 c.heap, .int .i64 c.batch, .int .i64 c.age, .int .i64 c.patience, .slice l.pa c.progs.length l.pc, .slice l.sa c.subs.length l.sc] :: L) 0 (⟨by omega, injV_in ⟨by omega, by omega⟩ (by omega)⟩) (.cons mem0 (congrArg (Value.int .i64) (by first | rfl | omega | (simp; omega) | simp)) (.cons mem1 rfl (.cons mem8 rfl (.cons mem11 rfl (.cons mem12 rfl .nil))))) (Ent.refl) (fun q hi9 => ?_)
        obtain ⟨hq0, hq1⟩ := hi9
        refine ct_seq ?_
        refine ct_seq ?_
        refine ct_region ?_
        refine rt_q (op_move (.tmp mem0)).q wants_none (put_new (by kernel_rfl)) ?_
        refine rt_q (op_move (.tmp mem3)).q wants_none (put_new (by kernel_rfl)) ?_
        refine rt_q (op_lss (.tmp mem1) (.tmp mem0)).q wants_none (put_new (by kernel_rfl)) ?_
        refine rt_nil ?_
        refine et_then ?_
        refine ct_if (.tmp mem0) (fun h10 => ?_) (fun h10 => ?_)
        · refine ct_skip ?_
          refine et_then ?_
          refine ct_seq ?_
          refine ct_block ?_
          refine ct_seq ?_
          refine ct_region ?_
          refine rt_q (op_assign .const).q wants_none (put_new (by kernel_rfl)) ?_
          refine rt_q (op_assign .const).q wants_none (put_new (by kernel_rfl)) ?_
          refine rt_nil ?_
          refine et_then ?_
          refine ct_seq ?_
          refine ct_seq ?_
          refine ct_region ?_
          refine rt_q (op_move (.tmp mem5)).q wants_none (put_new (by kernel_rfl)) ?_
          refine rt_q (op_assign (.tmp mem0)).q wants_none (put_new (by kernel_rfl)) ?_
          refine rt_nil ?_
          refine et_then ?_
          refine ct_block ?_
          refine ct_loop (X := Nat) (fun j => i - j) (fun j => q ≤ j ∧ j ≤ i ∧ j ≤ q + c.batch.toNat) (fun j => [(12, .int .i64 ((j : Int))), (52, .int .i64 ((q : Int))), (11, .int .u64 ((grpA c cs (injKeys cs) q j).2.1)), (10, .int .i64 ((grpB (grpA c cs (injKeys cs) q j)))), (47, .bool (decide ((q : Int) < (injN cs)))), (46, .int .i64 ((injN cs))), (45, .int .i64 ((q : Int))), (9, .int .i64 ((q : Int))), (7, .slice A8 i c8), (6, .int .i64 ((injN cs))), (2, .pointer (some ⟨b1, 0, none⟩)), (1, .slice CA cs.length cc)]) (fun j => rowS A8 i c8 1 ((injKeys cs).map (Value.int .u64)) :: rowS A i cx 1 (((cs.drop 4).take i).map (Value.int .u64)) :: pts b1 0 [.int .i64 c.workers, .int .i64 c.levels, .int .i64 c.classes, .int .i64 c.tasks, .int .i64 c.deque, .int .i64 c.heap, .int .i64 c.batch, .int .i64 c.age, .int .i64 c.patience, .slice l.pa c.progs.length l.pc, .slice l.sa c.subs.length l.sc] :: L) q (⟨by omega, by omega, by omega⟩) (.cons mem0 (congrArg (Value.int .i64) (by first | rfl | omega | (simp; omega) | simp)) (.cons mem1 rfl (.cons mem2 (congrArg (Value.int .u64) (by simp [grpA, grpV, grpB])) (.cons mem3 (congrArg (Value.int .i64) (by simp [grpA, grpV, grpB])) (.cons mem4 rfl (.cons mem5 rfl (.cons mem6 rfl (.cons mem7 rfl (.cons mem8 rfl (.cons mem9 rfl (.cons mem10 rfl (.cons mem11 rfl .nil)))))))))))) (Ent.refl) (fun j hi11 => ?_)
          obtain ⟨hj0, hj1, hj2⟩ := hi11
          have hgp := grpB_pos (c := c) (cs := cs) (ks := (injKeys cs)) (q := q) (j := j)
          refine ct_seq ?_
          refine ct_seq ?_
          refine ct_region ?_
          refine rt_q (op_move (.tmp mem0)).q wants_none (put_new (by kernel_rfl)) ?_
          refine rt_q (op_move (.tmp mem10)).q wants_none (put_new (by kernel_rfl)) ?_
          refine rt_q (op_lss (.tmp mem1) (.tmp mem0)).q wants_none (put_new (by kernel_rfl)) ?_
          refine rt_q (op_move (.tmp mem0)).q wants_none (put_new (by kernel_rfl)) ?_
          refine rt_case turn0 turn0 (fun h12 => ?_) (fun h12 => ?_)
          · refine rt_q (op_move (.tmp mem4)).q (wants_some rfl rfl mem0 rfl) (put_new (by kernel_rfl)) ?_
            refine rt_q (op_move (.tmp mem12)).q (wants_some rfl rfl mem1 rfl) (put_new (by kernel_rfl)) ?_
            refine rt_q (op_field (k := 6) (o' := 6) (.tmp mem16) (by kernel_rfl) (by rfl)).q (wants_some rfl rfl mem2 rfl) (put_new (by kernel_rfl)) ?_
            refine rt_q (oq_load (o := 0) (i := 6) (.tmp mem0) mem2 (rfl) rfl (by kernel_rfl)) (wants_some rfl rfl mem3 rfl) (put_new (by kernel_rfl)) ?_
            refine rt_q (op_add (.tmp mem2) (.tmp mem0) (w64 (by omega) (by omega))).q (wants_some rfl rfl mem4 rfl) (put_new (by kernel_rfl)) ?_
            refine rt_q (op_lss (.tmp mem4) (.tmp mem0)).q (wants_some rfl rfl mem5 rfl) (put_new (by kernel_rfl)) ?_
            refine rt_q (op_pick (b := true) (.tmp mem6) (.tmp mem0)).q wants_none (put_new (by kernel_rfl)) ?_
            refine rt_nil ?_
            refine et_then ?_
            refine ct_if (.tmp mem0) (fun h13 => ?_) (fun h13 => ?_)
            · refine ct_skip ?_
              refine et_then ?_
              refine ct_seq ?_
              refine ct_block ?_
              refine ct_seq ?_
              refine ct_region ?_
              refine rt_q (op_move (.tmp mem19)).q wants_none (put_new (by kernel_rfl)) ?_
              refine rt_q (op_move (.tmp mem12)).q wants_none (put_new (by kernel_rfl)) ?_
              refine rt_q (oq_indexS (i := j) (.tmp mem1) (.tmp mem0) mem0 (by omega) (by omega) (by omega) (by kernel_rfl) (Nat.mul_one _)) wants_none (put_new (by kernel_rfl)) ?_
              refine rt_q (oq_loadS (i := j) (.tmp mem0) mem0 (gi_map (by omega)) (by kernel_rfl)) wants_none (put_new (by kernel_rfl)) ?_
              have hkj := hkw j
              refine rt_q (oq_call0 (by kernel_rfl) (.cons (.tmp mem0) .nil) (refUnpack_spec _ (by omega) (by omega) B W _)) wants_none (put_new (by kernel_rfl)) ?_
              refine rt_q (op_move (.tmp mem0)).q wants_none (put_new (by kernel_rfl)) ?_
              refine rt_q (op_extract (.tmp mem0) rfl).q wants_none (put_new (by kernel_rfl)) ?_
              refine rt_q (op_extract (.tmp mem1) rfl).q wants_none (put_new (by kernel_rfl)) ?_
              refine rt_q (op_extract (.tmp mem2) rfl).q wants_none (put_new (by kernel_rfl)) ?_
              refine rt_q (op_assign (.tmp mem2)).q wants_none (put_new (by kernel_rfl)) ?_
              refine rt_q (op_assign (.tmp mem2)).q wants_none (put_new (by kernel_rfl)) ?_
              refine rt_q (op_assign (.tmp mem2)).q wants_none (put_new (by kernel_rfl)) ?_
              refine rt_nil ?_
              refine et_then ?_
              refine ct_seq ?_
              refine ct_seq ?_
              refine ct_region ?_
              refine rt_q (oq_loadA (o := 0) (i := 0) (k := 11) (us := [.int .i64 c.workers, .int .i64 c.levels, .int .i64 c.classes, .int .i64 c.tasks, .int .i64 c.deque, .int .i64 c.heap, .int .i64 c.batch, .int .i64 c.age, .int .i64 c.patience, .slice l.pa c.progs.length l.pc, .slice l.sa c.subs.length l.sc]) (.tmp (memU mem13)) mem2 (rfl) (by kernel_rfl) rfl rfl) wants_none (put_new (by kernel_rfl)) ?_
              refine rt_q (op_move (.tmp (memU mem15))).q wants_none (put_new (by kernel_rfl)) ?_
              refine rt_q (op_move (.tmp mem2)).q wants_none (put_new (by kernel_rfl)) ?_
              refine rt_q (oq_call0 (by kernel_rfl) (.cons (.tmp mem2) (.cons (.tmp mem1) (.cons (.tmp mem0) .nil))) (refReady_spec c l CA cc cs hn hl _ hS hcw _)) wants_none (put_new (by kernel_rfl)) ?_
              refine rt_q (op_notb (.tmp mem0)).q wants_none (put_new (by kernel_rfl)) ?_
              refine rt_nil ?_
              refine et_then ?_
              refine ct_ifb (.tmp mem0) (fun h14 => ?_) (fun h14 => ?_)
              · refine ct_exit ?_
                refine et_then_exit ?_
                refine et_block_here ?_
                refine et_then ?_
                refine ct_region ?_
                refine rt_q (op_move (.tmp (memU mem8))).q wants_none (put_new (by kernel_rfl)) ?_
                refine rt_q (op_add (.tmp mem0) .const (w64 (by omega) (by omega))).q wants_none (put_new (by kernel_rfl)) ?_
                refine rt_q (op_assign (.tmp mem0)).q wants_none (put_over (pickU pick10) (by kernel_rfl)) ?_
                refine rt_nil ?_
                have hgs : grpA c cs (injKeys cs) q (j + 1) = (grpA c cs (injKeys cs) q j) := by first | exact grpA_no (by omega) (by omega) (readyB_no (by assumption)) | exact grpA_less (by omega) (by omega) (by rw [hf, ← hcell]; intro hh; rcases hh with hh | hh; cases hh; omega)
                exact et_again (n := 98) ((j + 1)) (⟨by omega, by omega, by omega⟩) (by omega) (.cons mem0 (congrArg (Value.int .i64) (by first | rfl | omega | (simp; omega) | simp)) (.cons (memU mem11) rfl (.cons (memU mem12) (congrArg (Value.int .u64) (by rw [hgs])) (.cons (memU mem13) (congrArg (Value.int .i64) (by rw [hgs])) (.cons (memU mem14) rfl (.cons (memU mem15) rfl (.cons (memU mem16) rfl (.cons (memU mem17) rfl (.cons (memU mem18) rfl (.cons (memU mem19) rfl (.cons (memU (memU mem0)) rfl (.cons (memU (memU mem1)) rfl .nil)))))))))))) (Ent.refl)
              · refine ct_skip ?_
                refine et_then ?_
                refine ct_seq ?_
                refine ct_region ?_
                refine rt_q (op_move (.tmp (memU mem19))).q wants_none (put_new (by kernel_rfl)) ?_
                refine rt_q (oq_loadA (o := 0) (i := 0) (k := 11) (us := [.int .i64 c.workers, .int .i64 c.levels, .int .i64 c.classes, .int .i64 c.tasks, .int .i64 c.deque, .int .i64 c.heap, .int .i64 c.batch, .int .i64 c.age, .int .i64 c.patience, .slice l.pa c.progs.length l.pc, .slice l.sa c.subs.length l.sc]) (.tmp (memU mem19)) mem2 (rfl) (by kernel_rfl) rfl rfl) wants_none (put_new (by kernel_rfl)) ?_
                refine rt_q (op_move (.tmp mem7)).q wants_none (put_new (by kernel_rfl)) ?_
                obtain ⟨ht0, ht1⟩ := readyB_in (by assumption)
                have hat : atV (gi (injKeys cs) j % 65536) c.tasks (layTab c + 1) 5 = layTab c + 1 + (gi (injKeys cs) j % 65536) * 5 := atV_in (by omega) (by omega)
                have hcell : gi cs (atV (gi (injKeys cs) j % 65536) c.tasks (layTab c + 1) 5).toNat = cellAt cs (layTab c + 1 + gi (injKeys cs) j % 65536 * 5) := by rw [hat]; rfl
                refine rt_q (oq_call0 (by kernel_rfl) (.cons (.tmp mem1) (.cons (.tmp mem0) .nil)) (refLevel_spec c l hn _ B W _)) wants_none (put_new (by kernel_rfl)) ?_
                refine rt_q (op_indexW (i := ((atV (((gi (injKeys cs) j) % 65536)) c.tasks (layTab c + 1) 5)).toNat) (.tmp mem3) (.tmp mem0) hS (by omega) (by omega) (by omega) (by kernel_rfl) (Nat.mul_one _)).q wants_none (put_new (by kernel_rfl)) ?_
                refine rt_q (oq_loadW1 (i := ((atV (((gi (injKeys cs) j) % 65536)) c.tasks (layTab c + 1) 5)).toNat) (j := 0) (.tmp mem0) hS (gi_get (by omega)) rfl (by omega) (by kernel_rfl)) wants_none (put_new (by kernel_rfl)) ?_
                refine rt_q (op_assign (.tmp mem0)).q wants_none (put_new (by kernel_rfl)) ?_
                refine rt_nil ?_
                refine et_then ?_
                refine ct_seq ?_
                refine ct_region ?_
                refine rt_q (op_move (.tmp (memU mem18))).q wants_none (put_new (by kernel_rfl)) ?_
                refine rt_q (op_lss (.tmp mem0) .const).q wants_none (put_new (by kernel_rfl)) ?_
                refine rt_q (op_move (.tmp mem0)).q wants_none (put_new (by kernel_rfl)) ?_
                refine rt_case turn0 turn0 (fun h15 => ?_) (fun h15 => ?_)
                · have hf : (grpA c cs (injKeys cs) q j).2.2 = false := by cases hx : (grpA c cs (injKeys cs) q j).2.2 with | true => exact absurd (grpB_pos.1.2 hx) (by omega) | false => rfl
                  refine rt_skip (wants_some rfl rfl mem0 rfl) (put_new (by kernel_rfl)) ?_
                  refine rt_skip (wants_some rfl rfl mem1 rfl) (put_new (by kernel_rfl)) ?_
                  refine rt_skip (wants_some rfl rfl mem2 rfl) (put_new (by kernel_rfl)) ?_
                  refine rt_q (op_pick (b := true) (.tmp mem3) .const).q wants_none (put_new (by kernel_rfl)) ?_
                  refine rt_nil ?_
                  refine et_then ?_
                  refine ct_true (.tmp mem0) ?_
                  refine ct_region ?_
                  refine rt_q (op_move (.tmp mem19)).q wants_none (put_new (by kernel_rfl)) ?_
                  refine rt_q (op_move (.tmp mem8)).q wants_none (put_new (by kernel_rfl)) ?_
                  refine rt_q (op_assign (.tmp mem1)).q wants_none (put_over (pickU (pickU pick7)) (by kernel_rfl)) ?_
                  refine rt_q (op_assign (.tmp mem1)).q wants_none (put_over (pickU (pickU pick7)) (by kernel_rfl)) ?_
                  refine rt_nil ?_
                  refine et_block ?_
                  refine et_then ?_
                  refine ct_region ?_
                  refine rt_q (op_move (.tmp (memU (memU mem6)))).q wants_none (put_new (by kernel_rfl)) ?_
                  refine rt_q (op_add (.tmp mem0) .const (w64 (by omega) (by omega))).q wants_none (put_new (by kernel_rfl)) ?_
                  refine rt_q (op_assign (.tmp mem0)).q wants_none (put_over (pickU (pickU pick8)) (by kernel_rfl)) ?_
                  refine rt_nil ?_
                  have hgs := grpA_yes (c := c) (cs := cs) (ks := (injKeys cs)) (q := q) (j := j) (by omega) (by omega) (readyB_yes (by assumption)) (by rw [hf, ← hcell]; first | exact .inl rfl | exact .inr (by omega) | omega)
                  exact et_again (n := 98) ((j + 1)) (⟨by omega, by omega, by omega⟩) (by omega) (.cons mem0 (congrArg (Value.int .i64) (by first | rfl | omega | (simp; omega) | simp)) (.cons (memU (memU mem9)) rfl (.cons mem3 (congrArg (Value.int .u64) (by rw [hgs]; first | exact hcell | rfl | simp [grpB])) (.cons mem4 (congrArg (Value.int .i64) (by rw [hgs]; first | exact hcell | rfl | simp [grpB])) (.cons (memU (memU mem10)) rfl (.cons (memU (memU mem11)) rfl (.cons (memU (memU mem12)) rfl (.cons (memU (memU mem13)) rfl (.cons (memU (memU mem14)) rfl (.cons (memU (memU mem15)) rfl (.cons (memU (memU mem16)) rfl (.cons (memU (memU mem17)) rfl .nil)))))))))))) (Ent.refl)
                · have hf : (grpA c cs (injKeys cs) q j).2.2 = true := grpB_pos.1.1 (by omega)
                  refine rt_q (op_move (.tmp mem3)).q (wants_some rfl rfl mem0 rfl) (put_new (by kernel_rfl)) ?_
                  refine rt_q (op_move (.tmp (memU (memU mem1)))).q (wants_some rfl rfl mem1 rfl) (put_new (by kernel_rfl)) ?_
                  refine rt_q (op_geq (.tmp mem1) (.tmp mem0)).q (wants_some rfl rfl mem2 rfl) (put_new (by kernel_rfl)) ?_
                  refine rt_q (op_pick (b := false) (.tmp mem3) (.tmp mem0)).q wants_none (put_new (by kernel_rfl)) ?_
                  refine rt_nil ?_
                  refine et_then ?_
                  refine ct_if (.tmp mem0) (fun h16 => ?_) (fun h16 => ?_)
                  · refine ct_region ?_
                    refine rt_q (op_move (.tmp mem19)).q wants_none (put_new (by kernel_rfl)) ?_
                    refine rt_q (op_move (.tmp mem8)).q wants_none (put_new (by kernel_rfl)) ?_
                    refine rt_q (op_assign (.tmp mem1)).q wants_none (put_over (pickU (pickU pick7)) (by kernel_rfl)) ?_
                    refine rt_q (op_assign (.tmp mem1)).q wants_none (put_over (pickU (pickU pick7)) (by kernel_rfl)) ?_
                    refine rt_nil ?_
                    refine et_block ?_
                    refine et_then ?_
                    refine ct_region ?_
                    refine rt_q (op_move (.tmp (memU (memU mem6)))).q wants_none (put_new (by kernel_rfl)) ?_
                    refine rt_q (op_add (.tmp mem0) .const (w64 (by omega) (by omega))).q wants_none (put_new (by kernel_rfl)) ?_
                    refine rt_q (op_assign (.tmp mem0)).q wants_none (put_over (pickU (pickU pick8)) (by kernel_rfl)) ?_
                    refine rt_nil ?_
                    have hgs := grpA_yes (c := c) (cs := cs) (ks := (injKeys cs)) (q := q) (j := j) (by omega) (by omega) (readyB_yes (by assumption)) (by rw [hf, ← hcell]; first | exact .inl rfl | exact .inr (by omega) | omega)
                    exact et_again (n := 98) ((j + 1)) (⟨by omega, by omega, by omega⟩) (by omega) (.cons mem0 (congrArg (Value.int .i64) (by first | rfl | omega | (simp; omega) | simp)) (.cons (memU (memU mem9)) rfl (.cons mem3 (congrArg (Value.int .u64) (by rw [hgs]; first | exact hcell | rfl | simp [grpB])) (.cons mem4 (congrArg (Value.int .i64) (by rw [hgs]; first | exact hcell | rfl | simp [grpB])) (.cons (memU (memU mem10)) rfl (.cons (memU (memU mem11)) rfl (.cons (memU (memU mem12)) rfl (.cons (memU (memU mem13)) rfl (.cons (memU (memU mem14)) rfl (.cons (memU (memU mem15)) rfl (.cons (memU (memU mem16)) rfl (.cons (memU (memU mem17)) rfl .nil)))))))))))) (Ent.refl)
                  · refine ct_skip ?_
                    refine et_block ?_
                    refine et_then ?_
                    refine ct_region ?_
                    refine rt_q (op_move (.tmp (memU (memU mem2)))).q wants_none (put_new (by kernel_rfl)) ?_
                    refine rt_q (op_add (.tmp mem0) .const (w64 (by omega) (by omega))).q wants_none (put_new (by kernel_rfl)) ?_
                    refine rt_q (op_assign (.tmp mem0)).q wants_none (put_over (pickU (pickU pick4)) (by kernel_rfl)) ?_
                    refine rt_nil ?_
                    have hgs : grpA c cs (injKeys cs) q (j + 1) = (grpA c cs (injKeys cs) q j) := by first | exact grpA_no (by omega) (by omega) (readyB_no (by assumption)) | exact grpA_less (by omega) (by omega) (by rw [hf, ← hcell]; intro hh; rcases hh with hh | hh; cases hh; omega)
                    exact et_again (n := 98) ((j + 1)) (⟨by omega, by omega, by omega⟩) (by omega) (.cons mem0 (congrArg (Value.int .i64) (by first | rfl | omega | (simp; omega) | simp)) (.cons (memU (memU mem5)) rfl (.cons (memU (memU mem6)) (congrArg (Value.int .u64) (by rw [hgs])) (.cons (memU (memU mem7)) (congrArg (Value.int .i64) (by rw [hgs])) (.cons (memU (memU mem8)) rfl (.cons (memU (memU mem9)) rfl (.cons (memU (memU mem10)) rfl (.cons (memU (memU mem11)) rfl (.cons (memU (memU mem12)) rfl (.cons (memU (memU mem13)) rfl (.cons (memU (memU mem14)) rfl (.cons (memU (memU mem15)) rfl .nil)))))))))))) (Ent.refl)
            · refine ct_exit ?_
              refine et_then_exit ?_
              refine et_then_exit ?_
              refine et_block_here ?_
              refine et_then ?_
              refine ct_seq ?_
              refine ct_region ?_
              refine rt_q (op_move (.tmp mem14)).q wants_none (put_new (by kernel_rfl)) ?_
              refine rt_q (op_geq (.tmp mem0) .const).q wants_none (put_new (by kernel_rfl)) ?_
              refine rt_nil ?_
              refine et_then ?_
              refine ct_if (.tmp mem0) (fun h17 => ?_) (fun h17 => ?_)
              · refine ct_seq ?_
                refine ct_region ?_
                refine rt_q (op_move (.tmp mem16)).q wants_none (put_new (by kernel_rfl)) ?_
                refine rt_q (op_assign (.tmp mem0)).q wants_none (put_new (by kernel_rfl)) ?_
                refine rt_q (op_assign .const).q wants_none (put_new (by kernel_rfl)) ?_
                refine rt_nil ?_
                refine et_then ?_
                refine ct_ret ?_
                refine et_block_ret ?_
                refine et_then_ret ?_
                refine et_then_ret ?_
                refine et_block_ret ?_
                refine et_then_ret ?_
                exact et_ret rfl (.cons mem1 (.cons mem0 .nil)) (by simp only [tupled]; rw [hq1, inj_yes (j := j) hksl (by omega) (by omega) (by omega) (by omega) (grpB_pos.1.1 (by omega)), grpB_some (grpB_pos.1.1 (by omega))]; rfl) (Ent.drop.trans (Ent.drop.trans Ent.drop))
              · refine ct_skip ?_
                refine et_block ?_
                refine et_then ?_
                refine ct_region ?_
                refine rt_q (op_move (.tmp (memU mem0))).q wants_none (put_new (by kernel_rfl)) ?_
                refine rt_q (op_field (k := 6) (o' := 6) (.tmp (memU mem4)) (by kernel_rfl) (by rfl)).q wants_none (put_new (by kernel_rfl)) ?_
                refine rt_q (oq_load (o := 0) (i := 6) (.tmp mem0) mem2 (rfl) rfl (by kernel_rfl)) wants_none (put_new (by kernel_rfl)) ?_
                refine rt_q (op_add (.tmp mem2) (.tmp mem0) (w64 (by omega) (by omega))).q wants_none (put_new (by kernel_rfl)) ?_
                refine rt_q (op_assign (.tmp mem0)).q wants_none (put_over (pickU pick4) (by kernel_rfl)) ?_
                refine rt_nil ?_
                exact et_again (n := 98) ((q + c.batch.toNat)) (⟨by omega, by rw [hq1]; exact inj_no (j := j) (by omega) hksl (by omega) (by omega) (by omega) (by omega) (by cases hx : (grpA c cs (injKeys cs) q j).2.2 with | true => exact absurd (grpB_pos.1.2 hx) (by omega) | false => rfl)⟩) (by omega) (.cons mem0 (congrArg (Value.int .i64) (by first | rfl | omega | (simp; omega) | simp)) (.cons (memU mem5) rfl (.cons (memU mem6) rfl (.cons (memU mem7) rfl (.cons (memU mem8) rfl .nil))))) (Ent.refl)
          · refine rt_skip (wants_some rfl rfl mem0 rfl) (put_new (by kernel_rfl)) ?_
            refine rt_skip (wants_some rfl rfl mem1 rfl) (put_new (by kernel_rfl)) ?_
            refine rt_skip (wants_some rfl rfl mem2 rfl) (put_new (by kernel_rfl)) ?_
            refine rt_skip (wants_some rfl rfl mem3 rfl) (put_new (by kernel_rfl)) ?_
            refine rt_skip (wants_some rfl rfl mem4 rfl) (put_new (by kernel_rfl)) ?_
            refine rt_skip (wants_some rfl rfl mem5 rfl) (put_new (by kernel_rfl)) ?_
            refine rt_q (op_pick (b := false) (.tmp mem6) .const).q wants_none (put_new (by kernel_rfl)) ?_
            refine rt_nil ?_
            refine et_then ?_
            refine ct_false (.tmp mem0) ?_
            refine ct_exit ?_
            refine et_then_exit ?_
            refine et_then_exit ?_
            refine et_block_here ?_
            refine et_then ?_
            refine ct_seq ?_
            refine ct_region ?_
            refine rt_q (op_move (.tmp mem14)).q wants_none (put_new (by kernel_rfl)) ?_
            refine rt_q (op_geq (.tmp mem0) .const).q wants_none (put_new (by kernel_rfl)) ?_
            refine rt_nil ?_
            refine et_then ?_
            refine ct_if (.tmp mem0) (fun h18 => ?_) (fun h18 => ?_)
            · refine ct_seq ?_
              refine ct_region ?_
              refine rt_q (op_move (.tmp mem16)).q wants_none (put_new (by kernel_rfl)) ?_
              refine rt_q (op_assign (.tmp mem0)).q wants_none (put_new (by kernel_rfl)) ?_
              refine rt_q (op_assign .const).q wants_none (put_new (by kernel_rfl)) ?_
              refine rt_nil ?_
              refine et_then ?_
              refine ct_ret ?_
              refine et_block_ret ?_
              refine et_then_ret ?_
              refine et_then_ret ?_
              refine et_block_ret ?_
              refine et_then_ret ?_
              exact et_ret rfl (.cons mem1 (.cons mem0 .nil)) (by simp only [tupled]; rw [hq1, inj_yes (j := j) hksl (by omega) (by omega) (by omega) (by omega) (grpB_pos.1.1 (by omega)), grpB_some (grpB_pos.1.1 (by omega))]; rfl) (Ent.drop.trans (Ent.drop.trans Ent.drop))
            · refine ct_skip ?_
              refine et_block ?_
              refine et_then ?_
              refine ct_region ?_
              refine rt_q (op_move (.tmp (memU mem0))).q wants_none (put_new (by kernel_rfl)) ?_
              refine rt_q (op_field (k := 6) (o' := 6) (.tmp (memU mem4)) (by kernel_rfl) (by rfl)).q wants_none (put_new (by kernel_rfl)) ?_
              refine rt_q (oq_load (o := 0) (i := 6) (.tmp mem0) mem2 (rfl) rfl (by kernel_rfl)) wants_none (put_new (by kernel_rfl)) ?_
              refine rt_q (op_add (.tmp mem2) (.tmp mem0) (w64 (by omega) (by omega))).q wants_none (put_new (by kernel_rfl)) ?_
              refine rt_q (op_assign (.tmp mem0)).q wants_none (put_over (pickU pick4) (by kernel_rfl)) ?_
              refine rt_nil ?_
              exact et_again (n := 98) ((q + c.batch.toNat)) (⟨by omega, by rw [hq1]; exact inj_no (j := j) (by omega) hksl (by omega) (by omega) (by omega) (by omega) (by cases hx : (grpA c cs (injKeys cs) q j).2.2 with | true => exact absurd (grpB_pos.1.2 hx) (by omega) | false => rfl)⟩) (by omega) (.cons mem0 (congrArg (Value.int .i64) (by first | rfl | omega | (simp; omega) | simp)) (.cons (memU mem5) rfl (.cons (memU mem6) rfl (.cons (memU mem7) rfl (.cons (memU mem8) rfl .nil))))) (Ent.refl)
        · refine ct_exit ?_
          refine et_then_exit ?_
          refine et_then_exit ?_
          refine et_block_here ?_
          refine et_then ?_
          refine ct_seq ?_
          refine ct_region ?_
          refine rt_q (op_assign .const).q wants_none (put_new (by kernel_rfl)) ?_
          refine rt_q (op_assign .const).q wants_none (put_new (by kernel_rfl)) ?_
          refine rt_nil ?_
          refine et_then ?_
          refine ct_ret ?_
          exact et_ret rfl (.cons mem1 (.cons mem0 .nil)) (by simp only [tupled]; first | (rw [injV_out (by omega)]; rfl) | (rw [hq1, inj_end hksl (by omega)]; rfl)) (Ent.drop.trans (Ent.drop.trans Ent.drop))

end Go.Proofs.Ytkfkiaieeiodnaa
