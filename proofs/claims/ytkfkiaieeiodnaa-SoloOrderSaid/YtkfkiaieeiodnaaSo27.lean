/- Walks by program: SoloOrder. -/
import Derived.Test.YtkfkiaieeiodnaaSo26
namespace Go.Proofs.Ytkfkiaieeiodnaa
open Go Go.RowKit
def WL (cs : List Int) : Nat → List Int
  | 0 => []
  | j + 1 => (entV dc cs 0 (1 - (j : Int))).reverse.foldl (wstep (readyB dc cs)) (WL cs j)
def W2 (cs : List Int) (j m : Nat) : List Int := ((entV dc cs 0 (1 - (j : Int))).drop m).reverse.foldl (wstep (readyB dc cs)) (WL cs j)
theorem WL_all (cs : List Int) : WL cs 2 = wantV cs := by
  unfold wantV ordE
  rw [List.foldl_append]; rfl
theorem fold_len {p : Int → Bool} : ∀ (E w : List Int), (E.foldl (wstep p) w).length ≤ w.length + E.length
  | [], w => by simp
  | t :: E, w => by
    rw [List.foldl_cons]
    have h := fold_len (p := p) E (wstep p w t)
    have h2 : (wstep p w t).length ≤ w.length + 1 := by unfold wstep; split <;> simp
    simp only [List.length_cons]; omega
theorem ent_len (cs : List Int) (l : Int) : (entV dc cs 0 l).length ≤ 64 := entV_len (by show (4 : Int) ≤ 64; omega)
theorem WL_len (cs : List Int) : ∀ j, (WL cs j).length ≤ 64 * j
  | 0 => by simp [WL]
  | j + 1 => by
    unfold WL
    have h := fold_len (p := readyB dc cs) (entV dc cs 0 (1 - (j : Int))).reverse (WL cs j)
    have h1 := WL_len cs j
    have h2 := ent_len cs (1 - (j : Int))
    rw [List.length_reverse] at h; omega
theorem W2_len (cs : List Int) (j m : Nat) : (W2 cs j m).length ≤ 64 * j + 64 := by
  unfold W2
  have h := fold_len (p := readyB dc cs) ((entV dc cs 0 (1 - (j : Int))).drop m).reverse (WL cs j)
  have h1 := WL_len cs j
  have h2 := ent_len cs (1 - (j : Int))
  rw [List.length_reverse, List.length_drop] at h; omega
theorem W2_top {cs : List Int} {j m : Nat} (h : m = (entV dc cs 0 (1 - (j : Int))).length) : WL cs j = W2 cs j m := by
  subst h; unfold W2; rw [List.drop_length]; rfl
theorem W2_end {cs : List Int} {j m : Nat} (h : m = 0) : W2 cs j m = WL cs (j + 1) := by subst h; rfl
theorem W2_step {cs : List Int} {j m : Nat} (h : m < (entV dc cs 0 (1 - (j : Int))).length) : W2 cs j m = wstep (readyB dc cs) (W2 cs j (m + 1)) (gi (entV dc cs 0 (1 - (j : Int))) m) := by
  unfold W2
  rw [drop_gi h, List.reverse_cons, List.foldl_append]; rfl
def seenI (cs w : List Int) (t : Int) (i : Nat) : Bool := (!readyB dc cs t) || (w.take i).contains t
theorem seen_end {cs w : List Int} {t : Int} {i : Nat} (h : i = w.length) : seenI cs w t i = ((!readyB dc cs t) || w.contains t) := by
  subst h; unfold seenI; rw [List.take_length]
theorem seen_yes {cs : List Int} {j m i : Nat} (h0 : 1 ≤ m) (h : m ≤ (entV dc cs 0 (1 - (j : Int))).length) (hi : i = (W2 cs j m).length) (hs : (!seenI cs (W2 cs j m) (gi (entV dc cs 0 (1 - (j : Int))) (m - 1)) i) = true) : W2 cs j m ++ [gi (entV dc cs 0 (1 - (j : Int))) (m - 1)] = W2 cs j (m - 1) := by
  obtain ⟨k, rfl⟩ : ∃ k, m = k + 1 := ⟨m - 1, by omega⟩
  rw [Nat.add_sub_cancel] at *
  rw [seen_end hi] at hs
  rw [W2_step (m := k) (by omega)]
  simp at hs
  exact (if_pos ⟨hs.1, hs.2⟩).symm
theorem seen_no {cs : List Int} {j m i : Nat} (h0 : 1 ≤ m) (h : m ≤ (entV dc cs 0 (1 - (j : Int))).length) (hi : i = (W2 cs j m).length) (hs : (!seenI cs (W2 cs j m) (gi (entV dc cs 0 (1 - (j : Int))) (m - 1)) i) = false) : W2 cs j m = W2 cs j (m - 1) := by
  obtain ⟨k, rfl⟩ : ∃ k, m = k + 1 := ⟨m - 1, by omega⟩
  rw [Nat.add_sub_cancel] at *
  rw [seen_end hi] at hs
  rw [W2_step (m := k) (by omega)]
  refine (if_neg ?_).symm
  rintro ⟨h1, h2⟩
  simp [h1, h2] at hs
theorem seen_len {cs : List Int} {j m i : Nat} (h0 : 1 ≤ m) (h : m ≤ (entV dc cs 0 (1 - (j : Int))).length) (hi : i = (W2 cs j m).length) (hs : (!seenI cs (W2 cs j m) (gi (entV dc cs 0 (1 - (j : Int))) (m - 1)) i) = true) : (W2 cs j m).length + 1 = (W2 cs j (m - 1)).length := by
  rw [← seen_yes h0 h hi hs]; simp
theorem seen_start {cs : List Int} (h : OneOk cs) {t : Int} (ht : 0 ≤ t ∧ t < 6) {w : List Int} {i : Nat} (hi : i = (atV t dc.tasks (layTab dc + 0) 5).toNat) : decide (gi cs i ≠ 1) = seenI cs w t 0 := by
  subst hi
  rw [atV_in (by omega) (by show t < 6; omega)]
  unfold seenI readyB cellAt
  have e : (layTab dc + 0 + t * 5) = layTab dc + t * 5 := by omega
  rw [e]
  have h1 : t < dc.tasks := ht.2
  simp [ht.1, h1]
theorem seen_true {cs w : List Int} {t : Int} {i : Nat} (hs : seenI cs w t i = true) : seenI cs w t (i + 1) = true := by
  unfold seenI at *
  simp at hs ⊢
  rcases hs with hs | hs
  · exact .inl hs
  · right
    have h2 : t ∈ w.take i := hs
    obtain ⟨k, hk⟩ := List.mem_iff_getElem?.1 h2
    have hki : k < i := by
      have h3 := (List.getElem?_eq_some_iff.1 hk).1
      simp at h3; omega
    rw [List.getElem?_take_of_lt hki] at hk
    exact List.mem_iff_getElem?.2 ⟨k, by rw [List.getElem?_take_of_lt (by omega)]; exact hk⟩
theorem seen_next {cs w : List Int} {t : Int} {i : Nat} (hi : i < w.length) (hs : seenI cs w t i = false) : decide (gi w i = t) = seenI cs w t (i + 1) := by
  unfold seenI at *
  rw [Bool.or_eq_false_iff] at hs
  rw [hs.1, take_gi hi, Bool.false_or]
  have h2 := hs.2
  by_cases h : gi w i = t
  · simp [h]
  · have h3 : ¬ t ∈ w.take i := by simpa using h2
    have h4 : ¬ t = gi w i := fun e => h e.symm
    simp [h, h3, h4]
theorem run_snoc {w cs : List Int} {i : Nat} (hi : i < w.length) {k : Nat} (hk : k = (layTab dc + gi w i * 5).toNat) : (runCs (w.take i) cs).set k 2 = runCs (w.take (i + 1)) cs := by
  subst hk; rw [take_gi hi]; unfold runCs; rw [List.foldl_append]; rfl
theorem ent_top2 {L : List SProp} {X : SProp} {A : Option Addr} {c : Nat} {f : Int → Value} {xs ys : List Int} (h : xs = ys) : Ent (X :: rowS A xs.length c 1 (xs.map f) :: L) (rowS A ys.length c 1 (ys.map f) :: X :: L) := by
  subst h; exact Ent.perm (List.Perm.swap ..)
section
variable {B : Nat} {W : World} {L : List SProp} {C : Cfg} {l : CfgAt} {A : Option Addr} {n cap : Nat} {cs : List Int} {d w v : Int}
theorem refEntriesH (hn : cs.length = n) (hcw : CWf cs) (hS : Sl encU 1 W B A cs) (hc : CfgIn W B C l) {xs : List Int} (hv : entriesV C cs w v = xs) : Fn_ Try.prog 13 #[cfgV C l, .slice A n cap, .int .i64 w, .int .i64 v] B W [] (X := Option Addr × Nat) (fun p => .slice p.1 xs.length p.2) (fun p => [rowS p.1 xs.length p.2 1 (xs.map (Value.int .i64))]) := by
  subst hn hv; exact refEntries_any C l A cap cs w v hS hcw hc
theorem solNextN (hr : rowS A n cap 1 (cs.map (Value.int .u64)) ∈ L) (hc : cfgS C l ∈ L) (hn : cs.length = n) (h2 : n ≤ 9223372036854775807) (h8 : C.heap ≤ 8) (hcw : CWf cs) (hv : nextV C cs d w = none) : Pure Try.prog 15 #[cfgV C l, .slice A n cap, .int .i64 d, .int .i64 w] B W L (.tuple #[.int .i64 0, .bool false]) := by
  have h := solNextH (d := d) (w := w) (B := B) (W := W) hr hc hn h2 h8 hcw
  rwa [hv] at h
end
theorem one_entries {cs : List Int} (h : OneOk cs) {l : Int} (hl : l = 0 ∨ l = 1) : entriesV dc cs 0 l = entV dc cs 0 l := by
  have hg := goodB_spec (one_good h)
  exact entries_in hg.1 hg.2.1 ⟨by omega, hg.2.2.2⟩ (by show 0 ≤ l ∧ l < 2; omega)

set_option maxRecDepth 100000 in
theorem soloOrder_spec (BA : Option Addr) (bc : Nat) (bs : List Nat) (hbw : BytesWf bs) (SA : Option Addr) (sc : Nat) (ss : List Nat) (hsw : BytesWf ss) {B : Nat} {W : World} (hbS : Sl encByte 1 W B BA bs) (hsS : Sl encByte 1 W B SA ss) (L : List SProp) : Pure Try.prog 5 #[.slice BA bs.length bc, .slice SA ss.length sc] B W L (.bool true) := by
  have hn := deskN (k := 1) (by omega)
  have hone := one_laid bs ss
  have e1 : dc.heap = 4 := rfl
  have e2 : dc.tasks = 6 := rfl
  have e3 : dc.workers = 1 := rfl
  have e4 : dc.levels = 2 := rfl
  have e5 : layTab dc = 23 := layTab1
  have e6 : layCells dc = 53 := layCells1
  have h1l : (laidV dc bs ss).length = 53 := by rw [hone.len, layCells1]; rfl
  have e7 : (layCells dc).toNat = 53 := by rw [layCells1]; rfl
  refine pure_enter Try.func5 rfl (m := 116) rfl (Nat.le_of_ble_eq_true rfl) (R := [(0, .slice BA bs.length bc), (1, .slice SA ss.length sc)]) (by kernel_rfl) ?_
  refine ct_seq ?_
  refine ct_region ?_
  refine rt_q (op_assign .const).q wants_none (put_new (by kernel_rfl)) ?_
  refine rt_nil ?_
  refine et_then ?_
  refine ct_seq ?_
  refine ct_seq ?_
  refine ct_region ?_
  refine rt_q (op_move (.tmp mem1)).q wants_none (put_new (by kernel_rfl)) ?_
  refine rt_q (op_len (.tmp mem0) Try.underlying30).q wants_none (put_new (by kernel_rfl)) ?_
  refine rt_q (op_gtr (.tmp mem0) .const).q wants_none (put_new (by kernel_rfl)) ?_
  refine rt_nil ?_
  refine et_then ?_
  refine ct_if (.tmp mem0) (fun h1 => ?_) (fun h1 => ?_)
  · refine ct_seq ?_
    refine ct_region ?_
    refine rt_q (op_assign .const).q wants_none (put_over pick3 (by kernel_rfl)) ?_
    refine rt_nil ?_
    refine et_then ?_
    refine ct_ret ?_
    refine et_then_ret ?_
    exact et_ret rfl (.cons mem0 .nil) (by rfl) Ent.refl
  · refine ct_skip ?_
    refine et_then ?_
    refine ct_seq ?_
    refine ct_region ?_
    refine rt_t (ot_call0 (by kernel_rfl) (.cons .const .nil) (desks_spec _) .nil) wants_none (fun _ => (put_new (by kernel_rfl))) ?_
    rintro l2
    refine rt_t (ot_alloc (v := .agg #[.int .i64 0, .int .i64 0, .int .i64 0, .int .i64 0, .int .i64 0, .int .i64 0, .int .i64 0, .int .i64 0, .int .i64 0, .slice none 0 0, .slice none 0 0]) (us := [.int .i64 0, .int .i64 0, .int .i64 0, .int .i64 0, .int .i64 0, .int .i64 0, .int .i64 0, .int .i64 0, .int .i64 0, .slice none 0 0, .slice none 0 0]) (by kernel_rfl) rfl) wants_none (fun _ => (put_new (by kernel_rfl))) ?_
    rintro b3
    refine rt_t (ot_store (o := 0) (i := 0) (k := 11) (us := [.int .i64 dc.workers, .int .i64 dc.levels, .int .i64 dc.classes, .int .i64 dc.tasks, .int .i64 dc.deque, .int .i64 dc.heap, .int .i64 dc.batch, .int .i64 dc.age, .int .i64 dc.patience, .slice l2.pa dc.progs.length l2.pc, .slice l2.sa dc.subs.length l2.sc]) (ws := [.int .i64 dc.workers, .int .i64 dc.levels, .int .i64 dc.classes, .int .i64 dc.tasks, .int .i64 dc.deque, .int .i64 dc.heap, .int .i64 dc.batch, .int .i64 dc.age, .int .i64 dc.patience, .slice l2.pa dc.progs.length l2.pc, .slice l2.sa dc.subs.length l2.sc]) (.tmp mem0) (.tmp mem1) turn0 (rfl) (by kernel_rfl) rfl (by decide) rfl rfl (by simp) rfl) wants_none (fun _ => put_none) (fun _ => ?_)
    refine rt_nil ?_
    refine et_then ?_
    refine ct_seq ?_
    refine ct_region ?_
    refine rt_q (oq_loadA (o := 0) (i := 0) (k := 11) (us := [.int .i64 dc.workers, .int .i64 dc.levels, .int .i64 dc.classes, .int .i64 dc.tasks, .int .i64 dc.deque, .int .i64 dc.heap, .int .i64 dc.batch, .int .i64 dc.age, .int .i64 dc.patience, .slice l2.pa dc.progs.length l2.pc, .slice l2.sa dc.subs.length l2.sc]) (.tmp mem0) mem0 (rfl) (by kernel_rfl) rfl rfl) wants_none (put_new (by kernel_rfl)) ?_
    refine rt_q (op_move (.tmp mem7)).q wants_none (put_new (by kernel_rfl)) ?_
    refine rt_q (op_move (.tmp mem9)).q wants_none (put_new (by kernel_rfl)) ?_
    refine rt_t (ot_call0 (by kernel_rfl) (.cons (.tmp mem2) (.cons (.tmp mem1) (.cons (.tmp mem0) .nil))) (laid_spec dc l2 hn _ _ bs hbw _ _ ss hsw hbS hsS) .nil) wants_none (fun _ => (put_new (by kernel_rfl))) ?_
    rintro A4
    refine rt_q (op_assign (.tmp mem0)).q wants_none (put_new (by kernel_rfl)) ?_
    refine rt_nil ?_
    refine et_then ?_
    refine ct_seq ?_
    refine ct_region ?_
    refine rt_q (op_assign .const).q wants_none (put_new (by kernel_rfl)) ?_
    refine rt_nil ?_
    refine et_then ?_
    refine ct_seq ?_
    refine ct_seq ?_
    refine ct_region ?_
    refine rt_q (op_field (k := 1) (o' := 1) (.tmp mem6) (by kernel_rfl) (by rfl)).q wants_none (put_new (by kernel_rfl)) ?_
    refine rt_q (oq_load (o := 0) (i := 1) (.tmp mem0) mem1 (rfl) rfl (by kernel_rfl)) wants_none (put_new (by kernel_rfl)) ?_
    refine rt_q (op_sub (.tmp mem0) .const (w64 (by omega) (by omega))).q wants_none (put_new (by kernel_rfl)) ?_
    refine rt_q (op_assign (.tmp mem0)).q wants_none (put_new (by kernel_rfl)) ?_
    refine rt_nil ?_
    refine et_then ?_
    refine ct_block ?_
    refine ct_ent (ent_nil 1) ?_
    refine ct_loop3 (X := Nat) (Y := Option Addr) (Z := Nat) (fun j A cx => 2 - j) (fun j A cx => j ≤ 2) (fun j A cx => [(8, .int .i64 ((1 - (j : Int)))), (7, .slice A ((WL (laidV dc bs ss) j).length) cx), (6, .slice A4 ((layCells dc).toNat) ((layCells dc).toNat)), (5, .pointer (some ⟨b3, 0, none⟩)), (4, .bool false)]) (fun j A cx => rowS A ((WL (laidV dc bs ss) j).length) cx 1 ((WL (laidV dc bs ss) j).map (Value.int .i64)) :: rowS A4 ((layCells dc).toNat) ((layCells dc).toNat) 1 ((laidV dc bs ss).map (Value.int .u64)) :: pts b3 0 [.int .i64 dc.workers, .int .i64 dc.levels, .int .i64 dc.classes, .int .i64 dc.tasks, .int .i64 dc.deque, .int .i64 dc.heap, .int .i64 dc.batch, .int .i64 dc.age, .int .i64 dc.patience, .slice l2.pa dc.progs.length l2.pc, .slice l2.sa dc.subs.length l2.sc] :: cfgS dc l2 :: L) 0 none 0 (by omega) (.cons mem0 (congrArg (Value.int .i64) (by first | rfl | omega | (simp; omega) | simp)) (.cons mem4 (by first | rfl | simp) (.cons mem5 rfl (.cons mem10 rfl (.cons mem15 rfl .nil))))) (Ent.refl) (fun j A cx hi5 => ?_)
    have hj0 := hi5
    have hwl := WL_len (laidV dc bs ss) j
    have hel := ent_len (laidV dc bs ss) (1 - (j : Int))
    refine ct_seq ?_
    refine ct_seq ?_
    refine ct_region ?_
    refine rt_q (op_move (.tmp mem0)).q wants_none (put_new (by kernel_rfl)) ?_
    refine rt_q (op_geq (.tmp mem0) .const).q wants_none (put_new (by kernel_rfl)) ?_
    refine rt_nil ?_
    refine et_then ?_
    refine ct_if (.tmp mem0) (fun h6 => ?_) (fun h6 => ?_)
    · refine ct_skip ?_
      refine et_then ?_
      refine ct_seq ?_
      refine ct_block ?_
      refine ct_seq ?_
      refine ct_region ?_
      refine rt_q (oq_loadA (o := 0) (i := 0) (k := 11) (us := [.int .i64 dc.workers, .int .i64 dc.levels, .int .i64 dc.classes, .int .i64 dc.tasks, .int .i64 dc.deque, .int .i64 dc.heap, .int .i64 dc.batch, .int .i64 dc.age, .int .i64 dc.patience, .slice l2.pa dc.progs.length l2.pc, .slice l2.sa dc.subs.length l2.sc]) (.tmp mem5) mem2 (rfl) (by kernel_rfl) rfl rfl) wants_none (put_new (by kernel_rfl)) ?_
      refine rt_q (op_move (.tmp mem5)).q wants_none (put_new (by kernel_rfl)) ?_
      refine rt_q (op_move (.tmp mem4)).q wants_none (put_new (by kernel_rfl)) ?_
      refine rt_t (ot_rekeep (by kernel_rfl) (.cons (.tmp mem2) (.cons (.tmp mem1) (.cons .const (.cons (.tmp mem0) .nil)))) (fun w hw => refEntriesH (cs := (laidV dc bs ss)) (xs := (entV dc (laidV dc bs ss) 0 (1 - (j : Int)))) hone.len hone.wf (sl_ints (fun _ => rfl) mem1 hw.2.2 hone.len (by rw [hone.len, layCells1]; decide)) (sat_held hw.2.2 mem3) (one_entries hone (by omega)))) wants_none (fun _ => (put_new (by kernel_rfl))) ?_
      rintro ⟨A7, c7⟩
      refine rt_q (op_assign (.tmp mem0)).q wants_none (put_new (by kernel_rfl)) ?_
      refine rt_nil ?_
      refine et_then ?_
      refine ct_seq ?_
      refine ct_region ?_
      refine rt_q (op_move (.tmp mem0)).q wants_none (put_new (by kernel_rfl)) ?_
      refine rt_q (op_len (.tmp mem0) Try.underlying37).q wants_none (put_new (by kernel_rfl)) ?_
      refine rt_q (op_sub (.tmp mem0) .const (w64 (by omega) (by omega))).q wants_none (put_new (by kernel_rfl)) ?_
      refine rt_q (op_assign (.tmp mem0)).q wants_none (put_new (by kernel_rfl)) ?_
      refine rt_nil ?_
      refine et_then ?_
      refine ct_block ?_
      refine ct_loop3 (X := Nat) (Y := Option Addr) (Z := Nat) (fun m A2 c2 => m) (fun m A2 c2 => m ≤ (entV dc (laidV dc bs ss) 0 (1 - (j : Int))).length) (fun m A2 c2 => [(10, .int .i64 (((m : Int) - 1))), (40, .int .i64 (((((entV dc (laidV dc bs ss) 0 (1 - (j : Int))).length : Nat) : Int) - 1))), (39, .int .i64 ((((entV dc (laidV dc bs ss) 0 (1 - (j : Int))).length : Nat) : Int))), (38, .slice A7 ((entV dc (laidV dc bs ss) 0 (1 - (j : Int))).length) c7), (9, .slice A7 ((entV dc (laidV dc bs ss) 0 (1 - (j : Int))).length) c7), (37, .slice A7 ((entV dc (laidV dc bs ss) 0 (1 - (j : Int))).length) c7), (36, .int .i64 ((1 - (j : Int)))), (35, .slice A4 ((layCells dc).toNat) ((layCells dc).toNat)), (34, .agg #[.int .i64 dc.workers, .int .i64 dc.levels, .int .i64 dc.classes, .int .i64 dc.tasks, .int .i64 dc.deque, .int .i64 dc.heap, .int .i64 dc.batch, .int .i64 dc.age, .int .i64 dc.patience, .slice l2.pa dc.progs.length l2.pc, .slice l2.sa dc.subs.length l2.sc]), (31, .bool (decide (0 ≤ (1 - (j : Int))))), (30, .int .i64 ((1 - (j : Int)))), (8, .int .i64 ((1 - (j : Int)))), (7, .slice A2 ((W2 (laidV dc bs ss) j m).length) c2), (6, .slice A4 ((layCells dc).toNat) ((layCells dc).toNat)), (5, .pointer (some ⟨b3, 0, none⟩)), (4, .bool false)]) (fun m A2 c2 => rowS A2 ((W2 (laidV dc bs ss) j m).length) c2 1 ((W2 (laidV dc bs ss) j m).map (Value.int .i64)) :: rowS A7 ((entV dc (laidV dc bs ss) 0 (1 - (j : Int))).length) c7 1 ((entV dc (laidV dc bs ss) 0 (1 - (j : Int))).map (Value.int .i64)) :: rowS A4 ((layCells dc).toNat) ((layCells dc).toNat) 1 ((laidV dc bs ss).map (Value.int .u64)) :: pts b3 0 [.int .i64 dc.workers, .int .i64 dc.levels, .int .i64 dc.classes, .int .i64 dc.tasks, .int .i64 dc.deque, .int .i64 dc.heap, .int .i64 dc.batch, .int .i64 dc.age, .int .i64 dc.patience, .slice l2.pa dc.progs.length l2.pc, .slice l2.sa dc.subs.length l2.sc] :: cfgS dc l2 :: L) (entV dc (laidV dc bs ss) 0 (1 - (j : Int))).length A cx (by omega) (.cons mem0 (congrArg (Value.int .i64) (by first | rfl | omega | (simp; omega) | simp)) (.cons mem1 rfl (.cons mem2 rfl (.cons mem3 rfl (.cons mem4 rfl (.cons mem5 rfl (.cons mem6 rfl (.cons mem7 rfl (.cons mem8 rfl (.cons mem9 rfl (.cons mem10 rfl (.cons mem11 rfl (.cons mem12 (congrArg (fun q => Value.slice _ q _) (by rw [W2_top rfl])) (.cons mem13 rfl (.cons mem14 rfl (.cons mem15 rfl .nil)))))))))))))))) ((ent_top2 (W2_top rfl))) (fun m A2 c2 hi8 => ?_)
      have hm0 := hi8
      have hw2 := W2_len (laidV dc bs ss) j m
      have hmm : 0 < m → m = (m - 1) + 1 := fun h => by omega
      refine ct_seq ?_
      refine ct_seq ?_
      refine ct_region ?_
      refine rt_q (op_move (.tmp mem0)).q wants_none (put_new (by kernel_rfl)) ?_
      refine rt_q (op_geq (.tmp mem0) .const).q wants_none (put_new (by kernel_rfl)) ?_
      refine rt_nil ?_
      refine et_then ?_
      refine ct_if (.tmp mem0) (fun h9 => ?_) (fun h9 => ?_)
      · refine ct_skip ?_
        refine et_then ?_
        refine ct_seq ?_
        refine ct_block ?_
        refine ct_seq ?_
        refine ct_region ?_
        refine rt_q (op_move (.tmp mem6)).q wants_none (put_new (by kernel_rfl)) ?_
        refine rt_q (op_move (.tmp mem3)).q wants_none (put_new (by kernel_rfl)) ?_
        refine rt_q (oq_indexS (i := (m - 1)) (.tmp mem1) (.tmp mem0) mem1 (by omega) (by omega) (by omega) (by kernel_rfl) (Nat.mul_one _)) wants_none (put_new (by kernel_rfl)) ?_
        refine rt_q (oq_loadS (i := (m - 1)) (.tmp mem0) mem1 (gi_map (by omega)) (by kernel_rfl)) wants_none (put_new (by kernel_rfl)) ?_
        refine rt_q (op_assign (.tmp mem0)).q wants_none (put_new (by kernel_rfl)) ?_
        refine rt_nil ?_
        refine et_then ?_
        refine ct_seq ?_
        refine ct_region ?_
        refine rt_q (op_move (.tmp (memU mem0))).q wants_none (put_new (by kernel_rfl)) ?_
        refine rt_q (oq_loadA (o := 0) (i := 0) (k := 11) (us := [.int .i64 dc.workers, .int .i64 dc.levels, .int .i64 dc.classes, .int .i64 dc.tasks, .int .i64 dc.deque, .int .i64 dc.heap, .int .i64 dc.batch, .int .i64 dc.age, .int .i64 dc.patience, .slice l2.pa dc.progs.length l2.pc, .slice l2.sa dc.subs.length l2.sc]) (.tmp (memU mem2)) mem3 (rfl) (by kernel_rfl) rfl rfl) wants_none (put_new (by kernel_rfl)) ?_
        refine rt_q (op_move (.tmp mem2)).q wants_none (put_new (by kernel_rfl)) ?_
        have hte : 0 ≤ (gi (entV dc (laidV dc bs ss) 0 (1 - (j : Int))) ((m - 1))) ∧ (gi (entV dc (laidV dc bs ss) 0 (1 - (j : Int))) ((m - 1))) < 6 := one_ent hone (by omega) (gi_mem (by omega))
        have hat : atV ((gi (entV dc (laidV dc bs ss) 0 (1 - (j : Int))) ((m - 1)))) dc.tasks (layTab dc + 0) 5 = layTab dc + 0 + ((gi (entV dc (laidV dc bs ss) 0 (1 - (j : Int))) ((m - 1)))) * 5 := atV_in (by omega) (by omega)
        refine rt_q (oq_call0 (by kernel_rfl) (.cons (.tmp mem1) (.cons (.tmp mem0) .nil)) (refState_spec dc l2 hn _ _ _ _)) wants_none (put_new (by kernel_rfl)) ?_
        refine rt_q (oq_indexS (i := ((atV ((gi (entV dc (laidV dc bs ss) 0 (1 - (j : Int))) ((m - 1)))) dc.tasks (layTab dc + 0) 5)).toNat) (.tmp mem3) (.tmp mem0) mem2 (by omega) (by omega) (by omega) (by kernel_rfl) (Nat.mul_one _)) wants_none (put_new (by kernel_rfl)) ?_
        refine rt_q (oq_loadS (i := ((atV ((gi (entV dc (laidV dc bs ss) 0 (1 - (j : Int))) ((m - 1)))) dc.tasks (layTab dc + 0) 5)).toNat) (.tmp mem0) mem2 (gi_map (by omega)) (by kernel_rfl)) wants_none (put_new (by kernel_rfl)) ?_
        refine rt_q (op_neq (.tmp mem0) .const).q wants_none (put_new (by kernel_rfl)) ?_
        refine rt_q (op_assign (.tmp mem0)).q wants_none (put_new (by kernel_rfl)) ?_
        refine rt_nil ?_
        refine et_then ?_
        refine ct_seq ?_
        refine ct_seq ?_
        refine ct_region ?_
        refine rt_q (op_assign .const).q wants_none (put_new (by kernel_rfl)) ?_
        refine rt_nil ?_
        refine et_then ?_
        refine ct_block ?_
        refine ct_loop (X := Nat) (fun i => (W2 (laidV dc bs ss) j m).length - i) (fun i => i ≤ (W2 (laidV dc bs ss) j m).length) (fun i => [(13, .int .i64 ((i : Int))), (12, .bool ((seenI (laidV dc bs ss) (W2 (laidV dc bs ss) j m) (gi (entV dc (laidV dc bs ss) 0 (1 - (j : Int))) (m - 1)) i))), (55, .bool (decide ((gi (laidV dc bs ss) (((atV ((gi (entV dc (laidV dc bs ss) 0 (1 - (j : Int))) ((m - 1)))) dc.tasks (layTab dc + 0) 5)).toNat)) ≠ 1))), (54, .int .u64 ((gi (laidV dc bs ss) (((atV ((gi (entV dc (laidV dc bs ss) 0 (1 - (j : Int))) ((m - 1)))) dc.tasks (layTab dc + 0) 5)).toNat)))), (53, idx A4 (((atV ((gi (entV dc (laidV dc bs ss) 0 (1 - (j : Int))) ((m - 1)))) dc.tasks (layTab dc + 0) 5)).toNat)), (52, .int .i64 ((atV ((gi (entV dc (laidV dc bs ss) 0 (1 - (j : Int))) ((m - 1)))) dc.tasks (layTab dc + 0) 5))), (51, .int .i64 ((gi (entV dc (laidV dc bs ss) 0 (1 - (j : Int))) ((m - 1))))), (50, .agg #[.int .i64 dc.workers, .int .i64 dc.levels, .int .i64 dc.classes, .int .i64 dc.tasks, .int .i64 dc.deque, .int .i64 dc.heap, .int .i64 dc.batch, .int .i64 dc.age, .int .i64 dc.patience, .slice l2.pa dc.progs.length l2.pc, .slice l2.sa dc.subs.length l2.sc]), (49, .slice A4 ((layCells dc).toNat) ((layCells dc).toNat)), (11, .int .i64 ((gi (entV dc (laidV dc bs ss) 0 (1 - (j : Int))) ((m - 1))))), (48, .int .i64 ((gi (entV dc (laidV dc bs ss) 0 (1 - (j : Int))) ((m - 1))))), (47, idx A7 ((m - 1))), (46, .int .i64 (((m : Int) - 1))), (45, .slice A7 ((entV dc (laidV dc bs ss) 0 (1 - (j : Int))).length) c7), (42, .bool (decide (0 ≤ ((m : Int) - 1)))), (41, .int .i64 (((m : Int) - 1))), (10, .int .i64 (((m : Int) - 1))), (40, .int .i64 (((((entV dc (laidV dc bs ss) 0 (1 - (j : Int))).length : Nat) : Int) - 1))), (39, .int .i64 ((((entV dc (laidV dc bs ss) 0 (1 - (j : Int))).length : Nat) : Int))), (38, .slice A7 ((entV dc (laidV dc bs ss) 0 (1 - (j : Int))).length) c7), (9, .slice A7 ((entV dc (laidV dc bs ss) 0 (1 - (j : Int))).length) c7), (37, .slice A7 ((entV dc (laidV dc bs ss) 0 (1 - (j : Int))).length) c7), (36, .int .i64 ((1 - (j : Int)))), (35, .slice A4 ((layCells dc).toNat) ((layCells dc).toNat)), (34, .agg #[.int .i64 dc.workers, .int .i64 dc.levels, .int .i64 dc.classes, .int .i64 dc.tasks, .int .i64 dc.deque, .int .i64 dc.heap, .int .i64 dc.batch, .int .i64 dc.age, .int .i64 dc.patience, .slice l2.pa dc.progs.length l2.pc, .slice l2.sa dc.subs.length l2.sc]), (31, .bool (decide (0 ≤ (1 - (j : Int))))), (30, .int .i64 ((1 - (j : Int)))), (8, .int .i64 ((1 - (j : Int)))), (7, .slice A2 ((W2 (laidV dc bs ss) j m).length) c2), (6, .slice A4 ((layCells dc).toNat) ((layCells dc).toNat)), (5, .pointer (some ⟨b3, 0, none⟩)), (4, .bool false)]) (fun i => rowS A2 ((W2 (laidV dc bs ss) j m).length) c2 1 ((W2 (laidV dc bs ss) j m).map (Value.int .i64)) :: rowS A7 ((entV dc (laidV dc bs ss) 0 (1 - (j : Int))).length) c7 1 ((entV dc (laidV dc bs ss) 0 (1 - (j : Int))).map (Value.int .i64)) :: rowS A4 ((layCells dc).toNat) ((layCells dc).toNat) 1 ((laidV dc bs ss).map (Value.int .u64)) :: pts b3 0 [.int .i64 dc.workers, .int .i64 dc.levels, .int .i64 dc.classes, .int .i64 dc.tasks, .int .i64 dc.deque, .int .i64 dc.heap, .int .i64 dc.batch, .int .i64 dc.age, .int .i64 dc.patience, .slice l2.pa dc.progs.length l2.pc, .slice l2.sa dc.subs.length l2.sc] :: cfgS dc l2 :: L) 0 (by omega) (.cons mem0 (congrArg (Value.int .i64) (by first | rfl | omega | (simp; omega) | simp)) (.cons mem1 (congrArg Value.bool (seen_start hone hte rfl)) (.cons mem2 rfl (.cons mem3 rfl (.cons mem4 rfl (.cons mem5 rfl (.cons mem6 rfl (.cons mem7 rfl (.cons mem8 rfl (.cons mem9 rfl (.cons mem10 rfl (.cons mem11 rfl (.cons mem12 rfl (.cons mem13 rfl (.cons mem14 rfl (.cons mem15 rfl (.cons mem16 rfl (.cons mem17 rfl (.cons mem18 rfl (.cons mem19 rfl (.cons (memU mem0) rfl (.cons (memU mem1) rfl (.cons (memU mem2) rfl (.cons (memU mem3) rfl (.cons (memU mem4) rfl (.cons (memU mem5) rfl (.cons (memU mem6) rfl (.cons (memU mem7) rfl (.cons (memU mem8) rfl (.cons (memU mem9) rfl (.cons (memU mem10) rfl (.cons (memU mem11) rfl .nil)))))))))))))))))))))))))))))))) (Ent.refl) (fun i hi10 => ?_)
        have hi0 := hi10
        refine ct_seq ?_
        refine ct_seq ?_
        refine ct_region ?_
        refine rt_q (op_move (.tmp mem0)).q wants_none (put_new (by kernel_rfl)) ?_
        refine rt_q (op_move (.tmp (memU mem9))).q wants_none (put_new (by kernel_rfl)) ?_
        refine rt_q (op_len (.tmp mem0) Try.underlying37).q wants_none (put_new (by kernel_rfl)) ?_
        refine rt_q (op_lss (.tmp mem2) (.tmp mem0)).q wants_none (put_new (by kernel_rfl)) ?_
        refine rt_nil ?_
        refine et_then ?_
        refine ct_if (.tmp mem0) (fun h11 => ?_) (fun h11 => ?_)
        · refine ct_skip ?_
          refine et_then ?_
          refine ct_seq ?_
          refine ct_block ?_
          refine ct_region ?_
          refine rt_q (op_move (.tmp mem5)).q wants_none (put_new (by kernel_rfl)) ?_
          refine rt_q (op_move (.tmp mem0)).q wants_none (put_new (by kernel_rfl)) ?_
          refine rt_caseb turn0 turn0 (fun h12 => ?_) (fun h12 => ?_)
          · refine rt_skip (wants_some rfl rfl mem0 rfl) (put_new (by kernel_rfl)) ?_
            refine rt_skip (wants_some rfl rfl mem1 rfl) (put_new (by kernel_rfl)) ?_
            refine rt_skip (wants_some rfl rfl mem2 rfl) (put_new (by kernel_rfl)) ?_
            refine rt_skip (wants_some rfl rfl mem3 rfl) (put_new (by kernel_rfl)) ?_
            refine rt_skip (wants_some rfl rfl mem4 rfl) (put_new (by kernel_rfl)) ?_
            refine rt_skip (wants_some rfl rfl mem5 rfl) (put_new (by kernel_rfl)) ?_
            refine rt_q (op_pick (b := true) (.tmp mem6) .const).q wants_none (put_new (by kernel_rfl)) ?_
            refine rt_q (op_assign (.tmp mem0)).q wants_none (put_over pick14 (by kernel_rfl)) ?_
            refine rt_nil ?_
            refine et_block ?_
            refine et_then ?_
            refine ct_region ?_
            refine rt_q (op_move (.tmp mem14)).q wants_none (put_new (by kernel_rfl)) ?_
            refine rt_q (op_add (.tmp mem0) .const (w64 (by omega) (by omega))).q wants_none (put_new (by kernel_rfl)) ?_
            refine rt_q (op_assign (.tmp mem0)).q wants_none (put_over pick16 (by kernel_rfl)) ?_
            refine rt_nil ?_
            exact et_again (n := 116) ((i + 1)) (by omega) (by omega) (.cons mem0 (congrArg (Value.int .i64) (by first | rfl | omega | (simp; omega) | simp)) (.cons mem3 (congrArg Value.bool (seen_true (by assumption)).symm) (.cons mem17 rfl (.cons mem18 rfl (.cons mem19 rfl (.cons (memU mem0) rfl (.cons (memU mem1) rfl (.cons (memU mem2) rfl (.cons (memU mem3) rfl (.cons (memU mem4) rfl (.cons (memU mem5) rfl (.cons (memU mem6) rfl (.cons (memU mem7) rfl (.cons (memU mem8) rfl (.cons (memU mem9) rfl (.cons (memU mem10) rfl (.cons (memU mem11) rfl (.cons (memU mem12) rfl (.cons (memU mem13) rfl (.cons (memU mem14) rfl (.cons (memU mem15) rfl (.cons (memU mem16) rfl (.cons (memU mem17) rfl (.cons (memU mem18) rfl (.cons (memU mem19) rfl (.cons (memU (memU mem0)) rfl (.cons (memU (memU mem1)) rfl (.cons (memU (memU mem2)) rfl (.cons (memU (memU mem3)) rfl (.cons (memU (memU mem4)) rfl (.cons (memU (memU mem5)) rfl (.cons (memU (memU mem6)) rfl .nil)))))))))))))))))))))))))))))))) (Ent.refl)
          · refine rt_q (op_move (.tmp (memU mem14))).q (wants_some rfl rfl mem0 rfl) (put_new (by kernel_rfl)) ?_
            refine rt_q (op_move (.tmp mem7)).q (wants_some rfl rfl mem1 rfl) (put_new (by kernel_rfl)) ?_
            refine rt_q (oq_indexS (i := i) (.tmp mem1) (.tmp mem0) mem0 (by omega) (by omega) (by omega) (by kernel_rfl) (Nat.mul_one _)) (wants_some rfl rfl mem2 rfl) (put_new (by kernel_rfl)) ?_
            refine rt_q (oq_loadS (i := i) (.tmp mem0) mem0 (gi_map (by omega)) (by kernel_rfl)) (wants_some rfl rfl mem3 rfl) (put_new (by kernel_rfl)) ?_
            refine rt_q (op_move (.tmp mem19)).q (wants_some rfl rfl mem4 rfl) (put_new (by kernel_rfl)) ?_
            refine rt_q (op_eql (.tmp mem1) (.tmp mem0)).q (wants_some rfl rfl mem5 rfl) (put_new (by kernel_rfl)) ?_
            refine rt_q (op_pick (b := false) (.tmp mem6) (.tmp mem0)).q wants_none (put_new (by kernel_rfl)) ?_
            refine rt_q (op_assign (.tmp mem0)).q wants_none (put_over pick14 (by kernel_rfl)) ?_
            refine rt_nil ?_
            refine et_block ?_
            refine et_then ?_
            refine ct_region ?_
            refine rt_q (op_move (.tmp mem14)).q wants_none (put_new (by kernel_rfl)) ?_
            refine rt_q (op_add (.tmp mem0) .const (w64 (by omega) (by omega))).q wants_none (put_new (by kernel_rfl)) ?_
            refine rt_q (op_assign (.tmp mem0)).q wants_none (put_over pick16 (by kernel_rfl)) ?_
            refine rt_nil ?_
            exact et_again (n := 116) ((i + 1)) (by omega) (by omega) (.cons mem0 (congrArg (Value.int .i64) (by first | rfl | omega | (simp; omega) | simp)) (.cons mem3 (congrArg Value.bool (seen_next (by omega) (by assumption))) (.cons mem17 rfl (.cons mem18 rfl (.cons mem19 rfl (.cons (memU mem0) rfl (.cons (memU mem1) rfl (.cons (memU mem2) rfl (.cons (memU mem3) rfl (.cons (memU mem4) rfl (.cons (memU mem5) rfl (.cons (memU mem6) rfl (.cons (memU mem7) rfl (.cons (memU mem8) rfl (.cons (memU mem9) rfl (.cons (memU mem10) rfl (.cons (memU mem11) rfl (.cons (memU mem12) rfl (.cons (memU mem13) rfl (.cons (memU mem14) rfl (.cons (memU mem15) rfl (.cons (memU mem16) rfl (.cons (memU mem17) rfl (.cons (memU mem18) rfl (.cons (memU mem19) rfl (.cons (memU (memU mem0)) rfl (.cons (memU (memU mem1)) rfl (.cons (memU (memU mem2)) rfl (.cons (memU (memU mem3)) rfl (.cons (memU (memU mem4)) rfl (.cons (memU (memU mem5)) rfl (.cons (memU (memU mem6)) rfl .nil)))))))))))))))))))))))))))))))) (Ent.refl)
        · refine ct_exit ?_
          refine et_then_exit ?_
          refine et_then_exit ?_
          refine et_block_here ?_
          refine et_then ?_
          refine ct_seq ?_
          refine ct_region ?_
          refine rt_q (op_move (.tmp mem5)).q wants_none (put_new (by kernel_rfl)) ?_
          refine rt_q (op_notb (.tmp mem0)).q wants_none (put_new (by kernel_rfl)) ?_
          refine rt_nil ?_
          refine et_then ?_
          refine ct_ifb (.tmp mem0) (fun h13 => ?_) (fun h13 => ?_)
          · refine ct_region ?_
            refine rt_q (op_move (.tmp (memU mem14))).q wants_none (put_new (by kernel_rfl)) ?_
            refine rt_q (op_move (.tmp mem16)).q wants_none (put_new (by kernel_rfl)) ?_
            refine rt_t (ot_buildSlice (T' := 3) (us := [.int .i64 ((gi (entV dc (laidV dc bs ss) 0 (1 - (j : Int))) ((m - 1))))]) (.cons (.tmp mem0) .nil) (fun _ => by kernel_rfl)) wants_none (fun _ => (put_new (by kernel_rfl))) ?_
            rintro b14
            refine rt_t (ot_append (by_ := 8) (z := .int .i64 0) (.tmp mem2) (.tmp mem0) (.cons pick1 (.cons pick0 .nil)) Try.underlying37 (infoB_of (by kernel_rfl)) rfl (by decide) rfl rfl (by decide) (by unfold maxLen; omega) (by omega)) wants_none (fun _ => (put_new (by kernel_rfl))) ?_
            rintro ⟨A15, c15⟩
            refine rt_ent ent_snoc ?_
            refine rt_q (op_assign (.tmp mem0)).q wants_none (put_over (pickU pick18) (by kernel_rfl)) ?_
            refine rt_nil ?_
            refine et_block ?_
            refine et_then ?_
            refine ct_region ?_
            refine rt_q (op_move (.tmp (memU mem7))).q wants_none (put_new (by kernel_rfl)) ?_
            refine rt_q (op_sub (.tmp mem0) .const (w64 (by omega) (by omega))).q wants_none (put_new (by kernel_rfl)) ?_
            refine rt_q (op_assign (.tmp mem0)).q wants_none (put_over (pickU pick9) (by kernel_rfl)) ?_
            refine rt_nil ?_
            exact et_again3 (n := 116) (m - 1) A15 c15 (by omega) (by omega) (.cons mem0 (congrArg (Value.int .i64) (by first | rfl | omega | (simp; omega) | simp)) (.cons (memU mem10) rfl (.cons (memU mem11) rfl (.cons (memU mem12) rfl (.cons (memU mem13) rfl (.cons (memU mem14) rfl (.cons (memU mem15) rfl (.cons (memU mem16) rfl (.cons (memU mem17) rfl (.cons (memU mem18) rfl (.cons (memU mem19) rfl (.cons (memU (memU mem0)) rfl (.cons mem3 (congrArg (fun q => Value.slice _ q _) (seen_len (i := i) (by omega) (by omega) (by omega) (by assumption))) (.cons (memU (memU mem1)) rfl (.cons (memU (memU mem2)) rfl (.cons (memU (memU mem3)) rfl .nil)))))))))))))))) ((ent_rowd (seen_yes (i := i) (by omega) (by omega) (by omega) (by assumption)) (seen_len (i := i) (by omega) (by omega) (by omega) (by assumption)) Ent.refl))
          · refine ct_skip ?_
            refine et_block ?_
            refine et_then ?_
            refine ct_region ?_
            refine rt_q (op_move (.tmp (memU mem2))).q wants_none (put_new (by kernel_rfl)) ?_
            refine rt_q (op_sub (.tmp mem0) .const (w64 (by omega) (by omega))).q wants_none (put_new (by kernel_rfl)) ?_
            refine rt_q (op_assign (.tmp mem0)).q wants_none (put_over (pickU pick4) (by kernel_rfl)) ?_
            refine rt_nil ?_
            exact et_again3 (n := 116) (m - 1) A2 c2 (by omega) (by omega) (.cons mem0 (congrArg (Value.int .i64) (by first | rfl | omega | (simp; omega) | simp)) (.cons (memU mem5) rfl (.cons (memU mem6) rfl (.cons (memU mem7) rfl (.cons (memU mem8) rfl (.cons (memU mem9) rfl (.cons (memU mem10) rfl (.cons (memU mem11) rfl (.cons (memU mem12) rfl (.cons (memU mem13) rfl (.cons (memU mem14) rfl (.cons (memU mem15) rfl (.cons (memU mem16) (congrArg (fun q => Value.slice _ q _) (by rw [seen_no (i := i) (by omega) (by omega) (by omega) (by assumption)])) (.cons (memU mem17) rfl (.cons (memU mem18) rfl (.cons (memU mem19) rfl .nil)))))))))))))))) ((ent_rowd (seen_no (i := i) (by omega) (by omega) (by omega) (by assumption)) (by rw [seen_no (i := i) (by omega) (by omega) (by omega) (by assumption)]) Ent.refl))
      · refine ct_exit ?_
        refine et_then_exit ?_
        refine et_then_exit ?_
        refine et_block_here ?_
        refine et_block ?_
        refine et_then ?_
        refine ct_region ?_
        refine rt_q (op_move (.tmp mem13)).q wants_none (put_new (by kernel_rfl)) ?_
        refine rt_q (op_sub (.tmp mem0) .const (w64 (by omega) (by omega))).q wants_none (put_new (by kernel_rfl)) ?_
        refine rt_q (op_assign (.tmp mem0)).q wants_none (put_over pick15 (by kernel_rfl)) ?_
        refine rt_nil ?_
        exact et_again3 (n := 116) (j + 1) A2 c2 (by omega) (by omega) (.cons mem0 (congrArg (Value.int .i64) (by first | rfl | omega | (simp; omega) | simp)) (.cons mem16 (congrArg (fun q => Value.slice _ q _) (by rw [W2_end (by omega)])) (.cons mem17 rfl (.cons mem18 rfl (.cons mem19 rfl .nil))))) ((ent_rowd (W2_end (by omega)) (by rw [W2_end (by omega)]) Ent.drop))
    · refine ct_exit ?_
      refine et_then_exit ?_
      refine et_then_exit ?_
      refine et_block_here ?_
      refine et_then ?_
      refine ct_seq ?_
      refine ct_seq ?_
      refine ct_region ?_
      refine rt_q (op_assign .const).q wants_none (put_new (by kernel_rfl)) ?_
      refine rt_nil ?_
      refine et_then ?_
      refine ct_block ?_
      obtain rfl : j = 2 := by omega
      have hwa : WL (laidV dc bs ss) 2 = wantV (laidV dc bs ss) := WL_all _
      refine ct_ent (ent_rowd hwa (by rw [hwa]) Ent.refl) ?_
      have hwl3 := WL_len (laidV dc bs ss) 2
      rw [hwa] at hwl3
      rw [hwa]
      refine ct_loop (X := Nat) (fun i => (wantV (laidV dc bs ss)).length - i) (fun i => i ≤ (wantV (laidV dc bs ss)).length) (fun i => [(14, .int .i64 ((i : Int))), (7, .slice A ((wantV (laidV dc bs ss)).length) cx), (6, .slice A4 ((layCells dc).toNat) ((layCells dc).toNat)), (5, .pointer (some ⟨b3, 0, none⟩))]) (fun i => rowS A4 ((layCells dc).toNat) ((layCells dc).toNat) 1 ((runCs ((wantV (laidV dc bs ss)).take i) (laidV dc bs ss)).map (Value.int .u64)) :: rowS A ((wantV (laidV dc bs ss)).length) cx 1 ((wantV (laidV dc bs ss)).map (Value.int .i64)) :: pts b3 0 [.int .i64 dc.workers, .int .i64 dc.levels, .int .i64 dc.classes, .int .i64 dc.tasks, .int .i64 dc.deque, .int .i64 dc.heap, .int .i64 dc.batch, .int .i64 dc.age, .int .i64 dc.patience, .slice l2.pa dc.progs.length l2.pc, .slice l2.sa dc.subs.length l2.sc] :: cfgS dc l2 :: L) 0 (by omega) (.cons mem0 (congrArg (Value.int .i64) (by first | rfl | omega | (simp; omega) | simp)) (.cons mem4 rfl (.cons mem5 rfl (.cons mem6 rfl .nil)))) (Ent.swap2) (fun i hi16 => ?_)
      have hi0 := hi16
      have hri := run_ok ((wantV (laidV dc bs ss)).take i) (laidV dc bs ss) hone (fun t ht => want_in hone t (List.mem_of_mem_take ht))
      have hrl := hri.len
      rw [e7] at hrl
      refine ct_seq ?_
      refine ct_seq ?_
      refine ct_region ?_
      refine rt_q (op_move (.tmp mem0)).q wants_none (put_new (by kernel_rfl)) ?_
      refine rt_q (op_move (.tmp mem2)).q wants_none (put_new (by kernel_rfl)) ?_
      refine rt_q (op_len (.tmp mem0) Try.underlying37).q wants_none (put_new (by kernel_rfl)) ?_
      refine rt_q (op_lss (.tmp mem2) (.tmp mem0)).q wants_none (put_new (by kernel_rfl)) ?_
      refine rt_nil ?_
      refine et_then ?_
      refine ct_if (.tmp mem0) (fun h17 => ?_) (fun h17 => ?_)
      · refine ct_skip ?_
        refine et_then ?_
        refine ct_seq ?_
        refine ct_block ?_
        refine ct_seq ?_
        refine ct_region ?_
        refine rt_q (oq_loadA (o := 0) (i := 0) (k := 11) (us := [.int .i64 dc.workers, .int .i64 dc.levels, .int .i64 dc.classes, .int .i64 dc.tasks, .int .i64 dc.deque, .int .i64 dc.heap, .int .i64 dc.batch, .int .i64 dc.age, .int .i64 dc.patience, .slice l2.pa dc.progs.length l2.pc, .slice l2.sa dc.subs.length l2.sc]) (.tmp mem7) mem2 (rfl) (by kernel_rfl) rfl rfl) wants_none (put_new (by kernel_rfl)) ?_
        refine rt_q (op_move (.tmp mem7)).q wants_none (put_new (by kernel_rfl)) ?_
        refine rt_q (op_move (.tmp mem6)).q wants_none (put_new (by kernel_rfl)) ?_
        refine rt_q (oq_call0 (by kernel_rfl) (.cons (.tmp mem2) (.cons (.tmp mem1) (.cons (.tmp mem0) (.cons .const .nil)))) (solNextS (t := gi (wantV (laidV dc bs ss)) i) (cs := (runCs ((wantV (laidV dc bs ss)).take i) (laidV dc bs ss))) mem0 mem3 hri.len (by omega) (by omega) hri.wf ((order_law hone _ i).trans (gi_get (by omega))))) wants_none (put_new (by kernel_rfl)) ?_
        refine rt_q (op_move (.tmp mem0)).q wants_none (put_new (by kernel_rfl)) ?_
        refine rt_q (op_extract (.tmp mem0) rfl).q wants_none (put_new (by kernel_rfl)) ?_
        refine rt_q (op_extract (.tmp mem1) rfl).q wants_none (put_new (by kernel_rfl)) ?_
        refine rt_q (op_assign (.tmp mem1)).q wants_none (put_new (by kernel_rfl)) ?_
        refine rt_q (op_assign (.tmp mem1)).q wants_none (put_new (by kernel_rfl)) ?_
        refine rt_nil ?_
        refine et_then ?_
        refine ct_seq ?_
        refine ct_seq ?_
        refine ct_region ?_
        refine rt_q (op_move (.tmp mem0)).q wants_none (put_new (by kernel_rfl)) ?_
        refine rt_q (op_notb (.tmp mem0)).q wants_none (put_new (by kernel_rfl)) ?_
        refine rt_q (op_move (.tmp mem0)).q wants_none (put_new (by kernel_rfl)) ?_
        refine rt_q (op_move (.tmp mem4)).q (wants_some rfl rfl mem0 rfl) (put_new (by kernel_rfl)) ?_
        refine rt_q (op_move (.tmp mem18)).q (wants_some rfl rfl mem1 rfl) (put_new (by kernel_rfl)) ?_
        refine rt_q (op_move (.tmp mem18)).q (wants_some rfl rfl mem2 rfl) (put_new (by kernel_rfl)) ?_
        refine rt_q (oq_indexS (i := i) (.tmp mem1) (.tmp mem0) mem1 (by omega) (by omega) (by omega) (by kernel_rfl) (Nat.mul_one _)) (wants_some rfl rfl mem3 rfl) (put_new (by kernel_rfl)) ?_
        refine rt_q (oq_loadS (i := i) (.tmp mem0) mem1 (gi_map (by omega)) (by kernel_rfl)) (wants_some rfl rfl mem4 rfl) (put_new (by kernel_rfl)) ?_
        refine rt_q (op_neq (.tmp mem4) (.tmp mem0)).q (wants_some rfl rfl mem5 rfl) (put_new (by kernel_rfl)) ?_
        refine rt_q (op_pick (b := false) (.tmp mem6) (.tmp mem0)).q wants_none (put_new (by kernel_rfl)) ?_
        refine rt_nil ?_
        refine et_then ?_
        refine ct_if (.tmp mem0) (fun h18 => ?_) (fun h18 => ?_)
        · exact absurd rfl h18
        · refine ct_skip ?_
          refine et_then ?_
          refine ct_region ?_
          refine rt_q (op_move (.tmp (memU mem5))).q wants_none (put_new (by kernel_rfl)) ?_
          refine rt_q (oq_loadA (o := 0) (i := 0) (k := 11) (us := [.int .i64 dc.workers, .int .i64 dc.levels, .int .i64 dc.classes, .int .i64 dc.tasks, .int .i64 dc.deque, .int .i64 dc.heap, .int .i64 dc.batch, .int .i64 dc.age, .int .i64 dc.patience, .slice l2.pa dc.progs.length l2.pc, .slice l2.sa dc.subs.length l2.sc]) (.tmp (memU mem7)) mem2 (rfl) (by kernel_rfl) rfl rfl) wants_none (put_new (by kernel_rfl)) ?_
          refine rt_q (op_move (.tmp mem13)).q wants_none (put_new (by kernel_rfl)) ?_
          have hte : 0 ≤ (gi (wantV (laidV dc bs ss)) i) ∧ (gi (wantV (laidV dc bs ss)) i) < 6 := want_in hone _ (gi_mem (by omega))
          have hat : atV ((gi (wantV (laidV dc bs ss)) i)) dc.tasks (layTab dc + 0) 5 = layTab dc + 0 + ((gi (wantV (laidV dc bs ss)) i)) * 5 := atV_in (by omega) (by omega)
          refine rt_q (oq_call0 (by kernel_rfl) (.cons (.tmp mem1) (.cons (.tmp mem0) .nil)) (refState_spec dc l2 hn _ _ _ _)) wants_none (put_new (by kernel_rfl)) ?_
          refine rt_q (oq_indexS (i := ((atV ((gi (wantV (laidV dc bs ss)) i)) dc.tasks (layTab dc + 0) 5)).toNat) (.tmp mem3) (.tmp mem0) mem0 (by omega) (by omega) (by omega) (by kernel_rfl) (Nat.mul_one _)) wants_none (put_new (by kernel_rfl)) ?_
          refine rt_t (ot_storeS (i := ((atV ((gi (wantV (laidV dc bs ss)) i)) dc.tasks (layTab dc + 0) 5)).toNat) (.tmp mem0) .const turn0 (by first | omega | (simp only [List.length_map, List.length_set]; omega)) (by kernel_rfl) rfl) wants_none (fun _ => put_none) (fun _ => ?_)
          refine rt_ent ent_set ?_
          refine rt_nil ?_
          refine et_block ?_
          refine et_then ?_
          refine ct_region ?_
          refine rt_q (op_move (.tmp (memU mem8))).q wants_none (put_new (by kernel_rfl)) ?_
          refine rt_q (op_add (.tmp mem0) .const (w64 (by omega) (by omega))).q wants_none (put_new (by kernel_rfl)) ?_
          refine rt_q (op_assign (.tmp mem0)).q wants_none (put_over (pickU pick10) (by kernel_rfl)) ?_
          refine rt_nil ?_
          exact et_again (n := 116) ((i + 1)) (by omega) (by omega) (.cons mem0 (congrArg (Value.int .i64) (by first | rfl | omega | (simp; omega) | simp)) (.cons (memU mem11) rfl (.cons (memU mem12) rfl (.cons (memU mem13) rfl .nil)))) ((ent_rowd (run_snoc (by omega) (by rw [hat]; congr 1)) rfl Ent.refl))
      · have hnone : nextV dc (runCs ((wantV (laidV dc bs ss)).take i) (laidV dc bs ss)) 0 0 = none := (order_law hone _ i).trans (List.getElem?_eq_none (by omega))
        refine ct_exit ?_
        refine et_then_exit ?_
        refine et_then_exit ?_
        refine et_block_here ?_
        refine et_then ?_
        refine ct_seq ?_
        refine ct_region ?_
        refine rt_q (oq_loadA (o := 0) (i := 0) (k := 11) (us := [.int .i64 dc.workers, .int .i64 dc.levels, .int .i64 dc.classes, .int .i64 dc.tasks, .int .i64 dc.deque, .int .i64 dc.heap, .int .i64 dc.batch, .int .i64 dc.age, .int .i64 dc.patience, .slice l2.pa dc.progs.length l2.pc, .slice l2.sa dc.subs.length l2.sc]) (.tmp mem7) mem2 (rfl) (by kernel_rfl) rfl rfl) wants_none (put_new (by kernel_rfl)) ?_
        refine rt_q (op_move (.tmp mem7)).q wants_none (put_new (by kernel_rfl)) ?_
        refine rt_q (oq_call0 (by kernel_rfl) (.cons (.tmp mem1) (.cons (.tmp mem0) (.cons .const (.cons .const .nil)))) (solNextN (cs := (runCs ((wantV (laidV dc bs ss)).take i) (laidV dc bs ss))) mem0 mem3 hri.len (by omega) (by omega) hri.wf hnone)) wants_none (put_new (by kernel_rfl)) ?_
        refine rt_q (op_move (.tmp mem0)).q wants_none (put_new (by kernel_rfl)) ?_
        refine rt_q (op_extract (.tmp mem0) rfl).q wants_none (put_new (by kernel_rfl)) ?_
        refine rt_q (op_extract (.tmp mem1) rfl).q wants_none (put_new (by kernel_rfl)) ?_
        refine rt_q (op_assign (.tmp mem1)).q wants_none (put_new (by kernel_rfl)) ?_
        refine rt_q (op_assign (.tmp mem1)).q wants_none (put_new (by kernel_rfl)) ?_
        refine rt_nil ?_
        refine et_then ?_
        refine ct_seq ?_
        refine ct_region ?_
        refine rt_q (oq_call0 (by kernel_rfl) .nil (awake_spec _)) wants_none (put_new (by kernel_rfl)) ?_
        refine rt_q (op_move (.tmp mem0)).q wants_none (put_new (by kernel_rfl)) ?_
        refine rt_q (op_move (.tmp mem2)).q (wants_some rfl rfl mem0 rfl) (put_new (by kernel_rfl)) ?_
        refine rt_q (op_notb (.tmp mem0)).q (wants_some rfl rfl mem1 rfl) (put_new (by kernel_rfl)) ?_
        refine rt_q (op_pick (b := true) (.tmp mem2) (.tmp mem0)).q wants_none (put_new (by kernel_rfl)) ?_
        refine rt_q (op_assign (.tmp mem0)).q wants_none (put_new (by kernel_rfl)) ?_
        refine rt_nil ?_
        refine et_then ?_
        refine ct_ret ?_
        exact et_ret rfl (.cons mem0 .nil) (by rfl) (Ent.drop.trans (Ent.drop.trans (Ent.drop.trans Ent.drop)))

end Go.Proofs.Ytkfkiaieeiodnaa
