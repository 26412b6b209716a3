/- Walks by program: the reference's sort. -/
import Derived.Test.YtkfkiaieeiodnaaSo7
namespace Go.Proofs.Ytkfkiaieeiodnaa
open Go Go.RowKit
theorem src_pieceI {B : Nat} {W : World} {L : List SProp} {A : Option Addr} {m c l j cap : Nat} {k : IntKind} {xs : List Int} (h : rowS A m c 1 (xs.map (Value.int k)) ∈ L) (hl : l + j ≤ m) (hc : m ≤ cap) : Src B W L (if cap = l then A else A.map fun a => a.add (l * 1)) j (((xs.drop l).take j).map (Value.int k)) := by
  have := src_piece (B := B) (W := W) (j := j) h hl hc
  rw [List.map_take, List.map_drop]; exact this
theorem src_piece0 {B : Nat} {W : World} {L : List SProp} {A : Option Addr} {m c j cap : Nat} {k : IntKind} {xs : List Int} (h : rowS A m c 1 (xs.map (Value.int k)) ∈ L) (hl : j ≤ m) (hc : m ≤ cap) : Src B W L A (j - 0) ((xs.take j).map (Value.int k)) := by
  have := src_piece (B := B) (W := W) (j := j) (l := 0) (cap := cap) h (by omega) hc
  rw [piece0] at this
  simpa using this
theorem rowS_cap {B : Nat} {W : World} {L : List SProp} {A : Option Addr} {m c : Nat} {vs : List Value} (h : rowS A m c 1 vs ∈ L) (w : World) (hw : Cls B W L w) : m ≤ c := (sat_rowS hw.2.2 h).2.1
theorem sort_grow {l : List Int} {i j : Nat} (hi : i < l.length) (hj : j ≤ (sortV (l.take i)).length) (h1 : ∀ e ∈ (sortV (l.take i)).take j, e ≤ gi l i) (h2 : j = (sortV (l.take i)).length ∨ ¬ gi (sortV (l.take i)) j ≤ gi l i) :
    [] ++ (sortV (l.take i)).take j ++ [gi l i] ++ ((sortV (l.take i)).drop j).take (i - j) = sortV (l.take (i + 1)) := by
  have hl : (sortV (l.take i)).length = i := by rw [sortV_len]; simp; omega
  have e : insV (gi l i) (sortV (l.take i)) = insAt (sortV (l.take i)) (gi l i) j := insV_at hj h1 (fun h => by
    rcases h2 with h2 | h2
    · omega
    · have : gi (sortV (l.take i)) j = (sortV (l.take i))[j] := by simp [gi, h]
      omega)
  rw [take_gi hi, sortV_snoc, e]
  unfold insAt
  have e2 : ((sortV (l.take i)).drop j).take (i - j) = (sortV (l.take i)).drop j := List.take_of_length_le (by rw [List.length_drop, hl]; omega)
  rw [e2]; simp
theorem take_le_step {s : List Int} {x : Int} {j : Nat} (hj : j < s.length) (h : ∀ e ∈ s.take j, e ≤ x) (hx : gi s j ≤ x) : ∀ e ∈ s.take (j + 1), e ≤ x := by
  intro e he
  rw [take_gi hj] at he
  rcases List.mem_append.1 he with h1 | h1
  · exact h e h1
  · simp at h1; omega
theorem ent14 {L : List SProp} {A : Option Addr} {m n c : Nat} {f : Int → Value} {xs ys : List Int} {X : SProp} (h : xs = ys) (hn : n = m) : Ent (rowS A n c 1 (xs.map f) :: X :: L) (rowS A m c 1 (ys.map f) :: L) := by
  subst h hn; exact Ent.cons (fun _ h => h) Ent.drop

set_option maxRecDepth 100000 in
theorem refSorted_spec (A0 : Option Addr) (cap : Nat) (xs : List Int) (h2 : xs.length ≤ 64) {B : Nat} {W : World} (hS : Sl encU 1 W B A0 xs) : Fn_ Try.prog 54 #[.slice A0 xs.length cap] B W [] (X := Option Addr × Nat) (fun p => .slice p.1 xs.length p.2) (fun p => [rowS p.1 xs.length p.2 1 ((sortV xs).map (Value.int .u64))]) := by
  refine fn_enter Try.func54 rfl (m := 48) rfl (Nat.le_of_ble_eq_true rfl) (R := [(0, .slice A0 xs.length cap)]) (by kernel_rfl) (fun F => ?_)
  refine ct_seq ?_
  refine ct_region ?_
  refine rt_q (op_assign .const).q wants_none (put_new (by kernel_rfl)) ?_
  refine rt_nil ?_
  refine et_then ?_
  refine ct_seq ?_
  refine ct_region ?_
  refine rt_q (op_assign .const).q wants_none (put_new (by kernel_rfl)) ?_
  refine rt_nil ?_
  refine et_then ?_
  refine ct_seq ?_
  refine ct_seq ?_
  refine ct_region ?_
  refine rt_q (op_assign .const).q wants_none (put_new (by kernel_rfl)) ?_
  refine rt_nil ?_
  refine et_then ?_
  refine ct_block ?_
  refine ct_ent (ent_nil 1) ?_
  refine ct_loop3 (X := Nat) (Y := Option Addr) (Z := Nat) (fun i A c => xs.length - i) (fun i A c => i ≤ xs.length) (fun i A c => [(4, .int .i64 ((i : Int))), (3, .slice A i c), (2, .slice none 0 0), (0, .slice A0 xs.length cap)]) (fun i A c => rowS A i c 1 ((sortV (xs.take i)).map (Value.int .u64)) :: [F]) 0 none 0 (by omega) (.cons mem0 (congrArg (Value.int .i64) (by first | rfl | omega | (simp; omega) | simp)) (.cons mem1 (by first | rfl | simp) (.cons mem2 rfl (.cons mem3 rfl .nil)))) (Ent.refl) (fun i A c hi1 => ?_)
  have hi0 := hi1
  refine ct_seq ?_
  refine ct_seq ?_
  refine ct_region ?_
  refine rt_q (op_move (.tmp mem0)).q wants_none (put_new (by kernel_rfl)) ?_
  refine rt_q (op_move (.tmp mem4)).q wants_none (put_new (by kernel_rfl)) ?_
  refine rt_q (op_len (.tmp mem0) Try.underlying26).q wants_none (put_new (by kernel_rfl)) ?_
  refine rt_q (op_lss (.tmp mem2) (.tmp mem0)).q wants_none (put_new (by kernel_rfl)) ?_
  refine rt_nil ?_
  refine et_then ?_
  refine ct_if (.tmp mem0) (fun h2 => ?_) (fun h2 => ?_)
  · have hsl : (sortV (xs.take i)).length = i := by rw [sortV_len]; simp; omega
    refine ct_fact (rowS_cap mem0) (fun hcap => ?_)
    refine ct_skip ?_
    refine et_then ?_
    refine ct_seq ?_
    refine ct_block ?_
    refine ct_seq ?_
    refine ct_region ?_
    refine rt_q (op_assign .const).q wants_none (put_new (by kernel_rfl)) ?_
    refine rt_nil ?_
    refine et_then ?_
    refine ct_seq ?_
    refine ct_block ?_
    refine ct_loop (X := Nat) (fun j => i - j) (fun j => j ≤ i ∧ ∀ e ∈ (sortV (xs.take i)).take j, e ≤ gi xs i) (fun j => [(5, .int .i64 ((j : Int))), (10, .bool (decide ((i : Int) < ((xs.length : Nat) : Int)))), (9, .int .i64 (((xs.length : Nat) : Int))), (8, .slice A0 xs.length cap), (7, .int .i64 ((i : Int))), (4, .int .i64 ((i : Int))), (3, .slice A i c), (2, .slice none 0 0), (0, .slice A0 xs.length cap)]) (fun j => rowS A i c 1 ((sortV (xs.take i)).map (Value.int .u64)) :: [F]) 0 (⟨by omega, by intro e he; simp at he⟩) (.cons mem0 (congrArg (Value.int .i64) (by first | rfl | omega | (simp; omega) | simp)) (.cons mem1 rfl (.cons mem2 rfl (.cons mem3 rfl (.cons mem4 rfl (.cons mem5 rfl (.cons mem6 rfl (.cons mem7 rfl (.cons mem8 rfl .nil))))))))) (Ent.refl) (fun j hi3 => ?_)
    obtain ⟨hjk, hdj⟩ := hi3
    refine ct_seq ?_
    refine ct_seq ?_
    refine ct_draw (by kernel_rfl) (by kernel_rfl) ?_
    refine qt_q (op_move (.tmp mem0)).q wants_none (put_new (by kernel_rfl)) ?_
    refine qt_q (op_move (.tmp mem7)).q wants_none (put_new (by kernel_rfl)) ?_
    refine qt_q (op_len (.tmp mem0) Try.underlying26).q wants_none (put_new (by kernel_rfl)) ?_
    refine qt_q (op_lss (.tmp mem2) (.tmp mem0)).q wants_none (put_new (by kernel_rfl)) ?_
    refine qt_q (op_move (.tmp mem0)).q wants_none (put_new (by kernel_rfl)) ?_
    refine qt_case turn0 turn0 (fun h4 => ?_) (fun h4 => ?_)
    · refine qt_q (op_move (.tmp mem11)).q (wants_some rfl rfl mem0 rfl) (put_new (by kernel_rfl)) ?_
      refine qt_q (op_move (.tmp mem6)).q (wants_some rfl rfl mem1 rfl) (put_new (by kernel_rfl)) ?_
      refine qt_q (oq_indexS (i := j) (.tmp mem1) (.tmp mem0) mem0 (by omega) (by omega) (by omega) (by kernel_rfl) (Nat.mul_one _)) (wants_some rfl rfl mem2 rfl) (put_new (by kernel_rfl)) ?_
      refine qt_q (oq_loadS (i := j) (.tmp mem0) mem0 (gi_map (by rw [hsl]; omega)) (by kernel_rfl)) (wants_some rfl rfl mem3 rfl) (put_new (by kernel_rfl)) ?_
      refine qt_q (op_move (.tmp mem17)).q (wants_some rfl rfl mem4 rfl) (put_new (by kernel_rfl)) ?_
      refine qt_q (op_move (.tmp mem15)).q (wants_some rfl rfl mem5 rfl) (put_new (by kernel_rfl)) ?_
      refine qt_q (op_indexW (i := i) (.tmp mem1) (.tmp mem0) hS (by omega) (by omega) (by omega) (by kernel_rfl) (Nat.mul_one _)).q (wants_some rfl rfl mem6 rfl) (put_new (by kernel_rfl)) ?_
      refine qt_q (oq_loadW1 (i := i) (j := 0) (.tmp mem0) hS (gi_get (by omega)) rfl (by omega) (by kernel_rfl)) (wants_some rfl rfl mem7 rfl) (put_new (by kernel_rfl)) ?_
      refine qt_q (op_leq (.tmp mem4) (.tmp mem0)).q (wants_some rfl rfl mem8 rfl) (put_new (by kernel_rfl)) ?_
      refine qt_q (op_pick (b := true) (.tmp mem9) (.tmp mem0)).q wants_none (put_new (by kernel_rfl)) ?_
      refine qt_nil ?_
      refine et_then ?_
      refine ct_if (.tmp mem0) (fun h5 => ?_) (fun h5 => ?_)
      · refine ct_skip ?_
        refine et_then ?_
        refine ct_block ?_
        refine ct_region ?_
        refine rt_q (op_move (.tmp mem15)).q wants_none (put_new (by kernel_rfl)) ?_
        refine rt_q (op_add (.tmp mem0) .const (w64 (by omega) (by omega))).q wants_none (put_new (by kernel_rfl)) ?_
        refine rt_q (op_assign (.tmp mem0)).q wants_none (put_over pick17 (by kernel_rfl)) ?_
        refine rt_nil ?_
        refine et_block ?_
        exact et_again (n := 48) ((j + 1)) (⟨by omega, take_le_step (by omega) hdj (by assumption)⟩) (by omega) (.cons mem0 (congrArg (Value.int .i64) (by first | rfl | omega | (simp; omega) | simp)) (.cons mem18 rfl (.cons mem19 rfl (.cons (memU mem0) rfl (.cons (memU mem1) rfl (.cons (memU mem2) rfl (.cons (memU mem3) rfl (.cons (memU mem4) rfl (.cons (memU mem5) rfl .nil))))))))) (Ent.refl)
      · refine ct_exit ?_
        refine et_then_exit ?_
        refine et_then_exit ?_
        refine et_block_here ?_
        refine et_then ?_
        refine ct_seq ?_
        refine ct_region ?_
        refine rt_t (ot_buildSlice (T' := 33) (us := []) .nil (fun _ => by kernel_rfl)) wants_none (fun _ => (put_new (by kernel_rfl))) ?_
        rintro b6
        refine rt_q (op_move (.tmp (memU mem2))).q wants_none (put_new (by kernel_rfl)) ?_
        refine rt_q (op_move (.tmp mem17)).q wants_none (put_new (by kernel_rfl)) ?_
        refine rt_q (op_slice_h (h' := j) (.tmp mem1) Try.underlying26 (by kernel_rfl : _ = 1) (by omega) (evalr_cast (.tmp mem0) (by omega)) (by omega)).q wants_none (put_new (by kernel_rfl)) ?_
        refine rt_ent (Ent.cons (rowS_of_pts (n := 0) (sz := 1) (vs := List.map (Value.int .u64) []) rfl (by unfold maxLen; omega)) Ent.refl) ?_
        refine rt_t (ot_appendG (by_ := 8) (z := .int .u64 0) (us := ((sortV (xs.take i)).take j).map (Value.int .u64)) (.tmp mem3) (.tmp mem0) (src_piece0 (cap := c) mem1 (by omega) (by omega)) pick0 Try.underlying26 (infoB_of (by kernel_rfl)) rfl (by decide) (by simp <;> omega) all_ints (by unfold maxLen; omega) (by omega)) wants_none (fun _ => (put_new (by kernel_rfl))) ?_
        rintro ⟨A7, c7⟩
        refine rt_ent ent_app ?_
        refine rt_q (op_assign (.tmp mem0)).q wants_none (put_new (by kernel_rfl)) ?_
        refine rt_nil ?_
        refine et_then ?_
        refine ct_seq ?_
        refine ct_region ?_
        refine rt_q (op_move (.tmp mem0)).q wants_none (put_new (by kernel_rfl)) ?_
        refine rt_q (op_move (.tmp (memU mem10))).q wants_none (put_new (by kernel_rfl)) ?_
        refine rt_q (op_move (.tmp (memU mem8))).q wants_none (put_new (by kernel_rfl)) ?_
        refine rt_q (op_indexW (i := i) (.tmp mem1) (.tmp mem0) hS (by omega) (by omega) (by omega) (by kernel_rfl) (Nat.mul_one _)).q wants_none (put_new (by kernel_rfl)) ?_
        refine rt_q (oq_loadW1 (i := i) (j := 0) (.tmp mem0) hS (gi_get (by omega)) rfl (by omega) (by kernel_rfl)) wants_none (put_new (by kernel_rfl)) ?_
        refine rt_t (ot_buildSlice (T' := 33) (us := [.int .u64 ((gi xs i))]) (.cons (.tmp mem0) .nil) (fun _ => by kernel_rfl)) wants_none (fun _ => (put_new (by kernel_rfl))) ?_
        rintro b8
        refine rt_t (ot_append (by_ := 8) (z := .int .u64 0) (.tmp mem5) (.tmp mem0) (.cons pick1 (.cons pick0 .nil)) Try.underlying26 (infoB_of (by kernel_rfl)) rfl (by decide) rfl rfl (by decide) (by unfold maxLen; omega) (by omega)) wants_none (fun _ => (put_new (by kernel_rfl))) ?_
        rintro ⟨A9, c9⟩
        refine rt_ent ent_snoc ?_
        refine rt_q (op_assign (.tmp mem0)).q wants_none (put_over pick7 (by kernel_rfl)) ?_
        refine rt_nil ?_
        refine et_then ?_
        refine ct_region ?_
        refine rt_q (op_move (.tmp mem0)).q wants_none (put_new (by kernel_rfl)) ?_
        refine rt_q (op_move (.tmp (memU mem15))).q wants_none (put_new (by kernel_rfl)) ?_
        refine rt_q (op_move (.tmp (memU mem10))).q wants_none (put_new (by kernel_rfl)) ?_
        refine rt_q (op_slice_l (l := j) (.tmp mem1) Try.underlying26 (by kernel_rfl : _ = 1) (by omega) (evalr_cast (.tmp mem0) (by omega)) (by omega) (by omega) rfl).q wants_none (put_new (by kernel_rfl)) ?_
        refine rt_t (ot_appendG (by_ := 8) (z := .int .u64 0) (us := (((sortV (xs.take i)).drop j).take (i - j)).map (Value.int .u64)) (.tmp mem3) (.tmp mem0) (src_pieceI mem1 (by omega) (by omega)) pick0 Try.underlying26 (infoB_of (by kernel_rfl)) rfl (by decide) (by simp <;> omega) all_ints (by unfold maxLen; omega) (by omega)) wants_none (fun _ => (put_new (by kernel_rfl))) ?_
        rintro ⟨A10, c10⟩
        refine rt_ent ent_app ?_
        refine rt_q (op_assign (.tmp mem0)).q wants_none (put_over (pickU pick19) (by kernel_rfl)) ?_
        refine rt_nil ?_
        refine et_block ?_
        refine et_then ?_
        refine ct_region ?_
        refine rt_q (op_move (.tmp (memU mem19))).q wants_none (put_new (by kernel_rfl)) ?_
        refine rt_q (op_add (.tmp mem0) .const (w64 (by omega) (by omega))).q wants_none (put_new (by kernel_rfl)) ?_
        refine rt_q (op_assign (.tmp mem0)).q wants_none (put_over (pickU (pickU pick1)) (by kernel_rfl)) ?_
        refine rt_nil ?_
        exact et_again3 (n := 48) (i + 1) A10 c10 (by omega) (by omega) (.cons mem0 (congrArg (Value.int .i64) (by first | rfl | omega | (simp; omega) | simp)) (.cons mem3 (congrArg (fun q => Value.slice _ q _) (by omega)) (.cons (memU (memU mem2)) rfl (.cons (memU (memU mem3)) rfl .nil)))) (ent14 (sort_grow (by omega) (by omega) hdj (by first | exact .inl (by omega) | exact .inr (by assumption))) (by omega))
    · refine qt_skip (wants_some rfl rfl mem0 rfl) (put_new (by kernel_rfl)) ?_
      refine qt_skip (wants_some rfl rfl mem1 rfl) (put_new (by kernel_rfl)) ?_
      refine qt_skip (wants_some rfl rfl mem2 rfl) (put_new (by kernel_rfl)) ?_
      refine qt_skip (wants_some rfl rfl mem3 rfl) (put_new (by kernel_rfl)) ?_
      refine qt_skip (wants_some rfl rfl mem4 rfl) (put_new (by kernel_rfl)) ?_
      refine qt_skip (wants_some rfl rfl mem5 rfl) (put_new (by kernel_rfl)) ?_
      refine qt_skip (wants_some rfl rfl mem6 rfl) (put_new (by kernel_rfl)) ?_
      refine qt_skip (wants_some rfl rfl mem7 rfl) (put_new (by kernel_rfl)) ?_
      refine qt_skip (wants_some rfl rfl mem8 rfl) (put_new (by kernel_rfl)) ?_
      refine qt_q (op_pick (b := false) (.tmp mem9) .const).q wants_none (put_new (by kernel_rfl)) ?_
      refine qt_nil ?_
      refine et_then ?_
      refine ct_false (.tmp mem0) ?_
      refine ct_exit ?_
      refine et_then_exit ?_
      refine et_then_exit ?_
      refine et_block_here ?_
      refine et_then ?_
      refine ct_seq ?_
      refine ct_region ?_
      refine rt_t (ot_buildSlice (T' := 33) (us := []) .nil (fun _ => by kernel_rfl)) wants_none (fun _ => (put_new (by kernel_rfl))) ?_
      rintro b11
      refine rt_q (op_move (.tmp (memU mem2))).q wants_none (put_new (by kernel_rfl)) ?_
      refine rt_q (op_move (.tmp mem17)).q wants_none (put_new (by kernel_rfl)) ?_
      refine rt_q (op_slice_h (h' := j) (.tmp mem1) Try.underlying26 (by kernel_rfl : _ = 1) (by omega) (evalr_cast (.tmp mem0) (by omega)) (by omega)).q wants_none (put_new (by kernel_rfl)) ?_
      refine rt_ent (Ent.cons (rowS_of_pts (n := 0) (sz := 1) (vs := List.map (Value.int .u64) []) rfl (by unfold maxLen; omega)) Ent.refl) ?_
      refine rt_t (ot_appendG (by_ := 8) (z := .int .u64 0) (us := ((sortV (xs.take i)).take j).map (Value.int .u64)) (.tmp mem3) (.tmp mem0) (src_piece0 (cap := c) mem1 (by omega) (by omega)) pick0 Try.underlying26 (infoB_of (by kernel_rfl)) rfl (by decide) (by simp <;> omega) all_ints (by unfold maxLen; omega) (by omega)) wants_none (fun _ => (put_new (by kernel_rfl))) ?_
      rintro ⟨A12, c12⟩
      refine rt_ent ent_app ?_
      refine rt_q (op_assign (.tmp mem0)).q wants_none (put_new (by kernel_rfl)) ?_
      refine rt_nil ?_
      refine et_then ?_
      refine ct_seq ?_
      refine ct_region ?_
      refine rt_q (op_move (.tmp mem0)).q wants_none (put_new (by kernel_rfl)) ?_
      refine rt_q (op_move (.tmp (memU mem10))).q wants_none (put_new (by kernel_rfl)) ?_
      refine rt_q (op_move (.tmp (memU mem8))).q wants_none (put_new (by kernel_rfl)) ?_
      refine rt_q (op_indexW (i := i) (.tmp mem1) (.tmp mem0) hS (by omega) (by omega) (by omega) (by kernel_rfl) (Nat.mul_one _)).q wants_none (put_new (by kernel_rfl)) ?_
      refine rt_q (oq_loadW1 (i := i) (j := 0) (.tmp mem0) hS (gi_get (by omega)) rfl (by omega) (by kernel_rfl)) wants_none (put_new (by kernel_rfl)) ?_
      refine rt_t (ot_buildSlice (T' := 33) (us := [.int .u64 ((gi xs i))]) (.cons (.tmp mem0) .nil) (fun _ => by kernel_rfl)) wants_none (fun _ => (put_new (by kernel_rfl))) ?_
      rintro b13
      refine rt_t (ot_append (by_ := 8) (z := .int .u64 0) (.tmp mem5) (.tmp mem0) (.cons pick1 (.cons pick0 .nil)) Try.underlying26 (infoB_of (by kernel_rfl)) rfl (by decide) rfl rfl (by decide) (by unfold maxLen; omega) (by omega)) wants_none (fun _ => (put_new (by kernel_rfl))) ?_
      rintro ⟨A14, c14⟩
      refine rt_ent ent_snoc ?_
      refine rt_q (op_assign (.tmp mem0)).q wants_none (put_over pick7 (by kernel_rfl)) ?_
      refine rt_nil ?_
      refine et_then ?_
      refine ct_region ?_
      refine rt_q (op_move (.tmp mem0)).q wants_none (put_new (by kernel_rfl)) ?_
      refine rt_q (op_move (.tmp (memU mem15))).q wants_none (put_new (by kernel_rfl)) ?_
      refine rt_q (op_move (.tmp (memU mem10))).q wants_none (put_new (by kernel_rfl)) ?_
      refine rt_q (op_slice_l (l := j) (.tmp mem1) Try.underlying26 (by kernel_rfl : _ = 1) (by omega) (evalr_cast (.tmp mem0) (by omega)) (by omega) (by omega) rfl).q wants_none (put_new (by kernel_rfl)) ?_
      refine rt_t (ot_appendG (by_ := 8) (z := .int .u64 0) (us := (((sortV (xs.take i)).drop j).take (i - j)).map (Value.int .u64)) (.tmp mem3) (.tmp mem0) (src_pieceI mem1 (by omega) (by omega)) pick0 Try.underlying26 (infoB_of (by kernel_rfl)) rfl (by decide) (by simp <;> omega) all_ints (by unfold maxLen; omega) (by omega)) wants_none (fun _ => (put_new (by kernel_rfl))) ?_
      rintro ⟨A15, c15⟩
      refine rt_ent ent_app ?_
      refine rt_q (op_assign (.tmp mem0)).q wants_none (put_over (pickU pick19) (by kernel_rfl)) ?_
      refine rt_nil ?_
      refine et_block ?_
      refine et_then ?_
      refine ct_region ?_
      refine rt_q (op_move (.tmp (memU mem19))).q wants_none (put_new (by kernel_rfl)) ?_
      refine rt_q (op_add (.tmp mem0) .const (w64 (by omega) (by omega))).q wants_none (put_new (by kernel_rfl)) ?_
      refine rt_q (op_assign (.tmp mem0)).q wants_none (put_over (pickU (pickU pick1)) (by kernel_rfl)) ?_
      refine rt_nil ?_
      exact et_again3 (n := 48) (i + 1) A15 c15 (by omega) (by omega) (.cons mem0 (congrArg (Value.int .i64) (by first | rfl | omega | (simp; omega) | simp)) (.cons mem3 (congrArg (fun q => Value.slice _ q _) (by omega)) (.cons (memU (memU mem2)) rfl (.cons (memU (memU mem3)) rfl .nil)))) (ent14 (sort_grow (by omega) (by omega) hdj (by first | exact .inl (by omega) | exact .inr (by assumption))) (by omega))
  · refine ct_exit ?_
    refine et_then_exit ?_
    refine et_then_exit ?_
    refine et_block_here ?_
    refine et_then ?_
    refine ct_seq ?_
    refine ct_region ?_
    refine rt_q (op_move (.tmp mem5)).q wants_none (put_new (by kernel_rfl)) ?_
    refine rt_q (op_assign (.tmp mem0)).q wants_none (put_over pick7 (by kernel_rfl)) ?_
    refine rt_nil ?_
    refine et_then ?_
    refine ct_ret ?_
    obtain rfl : i = xs.length := by omega
    exact et_fn (A, c) rfl (.cons mem0 .nil) (by rfl) (ent_row (by rw [List.take_length]))

end Go.Proofs.Ytkfkiaieeiodnaa
