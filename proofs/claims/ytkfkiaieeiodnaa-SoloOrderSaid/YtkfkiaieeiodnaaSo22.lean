/- Walks by program: the memory that is laid. -/
import Derived.Test.YtkfkiaieeiodnaaSo21
namespace Go.Proofs.Ytkfkiaieeiodnaa
open Go Go.RowKit
def putE (c : Cfg) (cs : List Int) (n : Int) : List Int :=
  let t := topV c (n % c.workers) (n / 4 % c.levels)
  if sizeV (cellAt cs (t + 1)) (cellAt cs t) < c.deque then (cs.set (t + 2 + cellAt cs (t + 1) % c.deque).toNat (n / 8 % c.tasks)).set (t + 1).toNat (IntKind.u64.wrap (cellAt cs (t + 1) + 1)) else cs
def laidE (c : Cfg) (bs : List Nat) (k : Nat) : List Int := (bs.take k).foldl (fun (cs : List Int) (n : Nat) => putE c cs (n : Int)) (List.replicate (layCells c).toNat 0)
def putS (c : Cfg) (ss : List Nat) (cs : List Int) (t : Nat) : List Int :=
  if t < ss.length then (cs.set (layTab c + t * 5).toNat 1).set (layTab c + t * 5).toNat ((byt ss t : Int) % 5) else cs.set (layTab c + t * 5).toNat 1
def laidS (c : Cfg) (bs ss : List Nat) (k : Nat) : List Int := (List.range k).foldl (putS c ss) (laidE c bs 40)
def laidV (c : Cfg) (bs ss : List Nat) : List Int := laidS c bs ss c.tasks.toNat
theorem putE_len {c : Cfg} {cs : List Int} {n : Int} : (putE c cs n).length = cs.length := by
  unfold putE; simp only []; split <;> simp
theorem foldE_len {c : Cfg} : ∀ (bs : List Nat) (cs : List Int), (bs.foldl (fun (cs : List Int) (n : Nat) => putE c cs (n : Int)) cs).length = cs.length
  | [], cs => rfl
  | b :: bs, cs => by rw [List.foldl_cons, foldE_len bs, putE_len]
theorem laidE_len {c : Cfg} {bs : List Nat} {k : Nat} : (laidE c bs k).length = (layCells c).toNat := by unfold laidE; rw [foldE_len]; simp
theorem putS_len {c : Cfg} {ss : List Nat} {cs : List Int} {t : Nat} : (putS c ss cs t).length = cs.length := by
  unfold putS; split <;> simp
theorem foldS_len {c : Cfg} {ss : List Nat} : ∀ (l : List Nat) (cs : List Int), (l.foldl (putS c ss) cs).length = cs.length
  | [], cs => rfl
  | b :: bs, cs => by rw [List.foldl_cons, foldS_len bs, putS_len]
theorem laidS_len {c : Cfg} {bs ss : List Nat} {k : Nat} : (laidS c bs ss k).length = (layCells c).toNat := by unfold laidS; rw [foldS_len, laidE_len]
theorem laidE_step {c : Cfg} {bs : List Nat} {k : Nat} (h : k < bs.length) : laidE c bs (k + 1) = putE c (laidE c bs k) (byt bs k : Int) := by
  unfold laidE
  rw [List.take_succ_eq_append_getElem h, List.foldl_append]
  simp [byt_get h]
theorem laidE_yes {c : Cfg} {bs : List Nat} {k : Nat} {t n : Int} (h : k < bs.length) (hn : n = (byt bs k : Int)) (ht : t = topV c (n % c.workers) (n / 4 % c.levels)) (hs : sizeV (cellAt (laidE c bs k) (t + 1)) (cellAt (laidE c bs k) t) < c.deque) :
    ((laidE c bs k).set (t + 2 + cellAt (laidE c bs k) (t + 1) % c.deque).toNat (n / 8 % c.tasks)).set (t + 1).toNat (IntKind.u64.wrap (cellAt (laidE c bs k) (t + 1) + 1)) = laidE c bs (k + 1) := by
  subst hn ht; rw [laidE_step h]; unfold putE; exact (if_pos hs).symm
theorem laidE_no {c : Cfg} {bs : List Nat} {k : Nat} {t n : Int} (h : k < bs.length) (hn : n = (byt bs k : Int)) (ht : t = topV c (n % c.workers) (n / 4 % c.levels)) (hs : ¬ sizeV (cellAt (laidE c bs k) (t + 1)) (cellAt (laidE c bs k) t) < c.deque) : laidE c bs k = laidE c bs (k + 1) := by
  subst hn ht; rw [laidE_step h]; unfold putE; exact (if_neg hs).symm
theorem laidE_all {c : Cfg} {bs : List Nat} {k : Nat} (h : k = 40 ∨ k = bs.length) (h2 : k ≤ 40) : laidE c bs k = laidE c bs 40 := by
  unfold laidE
  rcases h with h | h
  · rw [h]
  · rw [List.take_of_length_le (by omega), List.take_of_length_le (by omega)]
theorem laidS_step {c : Cfg} {bs ss : List Nat} {k : Nat} : laidS c bs ss (k + 1) = putS c ss (laidS c bs ss k) k := by
  unfold laidS; rw [List.range_succ, List.foldl_append]; rfl
theorem laidS_yes {c : Cfg} {bs ss : List Nat} {k : Nat} {i : Nat} (hi : i = (layTab c + (k : Int) * 5).toNat) (h : k < ss.length) : ((laidS c bs ss k).set i 1).set i ((byt ss k : Int) % 5) = laidS c bs ss (k + 1) := by
  subst hi; rw [laidS_step]; unfold putS; exact (if_pos h).symm
theorem laidS_no {c : Cfg} {bs ss : List Nat} {k : Nat} {i : Nat} (hi : i = (layTab c + (k : Int) * 5).toNat) (h : ¬ k < ss.length) : (laidS c bs ss k).set i 1 = laidS c bs ss (k + 1) := by
  subst hi; rw [laidS_step]; unfold putS; exact (if_neg h).symm
theorem cwf_set {cs : List Int} {i : Nat} {x : Int} (h : CWf cs) (hx : 0 ≤ x ∧ x ≤ 18446744073709551615) : CWf (cs.set i x) := fun j => by
  unfold gi
  rw [List.getD_eq_getElem?_getD, List.getElem?_set]
  split
  · split
    · exact hx
    · simp
  · rw [← List.getD_eq_getElem?_getD]; exact h j
theorem cwf_zero (n : Nat) : CWf (List.replicate n 0) := fun j => by
  unfold gi
  rw [List.getD_eq_getElem?_getD, List.getElem?_replicate]
  split <;> simp
theorem putE_wf {c : Cfg} {cs : List Int} {n : Int} (hc : CNums c) (h : CWf cs) : CWf (putE c cs n) := by
  unfold putE; simp only []
  split
  · have ht := hc.t
    have h1 := Int.emod_nonneg (n / 8) (show c.tasks ≠ 0 by omega)
    have h2 := Int.emod_lt_of_pos (n / 8) (show 0 < c.tasks by omega)
    exact cwf_set (cwf_set h ⟨h1, by omega⟩) (wrapu_bd _)
  · exact h
theorem foldE_wf {c : Cfg} (hc : CNums c) : ∀ (bs : List Nat) (cs : List Int), CWf cs → CWf (bs.foldl (fun (cs : List Int) (n : Nat) => putE c cs (n : Int)) cs)
  | [], cs, h => h
  | b :: bs, cs, h => by rw [List.foldl_cons]; exact foldE_wf hc bs _ (putE_wf hc h)
theorem laidE_wf {c : Cfg} (hc : CNums c) (bs : List Nat) (k : Nat) : CWf (laidE c bs k) := foldE_wf hc _ _ (cwf_zero _)
theorem putS_wf {c : Cfg} {ss : List Nat} {cs : List Int} {t : Nat} (h : CWf cs) : CWf (putS c ss cs t) := by
  unfold putS
  split
  · exact cwf_set (cwf_set h (by omega)) (by omega)
  · exact cwf_set h (by omega)
theorem foldS_wf {c : Cfg} {ss : List Nat} : ∀ (l : List Nat) (cs : List Int), CWf cs → CWf (l.foldl (putS c ss) cs)
  | [], cs, h => h
  | b :: bs, cs, h => by rw [List.foldl_cons]; exact foldS_wf bs _ (putS_wf h)
theorem laidS_wf {c : Cfg} (hc : CNums c) (bs ss : List Nat) (k : Nat) : CWf (laidS c bs ss k) := foldS_wf _ _ (laidE_wf hc _ _)
theorem byt_at {bs : List Nat} {i : Nat} (h : i < bs.length) : bs[i]? = some (byt bs i) := by rw [byt_get h]; exact List.getElem?_eq_getElem h
theorem row_zeros {n b : Nat} (hn : n ≤ maxLen) (h : Hp) (p : pts b 0 (List.replicate n (Value.int .u64 0)) h) : rowS (some ⟨b, 0, none⟩) n n 1 ((List.replicate n (0 : Int)).map (Value.int .u64)) h :=
  rowS_of_pts (by simp) hn h (by simpa using p)
theorem la_ent {L : List SProp} {A : Option Addr} {n : Nat} {f : Int → Value} {xs ys : List Int} {X : SProp} (h : xs = ys) : Ent (rowS A n n 1 (xs.map f) :: X :: L) (rowS A n n 1 (ys.map f) :: L) := by
  subst h; exact Ent.cons (fun _ h => h) Ent.drop

set_option maxRecDepth 100000 in
theorem laid_spec (c : Cfg) (l : CfgAt) (hn : CNums c) (BA : Option Addr) (bc : Nat) (bs : List Nat) (hbw : BytesWf bs) (SA : Option Addr) (sc : Nat) (ss : List Nat) (hsw : BytesWf ss) {B : Nat} {W : World} (hbS : Sl encByte 1 W B BA bs) (hsS : Sl encByte 1 W B SA ss) : Fn_ Try.prog 10 #[.agg #[.int .i64 c.workers, .int .i64 c.levels, .int .i64 c.classes, .int .i64 c.tasks, .int .i64 c.deque, .int .i64 c.heap, .int .i64 c.batch, .int .i64 c.age, .int .i64 c.patience, .slice l.pa c.progs.length l.pc, .slice l.sa c.subs.length l.sc], .slice BA bs.length bc, .slice SA ss.length sc] B W [] (X := Option Addr) (fun A => .slice A (layCells c).toNat (layCells c).toNat) (fun A => [rowS A (layCells c).toNat (layCells c).toNat 1 ((laidV c bs ss).map (Value.int .u64))]) := by
  have hd := hn.d
  have hh := hn.h
  have hww := hn.w
  have hlv := hn.l
  have htt := hn.t
  obtain ⟨t1, t2, t3, t4, t5⟩ := tab_in hn
  have hcl : layCells c = layTab c + 5 * c.tasks := rfl
  have htop := fun w v => top_in (c := c) hn (w := w) (l := v)
  refine fn_enter Try.func10 rfl (m := 101) rfl (Nat.le_of_ble_eq_true rfl) (R := [(0, .agg #[.int .i64 c.workers, .int .i64 c.levels, .int .i64 c.classes, .int .i64 c.tasks, .int .i64 c.deque, .int .i64 c.heap, .int .i64 c.batch, .int .i64 c.age, .int .i64 c.patience, .slice l.pa c.progs.length l.pc, .slice l.sa c.subs.length l.sc]), (1, .slice BA bs.length bc), (2, .slice SA ss.length sc)]) (by kernel_rfl) (fun F => ?_)
  refine ct_seq ?_
  refine ct_region ?_
  refine rt_t (ot_box (.tmp mem0) (us := [.int .i64 c.workers, .int .i64 c.levels, .int .i64 c.classes, .int .i64 c.tasks, .int .i64 c.deque, .int .i64 c.heap, .int .i64 c.batch, .int .i64 c.age, .int .i64 c.patience, .slice l.pa c.progs.length l.pc, .slice l.sa c.subs.length l.sc]) rfl) wants_none (fun _ => (put_new (by kernel_rfl))) ?_
  rintro b1
  refine rt_q (op_assign .const).q wants_none (put_new (by kernel_rfl)) ?_
  refine rt_nil ?_
  refine et_then ?_
  refine ct_seq ?_
  refine ct_region ?_
  refine rt_q (oq_loadA (o := 0) (i := 0) (k := 11) (us := [.int .i64 c.workers, .int .i64 c.levels, .int .i64 c.classes, .int .i64 c.tasks, .int .i64 c.deque, .int .i64 c.heap, .int .i64 c.batch, .int .i64 c.age, .int .i64 c.patience, .slice l.pa c.progs.length l.pc, .slice l.sa c.subs.length l.sc]) (.tmp mem1) mem0 (rfl) (by kernel_rfl) rfl rfl) wants_none (put_new (by kernel_rfl)) ?_
  refine rt_q (oq_call0 (by kernel_rfl) (.cons (.tmp mem0) .nil) (refCells_spec c l hn B W _)) wants_none (put_new (by kernel_rfl)) ?_
  refine rt_t (ot_make (E := 33) (z := .int .u64 0) (by_ := 8) (.tmp mem0) (.tmp mem0) Try.underlying26 (infoB_of (by kernel_rfl)) rfl (by omega) (by omega) (by decide)) wants_none (fun _ => (put_new (by kernel_rfl))) ?_
  rintro b2
  refine rt_q (op_assign (.tmp mem0)).q wants_none (put_new (by kernel_rfl)) ?_
  refine rt_nil ?_
  refine et_then ?_
  refine ct_seq ?_
  refine ct_seq ?_
  refine ct_region ?_
  refine rt_q (op_assign .const).q wants_none (put_new (by kernel_rfl)) ?_
  refine rt_nil ?_
  refine et_then ?_
  refine ct_block ?_
  refine ct_ent (Ent.cons (row_zeros (by unfold maxLen; omega)) Ent.refl) ?_
  refine ct_loop (X := Nat) (fun i => bs.length - i) (fun i => i ≤ bs.length ∧ i ≤ 40) (fun i => [(8, .int .i64 ((i : Int))), (7, .slice (some ⟨b2, 0, none⟩) ((layCells c).toNat) ((layCells c).toNat)), (6, .slice none 0 0), (3, .pointer (some ⟨b1, 0, none⟩)), (1, .slice BA bs.length bc), (2, .slice SA ss.length sc)]) (fun i => rowS ((some ⟨b2, 0, none⟩)) ((layCells c).toNat) ((layCells c).toNat) 1 ((laidE c bs i).map (Value.int .u64)) :: pts b1 0 [.int .i64 c.workers, .int .i64 c.levels, .int .i64 c.classes, .int .i64 c.tasks, .int .i64 c.deque, .int .i64 c.heap, .int .i64 c.batch, .int .i64 c.age, .int .i64 c.patience, .slice l.pa c.progs.length l.pc, .slice l.sa c.subs.length l.sc] :: [F]) 0 (⟨by omega, by omega⟩) (.cons mem0 (congrArg (Value.int .i64) (by first | rfl | omega | (simp; omega) | simp)) (.cons mem1 rfl (.cons mem5 rfl (.cons mem6 rfl (.cons mem8 rfl (.cons mem9 rfl .nil)))))) ((ent_rowd (by unfold laidE; rfl) rfl Ent.refl)) (fun i hi3 => ?_)
  obtain ⟨hi0, hi1⟩ := hi3
  have hll := laidE_len (c := c) (bs := bs) (k := i)
  have hlw := laidE_wf hn bs i
  have hby := hbw i
  have hw1 := Int.emod_nonneg ((byt bs i : Nat) : Int) (show c.workers ≠ 0 by omega)
  have hw2 := Int.emod_lt_of_pos ((byt bs i : Nat) : Int) (show 0 < c.workers by omega)
  have hv1 := Int.emod_nonneg (((byt bs i : Nat) : Int) / 4) (show c.levels ≠ 0 by omega)
  have hv2 := Int.emod_lt_of_pos (((byt bs i : Nat) : Int) / 4) (show 0 < c.levels by omega)
  have hx1 := Int.emod_nonneg (((byt bs i : Nat) : Int) / 8) (show c.tasks ≠ 0 by omega)
  have hx2 := Int.emod_lt_of_pos (((byt bs i : Nat) : Int) / 8) (show 0 < c.tasks by omega)
  obtain ⟨_, _, _, _, q5, q6⟩ := top_in hn ⟨hw1, hw2⟩ ⟨hv1, hv2⟩
  refine ct_seq ?_
  refine ct_seq ?_
  refine ct_region ?_
  refine rt_q (op_move (.tmp mem0)).q wants_none (put_new (by kernel_rfl)) ?_
  refine rt_q (op_move (.tmp mem5)).q wants_none (put_new (by kernel_rfl)) ?_
  refine rt_q (op_len (.tmp mem0) Try.underlying30).q wants_none (put_new (by kernel_rfl)) ?_
  refine rt_q (op_lss (.tmp mem2) (.tmp mem0)).q wants_none (put_new (by kernel_rfl)) ?_
  refine rt_q (op_move (.tmp mem0)).q wants_none (put_new (by kernel_rfl)) ?_
  refine rt_case turn0 turn0 (fun h4 => ?_) (fun h4 => ?_)
  · refine rt_q (op_move (.tmp mem5)).q (wants_some rfl rfl mem0 rfl) (put_new (by kernel_rfl)) ?_
    refine rt_q (op_lss (.tmp mem0) .const).q (wants_some rfl rfl mem1 rfl) (put_new (by kernel_rfl)) ?_
    refine rt_q (op_pick (b := true) (.tmp mem2) (.tmp mem0)).q wants_none (put_new (by kernel_rfl)) ?_
    refine rt_nil ?_
    refine et_then ?_
    refine ct_if (.tmp mem0) (fun h5 => ?_) (fun h5 => ?_)
    · refine ct_skip ?_
      refine et_then ?_
      refine ct_seq ?_
      refine ct_block ?_
      refine ct_seq ?_
      refine ct_region ?_
      refine rt_q (op_move (.tmp mem12)).q wants_none (put_new (by kernel_rfl)) ?_
      refine rt_q (op_move (.tmp mem9)).q wants_none (put_new (by kernel_rfl)) ?_
      refine rt_q (op_indexW (i := i) (.tmp mem1) (.tmp mem0) hbS (by omega) (by omega) (by omega) (by kernel_rfl) (Nat.mul_one _)).q wants_none (put_new (by kernel_rfl)) ?_
      refine rt_q (oq_loadW1 (i := i) (j := 0) (.tmp mem0) hbS (byt_at (by omega)) rfl (by omega) (by kernel_rfl)) wants_none (put_new (by kernel_rfl)) ?_
      refine rt_q (op_conv (.tmp mem0) Try.underlying5 Try.underlying3 (w64 (by omega) (by omega))).q wants_none (put_new (by kernel_rfl)) ?_
      refine rt_q (op_assign (.tmp mem0)).q wants_none (put_new (by kernel_rfl)) ?_
      refine rt_nil ?_
      refine et_then ?_
      refine ct_seq ?_
      refine ct_cut (X := Nat) (fun bq => True) (fun bq => [(10, .pointer (some ⟨bq, 0, none⟩)), (9, .int .i64 (((byt bs i : Nat) : Int))), (30, .int .i64 (((byt bs i : Nat) : Int))), (29, .int .u8 (((byt bs i : Nat) : Int))), (28, idx BA i), (27, .int .i64 ((i : Int))), (26, .slice BA bs.length bc), (23, .bool (decide ((i : Int) < 40))), (22, .bool (decide ((i : Int) < 40))), (21, .int .i64 ((i : Int))), (20, .bool true), (19, .bool (decide ((i : Int) < ((bs.length : Nat) : Int)))), (18, .int .i64 (((bs.length : Nat) : Int))), (17, .slice BA bs.length bc), (16, .int .i64 ((i : Int))), (8, .int .i64 ((i : Int))), (7, .slice (some ⟨b2, 0, none⟩) ((layCells c).toNat) ((layCells c).toNat)), (6, .slice none 0 0), (3, .pointer (some ⟨b1, 0, none⟩)), (1, .slice BA bs.length bc), (2, .slice SA ss.length sc)]) (fun bq => pts bq 0 [.int .i64 ((topV c (((byt bs i : Nat) : Int) % c.workers) (((byt bs i : Nat) : Int) / 4 % c.levels))), .int .i64 (((topV c (((byt bs i : Nat) : Int) % c.workers) (((byt bs i : Nat) : Int) / 4 % c.levels)) + 1)), .int .i64 (((topV c (((byt bs i : Nat) : Int) % c.workers) (((byt bs i : Nat) : Int) / 4 % c.levels)) + 2)), .int .i64 c.deque] :: rowS ((some ⟨b2, 0, none⟩)) ((layCells c).toNat) ((layCells c).toNat) 1 ((laidE c bs i).map (Value.int .u64)) :: pts b1 0 [.int .i64 c.workers, .int .i64 c.levels, .int .i64 c.classes, .int .i64 c.tasks, .int .i64 c.deque, .int .i64 c.heap, .int .i64 c.batch, .int .i64 c.age, .int .i64 c.patience, .slice l.pa c.progs.length l.pc, .slice l.sa c.subs.length l.sc] :: [F]) ?_ (fun bq hx => (?_ : CT _ _ _ _ _ _ _ _ _))
      · refine ct_any 13 (by kernel_rfl) rfl (listed := #[false, false, false, false, false, false, false, false, false, false, false, false, false]) rfl ?_
        refine at_take 1 (by kernel_rfl) (l' := #[false, true, false, false, false, false, false, false, false, false, false, false, false]) rfl rfl rfl (op_move (.tmp mem0)) wants_none (put_new (by kernel_rfl)) ?_
        refine at_take 2 (by kernel_rfl) (l' := #[false, true, true, false, false, false, false, false, false, false, false, false, false]) rfl rfl rfl (op_field (k := 0) (o' := 0) (.tmp mem18) (by kernel_rfl) (by rfl)) wants_none (put_new (by kernel_rfl)) ?_
        refine at_take 5 (by kernel_rfl) (l' := #[false, true, true, false, false, true, false, false, false, false, false, false, false]) rfl rfl rfl (op_move (.tmp mem2)) wants_none (put_new (by kernel_rfl)) ?_
        refine at_take 6 (by kernel_rfl) (l' := #[false, true, true, false, false, true, true, false, false, false, false, false, false]) rfl rfl rfl (op_quo (.tmp mem0) .const (by omega) (quo64 (by omega) (by omega) (by omega))) wants_none (put_new (by kernel_rfl)) ?_
        refine at_take 7 (by kernel_rfl) (l' := #[false, true, true, false, false, true, true, true, false, false, false, false, false]) rfl rfl rfl (op_field (k := 1) (o' := 1) (.tmp (memU mem1)) (by kernel_rfl) (by rfl)) wants_none (put_new (by kernel_rfl)) ?_
        refine at_each (H := [0, 3, 8, 11]) (by kernel_rfl) rfl (each_cons ?_ (each_cons ?_ (each_cons ?_ (each_cons ?_ each_nil))))
        · show ST _ _ _ _ _ _ _ _ _ _ _
          refine st_q (l' := #[true, true, true, false, false, true, true, true, false, false, false, false, false]) rfl rfl (oq_loadA (o := 0) (i := 0) (k := 11) (us := [.int .i64 c.workers, .int .i64 c.levels, .int .i64 c.classes, .int .i64 c.tasks, .int .i64 c.deque, .int .i64 c.heap, .int .i64 c.batch, .int .i64 c.age, .int .i64 c.patience, .slice l.pa c.progs.length l.pc, .slice l.sa c.subs.length l.sc]) (.tmp (memU mem2)) mem1 (rfl) (by kernel_rfl) rfl rfl) wants_none (put_new (by kernel_rfl)) ?_
          refine at_each (H := [3, 8, 11]) (by kernel_rfl) rfl (each_cons ?_ (each_cons ?_ (each_cons ?_ each_nil)))
          · show ST _ _ _ _ _ _ _ _ _ _ _
            refine st_q (l' := #[true, true, true, true, false, true, true, true, false, false, false, false, false]) rfl rfl (oq_load (o := 0) (i := 0) (.tmp mem4) mem1 (rfl) rfl (by kernel_rfl)) wants_none (put_new (by kernel_rfl)) ?_
            refine at_take 4 (by kernel_rfl) (l' := #[true, true, true, true, true, true, true, true, false, false, false, false, false]) rfl rfl rfl (op_rem (.tmp mem6) (.tmp mem0) (by omega) (rem64 (by omega))) wants_none (put_new (by kernel_rfl)) ?_
            refine at_each (H := [8, 11]) (by kernel_rfl) rfl (each_cons ?_ (each_cons ?_ each_nil))
            · show ST _ _ _ _ _ _ _ _ _ _ _
              refine st_q (l' := #[true, true, true, true, true, true, true, true, true, false, false, false, false]) rfl rfl (oq_load (o := 0) (i := 1) (.tmp mem3) mem1 (rfl) rfl (by kernel_rfl)) wants_none (put_new (by kernel_rfl)) ?_
              refine at_take 9 (by kernel_rfl) (l' := #[true, true, true, true, true, true, true, true, true, true, false, false, false]) rfl rfl rfl (op_rem (.tmp mem5) (.tmp mem0) (by omega) (rem64 (by omega))) wants_none (put_new (by kernel_rfl)) ?_
              refine at_each (H := [10, 11]) (by kernel_rfl) rfl (each_cons ?_ (each_cons ?_ each_nil))
              · show ST _ _ _ _ _ _ _ _ _ _ _
                refine st_q (l' := #[true, true, true, true, true, true, true, true, true, true, true, false, false]) rfl rfl (oq_call0 (by kernel_rfl) (.cons (.tmp mem4) (.cons (.tmp mem2) (.cons (.tmp mem0) .nil))) (refQueue_spec c l hn _ _ (by omega) (by omega) B W _)) wants_none (put_new (by kernel_rfl)) ?_
                refine at_t 11 (by kernel_rfl) (l' := #[true, true, true, true, true, true, true, true, true, true, true, true, false]) rfl rfl (ot_alloc (v := .agg #[.int .i64 0, .int .i64 0, .int .i64 0, .int .i64 0]) (us := [.int .i64 0, .int .i64 0, .int .i64 0, .int .i64 0]) (by kernel_rfl) rfl) wants_none (fun _ => (put_new (by kernel_rfl))) ?_
                rintro b6
                refine at_t 12 (by kernel_rfl) (l' := #[true, true, true, true, true, true, true, true, true, true, true, true, true]) rfl rfl (ot_store (o := 0) (i := 0) (k := 4) (us := [.int .i64 ((topV c ((((byt bs i : Nat) : Int) % c.workers)) (((((byt bs i : Nat) : Int) / 4) % c.levels)))), .int .i64 ((topV c ((((byt bs i : Nat) : Int) % c.workers)) (((((byt bs i : Nat) : Int) / 4) % c.levels)) + 1)), .int .i64 ((topV c ((((byt bs i : Nat) : Int) % c.workers)) (((((byt bs i : Nat) : Int) / 4) % c.levels)) + 2)), .int .i64 c.deque]) (ws := [.int .i64 ((topV c ((((byt bs i : Nat) : Int) % c.workers)) (((((byt bs i : Nat) : Int) / 4) % c.levels)))), .int .i64 ((topV c ((((byt bs i : Nat) : Int) % c.workers)) (((((byt bs i : Nat) : Int) / 4) % c.levels)) + 1)), .int .i64 ((topV c ((((byt bs i : Nat) : Int) % c.workers)) (((((byt bs i : Nat) : Int) / 4) % c.levels)) + 2)), .int .i64 c.deque]) (.tmp mem0) (.tmp mem1) turn0 (rfl) (by kernel_rfl) rfl (by decide) rfl rfl (by simp) rfl) wants_none (fun _ => put_none) (fun _ => ?_)
                refine at_end (by kernel_rfl) ?_
                exact et_cut (b6) (trivial) (.cons mem0 rfl (.cons mem12 rfl (.cons mem13 rfl (.cons mem14 rfl (.cons mem15 rfl (.cons mem16 rfl (.cons mem17 rfl (.cons mem18 rfl (.cons mem19 rfl (.cons (memU mem0) rfl (.cons (memU mem1) rfl (.cons (memU mem2) rfl (.cons (memU mem3) rfl (.cons (memU mem4) rfl (.cons (memU mem5) rfl (.cons (memU mem6) rfl (.cons (memU mem7) rfl (.cons (memU mem8) rfl (.cons (memU mem9) rfl (.cons (memU mem10) rfl (.cons (memU mem11) rfl .nil))))))))))))))))))))) (Ent.refl)
              · show ST _ _ _ _ _ _ _ _ _ _ _
                refine st_t (l' := #[true, true, true, true, true, true, true, true, true, true, false, true, false]) rfl rfl (ot_alloc (v := .agg #[.int .i64 0, .int .i64 0, .int .i64 0, .int .i64 0]) (us := [.int .i64 0, .int .i64 0, .int .i64 0, .int .i64 0]) (by kernel_rfl) rfl) wants_none (fun _ => (put_new (by kernel_rfl))) ?_
                rintro b7
                refine at_q 10 (by kernel_rfl) (l' := #[true, true, true, true, true, true, true, true, true, true, true, true, false]) rfl rfl (oq_call0 (by kernel_rfl) (.cons (.tmp mem5) (.cons (.tmp mem3) (.cons (.tmp mem1) .nil))) (refQueue_spec c l hn _ _ (by omega) (by omega) B W _)) wants_none (put_new (by kernel_rfl)) ?_
                refine at_t 12 (by kernel_rfl) (l' := #[true, true, true, true, true, true, true, true, true, true, true, true, true]) rfl rfl (ot_store (o := 0) (i := 0) (k := 4) (us := [.int .i64 ((topV c ((((byt bs i : Nat) : Int) % c.workers)) (((((byt bs i : Nat) : Int) / 4) % c.levels)))), .int .i64 ((topV c ((((byt bs i : Nat) : Int) % c.workers)) (((((byt bs i : Nat) : Int) / 4) % c.levels)) + 1)), .int .i64 ((topV c ((((byt bs i : Nat) : Int) % c.workers)) (((((byt bs i : Nat) : Int) / 4) % c.levels)) + 2)), .int .i64 c.deque]) (ws := [.int .i64 ((topV c ((((byt bs i : Nat) : Int) % c.workers)) (((((byt bs i : Nat) : Int) / 4) % c.levels)))), .int .i64 ((topV c ((((byt bs i : Nat) : Int) % c.workers)) (((((byt bs i : Nat) : Int) / 4) % c.levels)) + 1)), .int .i64 ((topV c ((((byt bs i : Nat) : Int) % c.workers)) (((((byt bs i : Nat) : Int) / 4) % c.levels)) + 2)), .int .i64 c.deque]) (.tmp mem1) (.tmp mem0) turn0 (rfl) (by kernel_rfl) rfl (by decide) rfl rfl (by simp) rfl) wants_none (fun _ => put_none) (fun _ => ?_)
                refine at_end (by kernel_rfl) ?_
                exact et_cut (b7) (trivial) (.cons mem1 rfl (.cons mem12 rfl (.cons mem13 rfl (.cons mem14 rfl (.cons mem15 rfl (.cons mem16 rfl (.cons mem17 rfl (.cons mem18 rfl (.cons mem19 rfl (.cons (memU mem0) rfl (.cons (memU mem1) rfl (.cons (memU mem2) rfl (.cons (memU mem3) rfl (.cons (memU mem4) rfl (.cons (memU mem5) rfl (.cons (memU mem6) rfl (.cons (memU mem7) rfl (.cons (memU mem8) rfl (.cons (memU mem9) rfl (.cons (memU mem10) rfl (.cons (memU mem11) rfl .nil))))))))))))))))))))) (Ent.refl)
            · show ST _ _ _ _ _ _ _ _ _ _ _
              refine st_t (l' := #[true, true, true, true, true, true, true, true, false, false, false, true, false]) rfl rfl (ot_alloc (v := .agg #[.int .i64 0, .int .i64 0, .int .i64 0, .int .i64 0]) (us := [.int .i64 0, .int .i64 0, .int .i64 0, .int .i64 0]) (by kernel_rfl) rfl) wants_none (fun _ => (put_new (by kernel_rfl))) ?_
              rintro b8
              refine at_q 8 (by kernel_rfl) (l' := #[true, true, true, true, true, true, true, true, true, false, false, true, false]) rfl rfl (oq_load (o := 0) (i := 1) (.tmp mem4) mem2 (rfl) rfl (by kernel_rfl)) wants_none (put_new (by kernel_rfl)) ?_
              refine at_take 9 (by kernel_rfl) (l' := #[true, true, true, true, true, true, true, true, true, true, false, true, false]) rfl rfl rfl (op_rem (.tmp mem6) (.tmp mem0) (by omega) (rem64 (by omega))) wants_none (put_new (by kernel_rfl)) ?_
              refine at_q 10 (by kernel_rfl) (l' := #[true, true, true, true, true, true, true, true, true, true, true, true, false]) rfl rfl (oq_call0 (by kernel_rfl) (.cons (.tmp mem5) (.cons (.tmp mem3) (.cons (.tmp mem0) .nil))) (refQueue_spec c l hn _ _ (by omega) (by omega) B W _)) wants_none (put_new (by kernel_rfl)) ?_
              refine at_t 12 (by kernel_rfl) (l' := #[true, true, true, true, true, true, true, true, true, true, true, true, true]) rfl rfl (ot_store (o := 0) (i := 0) (k := 4) (us := [.int .i64 ((topV c ((((byt bs i : Nat) : Int) % c.workers)) (((((byt bs i : Nat) : Int) / 4) % c.levels)))), .int .i64 ((topV c ((((byt bs i : Nat) : Int) % c.workers)) (((((byt bs i : Nat) : Int) / 4) % c.levels)) + 1)), .int .i64 ((topV c ((((byt bs i : Nat) : Int) % c.workers)) (((((byt bs i : Nat) : Int) / 4) % c.levels)) + 2)), .int .i64 c.deque]) (ws := [.int .i64 ((topV c ((((byt bs i : Nat) : Int) % c.workers)) (((((byt bs i : Nat) : Int) / 4) % c.levels)))), .int .i64 ((topV c ((((byt bs i : Nat) : Int) % c.workers)) (((((byt bs i : Nat) : Int) / 4) % c.levels)) + 1)), .int .i64 ((topV c ((((byt bs i : Nat) : Int) % c.workers)) (((((byt bs i : Nat) : Int) / 4) % c.levels)) + 2)), .int .i64 c.deque]) (.tmp mem3) (.tmp mem0) turn0 (rfl) (by kernel_rfl) rfl (by decide) rfl rfl (by simp) rfl) wants_none (fun _ => put_none) (fun _ => ?_)
              refine at_end (by kernel_rfl) ?_
              exact et_cut (b8) (trivial) (.cons mem3 rfl (.cons mem12 rfl (.cons mem13 rfl (.cons mem14 rfl (.cons mem15 rfl (.cons mem16 rfl (.cons mem17 rfl (.cons mem18 rfl (.cons mem19 rfl (.cons (memU mem0) rfl (.cons (memU mem1) rfl (.cons (memU mem2) rfl (.cons (memU mem3) rfl (.cons (memU mem4) rfl (.cons (memU mem5) rfl (.cons (memU mem6) rfl (.cons (memU mem7) rfl (.cons (memU mem8) rfl (.cons (memU mem9) rfl (.cons (memU mem10) rfl (.cons (memU mem11) rfl .nil))))))))))))))))))))) (Ent.refl)
          · show ST _ _ _ _ _ _ _ _ _ _ _
            refine st_q (l' := #[true, true, true, false, false, true, true, true, true, false, false, false, false]) rfl rfl (oq_load (o := 0) (i := 1) (.tmp mem1) mem1 (rfl) rfl (by kernel_rfl)) wants_none (put_new (by kernel_rfl)) ?_
            refine at_take 9 (by kernel_rfl) (l' := #[true, true, true, false, false, true, true, true, true, true, false, false, false]) rfl rfl rfl (op_rem (.tmp mem3) (.tmp mem0) (by omega) (rem64 (by omega))) wants_none (put_new (by kernel_rfl)) ?_
            refine at_each (H := [3, 11]) (by kernel_rfl) rfl (each_cons ?_ (each_cons ?_ each_nil))
            · show ST _ _ _ _ _ _ _ _ _ _ _
              refine st_q (l' := #[true, true, true, true, false, true, true, true, true, true, false, false, false]) rfl rfl (oq_load (o := 0) (i := 0) (.tmp mem6) mem1 (rfl) rfl (by kernel_rfl)) wants_none (put_new (by kernel_rfl)) ?_
              refine at_take 4 (by kernel_rfl) (l' := #[true, true, true, true, true, true, true, true, true, true, false, false, false]) rfl rfl rfl (op_rem (.tmp mem8) (.tmp mem0) (by omega) (rem64 (by omega))) wants_none (put_new (by kernel_rfl)) ?_
              refine at_each (H := [10, 11]) (by kernel_rfl) rfl (each_cons ?_ (each_cons ?_ each_nil))
              · show ST _ _ _ _ _ _ _ _ _ _ _
                refine st_q (l' := #[true, true, true, true, true, true, true, true, true, true, true, false, false]) rfl rfl (oq_call0 (by kernel_rfl) (.cons (.tmp mem4) (.cons (.tmp mem0) (.cons (.tmp mem2) .nil))) (refQueue_spec c l hn _ _ (by omega) (by omega) B W _)) wants_none (put_new (by kernel_rfl)) ?_
                refine at_t 11 (by kernel_rfl) (l' := #[true, true, true, true, true, true, true, true, true, true, true, true, false]) rfl rfl (ot_alloc (v := .agg #[.int .i64 0, .int .i64 0, .int .i64 0, .int .i64 0]) (us := [.int .i64 0, .int .i64 0, .int .i64 0, .int .i64 0]) (by kernel_rfl) rfl) wants_none (fun _ => (put_new (by kernel_rfl))) ?_
                rintro b9
                refine at_t 12 (by kernel_rfl) (l' := #[true, true, true, true, true, true, true, true, true, true, true, true, true]) rfl rfl (ot_store (o := 0) (i := 0) (k := 4) (us := [.int .i64 ((topV c ((((byt bs i : Nat) : Int) % c.workers)) (((((byt bs i : Nat) : Int) / 4) % c.levels)))), .int .i64 ((topV c ((((byt bs i : Nat) : Int) % c.workers)) (((((byt bs i : Nat) : Int) / 4) % c.levels)) + 1)), .int .i64 ((topV c ((((byt bs i : Nat) : Int) % c.workers)) (((((byt bs i : Nat) : Int) / 4) % c.levels)) + 2)), .int .i64 c.deque]) (ws := [.int .i64 ((topV c ((((byt bs i : Nat) : Int) % c.workers)) (((((byt bs i : Nat) : Int) / 4) % c.levels)))), .int .i64 ((topV c ((((byt bs i : Nat) : Int) % c.workers)) (((((byt bs i : Nat) : Int) / 4) % c.levels)) + 1)), .int .i64 ((topV c ((((byt bs i : Nat) : Int) % c.workers)) (((((byt bs i : Nat) : Int) / 4) % c.levels)) + 2)), .int .i64 c.deque]) (.tmp mem0) (.tmp mem1) turn0 (rfl) (by kernel_rfl) rfl (by decide) rfl rfl (by simp) rfl) wants_none (fun _ => put_none) (fun _ => ?_)
                refine at_end (by kernel_rfl) ?_
                exact et_cut (b9) (trivial) (.cons mem0 rfl (.cons mem12 rfl (.cons mem13 rfl (.cons mem14 rfl (.cons mem15 rfl (.cons mem16 rfl (.cons mem17 rfl (.cons mem18 rfl (.cons mem19 rfl (.cons (memU mem0) rfl (.cons (memU mem1) rfl (.cons (memU mem2) rfl (.cons (memU mem3) rfl (.cons (memU mem4) rfl (.cons (memU mem5) rfl (.cons (memU mem6) rfl (.cons (memU mem7) rfl (.cons (memU mem8) rfl (.cons (memU mem9) rfl (.cons (memU mem10) rfl (.cons (memU mem11) rfl .nil))))))))))))))))))))) (Ent.refl)
              · show ST _ _ _ _ _ _ _ _ _ _ _
                refine st_t (l' := #[true, true, true, true, true, true, true, true, true, true, false, true, false]) rfl rfl (ot_alloc (v := .agg #[.int .i64 0, .int .i64 0, .int .i64 0, .int .i64 0]) (us := [.int .i64 0, .int .i64 0, .int .i64 0, .int .i64 0]) (by kernel_rfl) rfl) wants_none (fun _ => (put_new (by kernel_rfl))) ?_
                rintro b10
                refine at_q 10 (by kernel_rfl) (l' := #[true, true, true, true, true, true, true, true, true, true, true, true, false]) rfl rfl (oq_call0 (by kernel_rfl) (.cons (.tmp mem5) (.cons (.tmp mem1) (.cons (.tmp mem3) .nil))) (refQueue_spec c l hn _ _ (by omega) (by omega) B W _)) wants_none (put_new (by kernel_rfl)) ?_
                refine at_t 12 (by kernel_rfl) (l' := #[true, true, true, true, true, true, true, true, true, true, true, true, true]) rfl rfl (ot_store (o := 0) (i := 0) (k := 4) (us := [.int .i64 ((topV c ((((byt bs i : Nat) : Int) % c.workers)) (((((byt bs i : Nat) : Int) / 4) % c.levels)))), .int .i64 ((topV c ((((byt bs i : Nat) : Int) % c.workers)) (((((byt bs i : Nat) : Int) / 4) % c.levels)) + 1)), .int .i64 ((topV c ((((byt bs i : Nat) : Int) % c.workers)) (((((byt bs i : Nat) : Int) / 4) % c.levels)) + 2)), .int .i64 c.deque]) (ws := [.int .i64 ((topV c ((((byt bs i : Nat) : Int) % c.workers)) (((((byt bs i : Nat) : Int) / 4) % c.levels)))), .int .i64 ((topV c ((((byt bs i : Nat) : Int) % c.workers)) (((((byt bs i : Nat) : Int) / 4) % c.levels)) + 1)), .int .i64 ((topV c ((((byt bs i : Nat) : Int) % c.workers)) (((((byt bs i : Nat) : Int) / 4) % c.levels)) + 2)), .int .i64 c.deque]) (.tmp mem1) (.tmp mem0) turn0 (rfl) (by kernel_rfl) rfl (by decide) rfl rfl (by simp) rfl) wants_none (fun _ => put_none) (fun _ => ?_)
                refine at_end (by kernel_rfl) ?_
                exact et_cut (b10) (trivial) (.cons mem1 rfl (.cons mem12 rfl (.cons mem13 rfl (.cons mem14 rfl (.cons mem15 rfl (.cons mem16 rfl (.cons mem17 rfl (.cons mem18 rfl (.cons mem19 rfl (.cons (memU mem0) rfl (.cons (memU mem1) rfl (.cons (memU mem2) rfl (.cons (memU mem3) rfl (.cons (memU mem4) rfl (.cons (memU mem5) rfl (.cons (memU mem6) rfl (.cons (memU mem7) rfl (.cons (memU mem8) rfl (.cons (memU mem9) rfl (.cons (memU mem10) rfl (.cons (memU mem11) rfl .nil))))))))))))))))))))) (Ent.refl)
            · show ST _ _ _ _ _ _ _ _ _ _ _
              refine st_t (l' := #[true, true, true, false, false, true, true, true, true, true, false, true, false]) rfl rfl (ot_alloc (v := .agg #[.int .i64 0, .int .i64 0, .int .i64 0, .int .i64 0]) (us := [.int .i64 0, .int .i64 0, .int .i64 0, .int .i64 0]) (by kernel_rfl) rfl) wants_none (fun _ => (put_new (by kernel_rfl))) ?_
              rintro b11
              refine at_q 3 (by kernel_rfl) (l' := #[true, true, true, true, false, true, true, true, true, true, false, true, false]) rfl rfl (oq_load (o := 0) (i := 0) (.tmp mem7) mem2 (rfl) rfl (by kernel_rfl)) wants_none (put_new (by kernel_rfl)) ?_
              refine at_take 4 (by kernel_rfl) (l' := #[true, true, true, true, true, true, true, true, true, true, false, true, false]) rfl rfl rfl (op_rem (.tmp mem9) (.tmp mem0) (by omega) (rem64 (by omega))) wants_none (put_new (by kernel_rfl)) ?_
              refine at_q 10 (by kernel_rfl) (l' := #[true, true, true, true, true, true, true, true, true, true, true, true, false]) rfl rfl (oq_call0 (by kernel_rfl) (.cons (.tmp mem5) (.cons (.tmp mem0) (.cons (.tmp mem3) .nil))) (refQueue_spec c l hn _ _ (by omega) (by omega) B W _)) wants_none (put_new (by kernel_rfl)) ?_
              refine at_t 12 (by kernel_rfl) (l' := #[true, true, true, true, true, true, true, true, true, true, true, true, true]) rfl rfl (ot_store (o := 0) (i := 0) (k := 4) (us := [.int .i64 ((topV c ((((byt bs i : Nat) : Int) % c.workers)) (((((byt bs i : Nat) : Int) / 4) % c.levels)))), .int .i64 ((topV c ((((byt bs i : Nat) : Int) % c.workers)) (((((byt bs i : Nat) : Int) / 4) % c.levels)) + 1)), .int .i64 ((topV c ((((byt bs i : Nat) : Int) % c.workers)) (((((byt bs i : Nat) : Int) / 4) % c.levels)) + 2)), .int .i64 c.deque]) (ws := [.int .i64 ((topV c ((((byt bs i : Nat) : Int) % c.workers)) (((((byt bs i : Nat) : Int) / 4) % c.levels)))), .int .i64 ((topV c ((((byt bs i : Nat) : Int) % c.workers)) (((((byt bs i : Nat) : Int) / 4) % c.levels)) + 1)), .int .i64 ((topV c ((((byt bs i : Nat) : Int) % c.workers)) (((((byt bs i : Nat) : Int) / 4) % c.levels)) + 2)), .int .i64 c.deque]) (.tmp mem3) (.tmp mem0) turn0 (rfl) (by kernel_rfl) rfl (by decide) rfl rfl (by simp) rfl) wants_none (fun _ => put_none) (fun _ => ?_)
              refine at_end (by kernel_rfl) ?_
              exact et_cut (b11) (trivial) (.cons mem3 rfl (.cons mem12 rfl (.cons mem13 rfl (.cons mem14 rfl (.cons mem15 rfl (.cons mem16 rfl (.cons mem17 rfl (.cons mem18 rfl (.cons mem19 rfl (.cons (memU mem0) rfl (.cons (memU mem1) rfl (.cons (memU mem2) rfl (.cons (memU mem3) rfl (.cons (memU mem4) rfl (.cons (memU mem5) rfl (.cons (memU mem6) rfl (.cons (memU mem7) rfl (.cons (memU mem8) rfl (.cons (memU mem9) rfl (.cons (memU mem10) rfl (.cons (memU mem11) rfl .nil))))))))))))))))))))) (Ent.refl)
          · show ST _ _ _ _ _ _ _ _ _ _ _
            refine st_t (l' := #[true, true, true, false, false, true, true, true, false, false, false, true, false]) rfl rfl (ot_alloc (v := .agg #[.int .i64 0, .int .i64 0, .int .i64 0, .int .i64 0]) (us := [.int .i64 0, .int .i64 0, .int .i64 0, .int .i64 0]) (by kernel_rfl) rfl) wants_none (fun _ => (put_new (by kernel_rfl))) ?_
            rintro b12
            refine at_group [3, 4, 8, 9, 10] 1 rfl (by kernel_rfl) (l' := #[true, true, true, true, true, true, true, true, true, true, true, true, false]) rfl ?_
            refine qt_q (oq_load (o := 0) (i := 0) (.tmp mem5) mem2 (rfl) rfl (by kernel_rfl)) wants_none (put_new (by kernel_rfl)) ?_
            refine qt_q (op_rem (.tmp mem7) (.tmp mem0) (by omega) (rem64 (by omega))).q wants_none (put_new (by kernel_rfl)) ?_
            refine qt_q (oq_load (o := 0) (i := 1) (.tmp mem4) mem2 (rfl) rfl (by kernel_rfl)) wants_none (put_new (by kernel_rfl)) ?_
            refine qt_q (op_rem (.tmp mem6) (.tmp mem0) (by omega) (rem64 (by omega))).q wants_none (put_new (by kernel_rfl)) ?_
            refine qt_q (oq_call0 (by kernel_rfl) (.cons (.tmp mem5) (.cons (.tmp mem2) (.cons (.tmp mem0) .nil))) (refQueue_spec c l hn _ _ (by omega) (by omega) B W _)) wants_none (put_new (by kernel_rfl)) ?_
            refine qt_nil ?_
            refine at_t 12 (by kernel_rfl) (l' := #[true, true, true, true, true, true, true, true, true, true, true, true, true]) rfl rfl (ot_store (o := 0) (i := 0) (k := 4) (us := [.int .i64 ((topV c ((((byt bs i : Nat) : Int) % c.workers)) (((((byt bs i : Nat) : Int) / 4) % c.levels)))), .int .i64 ((topV c ((((byt bs i : Nat) : Int) % c.workers)) (((((byt bs i : Nat) : Int) / 4) % c.levels)) + 1)), .int .i64 ((topV c ((((byt bs i : Nat) : Int) % c.workers)) (((((byt bs i : Nat) : Int) / 4) % c.levels)) + 2)), .int .i64 c.deque]) (ws := [.int .i64 ((topV c ((((byt bs i : Nat) : Int) % c.workers)) (((((byt bs i : Nat) : Int) / 4) % c.levels)))), .int .i64 ((topV c ((((byt bs i : Nat) : Int) % c.workers)) (((((byt bs i : Nat) : Int) / 4) % c.levels)) + 1)), .int .i64 ((topV c ((((byt bs i : Nat) : Int) % c.workers)) (((((byt bs i : Nat) : Int) / 4) % c.levels)) + 2)), .int .i64 c.deque]) (.tmp mem5) (.tmp mem0) turn0 (rfl) (by kernel_rfl) rfl (by decide) rfl rfl (by simp) rfl) wants_none (fun _ => put_none) (fun _ => ?_)
            refine at_end (by kernel_rfl) ?_
            exact et_cut (b12) (trivial) (.cons mem5 rfl (.cons mem12 rfl (.cons mem13 rfl (.cons mem14 rfl (.cons mem15 rfl (.cons mem16 rfl (.cons mem17 rfl (.cons mem18 rfl (.cons mem19 rfl (.cons (memU mem0) rfl (.cons (memU mem1) rfl (.cons (memU mem2) rfl (.cons (memU mem3) rfl (.cons (memU mem4) rfl (.cons (memU mem5) rfl (.cons (memU mem6) rfl (.cons (memU mem7) rfl (.cons (memU mem8) rfl (.cons (memU mem9) rfl (.cons (memU mem10) rfl (.cons (memU mem11) rfl .nil))))))))))))))))))))) (Ent.refl)
        · show ST _ _ _ _ _ _ _ _ _ _ _
          refine st_q (l' := #[false, true, true, true, false, true, true, true, false, false, false, false, false]) rfl rfl (oq_load (o := 0) (i := 0) (.tmp mem3) mem1 (rfl) rfl (by kernel_rfl)) wants_none (put_new (by kernel_rfl)) ?_
          refine at_take 4 (by kernel_rfl) (l' := #[false, true, true, true, true, true, true, true, false, false, false, false, false]) rfl rfl rfl (op_rem (.tmp mem5) (.tmp mem0) (by omega) (rem64 (by omega))) wants_none (put_new (by kernel_rfl)) ?_
          refine at_each (H := [0, 8, 11]) (by kernel_rfl) rfl (each_cons ?_ (each_cons ?_ (each_cons ?_ each_nil)))
          · show ST _ _ _ _ _ _ _ _ _ _ _
            refine st_q (l' := #[true, true, true, true, true, true, true, true, false, false, false, false, false]) rfl rfl (oq_loadA (o := 0) (i := 0) (k := 11) (us := [.int .i64 c.workers, .int .i64 c.levels, .int .i64 c.classes, .int .i64 c.tasks, .int .i64 c.deque, .int .i64 c.heap, .int .i64 c.batch, .int .i64 c.age, .int .i64 c.patience, .slice l.pa c.progs.length l.pc, .slice l.sa c.subs.length l.sc]) (.tmp (memU mem4)) mem1 (rfl) (by kernel_rfl) rfl rfl) wants_none (put_new (by kernel_rfl)) ?_
            refine at_each (H := [8, 11]) (by kernel_rfl) rfl (each_cons ?_ (each_cons ?_ each_nil))
            · show ST _ _ _ _ _ _ _ _ _ _ _
              refine st_q (l' := #[true, true, true, true, true, true, true, true, true, false, false, false, false]) rfl rfl (oq_load (o := 0) (i := 1) (.tmp mem3) mem1 (rfl) rfl (by kernel_rfl)) wants_none (put_new (by kernel_rfl)) ?_
              refine at_take 9 (by kernel_rfl) (l' := #[true, true, true, true, true, true, true, true, true, true, false, false, false]) rfl rfl rfl (op_rem (.tmp mem5) (.tmp mem0) (by omega) (rem64 (by omega))) wants_none (put_new (by kernel_rfl)) ?_
              refine at_each (H := [10, 11]) (by kernel_rfl) rfl (each_cons ?_ (each_cons ?_ each_nil))
              · show ST _ _ _ _ _ _ _ _ _ _ _
                refine st_q (l' := #[true, true, true, true, true, true, true, true, true, true, true, false, false]) rfl rfl (oq_call0 (by kernel_rfl) (.cons (.tmp mem2) (.cons (.tmp mem3) (.cons (.tmp mem0) .nil))) (refQueue_spec c l hn _ _ (by omega) (by omega) B W _)) wants_none (put_new (by kernel_rfl)) ?_
                refine at_t 11 (by kernel_rfl) (l' := #[true, true, true, true, true, true, true, true, true, true, true, true, false]) rfl rfl (ot_alloc (v := .agg #[.int .i64 0, .int .i64 0, .int .i64 0, .int .i64 0]) (us := [.int .i64 0, .int .i64 0, .int .i64 0, .int .i64 0]) (by kernel_rfl) rfl) wants_none (fun _ => (put_new (by kernel_rfl))) ?_
                rintro b13
                refine at_t 12 (by kernel_rfl) (l' := #[true, true, true, true, true, true, true, true, true, true, true, true, true]) rfl rfl (ot_store (o := 0) (i := 0) (k := 4) (us := [.int .i64 ((topV c ((((byt bs i : Nat) : Int) % c.workers)) (((((byt bs i : Nat) : Int) / 4) % c.levels)))), .int .i64 ((topV c ((((byt bs i : Nat) : Int) % c.workers)) (((((byt bs i : Nat) : Int) / 4) % c.levels)) + 1)), .int .i64 ((topV c ((((byt bs i : Nat) : Int) % c.workers)) (((((byt bs i : Nat) : Int) / 4) % c.levels)) + 2)), .int .i64 c.deque]) (ws := [.int .i64 ((topV c ((((byt bs i : Nat) : Int) % c.workers)) (((((byt bs i : Nat) : Int) / 4) % c.levels)))), .int .i64 ((topV c ((((byt bs i : Nat) : Int) % c.workers)) (((((byt bs i : Nat) : Int) / 4) % c.levels)) + 1)), .int .i64 ((topV c ((((byt bs i : Nat) : Int) % c.workers)) (((((byt bs i : Nat) : Int) / 4) % c.levels)) + 2)), .int .i64 c.deque]) (.tmp mem0) (.tmp mem1) turn0 (rfl) (by kernel_rfl) rfl (by decide) rfl rfl (by simp) rfl) wants_none (fun _ => put_none) (fun _ => ?_)
                refine at_end (by kernel_rfl) ?_
                exact et_cut (b13) (trivial) (.cons mem0 rfl (.cons mem12 rfl (.cons mem13 rfl (.cons mem14 rfl (.cons mem15 rfl (.cons mem16 rfl (.cons mem17 rfl (.cons mem18 rfl (.cons mem19 rfl (.cons (memU mem0) rfl (.cons (memU mem1) rfl (.cons (memU mem2) rfl (.cons (memU mem3) rfl (.cons (memU mem4) rfl (.cons (memU mem5) rfl (.cons (memU mem6) rfl (.cons (memU mem7) rfl (.cons (memU mem8) rfl (.cons (memU mem9) rfl (.cons (memU mem10) rfl (.cons (memU mem11) rfl .nil))))))))))))))))))))) (Ent.refl)
              · show ST _ _ _ _ _ _ _ _ _ _ _
                refine st_t (l' := #[true, true, true, true, true, true, true, true, true, true, false, true, false]) rfl rfl (ot_alloc (v := .agg #[.int .i64 0, .int .i64 0, .int .i64 0, .int .i64 0]) (us := [.int .i64 0, .int .i64 0, .int .i64 0, .int .i64 0]) (by kernel_rfl) rfl) wants_none (fun _ => (put_new (by kernel_rfl))) ?_
                rintro b14
                refine at_q 10 (by kernel_rfl) (l' := #[true, true, true, true, true, true, true, true, true, true, true, true, false]) rfl rfl (oq_call0 (by kernel_rfl) (.cons (.tmp mem3) (.cons (.tmp mem4) (.cons (.tmp mem1) .nil))) (refQueue_spec c l hn _ _ (by omega) (by omega) B W _)) wants_none (put_new (by kernel_rfl)) ?_
                refine at_t 12 (by kernel_rfl) (l' := #[true, true, true, true, true, true, true, true, true, true, true, true, true]) rfl rfl (ot_store (o := 0) (i := 0) (k := 4) (us := [.int .i64 ((topV c ((((byt bs i : Nat) : Int) % c.workers)) (((((byt bs i : Nat) : Int) / 4) % c.levels)))), .int .i64 ((topV c ((((byt bs i : Nat) : Int) % c.workers)) (((((byt bs i : Nat) : Int) / 4) % c.levels)) + 1)), .int .i64 ((topV c ((((byt bs i : Nat) : Int) % c.workers)) (((((byt bs i : Nat) : Int) / 4) % c.levels)) + 2)), .int .i64 c.deque]) (ws := [.int .i64 ((topV c ((((byt bs i : Nat) : Int) % c.workers)) (((((byt bs i : Nat) : Int) / 4) % c.levels)))), .int .i64 ((topV c ((((byt bs i : Nat) : Int) % c.workers)) (((((byt bs i : Nat) : Int) / 4) % c.levels)) + 1)), .int .i64 ((topV c ((((byt bs i : Nat) : Int) % c.workers)) (((((byt bs i : Nat) : Int) / 4) % c.levels)) + 2)), .int .i64 c.deque]) (.tmp mem1) (.tmp mem0) turn0 (rfl) (by kernel_rfl) rfl (by decide) rfl rfl (by simp) rfl) wants_none (fun _ => put_none) (fun _ => ?_)
                refine at_end (by kernel_rfl) ?_
                exact et_cut (b14) (trivial) (.cons mem1 rfl (.cons mem12 rfl (.cons mem13 rfl (.cons mem14 rfl (.cons mem15 rfl (.cons mem16 rfl (.cons mem17 rfl (.cons mem18 rfl (.cons mem19 rfl (.cons (memU mem0) rfl (.cons (memU mem1) rfl (.cons (memU mem2) rfl (.cons (memU mem3) rfl (.cons (memU mem4) rfl (.cons (memU mem5) rfl (.cons (memU mem6) rfl (.cons (memU mem7) rfl (.cons (memU mem8) rfl (.cons (memU mem9) rfl (.cons (memU mem10) rfl (.cons (memU mem11) rfl .nil))))))))))))))))))))) (Ent.refl)
            · show ST _ _ _ _ _ _ _ _ _ _ _
              refine st_t (l' := #[true, true, true, true, true, true, true, true, false, false, false, true, false]) rfl rfl (ot_alloc (v := .agg #[.int .i64 0, .int .i64 0, .int .i64 0, .int .i64 0]) (us := [.int .i64 0, .int .i64 0, .int .i64 0, .int .i64 0]) (by kernel_rfl) rfl) wants_none (fun _ => (put_new (by kernel_rfl))) ?_
              rintro b15
              refine at_q 8 (by kernel_rfl) (l' := #[true, true, true, true, true, true, true, true, true, false, false, true, false]) rfl rfl (oq_load (o := 0) (i := 1) (.tmp mem4) mem2 (rfl) rfl (by kernel_rfl)) wants_none (put_new (by kernel_rfl)) ?_
              refine at_take 9 (by kernel_rfl) (l' := #[true, true, true, true, true, true, true, true, true, true, false, true, false]) rfl rfl rfl (op_rem (.tmp mem6) (.tmp mem0) (by omega) (rem64 (by omega))) wants_none (put_new (by kernel_rfl)) ?_
              refine at_q 10 (by kernel_rfl) (l' := #[true, true, true, true, true, true, true, true, true, true, true, true, false]) rfl rfl (oq_call0 (by kernel_rfl) (.cons (.tmp mem3) (.cons (.tmp mem4) (.cons (.tmp mem0) .nil))) (refQueue_spec c l hn _ _ (by omega) (by omega) B W _)) wants_none (put_new (by kernel_rfl)) ?_
              refine at_t 12 (by kernel_rfl) (l' := #[true, true, true, true, true, true, true, true, true, true, true, true, true]) rfl rfl (ot_store (o := 0) (i := 0) (k := 4) (us := [.int .i64 ((topV c ((((byt bs i : Nat) : Int) % c.workers)) (((((byt bs i : Nat) : Int) / 4) % c.levels)))), .int .i64 ((topV c ((((byt bs i : Nat) : Int) % c.workers)) (((((byt bs i : Nat) : Int) / 4) % c.levels)) + 1)), .int .i64 ((topV c ((((byt bs i : Nat) : Int) % c.workers)) (((((byt bs i : Nat) : Int) / 4) % c.levels)) + 2)), .int .i64 c.deque]) (ws := [.int .i64 ((topV c ((((byt bs i : Nat) : Int) % c.workers)) (((((byt bs i : Nat) : Int) / 4) % c.levels)))), .int .i64 ((topV c ((((byt bs i : Nat) : Int) % c.workers)) (((((byt bs i : Nat) : Int) / 4) % c.levels)) + 1)), .int .i64 ((topV c ((((byt bs i : Nat) : Int) % c.workers)) (((((byt bs i : Nat) : Int) / 4) % c.levels)) + 2)), .int .i64 c.deque]) (.tmp mem3) (.tmp mem0) turn0 (rfl) (by kernel_rfl) rfl (by decide) rfl rfl (by simp) rfl) wants_none (fun _ => put_none) (fun _ => ?_)
              refine at_end (by kernel_rfl) ?_
              exact et_cut (b15) (trivial) (.cons mem3 rfl (.cons mem12 rfl (.cons mem13 rfl (.cons mem14 rfl (.cons mem15 rfl (.cons mem16 rfl (.cons mem17 rfl (.cons mem18 rfl (.cons mem19 rfl (.cons (memU mem0) rfl (.cons (memU mem1) rfl (.cons (memU mem2) rfl (.cons (memU mem3) rfl (.cons (memU mem4) rfl (.cons (memU mem5) rfl (.cons (memU mem6) rfl (.cons (memU mem7) rfl (.cons (memU mem8) rfl (.cons (memU mem9) rfl (.cons (memU mem10) rfl (.cons (memU mem11) rfl .nil))))))))))))))))))))) (Ent.refl)
          · show ST _ _ _ _ _ _ _ _ _ _ _
            refine st_q (l' := #[false, true, true, true, true, true, true, true, true, false, false, false, false]) rfl rfl (oq_load (o := 0) (i := 1) (.tmp mem2) mem1 (rfl) rfl (by kernel_rfl)) wants_none (put_new (by kernel_rfl)) ?_
            refine at_take 9 (by kernel_rfl) (l' := #[false, true, true, true, true, true, true, true, true, true, false, false, false]) rfl rfl rfl (op_rem (.tmp mem4) (.tmp mem0) (by omega) (rem64 (by omega))) wants_none (put_new (by kernel_rfl)) ?_
            refine at_each (H := [0, 11]) (by kernel_rfl) rfl (each_cons ?_ (each_cons ?_ each_nil))
            · show ST _ _ _ _ _ _ _ _ _ _ _
              refine st_q (l' := #[true, true, true, true, true, true, true, true, true, true, false, false, false]) rfl rfl (oq_loadA (o := 0) (i := 0) (k := 11) (us := [.int .i64 c.workers, .int .i64 c.levels, .int .i64 c.classes, .int .i64 c.tasks, .int .i64 c.deque, .int .i64 c.heap, .int .i64 c.batch, .int .i64 c.age, .int .i64 c.patience, .slice l.pa c.progs.length l.pc, .slice l.sa c.subs.length l.sc]) (.tmp (memU mem6)) mem1 (rfl) (by kernel_rfl) rfl rfl) wants_none (put_new (by kernel_rfl)) ?_
              refine at_each (H := [10, 11]) (by kernel_rfl) rfl (each_cons ?_ (each_cons ?_ each_nil))
              · show ST _ _ _ _ _ _ _ _ _ _ _
                refine st_q (l' := #[true, true, true, true, true, true, true, true, true, true, true, false, false]) rfl rfl (oq_call0 (by kernel_rfl) (.cons (.tmp mem0) (.cons (.tmp mem3) (.cons (.tmp mem1) .nil))) (refQueue_spec c l hn _ _ (by omega) (by omega) B W _)) wants_none (put_new (by kernel_rfl)) ?_
                refine at_t 11 (by kernel_rfl) (l' := #[true, true, true, true, true, true, true, true, true, true, true, true, false]) rfl rfl (ot_alloc (v := .agg #[.int .i64 0, .int .i64 0, .int .i64 0, .int .i64 0]) (us := [.int .i64 0, .int .i64 0, .int .i64 0, .int .i64 0]) (by kernel_rfl) rfl) wants_none (fun _ => (put_new (by kernel_rfl))) ?_
                rintro b16
                refine at_t 12 (by kernel_rfl) (l' := #[true, true, true, true, true, true, true, true, true, true, true, true, true]) rfl rfl (ot_store (o := 0) (i := 0) (k := 4) (us := [.int .i64 ((topV c ((((byt bs i : Nat) : Int) % c.workers)) (((((byt bs i : Nat) : Int) / 4) % c.levels)))), .int .i64 ((topV c ((((byt bs i : Nat) : Int) % c.workers)) (((((byt bs i : Nat) : Int) / 4) % c.levels)) + 1)), .int .i64 ((topV c ((((byt bs i : Nat) : Int) % c.workers)) (((((byt bs i : Nat) : Int) / 4) % c.levels)) + 2)), .int .i64 c.deque]) (ws := [.int .i64 ((topV c ((((byt bs i : Nat) : Int) % c.workers)) (((((byt bs i : Nat) : Int) / 4) % c.levels)))), .int .i64 ((topV c ((((byt bs i : Nat) : Int) % c.workers)) (((((byt bs i : Nat) : Int) / 4) % c.levels)) + 1)), .int .i64 ((topV c ((((byt bs i : Nat) : Int) % c.workers)) (((((byt bs i : Nat) : Int) / 4) % c.levels)) + 2)), .int .i64 c.deque]) (.tmp mem0) (.tmp mem1) turn0 (rfl) (by kernel_rfl) rfl (by decide) rfl rfl (by simp) rfl) wants_none (fun _ => put_none) (fun _ => ?_)
                refine at_end (by kernel_rfl) ?_
                exact et_cut (b16) (trivial) (.cons mem0 rfl (.cons mem12 rfl (.cons mem13 rfl (.cons mem14 rfl (.cons mem15 rfl (.cons mem16 rfl (.cons mem17 rfl (.cons mem18 rfl (.cons mem19 rfl (.cons (memU mem0) rfl (.cons (memU mem1) rfl (.cons (memU mem2) rfl (.cons (memU mem3) rfl (.cons (memU mem4) rfl (.cons (memU mem5) rfl (.cons (memU mem6) rfl (.cons (memU mem7) rfl (.cons (memU mem8) rfl (.cons (memU mem9) rfl (.cons (memU mem10) rfl (.cons (memU mem11) rfl .nil))))))))))))))))))))) (Ent.refl)
              · show ST _ _ _ _ _ _ _ _ _ _ _
                refine st_t (l' := #[true, true, true, true, true, true, true, true, true, true, false, true, false]) rfl rfl (ot_alloc (v := .agg #[.int .i64 0, .int .i64 0, .int .i64 0, .int .i64 0]) (us := [.int .i64 0, .int .i64 0, .int .i64 0, .int .i64 0]) (by kernel_rfl) rfl) wants_none (fun _ => (put_new (by kernel_rfl))) ?_
                rintro b17
                refine at_q 10 (by kernel_rfl) (l' := #[true, true, true, true, true, true, true, true, true, true, true, true, false]) rfl rfl (oq_call0 (by kernel_rfl) (.cons (.tmp mem1) (.cons (.tmp mem4) (.cons (.tmp mem2) .nil))) (refQueue_spec c l hn _ _ (by omega) (by omega) B W _)) wants_none (put_new (by kernel_rfl)) ?_
                refine at_t 12 (by kernel_rfl) (l' := #[true, true, true, true, true, true, true, true, true, true, true, true, true]) rfl rfl (ot_store (o := 0) (i := 0) (k := 4) (us := [.int .i64 ((topV c ((((byt bs i : Nat) : Int) % c.workers)) (((((byt bs i : Nat) : Int) / 4) % c.levels)))), .int .i64 ((topV c ((((byt bs i : Nat) : Int) % c.workers)) (((((byt bs i : Nat) : Int) / 4) % c.levels)) + 1)), .int .i64 ((topV c ((((byt bs i : Nat) : Int) % c.workers)) (((((byt bs i : Nat) : Int) / 4) % c.levels)) + 2)), .int .i64 c.deque]) (ws := [.int .i64 ((topV c ((((byt bs i : Nat) : Int) % c.workers)) (((((byt bs i : Nat) : Int) / 4) % c.levels)))), .int .i64 ((topV c ((((byt bs i : Nat) : Int) % c.workers)) (((((byt bs i : Nat) : Int) / 4) % c.levels)) + 1)), .int .i64 ((topV c ((((byt bs i : Nat) : Int) % c.workers)) (((((byt bs i : Nat) : Int) / 4) % c.levels)) + 2)), .int .i64 c.deque]) (.tmp mem1) (.tmp mem0) turn0 (rfl) (by kernel_rfl) rfl (by decide) rfl rfl (by simp) rfl) wants_none (fun _ => put_none) (fun _ => ?_)
                refine at_end (by kernel_rfl) ?_
                exact et_cut (b17) (trivial) (.cons mem1 rfl (.cons mem12 rfl (.cons mem13 rfl (.cons mem14 rfl (.cons mem15 rfl (.cons mem16 rfl (.cons mem17 rfl (.cons mem18 rfl (.cons mem19 rfl (.cons (memU mem0) rfl (.cons (memU mem1) rfl (.cons (memU mem2) rfl (.cons (memU mem3) rfl (.cons (memU mem4) rfl (.cons (memU mem5) rfl (.cons (memU mem6) rfl (.cons (memU mem7) rfl (.cons (memU mem8) rfl (.cons (memU mem9) rfl (.cons (memU mem10) rfl (.cons (memU mem11) rfl .nil))))))))))))))))))))) (Ent.refl)
            · show ST _ _ _ _ _ _ _ _ _ _ _
              refine st_t (l' := #[false, true, true, true, true, true, true, true, true, true, false, true, false]) rfl rfl (ot_alloc (v := .agg #[.int .i64 0, .int .i64 0, .int .i64 0, .int .i64 0]) (us := [.int .i64 0, .int .i64 0, .int .i64 0, .int .i64 0]) (by kernel_rfl) rfl) wants_none (fun _ => (put_new (by kernel_rfl))) ?_
              rintro b18
              refine at_q 0 (by kernel_rfl) (l' := #[true, true, true, true, true, true, true, true, true, true, false, true, false]) rfl rfl (oq_loadA (o := 0) (i := 0) (k := 11) (us := [.int .i64 c.workers, .int .i64 c.levels, .int .i64 c.classes, .int .i64 c.tasks, .int .i64 c.deque, .int .i64 c.heap, .int .i64 c.batch, .int .i64 c.age, .int .i64 c.patience, .slice l.pa c.progs.length l.pc, .slice l.sa c.subs.length l.sc]) (.tmp (memU mem7)) mem2 (rfl) (by kernel_rfl) rfl rfl) wants_none (put_new (by kernel_rfl)) ?_
              refine at_q 10 (by kernel_rfl) (l' := #[true, true, true, true, true, true, true, true, true, true, true, true, false]) rfl rfl (oq_call0 (by kernel_rfl) (.cons (.tmp mem0) (.cons (.tmp mem4) (.cons (.tmp mem2) .nil))) (refQueue_spec c l hn _ _ (by omega) (by omega) B W _)) wants_none (put_new (by kernel_rfl)) ?_
              refine at_t 12 (by kernel_rfl) (l' := #[true, true, true, true, true, true, true, true, true, true, true, true, true]) rfl rfl (ot_store (o := 0) (i := 0) (k := 4) (us := [.int .i64 ((topV c ((((byt bs i : Nat) : Int) % c.workers)) (((((byt bs i : Nat) : Int) / 4) % c.levels)))), .int .i64 ((topV c ((((byt bs i : Nat) : Int) % c.workers)) (((((byt bs i : Nat) : Int) / 4) % c.levels)) + 1)), .int .i64 ((topV c ((((byt bs i : Nat) : Int) % c.workers)) (((((byt bs i : Nat) : Int) / 4) % c.levels)) + 2)), .int .i64 c.deque]) (ws := [.int .i64 ((topV c ((((byt bs i : Nat) : Int) % c.workers)) (((((byt bs i : Nat) : Int) / 4) % c.levels)))), .int .i64 ((topV c ((((byt bs i : Nat) : Int) % c.workers)) (((((byt bs i : Nat) : Int) / 4) % c.levels)) + 1)), .int .i64 ((topV c ((((byt bs i : Nat) : Int) % c.workers)) (((((byt bs i : Nat) : Int) / 4) % c.levels)) + 2)), .int .i64 c.deque]) (.tmp mem2) (.tmp mem0) turn0 (rfl) (by kernel_rfl) rfl (by decide) rfl rfl (by simp) rfl) wants_none (fun _ => put_none) (fun _ => ?_)
              refine at_end (by kernel_rfl) ?_
              exact et_cut (b18) (trivial) (.cons mem2 rfl (.cons mem12 rfl (.cons mem13 rfl (.cons mem14 rfl (.cons mem15 rfl (.cons mem16 rfl (.cons mem17 rfl (.cons mem18 rfl (.cons mem19 rfl (.cons (memU mem0) rfl (.cons (memU mem1) rfl (.cons (memU mem2) rfl (.cons (memU mem3) rfl (.cons (memU mem4) rfl (.cons (memU mem5) rfl (.cons (memU mem6) rfl (.cons (memU mem7) rfl (.cons (memU mem8) rfl (.cons (memU mem9) rfl (.cons (memU mem10) rfl (.cons (memU mem11) rfl .nil))))))))))))))))))))) (Ent.refl)
          · show ST _ _ _ _ _ _ _ _ _ _ _
            refine st_t (l' := #[false, true, true, true, true, true, true, true, false, false, false, true, false]) rfl rfl (ot_alloc (v := .agg #[.int .i64 0, .int .i64 0, .int .i64 0, .int .i64 0]) (us := [.int .i64 0, .int .i64 0, .int .i64 0, .int .i64 0]) (by kernel_rfl) rfl) wants_none (fun _ => (put_new (by kernel_rfl))) ?_
            rintro b19
            refine at_group [0, 8, 9, 10] 1 rfl (by kernel_rfl) (l' := #[true, true, true, true, true, true, true, true, true, true, true, true, false]) rfl ?_
            refine qt_q (oq_loadA (o := 0) (i := 0) (k := 11) (us := [.int .i64 c.workers, .int .i64 c.levels, .int .i64 c.classes, .int .i64 c.tasks, .int .i64 c.deque, .int .i64 c.heap, .int .i64 c.batch, .int .i64 c.age, .int .i64 c.patience, .slice l.pa c.progs.length l.pc, .slice l.sa c.subs.length l.sc]) (.tmp (memU mem5)) mem2 (rfl) (by kernel_rfl) rfl rfl) wants_none (put_new (by kernel_rfl)) ?_
            refine qt_q (oq_load (o := 0) (i := 1) (.tmp mem4) mem2 (rfl) rfl (by kernel_rfl)) wants_none (put_new (by kernel_rfl)) ?_
            refine qt_q (op_rem (.tmp mem6) (.tmp mem0) (by omega) (rem64 (by omega))).q wants_none (put_new (by kernel_rfl)) ?_
            refine qt_q (oq_call0 (by kernel_rfl) (.cons (.tmp mem2) (.cons (.tmp mem4) (.cons (.tmp mem0) .nil))) (refQueue_spec c l hn _ _ (by omega) (by omega) B W _)) wants_none (put_new (by kernel_rfl)) ?_
            refine qt_nil ?_
            refine at_t 12 (by kernel_rfl) (l' := #[true, true, true, true, true, true, true, true, true, true, true, true, true]) rfl rfl (ot_store (o := 0) (i := 0) (k := 4) (us := [.int .i64 ((topV c ((((byt bs i : Nat) : Int) % c.workers)) (((((byt bs i : Nat) : Int) / 4) % c.levels)))), .int .i64 ((topV c ((((byt bs i : Nat) : Int) % c.workers)) (((((byt bs i : Nat) : Int) / 4) % c.levels)) + 1)), .int .i64 ((topV c ((((byt bs i : Nat) : Int) % c.workers)) (((((byt bs i : Nat) : Int) / 4) % c.levels)) + 2)), .int .i64 c.deque]) (ws := [.int .i64 ((topV c ((((byt bs i : Nat) : Int) % c.workers)) (((((byt bs i : Nat) : Int) / 4) % c.levels)))), .int .i64 ((topV c ((((byt bs i : Nat) : Int) % c.workers)) (((((byt bs i : Nat) : Int) / 4) % c.levels)) + 1)), .int .i64 ((topV c ((((byt bs i : Nat) : Int) % c.workers)) (((((byt bs i : Nat) : Int) / 4) % c.levels)) + 2)), .int .i64 c.deque]) (.tmp mem4) (.tmp mem0) turn0 (rfl) (by kernel_rfl) rfl (by decide) rfl rfl (by simp) rfl) wants_none (fun _ => put_none) (fun _ => ?_)
            refine at_end (by kernel_rfl) ?_
            exact et_cut (b19) (trivial) (.cons mem4 rfl (.cons mem12 rfl (.cons mem13 rfl (.cons mem14 rfl (.cons mem15 rfl (.cons mem16 rfl (.cons mem17 rfl (.cons mem18 rfl (.cons mem19 rfl (.cons (memU mem0) rfl (.cons (memU mem1) rfl (.cons (memU mem2) rfl (.cons (memU mem3) rfl (.cons (memU mem4) rfl (.cons (memU mem5) rfl (.cons (memU mem6) rfl (.cons (memU mem7) rfl (.cons (memU mem8) rfl (.cons (memU mem9) rfl (.cons (memU mem10) rfl (.cons (memU mem11) rfl .nil))))))))))))))))))))) (Ent.refl)
        · show ST _ _ _ _ _ _ _ _ _ _ _
          refine st_q (l' := #[false, true, true, false, false, true, true, true, true, false, false, false, false]) rfl rfl (oq_load (o := 0) (i := 1) (.tmp mem0) mem1 (rfl) rfl (by kernel_rfl)) wants_none (put_new (by kernel_rfl)) ?_
          refine at_take 9 (by kernel_rfl) (l' := #[false, true, true, false, false, true, true, true, true, true, false, false, false]) rfl rfl rfl (op_rem (.tmp mem2) (.tmp mem0) (by omega) (rem64 (by omega))) wants_none (put_new (by kernel_rfl)) ?_
          refine at_each (H := [0, 3, 11]) (by kernel_rfl) rfl (each_cons ?_ (each_cons ?_ (each_cons ?_ each_nil)))
          · show ST _ _ _ _ _ _ _ _ _ _ _
            refine st_q (l' := #[true, true, true, false, false, true, true, true, true, true, false, false, false]) rfl rfl (oq_loadA (o := 0) (i := 0) (k := 11) (us := [.int .i64 c.workers, .int .i64 c.levels, .int .i64 c.classes, .int .i64 c.tasks, .int .i64 c.deque, .int .i64 c.heap, .int .i64 c.batch, .int .i64 c.age, .int .i64 c.patience, .slice l.pa c.progs.length l.pc, .slice l.sa c.subs.length l.sc]) (.tmp (memU mem4)) mem1 (rfl) (by kernel_rfl) rfl rfl) wants_none (put_new (by kernel_rfl)) ?_
            refine at_each (H := [3, 11]) (by kernel_rfl) rfl (each_cons ?_ (each_cons ?_ each_nil))
            · show ST _ _ _ _ _ _ _ _ _ _ _
              refine st_q (l' := #[true, true, true, true, false, true, true, true, true, true, false, false, false]) rfl rfl (oq_load (o := 0) (i := 0) (.tmp mem6) mem1 (rfl) rfl (by kernel_rfl)) wants_none (put_new (by kernel_rfl)) ?_
              refine at_take 4 (by kernel_rfl) (l' := #[true, true, true, true, true, true, true, true, true, true, false, false, false]) rfl rfl rfl (op_rem (.tmp mem8) (.tmp mem0) (by omega) (rem64 (by omega))) wants_none (put_new (by kernel_rfl)) ?_
              refine at_each (H := [10, 11]) (by kernel_rfl) rfl (each_cons ?_ (each_cons ?_ each_nil))
              · show ST _ _ _ _ _ _ _ _ _ _ _
                refine st_q (l' := #[true, true, true, true, true, true, true, true, true, true, true, false, false]) rfl rfl (oq_call0 (by kernel_rfl) (.cons (.tmp mem2) (.cons (.tmp mem0) (.cons (.tmp mem3) .nil))) (refQueue_spec c l hn _ _ (by omega) (by omega) B W _)) wants_none (put_new (by kernel_rfl)) ?_
                refine at_t 11 (by kernel_rfl) (l' := #[true, true, true, true, true, true, true, true, true, true, true, true, false]) rfl rfl (ot_alloc (v := .agg #[.int .i64 0, .int .i64 0, .int .i64 0, .int .i64 0]) (us := [.int .i64 0, .int .i64 0, .int .i64 0, .int .i64 0]) (by kernel_rfl) rfl) wants_none (fun _ => (put_new (by kernel_rfl))) ?_
                rintro b20
                refine at_t 12 (by kernel_rfl) (l' := #[true, true, true, true, true, true, true, true, true, true, true, true, true]) rfl rfl (ot_store (o := 0) (i := 0) (k := 4) (us := [.int .i64 ((topV c ((((byt bs i : Nat) : Int) % c.workers)) (((((byt bs i : Nat) : Int) / 4) % c.levels)))), .int .i64 ((topV c ((((byt bs i : Nat) : Int) % c.workers)) (((((byt bs i : Nat) : Int) / 4) % c.levels)) + 1)), .int .i64 ((topV c ((((byt bs i : Nat) : Int) % c.workers)) (((((byt bs i : Nat) : Int) / 4) % c.levels)) + 2)), .int .i64 c.deque]) (ws := [.int .i64 ((topV c ((((byt bs i : Nat) : Int) % c.workers)) (((((byt bs i : Nat) : Int) / 4) % c.levels)))), .int .i64 ((topV c ((((byt bs i : Nat) : Int) % c.workers)) (((((byt bs i : Nat) : Int) / 4) % c.levels)) + 1)), .int .i64 ((topV c ((((byt bs i : Nat) : Int) % c.workers)) (((((byt bs i : Nat) : Int) / 4) % c.levels)) + 2)), .int .i64 c.deque]) (.tmp mem0) (.tmp mem1) turn0 (rfl) (by kernel_rfl) rfl (by decide) rfl rfl (by simp) rfl) wants_none (fun _ => put_none) (fun _ => ?_)
                refine at_end (by kernel_rfl) ?_
                exact et_cut (b20) (trivial) (.cons mem0 rfl (.cons mem12 rfl (.cons mem13 rfl (.cons mem14 rfl (.cons mem15 rfl (.cons mem16 rfl (.cons mem17 rfl (.cons mem18 rfl (.cons mem19 rfl (.cons (memU mem0) rfl (.cons (memU mem1) rfl (.cons (memU mem2) rfl (.cons (memU mem3) rfl (.cons (memU mem4) rfl (.cons (memU mem5) rfl (.cons (memU mem6) rfl (.cons (memU mem7) rfl (.cons (memU mem8) rfl (.cons (memU mem9) rfl (.cons (memU mem10) rfl (.cons (memU mem11) rfl .nil))))))))))))))))))))) (Ent.refl)
              · show ST _ _ _ _ _ _ _ _ _ _ _
                refine st_t (l' := #[true, true, true, true, true, true, true, true, true, true, false, true, false]) rfl rfl (ot_alloc (v := .agg #[.int .i64 0, .int .i64 0, .int .i64 0, .int .i64 0]) (us := [.int .i64 0, .int .i64 0, .int .i64 0, .int .i64 0]) (by kernel_rfl) rfl) wants_none (fun _ => (put_new (by kernel_rfl))) ?_
                rintro b21
                refine at_q 10 (by kernel_rfl) (l' := #[true, true, true, true, true, true, true, true, true, true, true, true, false]) rfl rfl (oq_call0 (by kernel_rfl) (.cons (.tmp mem3) (.cons (.tmp mem1) (.cons (.tmp mem4) .nil))) (refQueue_spec c l hn _ _ (by omega) (by omega) B W _)) wants_none (put_new (by kernel_rfl)) ?_
                refine at_t 12 (by kernel_rfl) (l' := #[true, true, true, true, true, true, true, true, true, true, true, true, true]) rfl rfl (ot_store (o := 0) (i := 0) (k := 4) (us := [.int .i64 ((topV c ((((byt bs i : Nat) : Int) % c.workers)) (((((byt bs i : Nat) : Int) / 4) % c.levels)))), .int .i64 ((topV c ((((byt bs i : Nat) : Int) % c.workers)) (((((byt bs i : Nat) : Int) / 4) % c.levels)) + 1)), .int .i64 ((topV c ((((byt bs i : Nat) : Int) % c.workers)) (((((byt bs i : Nat) : Int) / 4) % c.levels)) + 2)), .int .i64 c.deque]) (ws := [.int .i64 ((topV c ((((byt bs i : Nat) : Int) % c.workers)) (((((byt bs i : Nat) : Int) / 4) % c.levels)))), .int .i64 ((topV c ((((byt bs i : Nat) : Int) % c.workers)) (((((byt bs i : Nat) : Int) / 4) % c.levels)) + 1)), .int .i64 ((topV c ((((byt bs i : Nat) : Int) % c.workers)) (((((byt bs i : Nat) : Int) / 4) % c.levels)) + 2)), .int .i64 c.deque]) (.tmp mem1) (.tmp mem0) turn0 (rfl) (by kernel_rfl) rfl (by decide) rfl rfl (by simp) rfl) wants_none (fun _ => put_none) (fun _ => ?_)
                refine at_end (by kernel_rfl) ?_
                exact et_cut (b21) (trivial) (.cons mem1 rfl (.cons mem12 rfl (.cons mem13 rfl (.cons mem14 rfl (.cons mem15 rfl (.cons mem16 rfl (.cons mem17 rfl (.cons mem18 rfl (.cons mem19 rfl (.cons (memU mem0) rfl (.cons (memU mem1) rfl (.cons (memU mem2) rfl (.cons (memU mem3) rfl (.cons (memU mem4) rfl (.cons (memU mem5) rfl (.cons (memU mem6) rfl (.cons (memU mem7) rfl (.cons (memU mem8) rfl (.cons (memU mem9) rfl (.cons (memU mem10) rfl (.cons (memU mem11) rfl .nil))))))))))))))))))))) (Ent.refl)
            · show ST _ _ _ _ _ _ _ _ _ _ _
              refine st_t (l' := #[true, true, true, false, false, true, true, true, true, true, false, true, false]) rfl rfl (ot_alloc (v := .agg #[.int .i64 0, .int .i64 0, .int .i64 0, .int .i64 0]) (us := [.int .i64 0, .int .i64 0, .int .i64 0, .int .i64 0]) (by kernel_rfl) rfl) wants_none (fun _ => (put_new (by kernel_rfl))) ?_
              rintro b22
              refine at_q 3 (by kernel_rfl) (l' := #[true, true, true, true, false, true, true, true, true, true, false, true, false]) rfl rfl (oq_load (o := 0) (i := 0) (.tmp mem7) mem2 (rfl) rfl (by kernel_rfl)) wants_none (put_new (by kernel_rfl)) ?_
              refine at_take 4 (by kernel_rfl) (l' := #[true, true, true, true, true, true, true, true, true, true, false, true, false]) rfl rfl rfl (op_rem (.tmp mem9) (.tmp mem0) (by omega) (rem64 (by omega))) wants_none (put_new (by kernel_rfl)) ?_
              refine at_q 10 (by kernel_rfl) (l' := #[true, true, true, true, true, true, true, true, true, true, true, true, false]) rfl rfl (oq_call0 (by kernel_rfl) (.cons (.tmp mem3) (.cons (.tmp mem0) (.cons (.tmp mem4) .nil))) (refQueue_spec c l hn _ _ (by omega) (by omega) B W _)) wants_none (put_new (by kernel_rfl)) ?_
              refine at_t 12 (by kernel_rfl) (l' := #[true, true, true, true, true, true, true, true, true, true, true, true, true]) rfl rfl (ot_store (o := 0) (i := 0) (k := 4) (us := [.int .i64 ((topV c ((((byt bs i : Nat) : Int) % c.workers)) (((((byt bs i : Nat) : Int) / 4) % c.levels)))), .int .i64 ((topV c ((((byt bs i : Nat) : Int) % c.workers)) (((((byt bs i : Nat) : Int) / 4) % c.levels)) + 1)), .int .i64 ((topV c ((((byt bs i : Nat) : Int) % c.workers)) (((((byt bs i : Nat) : Int) / 4) % c.levels)) + 2)), .int .i64 c.deque]) (ws := [.int .i64 ((topV c ((((byt bs i : Nat) : Int) % c.workers)) (((((byt bs i : Nat) : Int) / 4) % c.levels)))), .int .i64 ((topV c ((((byt bs i : Nat) : Int) % c.workers)) (((((byt bs i : Nat) : Int) / 4) % c.levels)) + 1)), .int .i64 ((topV c ((((byt bs i : Nat) : Int) % c.workers)) (((((byt bs i : Nat) : Int) / 4) % c.levels)) + 2)), .int .i64 c.deque]) (.tmp mem3) (.tmp mem0) turn0 (rfl) (by kernel_rfl) rfl (by decide) rfl rfl (by simp) rfl) wants_none (fun _ => put_none) (fun _ => ?_)
              refine at_end (by kernel_rfl) ?_
              exact et_cut (b22) (trivial) (.cons mem3 rfl (.cons mem12 rfl (.cons mem13 rfl (.cons mem14 rfl (.cons mem15 rfl (.cons mem16 rfl (.cons mem17 rfl (.cons mem18 rfl (.cons mem19 rfl (.cons (memU mem0) rfl (.cons (memU mem1) rfl (.cons (memU mem2) rfl (.cons (memU mem3) rfl (.cons (memU mem4) rfl (.cons (memU mem5) rfl (.cons (memU mem6) rfl (.cons (memU mem7) rfl (.cons (memU mem8) rfl (.cons (memU mem9) rfl (.cons (memU mem10) rfl (.cons (memU mem11) rfl .nil))))))))))))))))))))) (Ent.refl)
          · show ST _ _ _ _ _ _ _ _ _ _ _
            refine st_q (l' := #[false, true, true, true, false, true, true, true, true, true, false, false, false]) rfl rfl (oq_load (o := 0) (i := 0) (.tmp mem5) mem1 (rfl) rfl (by kernel_rfl)) wants_none (put_new (by kernel_rfl)) ?_
            refine at_take 4 (by kernel_rfl) (l' := #[false, true, true, true, true, true, true, true, true, true, false, false, false]) rfl rfl rfl (op_rem (.tmp mem7) (.tmp mem0) (by omega) (rem64 (by omega))) wants_none (put_new (by kernel_rfl)) ?_
            refine at_each (H := [0, 11]) (by kernel_rfl) rfl (each_cons ?_ (each_cons ?_ each_nil))
            · show ST _ _ _ _ _ _ _ _ _ _ _
              refine st_q (l' := #[true, true, true, true, true, true, true, true, true, true, false, false, false]) rfl rfl (oq_loadA (o := 0) (i := 0) (k := 11) (us := [.int .i64 c.workers, .int .i64 c.levels, .int .i64 c.classes, .int .i64 c.tasks, .int .i64 c.deque, .int .i64 c.heap, .int .i64 c.batch, .int .i64 c.age, .int .i64 c.patience, .slice l.pa c.progs.length l.pc, .slice l.sa c.subs.length l.sc]) (.tmp (memU mem6)) mem1 (rfl) (by kernel_rfl) rfl rfl) wants_none (put_new (by kernel_rfl)) ?_
              refine at_each (H := [10, 11]) (by kernel_rfl) rfl (each_cons ?_ (each_cons ?_ each_nil))
              · show ST _ _ _ _ _ _ _ _ _ _ _
                refine st_q (l' := #[true, true, true, true, true, true, true, true, true, true, true, false, false]) rfl rfl (oq_call0 (by kernel_rfl) (.cons (.tmp mem0) (.cons (.tmp mem1) (.cons (.tmp mem3) .nil))) (refQueue_spec c l hn _ _ (by omega) (by omega) B W _)) wants_none (put_new (by kernel_rfl)) ?_
                refine at_t 11 (by kernel_rfl) (l' := #[true, true, true, true, true, true, true, true, true, true, true, true, false]) rfl rfl (ot_alloc (v := .agg #[.int .i64 0, .int .i64 0, .int .i64 0, .int .i64 0]) (us := [.int .i64 0, .int .i64 0, .int .i64 0, .int .i64 0]) (by kernel_rfl) rfl) wants_none (fun _ => (put_new (by kernel_rfl))) ?_
                rintro b23
                refine at_t 12 (by kernel_rfl) (l' := #[true, true, true, true, true, true, true, true, true, true, true, true, true]) rfl rfl (ot_store (o := 0) (i := 0) (k := 4) (us := [.int .i64 ((topV c ((((byt bs i : Nat) : Int) % c.workers)) (((((byt bs i : Nat) : Int) / 4) % c.levels)))), .int .i64 ((topV c ((((byt bs i : Nat) : Int) % c.workers)) (((((byt bs i : Nat) : Int) / 4) % c.levels)) + 1)), .int .i64 ((topV c ((((byt bs i : Nat) : Int) % c.workers)) (((((byt bs i : Nat) : Int) / 4) % c.levels)) + 2)), .int .i64 c.deque]) (ws := [.int .i64 ((topV c ((((byt bs i : Nat) : Int) % c.workers)) (((((byt bs i : Nat) : Int) / 4) % c.levels)))), .int .i64 ((topV c ((((byt bs i : Nat) : Int) % c.workers)) (((((byt bs i : Nat) : Int) / 4) % c.levels)) + 1)), .int .i64 ((topV c ((((byt bs i : Nat) : Int) % c.workers)) (((((byt bs i : Nat) : Int) / 4) % c.levels)) + 2)), .int .i64 c.deque]) (.tmp mem0) (.tmp mem1) turn0 (rfl) (by kernel_rfl) rfl (by decide) rfl rfl (by simp) rfl) wants_none (fun _ => put_none) (fun _ => ?_)
                refine at_end (by kernel_rfl) ?_
                exact et_cut (b23) (trivial) (.cons mem0 rfl (.cons mem12 rfl (.cons mem13 rfl (.cons mem14 rfl (.cons mem15 rfl (.cons mem16 rfl (.cons mem17 rfl (.cons mem18 rfl (.cons mem19 rfl (.cons (memU mem0) rfl (.cons (memU mem1) rfl (.cons (memU mem2) rfl (.cons (memU mem3) rfl (.cons (memU mem4) rfl (.cons (memU mem5) rfl (.cons (memU mem6) rfl (.cons (memU mem7) rfl (.cons (memU mem8) rfl (.cons (memU mem9) rfl (.cons (memU mem10) rfl (.cons (memU mem11) rfl .nil))))))))))))))))))))) (Ent.refl)
              · show ST _ _ _ _ _ _ _ _ _ _ _
                refine st_t (l' := #[true, true, true, true, true, true, true, true, true, true, false, true, false]) rfl rfl (ot_alloc (v := .agg #[.int .i64 0, .int .i64 0, .int .i64 0, .int .i64 0]) (us := [.int .i64 0, .int .i64 0, .int .i64 0, .int .i64 0]) (by kernel_rfl) rfl) wants_none (fun _ => (put_new (by kernel_rfl))) ?_
                rintro b24
                refine at_q 10 (by kernel_rfl) (l' := #[true, true, true, true, true, true, true, true, true, true, true, true, false]) rfl rfl (oq_call0 (by kernel_rfl) (.cons (.tmp mem1) (.cons (.tmp mem2) (.cons (.tmp mem4) .nil))) (refQueue_spec c l hn _ _ (by omega) (by omega) B W _)) wants_none (put_new (by kernel_rfl)) ?_
                refine at_t 12 (by kernel_rfl) (l' := #[true, true, true, true, true, true, true, true, true, true, true, true, true]) rfl rfl (ot_store (o := 0) (i := 0) (k := 4) (us := [.int .i64 ((topV c ((((byt bs i : Nat) : Int) % c.workers)) (((((byt bs i : Nat) : Int) / 4) % c.levels)))), .int .i64 ((topV c ((((byt bs i : Nat) : Int) % c.workers)) (((((byt bs i : Nat) : Int) / 4) % c.levels)) + 1)), .int .i64 ((topV c ((((byt bs i : Nat) : Int) % c.workers)) (((((byt bs i : Nat) : Int) / 4) % c.levels)) + 2)), .int .i64 c.deque]) (ws := [.int .i64 ((topV c ((((byt bs i : Nat) : Int) % c.workers)) (((((byt bs i : Nat) : Int) / 4) % c.levels)))), .int .i64 ((topV c ((((byt bs i : Nat) : Int) % c.workers)) (((((byt bs i : Nat) : Int) / 4) % c.levels)) + 1)), .int .i64 ((topV c ((((byt bs i : Nat) : Int) % c.workers)) (((((byt bs i : Nat) : Int) / 4) % c.levels)) + 2)), .int .i64 c.deque]) (.tmp mem1) (.tmp mem0) turn0 (rfl) (by kernel_rfl) rfl (by decide) rfl rfl (by simp) rfl) wants_none (fun _ => put_none) (fun _ => ?_)
                refine at_end (by kernel_rfl) ?_
                exact et_cut (b24) (trivial) (.cons mem1 rfl (.cons mem12 rfl (.cons mem13 rfl (.cons mem14 rfl (.cons mem15 rfl (.cons mem16 rfl (.cons mem17 rfl (.cons mem18 rfl (.cons mem19 rfl (.cons (memU mem0) rfl (.cons (memU mem1) rfl (.cons (memU mem2) rfl (.cons (memU mem3) rfl (.cons (memU mem4) rfl (.cons (memU mem5) rfl (.cons (memU mem6) rfl (.cons (memU mem7) rfl (.cons (memU mem8) rfl (.cons (memU mem9) rfl (.cons (memU mem10) rfl (.cons (memU mem11) rfl .nil))))))))))))))))))))) (Ent.refl)
            · show ST _ _ _ _ _ _ _ _ _ _ _
              refine st_t (l' := #[false, true, true, true, true, true, true, true, true, true, false, true, false]) rfl rfl (ot_alloc (v := .agg #[.int .i64 0, .int .i64 0, .int .i64 0, .int .i64 0]) (us := [.int .i64 0, .int .i64 0, .int .i64 0, .int .i64 0]) (by kernel_rfl) rfl) wants_none (fun _ => (put_new (by kernel_rfl))) ?_
              rintro b25
              refine at_q 0 (by kernel_rfl) (l' := #[true, true, true, true, true, true, true, true, true, true, false, true, false]) rfl rfl (oq_loadA (o := 0) (i := 0) (k := 11) (us := [.int .i64 c.workers, .int .i64 c.levels, .int .i64 c.classes, .int .i64 c.tasks, .int .i64 c.deque, .int .i64 c.heap, .int .i64 c.batch, .int .i64 c.age, .int .i64 c.patience, .slice l.pa c.progs.length l.pc, .slice l.sa c.subs.length l.sc]) (.tmp (memU mem7)) mem2 (rfl) (by kernel_rfl) rfl rfl) wants_none (put_new (by kernel_rfl)) ?_
              refine at_q 10 (by kernel_rfl) (l' := #[true, true, true, true, true, true, true, true, true, true, true, true, false]) rfl rfl (oq_call0 (by kernel_rfl) (.cons (.tmp mem0) (.cons (.tmp mem2) (.cons (.tmp mem4) .nil))) (refQueue_spec c l hn _ _ (by omega) (by omega) B W _)) wants_none (put_new (by kernel_rfl)) ?_
              refine at_t 12 (by kernel_rfl) (l' := #[true, true, true, true, true, true, true, true, true, true, true, true, true]) rfl rfl (ot_store (o := 0) (i := 0) (k := 4) (us := [.int .i64 ((topV c ((((byt bs i : Nat) : Int) % c.workers)) (((((byt bs i : Nat) : Int) / 4) % c.levels)))), .int .i64 ((topV c ((((byt bs i : Nat) : Int) % c.workers)) (((((byt bs i : Nat) : Int) / 4) % c.levels)) + 1)), .int .i64 ((topV c ((((byt bs i : Nat) : Int) % c.workers)) (((((byt bs i : Nat) : Int) / 4) % c.levels)) + 2)), .int .i64 c.deque]) (ws := [.int .i64 ((topV c ((((byt bs i : Nat) : Int) % c.workers)) (((((byt bs i : Nat) : Int) / 4) % c.levels)))), .int .i64 ((topV c ((((byt bs i : Nat) : Int) % c.workers)) (((((byt bs i : Nat) : Int) / 4) % c.levels)) + 1)), .int .i64 ((topV c ((((byt bs i : Nat) : Int) % c.workers)) (((((byt bs i : Nat) : Int) / 4) % c.levels)) + 2)), .int .i64 c.deque]) (.tmp mem2) (.tmp mem0) turn0 (rfl) (by kernel_rfl) rfl (by decide) rfl rfl (by simp) rfl) wants_none (fun _ => put_none) (fun _ => ?_)
              refine at_end (by kernel_rfl) ?_
              exact et_cut (b25) (trivial) (.cons mem2 rfl (.cons mem12 rfl (.cons mem13 rfl (.cons mem14 rfl (.cons mem15 rfl (.cons mem16 rfl (.cons mem17 rfl (.cons mem18 rfl (.cons mem19 rfl (.cons (memU mem0) rfl (.cons (memU mem1) rfl (.cons (memU mem2) rfl (.cons (memU mem3) rfl (.cons (memU mem4) rfl (.cons (memU mem5) rfl (.cons (memU mem6) rfl (.cons (memU mem7) rfl (.cons (memU mem8) rfl (.cons (memU mem9) rfl (.cons (memU mem10) rfl (.cons (memU mem11) rfl .nil))))))))))))))))))))) (Ent.refl)
          · show ST _ _ _ _ _ _ _ _ _ _ _
            refine st_t (l' := #[false, true, true, false, false, true, true, true, true, true, false, true, false]) rfl rfl (ot_alloc (v := .agg #[.int .i64 0, .int .i64 0, .int .i64 0, .int .i64 0]) (us := [.int .i64 0, .int .i64 0, .int .i64 0, .int .i64 0]) (by kernel_rfl) rfl) wants_none (fun _ => (put_new (by kernel_rfl))) ?_
            rintro b26
            refine at_group [0, 3, 4, 10] 1 rfl (by kernel_rfl) (l' := #[true, true, true, true, true, true, true, true, true, true, true, true, false]) rfl ?_
            refine qt_q (oq_loadA (o := 0) (i := 0) (k := 11) (us := [.int .i64 c.workers, .int .i64 c.levels, .int .i64 c.classes, .int .i64 c.tasks, .int .i64 c.deque, .int .i64 c.heap, .int .i64 c.batch, .int .i64 c.age, .int .i64 c.patience, .slice l.pa c.progs.length l.pc, .slice l.sa c.subs.length l.sc]) (.tmp (memU mem5)) mem2 (rfl) (by kernel_rfl) rfl rfl) wants_none (put_new (by kernel_rfl)) ?_
            refine qt_q (oq_load (o := 0) (i := 0) (.tmp mem7) mem2 (rfl) rfl (by kernel_rfl)) wants_none (put_new (by kernel_rfl)) ?_
            refine qt_q (op_rem (.tmp mem9) (.tmp mem0) (by omega) (rem64 (by omega))).q wants_none (put_new (by kernel_rfl)) ?_
            refine qt_q (oq_call0 (by kernel_rfl) (.cons (.tmp mem2) (.cons (.tmp mem0) (.cons (.tmp mem4) .nil))) (refQueue_spec c l hn _ _ (by omega) (by omega) B W _)) wants_none (put_new (by kernel_rfl)) ?_
            refine qt_nil ?_
            refine at_t 12 (by kernel_rfl) (l' := #[true, true, true, true, true, true, true, true, true, true, true, true, true]) rfl rfl (ot_store (o := 0) (i := 0) (k := 4) (us := [.int .i64 ((topV c ((((byt bs i : Nat) : Int) % c.workers)) (((((byt bs i : Nat) : Int) / 4) % c.levels)))), .int .i64 ((topV c ((((byt bs i : Nat) : Int) % c.workers)) (((((byt bs i : Nat) : Int) / 4) % c.levels)) + 1)), .int .i64 ((topV c ((((byt bs i : Nat) : Int) % c.workers)) (((((byt bs i : Nat) : Int) / 4) % c.levels)) + 2)), .int .i64 c.deque]) (ws := [.int .i64 ((topV c ((((byt bs i : Nat) : Int) % c.workers)) (((((byt bs i : Nat) : Int) / 4) % c.levels)))), .int .i64 ((topV c ((((byt bs i : Nat) : Int) % c.workers)) (((((byt bs i : Nat) : Int) / 4) % c.levels)) + 1)), .int .i64 ((topV c ((((byt bs i : Nat) : Int) % c.workers)) (((((byt bs i : Nat) : Int) / 4) % c.levels)) + 2)), .int .i64 c.deque]) (.tmp mem4) (.tmp mem0) turn0 (rfl) (by kernel_rfl) rfl (by decide) rfl rfl (by simp) rfl) wants_none (fun _ => put_none) (fun _ => ?_)
            refine at_end (by kernel_rfl) ?_
            exact et_cut (b26) (trivial) (.cons mem4 rfl (.cons mem12 rfl (.cons mem13 rfl (.cons mem14 rfl (.cons mem15 rfl (.cons mem16 rfl (.cons mem17 rfl (.cons mem18 rfl (.cons mem19 rfl (.cons (memU mem0) rfl (.cons (memU mem1) rfl (.cons (memU mem2) rfl (.cons (memU mem3) rfl (.cons (memU mem4) rfl (.cons (memU mem5) rfl (.cons (memU mem6) rfl (.cons (memU mem7) rfl (.cons (memU mem8) rfl (.cons (memU mem9) rfl (.cons (memU mem10) rfl (.cons (memU mem11) rfl .nil))))))))))))))))))))) (Ent.refl)
        · show ST _ _ _ _ _ _ _ _ _ _ _
          refine st_t (l' := #[false, true, true, false, false, true, true, true, false, false, false, true, false]) rfl rfl (ot_alloc (v := .agg #[.int .i64 0, .int .i64 0, .int .i64 0, .int .i64 0]) (us := [.int .i64 0, .int .i64 0, .int .i64 0, .int .i64 0]) (by kernel_rfl) rfl) wants_none (fun _ => (put_new (by kernel_rfl))) ?_
          rintro b27
          refine at_group [0, 3, 4, 8, 9, 10] 1 rfl (by kernel_rfl) (l' := #[true, true, true, true, true, true, true, true, true, true, true, true, false]) rfl ?_
          refine qt_q (oq_loadA (o := 0) (i := 0) (k := 11) (us := [.int .i64 c.workers, .int .i64 c.levels, .int .i64 c.classes, .int .i64 c.tasks, .int .i64 c.deque, .int .i64 c.heap, .int .i64 c.batch, .int .i64 c.age, .int .i64 c.patience, .slice l.pa c.progs.length l.pc, .slice l.sa c.subs.length l.sc]) (.tmp (memU mem3)) mem2 (rfl) (by kernel_rfl) rfl rfl) wants_none (put_new (by kernel_rfl)) ?_
          refine qt_q (oq_load (o := 0) (i := 0) (.tmp mem5) mem2 (rfl) rfl (by kernel_rfl)) wants_none (put_new (by kernel_rfl)) ?_
          refine qt_q (op_rem (.tmp mem7) (.tmp mem0) (by omega) (rem64 (by omega))).q wants_none (put_new (by kernel_rfl)) ?_
          refine qt_q (oq_load (o := 0) (i := 1) (.tmp mem4) mem2 (rfl) rfl (by kernel_rfl)) wants_none (put_new (by kernel_rfl)) ?_
          refine qt_q (op_rem (.tmp mem6) (.tmp mem0) (by omega) (rem64 (by omega))).q wants_none (put_new (by kernel_rfl)) ?_
          refine qt_q (oq_call0 (by kernel_rfl) (.cons (.tmp mem4) (.cons (.tmp mem2) (.cons (.tmp mem0) .nil))) (refQueue_spec c l hn _ _ (by omega) (by omega) B W _)) wants_none (put_new (by kernel_rfl)) ?_
          refine qt_nil ?_
          refine at_t 12 (by kernel_rfl) (l' := #[true, true, true, true, true, true, true, true, true, true, true, true, true]) rfl rfl (ot_store (o := 0) (i := 0) (k := 4) (us := [.int .i64 ((topV c ((((byt bs i : Nat) : Int) % c.workers)) (((((byt bs i : Nat) : Int) / 4) % c.levels)))), .int .i64 ((topV c ((((byt bs i : Nat) : Int) % c.workers)) (((((byt bs i : Nat) : Int) / 4) % c.levels)) + 1)), .int .i64 ((topV c ((((byt bs i : Nat) : Int) % c.workers)) (((((byt bs i : Nat) : Int) / 4) % c.levels)) + 2)), .int .i64 c.deque]) (ws := [.int .i64 ((topV c ((((byt bs i : Nat) : Int) % c.workers)) (((((byt bs i : Nat) : Int) / 4) % c.levels)))), .int .i64 ((topV c ((((byt bs i : Nat) : Int) % c.workers)) (((((byt bs i : Nat) : Int) / 4) % c.levels)) + 1)), .int .i64 ((topV c ((((byt bs i : Nat) : Int) % c.workers)) (((((byt bs i : Nat) : Int) / 4) % c.levels)) + 2)), .int .i64 c.deque]) (.tmp mem6) (.tmp mem0) turn0 (rfl) (by kernel_rfl) rfl (by decide) rfl rfl (by simp) rfl) wants_none (fun _ => put_none) (fun _ => ?_)
          refine at_end (by kernel_rfl) ?_
          exact et_cut (b27) (trivial) (.cons mem6 rfl (.cons mem12 rfl (.cons mem13 rfl (.cons mem14 rfl (.cons mem15 rfl (.cons mem16 rfl (.cons mem17 rfl (.cons mem18 rfl (.cons mem19 rfl (.cons (memU mem0) rfl (.cons (memU mem1) rfl (.cons (memU mem2) rfl (.cons (memU mem3) rfl (.cons (memU mem4) rfl (.cons (memU mem5) rfl (.cons (memU mem6) rfl (.cons (memU mem7) rfl (.cons (memU mem8) rfl (.cons (memU mem9) rfl (.cons (memU mem10) rfl (.cons (memU mem11) rfl .nil))))))))))))))))))))) (Ent.refl)
      · skip
        refine ct_seq ?_
        refine ct_region ?_
        refine rt_q (op_move (.tmp mem16)).q wants_none (put_new (by kernel_rfl)) ?_
        refine rt_q (op_field (k := 1) (o' := 1) (.tmp mem1) (by kernel_rfl) (by rfl)).q wants_none (put_new (by kernel_rfl)) ?_
        refine rt_q (oq_load (o := 0) (i := 1) (.tmp mem0) mem0 (rfl) rfl (by kernel_rfl)) wants_none (put_new (by kernel_rfl)) ?_
        refine rt_q (oq_indexS (i := (((topV c (((byt bs i : Nat) : Int) % c.workers) (((byt bs i : Nat) : Int) / 4 % c.levels)) + 1)).toNat) (.tmp mem2) (.tmp mem0) mem1 (by omega) (by omega) (by omega) (by kernel_rfl) (Nat.mul_one _)) wants_none (put_new (by kernel_rfl)) ?_
        refine rt_q (oq_loadS (i := (((topV c (((byt bs i : Nat) : Int) % c.workers) (((byt bs i : Nat) : Int) / 4 % c.levels)) + 1)).toNat) (.tmp mem0) mem1 (gi_map (by rw [laidE_len]; omega)) (by kernel_rfl)) wants_none (put_new (by kernel_rfl)) ?_
        refine rt_q (op_assign (.tmp mem0)).q wants_none (put_new (by kernel_rfl)) ?_
        refine rt_nil ?_
        refine et_then ?_
        refine ct_seq ?_
        refine ct_draw (by kernel_rfl) (by kernel_rfl) ?_
        refine qt_q (op_move (.tmp mem0)).q wants_none (put_new (by kernel_rfl)) ?_
        refine qt_q (op_move (.tmp (memU mem3))).q wants_none (put_new (by kernel_rfl)) ?_
        refine qt_q (op_field (k := 0) (o' := 0) (.tmp mem8) (by kernel_rfl) (by rfl)).q wants_none (put_new (by kernel_rfl)) ?_
        refine qt_q (oq_load (o := 0) (i := 0) (.tmp mem0) mem0 (rfl) rfl (by kernel_rfl)) wants_none (put_new (by kernel_rfl)) ?_
        refine qt_q (oq_indexS (i := ((topV c (((byt bs i : Nat) : Int) % c.workers) (((byt bs i : Nat) : Int) / 4 % c.levels))).toNat) (.tmp mem2) (.tmp mem0) mem1 (by omega) (by omega) (by omega) (by kernel_rfl) (Nat.mul_one _)) wants_none (put_new (by kernel_rfl)) ?_
        refine qt_q (oq_loadS (i := ((topV c (((byt bs i : Nat) : Int) % c.workers) (((byt bs i : Nat) : Int) / 4 % c.levels))).toNat) (.tmp mem0) mem1 (gi_map (by rw [laidE_len]; omega)) (by kernel_rfl)) wants_none (put_new (by kernel_rfl)) ?_
        have hs1 := hlw ((topV c (((byt bs i : Nat) : Int) % c.workers) (((byt bs i : Nat) : Int) / 4 % c.levels)) + 1).toNat
        have hs2 := hlw (topV c (((byt bs i : Nat) : Int) % c.workers) (((byt bs i : Nat) : Int) / 4 % c.levels)).toNat
        refine qt_q (oq_call0 (by kernel_rfl) (.cons (.tmp mem5) (.cons (.tmp mem0) .nil)) (refSize_spec _ _ B W _)) wants_none (put_new (by kernel_rfl)) ?_
        refine qt_q (op_field (k := 4) (o' := 4) (.tmp (memU mem11)) (by kernel_rfl) (by rfl)).q wants_none (put_new (by kernel_rfl)) ?_
        refine qt_q (oq_load (o := 0) (i := 4) (.tmp mem0) mem2 (rfl) rfl (by kernel_rfl)) wants_none (put_new (by kernel_rfl)) ?_
        refine qt_q (op_lss (.tmp mem2) (.tmp mem0)).q wants_none (put_new (by kernel_rfl)) ?_
        refine qt_nil ?_
        refine et_then ?_
        refine ct_if (.tmp mem0) (fun h28 => ?_) (fun h28 => ?_)
        · refine ct_seq ?_
          refine ct_any 12 (by kernel_rfl) rfl (listed := #[false, false, false, false, false, false, false, false, false, false, false, false]) rfl ?_
          refine at_take 0 (by kernel_rfl) (l' := #[true, false, false, false, false, false, false, false, false, false, false, false]) rfl rfl rfl (op_move (.tmp (memU mem12))) wants_none (put_new (by kernel_rfl)) ?_
          refine at_take 2 (by kernel_rfl) (l' := #[true, false, true, false, false, false, false, false, false, false, false, false]) rfl rfl rfl (op_move (.tmp mem11)) wants_none (put_new (by kernel_rfl)) ?_
          refine at_take 4 (by kernel_rfl) (l' := #[true, false, true, false, true, false, false, false, false, false, false, false]) rfl rfl rfl (op_move (.tmp mem19)) wants_none (put_new (by kernel_rfl)) ?_
          refine at_take 5 (by kernel_rfl) (l' := #[true, false, true, false, true, true, false, false, false, false, false, false]) rfl rfl rfl (op_quo (.tmp mem0) .const (by omega) (quo64 (by omega) (by omega) (by omega))) wants_none (put_new (by kernel_rfl)) ?_
          refine at_take 6 (by kernel_rfl) (l' := #[true, false, true, false, true, true, true, false, false, false, false, false]) rfl rfl rfl (op_field (k := 3) (o' := 3) (.tmp (memU mem18)) (by kernel_rfl) (by rfl)) wants_none (put_new (by kernel_rfl)) ?_
          refine at_group [1, 3, 7, 8, 9, 10] 1 rfl (by kernel_rfl) (l' := #[true, true, true, true, true, true, true, true, true, true, true, false]) rfl ?_
          refine qt_q (oq_loadA (o := 0) (i := 0) (k := 4) (us := [.int .i64 ((topV c (((byt bs i : Nat) : Int) % c.workers) (((byt bs i : Nat) : Int) / 4 % c.levels))), .int .i64 (((topV c (((byt bs i : Nat) : Int) % c.workers) (((byt bs i : Nat) : Int) / 4 % c.levels)) + 1)), .int .i64 (((topV c (((byt bs i : Nat) : Int) % c.workers) (((byt bs i : Nat) : Int) / 4 % c.levels)) + 2)), .int .i64 c.deque]) (.tmp (memU mem1)) mem0 (rfl) (by kernel_rfl) rfl rfl) wants_none (put_new (by kernel_rfl)) ?_
          have hr1 := Int.emod_nonneg ((gi (laidE c bs i) ((((topV c (((byt bs i : Nat) : Int) % c.workers) (((byt bs i : Nat) : Int) / 4 % c.levels)) + 1)).toNat))) (show c.deque ≠ 0 by omega)
          have hr2 := Int.emod_lt_of_pos ((gi (laidE c bs i) ((((topV c (((byt bs i : Nat) : Int) % c.workers) (((byt bs i : Nat) : Int) / 4 % c.levels)) + 1)).toNat))) (show 0 < c.deque by omega)
          refine qt_q (oq_call0 (by kernel_rfl) (.cons (.tmp mem0) (.cons (.tmp mem4) .nil)) (refRing_spec _ _ _ _ _ (by omega) (by omega) (by omega) B W _)) wants_none (put_new (by kernel_rfl)) ?_
          refine qt_q (oq_load (o := 0) (i := 3) (.tmp mem2) mem2 (rfl) rfl (by kernel_rfl)) wants_none (put_new (by kernel_rfl)) ?_
          refine qt_q (op_rem (.tmp mem4) (.tmp mem0) (by omega) (rem64 (by omega))).q wants_none (put_new (by kernel_rfl)) ?_
          refine qt_q (op_conv (.tmp mem0) Try.underlying3 Try.underlying33 (wu64 (by omega) (by omega))).q wants_none (put_new (by kernel_rfl)) ?_
          refine qt_q (oq_indexS (i := ((((topV c (((byt bs i : Nat) : Int) % c.workers) (((byt bs i : Nat) : Int) / 4 % c.levels)) + 2) + (gi (laidE c bs i) ((((topV c (((byt bs i : Nat) : Int) % c.workers) (((byt bs i : Nat) : Int) / 4 % c.levels)) + 1)).toNat)) % c.deque)).toNat) (.tmp mem9) (.tmp mem3) mem1 (by omega) (by omega) (by omega) (by kernel_rfl) (Nat.mul_one _)) wants_none (put_new (by kernel_rfl)) ?_
          refine qt_nil ?_
          refine at_ent (Ent.picks (.cons pick1 .nil) : Ent _ (rowS ((some ⟨b2, 0, none⟩)) ((layCells c).toNat) ((layCells c).toNat) 1 ((laidE c bs i).map (Value.int .u64)) :: _)) ?_
          refine at_t 11 (by kernel_rfl) (l' := #[true, true, true, true, true, true, true, true, true, true, true, true]) rfl rfl (ot_storeS (i := ((((topV c (((byt bs i : Nat) : Int) % c.workers) (((byt bs i : Nat) : Int) / 4 % c.levels)) + 2) + (gi (laidE c bs i) ((((topV c (((byt bs i : Nat) : Int) % c.workers) (((byt bs i : Nat) : Int) / 4 % c.levels)) + 1)).toNat)) % c.deque)).toNat) (.tmp mem0) (.tmp mem1) turn0 (by first | omega | (simp only [List.length_map, List.length_set, laidE_len, laidS_len]; omega)) (by kernel_rfl) rfl) wants_none (fun _ => put_none) (fun _ => ?_)
          refine at_ent ent_set ?_
          refine at_end (by kernel_rfl) ?_
          refine et_then ?_
          refine ct_region ?_
          refine rt_q (op_move (.tmp (memU (memU mem3)))).q wants_none (put_new (by kernel_rfl)) ?_
          refine rt_q (op_field (k := 1) (o' := 1) (.tmp (memU mem8)) (by kernel_rfl) (by rfl)).q wants_none (put_new (by kernel_rfl)) ?_
          refine rt_q (oq_load (o := 0) (i := 1) (.tmp mem0) mem1 (rfl) rfl (by kernel_rfl)) wants_none (put_new (by kernel_rfl)) ?_
          refine rt_q (op_move (.tmp (memU mem4))).q wants_none (put_new (by kernel_rfl)) ?_
          refine rt_q (op_add (.tmp mem0) .const rfl).q wants_none (put_new (by kernel_rfl)) ?_
          refine rt_q (oq_indexS (i := (((topV c (((byt bs i : Nat) : Int) % c.workers) (((byt bs i : Nat) : Int) / 4 % c.levels)) + 1)).toNat) (.tmp mem4) (.tmp mem2) mem0 (by omega) (by omega) (by omega) (by kernel_rfl) (Nat.mul_one _)) wants_none (put_new (by kernel_rfl)) ?_
          refine rt_t (ot_storeS (i := (((topV c (((byt bs i : Nat) : Int) % c.workers) (((byt bs i : Nat) : Int) / 4 % c.levels)) + 1)).toNat) (.tmp mem0) (.tmp mem1) turn0 (by first | omega | (simp only [List.length_map, List.length_set, laidE_len, laidS_len]; omega)) (by kernel_rfl) rfl) wants_none (fun _ => put_none) (fun _ => ?_)
          refine rt_ent ent_set ?_
          refine rt_nil ?_
          refine et_block ?_
          refine et_then ?_
          refine ct_region ?_
          refine rt_q (op_move (.tmp (memU (memU mem8)))).q wants_none (put_new (by kernel_rfl)) ?_
          refine rt_q (op_add (.tmp mem0) .const (w64 (by omega) (by omega))).q wants_none (put_new (by kernel_rfl)) ?_
          refine rt_q (op_assign (.tmp mem0)).q wants_none (put_over (pickU (pickU pick10)) (by kernel_rfl)) ?_
          refine rt_nil ?_
          exact et_again (n := 101) ((i + 1)) (⟨by omega, by omega⟩) (by omega) (.cons mem0 (congrArg (Value.int .i64) (by first | rfl | omega | (simp; omega) | simp)) (.cons (memU (memU mem11)) rfl (.cons (memU (memU mem12)) rfl (.cons (memU (memU mem13)) rfl (.cons (memU (memU mem14)) rfl (.cons (memU (memU mem15)) rfl .nil)))))) ((la_ent (laidE_yes (t := (topV c (((byt bs i : Nat) : Int) % c.workers) (((byt bs i : Nat) : Int) / 4 % c.levels))) (n := ((byt bs i : Nat) : Int)) (by omega) rfl rfl (by assumption))))
        · refine ct_skip ?_
          refine et_block ?_
          refine et_then ?_
          refine ct_region ?_
          refine rt_q (op_move (.tmp (memU mem11))).q wants_none (put_new (by kernel_rfl)) ?_
          refine rt_q (op_add (.tmp mem0) .const (w64 (by omega) (by omega))).q wants_none (put_new (by kernel_rfl)) ?_
          refine rt_q (op_assign (.tmp mem0)).q wants_none (put_over (pickU pick13) (by kernel_rfl)) ?_
          refine rt_nil ?_
          exact et_again (n := 101) ((i + 1)) (⟨by omega, by omega⟩) (by omega) (.cons mem0 (congrArg (Value.int .i64) (by first | rfl | omega | (simp; omega) | simp)) (.cons (memU mem14) rfl (.cons (memU mem15) rfl (.cons (memU mem16) rfl (.cons (memU mem17) rfl (.cons (memU mem18) rfl .nil)))))) ((Ent.drop.trans (ent_rowd (laidE_no (t := (topV c (((byt bs i : Nat) : Int) % c.workers) (((byt bs i : Nat) : Int) / 4 % c.levels))) (n := ((byt bs i : Nat) : Int)) (by omega) rfl rfl (by assumption)) rfl Ent.refl)))
    · refine ct_exit ?_
      refine et_then_exit ?_
      refine et_then_exit ?_
      refine et_block_here ?_
      refine et_then ?_
      refine ct_seq ?_
      refine ct_seq ?_
      refine ct_region ?_
      refine rt_q (op_assign .const).q wants_none (put_new (by kernel_rfl)) ?_
      refine rt_nil ?_
      refine et_then ?_
      refine ct_block ?_
      refine ct_loop (X := Nat) (fun k => c.tasks.toNat - k) (fun k => (k : Int) ≤ c.tasks) (fun k => [(12, .int .i64 ((k : Int))), (7, .slice (some ⟨b2, 0, none⟩) ((layCells c).toNat) ((layCells c).toNat)), (6, .slice none 0 0), (3, .pointer (some ⟨b1, 0, none⟩)), (2, .slice SA ss.length sc)]) (fun k => rowS ((some ⟨b2, 0, none⟩)) ((layCells c).toNat) ((layCells c).toNat) 1 ((laidS c bs ss k).map (Value.int .u64)) :: pts b1 0 [.int .i64 c.workers, .int .i64 c.levels, .int .i64 c.classes, .int .i64 c.tasks, .int .i64 c.deque, .int .i64 c.heap, .int .i64 c.batch, .int .i64 c.age, .int .i64 c.patience, .slice l.pa c.progs.length l.pc, .slice l.sa c.subs.length l.sc] :: [F]) 0 (by omega) (.cons mem0 (congrArg (Value.int .i64) (by first | rfl | omega | (simp; omega) | simp)) (.cons mem10 rfl (.cons mem11 rfl (.cons mem12 rfl (.cons mem14 rfl .nil))))) ((ent_rowd (laidE_all (by omega) (by omega)) rfl Ent.refl)) (fun k hi29 => ?_)
      have hk0 := hi29
      have hll := laidS_len (c := c) (bs := bs) (ss := ss) (k := k)
      have hby := hsw k
      refine ct_seq ?_
      refine ct_seq ?_
      refine ct_region ?_
      refine rt_q (op_move (.tmp mem0)).q wants_none (put_new (by kernel_rfl)) ?_
      refine rt_q (op_field (k := 3) (o' := 3) (.tmp mem4) (by kernel_rfl) (by rfl)).q wants_none (put_new (by kernel_rfl)) ?_
      refine rt_q (oq_load (o := 0) (i := 3) (.tmp mem0) mem1 (rfl) rfl (by kernel_rfl)) wants_none (put_new (by kernel_rfl)) ?_
      refine rt_q (op_lss (.tmp mem2) (.tmp mem0)).q wants_none (put_new (by kernel_rfl)) ?_
      refine rt_nil ?_
      refine et_then ?_
      refine ct_if (.tmp mem0) (fun h30 => ?_) (fun h30 => ?_)
      · refine ct_skip ?_
        refine et_then ?_
        refine ct_seq ?_
        refine ct_block ?_
        refine ct_seq ?_
        refine ct_region ?_
        refine rt_q (op_move (.tmp mem5)).q wants_none (put_new (by kernel_rfl)) ?_
        refine rt_q (oq_loadA (o := 0) (i := 0) (k := 11) (us := [.int .i64 c.workers, .int .i64 c.levels, .int .i64 c.classes, .int .i64 c.tasks, .int .i64 c.deque, .int .i64 c.heap, .int .i64 c.batch, .int .i64 c.age, .int .i64 c.patience, .slice l.pa c.progs.length l.pc, .slice l.sa c.subs.length l.sc]) (.tmp mem8) mem1 (rfl) (by kernel_rfl) rfl rfl) wants_none (put_new (by kernel_rfl)) ?_
        refine rt_q (op_move (.tmp mem6)).q wants_none (put_new (by kernel_rfl)) ?_
        have hat : atV (k : Int) c.tasks (layTab c + 0) 5 = layTab c + (k : Int) * 5 := by rw [atV_in (by omega) (by omega)]; omega
        have hat2 : (atV (k : Int) c.tasks (layTab c + 0) 5).toNat = (layTab c + (k : Int) * 5).toNat := by rw [hat]
        refine rt_q (oq_call0 (by kernel_rfl) (.cons (.tmp mem1) (.cons (.tmp mem0) .nil)) (refState_spec c l hn _ B W _)) wants_none (put_new (by kernel_rfl)) ?_
        refine rt_q (oq_indexS (i := ((atV ((k : Int)) c.tasks (layTab c + 0) 5)).toNat) (.tmp mem3) (.tmp mem0) mem0 (by omega) (by omega) (by omega) (by kernel_rfl) (Nat.mul_one _)) wants_none (put_new (by kernel_rfl)) ?_
        refine rt_t (ot_storeS (i := ((atV ((k : Int)) c.tasks (layTab c + 0) 5)).toNat) (.tmp mem0) .const turn0 (by first | omega | (simp only [List.length_map, List.length_set, laidE_len, laidS_len]; omega)) (by kernel_rfl) rfl) wants_none (fun _ => put_none) (fun _ => ?_)
        refine rt_ent ent_set ?_
        refine rt_nil ?_
        refine et_then ?_
        refine ct_seq ?_
        refine ct_region ?_
        refine rt_q (op_move (.tmp mem9)).q wants_none (put_new (by kernel_rfl)) ?_
        refine rt_q (op_move (.tmp mem14)).q wants_none (put_new (by kernel_rfl)) ?_
        refine rt_q (op_len (.tmp mem0) Try.underlying30).q wants_none (put_new (by kernel_rfl)) ?_
        refine rt_q (op_lss (.tmp mem2) (.tmp mem0)).q wants_none (put_new (by kernel_rfl)) ?_
        refine rt_nil ?_
        refine et_then ?_
        refine ct_if (.tmp mem0) (fun h31 => ?_) (fun h31 => ?_)
        · refine ct_any 12 (by kernel_rfl) rfl (listed := #[false, false, false, false, false, false, false, false, false, false, false, false]) rfl ?_
          refine at_take 0 (by kernel_rfl) (l' := #[true, false, false, false, false, false, false, false, false, false, false, false]) rfl rfl rfl (op_move (.tmp mem14)) wants_none (put_new (by kernel_rfl)) ?_
          refine at_take 2 (by kernel_rfl) (l' := #[true, false, true, false, false, false, false, false, false, false, false, false]) rfl rfl rfl (op_move (.tmp mem14)) wants_none (put_new (by kernel_rfl)) ?_
          refine at_take 4 (by kernel_rfl) (l' := #[true, false, true, false, true, false, false, false, false, false, false, false]) rfl rfl rfl (op_move (.tmp mem19)) wants_none (put_new (by kernel_rfl)) ?_
          refine at_take 5 (by kernel_rfl) (l' := #[true, false, true, false, true, true, false, false, false, false, false, false]) rfl rfl rfl (op_move (.tmp mem16)) wants_none (put_new (by kernel_rfl)) ?_
          refine at_take 6 (by kernel_rfl) (l' := #[true, false, true, false, true, true, true, false, false, false, false, false]) rfl rfl rfl (op_indexW (i := k) (.tmp mem1) (.tmp mem0) hsS (by omega) (by omega) (by omega) (by kernel_rfl) (Nat.mul_one _)) wants_none (put_new (by kernel_rfl)) ?_
          refine at_group [1, 3, 7, 8, 9, 10] 1 rfl (by kernel_rfl) (l' := #[true, true, true, true, true, true, true, true, true, true, true, false]) rfl ?_
          refine qt_q (oq_loadA (o := 0) (i := 0) (k := 11) (us := [.int .i64 c.workers, .int .i64 c.levels, .int .i64 c.classes, .int .i64 c.tasks, .int .i64 c.deque, .int .i64 c.heap, .int .i64 c.batch, .int .i64 c.age, .int .i64 c.patience, .slice l.pa c.progs.length l.pc, .slice l.sa c.subs.length l.sc]) (.tmp (memU mem1)) mem1 (rfl) (by kernel_rfl) rfl rfl) wants_none (put_new (by kernel_rfl)) ?_
          have hat : atV (k : Int) c.tasks (layTab c + 0) 5 = layTab c + (k : Int) * 5 := by rw [atV_in (by omega) (by omega)]; omega
          have hat2 : (atV (k : Int) c.tasks (layTab c + 0) 5).toNat = (layTab c + (k : Int) * 5).toNat := by rw [hat]
          refine qt_q (oq_call0 (by kernel_rfl) (.cons (.tmp mem0) (.cons (.tmp mem4) .nil)) (refState_spec c l hn _ B W _)) wants_none (put_new (by kernel_rfl)) ?_
          refine qt_q (oq_loadW1 (i := k) (j := 0) (.tmp mem2) hsS (byt_at (by omega)) rfl (by omega) (by kernel_rfl)) wants_none (put_new (by kernel_rfl)) ?_
          refine qt_q (op_rem (.tmp mem0) .const (by omega) (rem64 (by omega))).q wants_none (put_new (by kernel_rfl)) ?_
          refine qt_q (op_conv (.tmp mem0) Try.underlying5 Try.underlying33 (wu64 (by omega) (by omega))).q wants_none (put_new (by kernel_rfl)) ?_
          refine qt_q (oq_indexS (i := ((atV ((k : Int)) c.tasks (layTab c + 0) 5)).toNat) (.tmp mem9) (.tmp mem3) mem0 (by omega) (by omega) (by omega) (by kernel_rfl) (Nat.mul_one _)) wants_none (put_new (by kernel_rfl)) ?_
          refine qt_nil ?_
          refine at_t 11 (by kernel_rfl) (l' := #[true, true, true, true, true, true, true, true, true, true, true, true]) rfl rfl (ot_storeS (i := ((atV ((k : Int)) c.tasks (layTab c + 0) 5)).toNat) (.tmp mem0) (.tmp mem1) turn0 (by first | omega | (simp only [List.length_map, List.length_set, laidE_len, laidS_len]; omega)) (by kernel_rfl) rfl) wants_none (fun _ => put_none) (fun _ => ?_)
          refine at_ent ent_set ?_
          refine at_end (by kernel_rfl) ?_
          refine et_block ?_
          refine et_then ?_
          refine ct_region ?_
          refine rt_q (op_move (.tmp (memU mem4))).q wants_none (put_new (by kernel_rfl)) ?_
          refine rt_q (op_add (.tmp mem0) .const (w64 (by omega) (by omega))).q wants_none (put_new (by kernel_rfl)) ?_
          refine rt_q (op_assign (.tmp mem0)).q wants_none (put_over (pickU pick6) (by kernel_rfl)) ?_
          refine rt_nil ?_
          exact et_again (n := 101) ((k + 1)) (by omega) (by omega) (.cons mem0 (congrArg (Value.int .i64) (by first | rfl | omega | (simp; omega) | simp)) (.cons (memU mem7) rfl (.cons (memU mem8) rfl (.cons (memU mem9) rfl (.cons (memU mem10) rfl .nil))))) ((ent_rowd (laidS_yes hat2 (by omega)) rfl Ent.refl))
        · refine ct_skip ?_
          refine et_block ?_
          refine et_then ?_
          refine ct_region ?_
          refine rt_q (op_move (.tmp mem13)).q wants_none (put_new (by kernel_rfl)) ?_
          refine rt_q (op_add (.tmp mem0) .const (w64 (by omega) (by omega))).q wants_none (put_new (by kernel_rfl)) ?_
          refine rt_q (op_assign (.tmp mem0)).q wants_none (put_over pick15 (by kernel_rfl)) ?_
          refine rt_nil ?_
          exact et_again (n := 101) ((k + 1)) (by omega) (by omega) (.cons mem0 (congrArg (Value.int .i64) (by first | rfl | omega | (simp; omega) | simp)) (.cons mem16 rfl (.cons mem17 rfl (.cons mem18 rfl (.cons mem19 rfl .nil))))) ((ent_rowd (laidS_no hat2 (by omega)) rfl Ent.refl))
      · refine ct_exit ?_
        refine et_then_exit ?_
        refine et_then_exit ?_
        refine et_block_here ?_
        refine et_then ?_
        refine ct_seq ?_
        refine ct_region ?_
        refine rt_q (op_move (.tmp mem5)).q wants_none (put_new (by kernel_rfl)) ?_
        refine rt_q (op_assign (.tmp mem0)).q wants_none (put_over pick7 (by kernel_rfl)) ?_
        refine rt_nil ?_
        refine et_then ?_
        refine ct_ret ?_
        obtain rfl : k = c.tasks.toNat := by omega
        exact et_fn (some ⟨b2, 0, none⟩) rfl (.cons mem0 .nil) rfl (Ent.cons (fun _ h => h) Ent.drop)
  · refine rt_skip (wants_some rfl rfl mem0 rfl) (put_new (by kernel_rfl)) ?_
    refine rt_skip (wants_some rfl rfl mem1 rfl) (put_new (by kernel_rfl)) ?_
    refine rt_q (op_pick (b := false) (.tmp mem2) .const).q wants_none (put_new (by kernel_rfl)) ?_
    refine rt_nil ?_
    refine et_then ?_
    refine ct_false (.tmp mem0) ?_
    refine ct_exit ?_
    refine et_then_exit ?_
    refine et_then_exit ?_
    refine et_block_here ?_
    refine et_then ?_
    refine ct_seq ?_
    refine ct_seq ?_
    refine ct_region ?_
    refine rt_q (op_assign .const).q wants_none (put_new (by kernel_rfl)) ?_
    refine rt_nil ?_
    refine et_then ?_
    refine ct_block ?_
    refine ct_loop (X := Nat) (fun k => c.tasks.toNat - k) (fun k => (k : Int) ≤ c.tasks) (fun k => [(12, .int .i64 ((k : Int))), (7, .slice (some ⟨b2, 0, none⟩) ((layCells c).toNat) ((layCells c).toNat)), (6, .slice none 0 0), (3, .pointer (some ⟨b1, 0, none⟩)), (2, .slice SA ss.length sc)]) (fun k => rowS ((some ⟨b2, 0, none⟩)) ((layCells c).toNat) ((layCells c).toNat) 1 ((laidS c bs ss k).map (Value.int .u64)) :: pts b1 0 [.int .i64 c.workers, .int .i64 c.levels, .int .i64 c.classes, .int .i64 c.tasks, .int .i64 c.deque, .int .i64 c.heap, .int .i64 c.batch, .int .i64 c.age, .int .i64 c.patience, .slice l.pa c.progs.length l.pc, .slice l.sa c.subs.length l.sc] :: [F]) 0 (by omega) (.cons mem0 (congrArg (Value.int .i64) (by first | rfl | omega | (simp; omega) | simp)) (.cons mem10 rfl (.cons mem11 rfl (.cons mem12 rfl (.cons mem14 rfl .nil))))) ((ent_rowd (laidE_all (by omega) (by omega)) rfl Ent.refl)) (fun k hi32 => ?_)
    have hk0 := hi32
    have hll := laidS_len (c := c) (bs := bs) (ss := ss) (k := k)
    have hby := hsw k
    refine ct_seq ?_
    refine ct_seq ?_
    refine ct_region ?_
    refine rt_q (op_move (.tmp mem0)).q wants_none (put_new (by kernel_rfl)) ?_
    refine rt_q (op_field (k := 3) (o' := 3) (.tmp mem4) (by kernel_rfl) (by rfl)).q wants_none (put_new (by kernel_rfl)) ?_
    refine rt_q (oq_load (o := 0) (i := 3) (.tmp mem0) mem1 (rfl) rfl (by kernel_rfl)) wants_none (put_new (by kernel_rfl)) ?_
    refine rt_q (op_lss (.tmp mem2) (.tmp mem0)).q wants_none (put_new (by kernel_rfl)) ?_
    refine rt_nil ?_
    refine et_then ?_
    refine ct_if (.tmp mem0) (fun h33 => ?_) (fun h33 => ?_)
    · refine ct_skip ?_
      refine et_then ?_
      refine ct_seq ?_
      refine ct_block ?_
      refine ct_seq ?_
      refine ct_region ?_
      refine rt_q (op_move (.tmp mem5)).q wants_none (put_new (by kernel_rfl)) ?_
      refine rt_q (oq_loadA (o := 0) (i := 0) (k := 11) (us := [.int .i64 c.workers, .int .i64 c.levels, .int .i64 c.classes, .int .i64 c.tasks, .int .i64 c.deque, .int .i64 c.heap, .int .i64 c.batch, .int .i64 c.age, .int .i64 c.patience, .slice l.pa c.progs.length l.pc, .slice l.sa c.subs.length l.sc]) (.tmp mem8) mem1 (rfl) (by kernel_rfl) rfl rfl) wants_none (put_new (by kernel_rfl)) ?_
      refine rt_q (op_move (.tmp mem6)).q wants_none (put_new (by kernel_rfl)) ?_
      have hat : atV (k : Int) c.tasks (layTab c + 0) 5 = layTab c + (k : Int) * 5 := by rw [atV_in (by omega) (by omega)]; omega
      have hat2 : (atV (k : Int) c.tasks (layTab c + 0) 5).toNat = (layTab c + (k : Int) * 5).toNat := by rw [hat]
      refine rt_q (oq_call0 (by kernel_rfl) (.cons (.tmp mem1) (.cons (.tmp mem0) .nil)) (refState_spec c l hn _ B W _)) wants_none (put_new (by kernel_rfl)) ?_
      refine rt_q (oq_indexS (i := ((atV ((k : Int)) c.tasks (layTab c + 0) 5)).toNat) (.tmp mem3) (.tmp mem0) mem0 (by omega) (by omega) (by omega) (by kernel_rfl) (Nat.mul_one _)) wants_none (put_new (by kernel_rfl)) ?_
      refine rt_t (ot_storeS (i := ((atV ((k : Int)) c.tasks (layTab c + 0) 5)).toNat) (.tmp mem0) .const turn0 (by first | omega | (simp only [List.length_map, List.length_set, laidE_len, laidS_len]; omega)) (by kernel_rfl) rfl) wants_none (fun _ => put_none) (fun _ => ?_)
      refine rt_ent ent_set ?_
      refine rt_nil ?_
      refine et_then ?_
      refine ct_seq ?_
      refine ct_region ?_
      refine rt_q (op_move (.tmp mem9)).q wants_none (put_new (by kernel_rfl)) ?_
      refine rt_q (op_move (.tmp mem14)).q wants_none (put_new (by kernel_rfl)) ?_
      refine rt_q (op_len (.tmp mem0) Try.underlying30).q wants_none (put_new (by kernel_rfl)) ?_
      refine rt_q (op_lss (.tmp mem2) (.tmp mem0)).q wants_none (put_new (by kernel_rfl)) ?_
      refine rt_nil ?_
      refine et_then ?_
      refine ct_if (.tmp mem0) (fun h34 => ?_) (fun h34 => ?_)
      · refine ct_any 12 (by kernel_rfl) rfl (listed := #[false, false, false, false, false, false, false, false, false, false, false, false]) rfl ?_
        refine at_take 0 (by kernel_rfl) (l' := #[true, false, false, false, false, false, false, false, false, false, false, false]) rfl rfl rfl (op_move (.tmp mem14)) wants_none (put_new (by kernel_rfl)) ?_
        refine at_take 2 (by kernel_rfl) (l' := #[true, false, true, false, false, false, false, false, false, false, false, false]) rfl rfl rfl (op_move (.tmp mem14)) wants_none (put_new (by kernel_rfl)) ?_
        refine at_take 4 (by kernel_rfl) (l' := #[true, false, true, false, true, false, false, false, false, false, false, false]) rfl rfl rfl (op_move (.tmp mem19)) wants_none (put_new (by kernel_rfl)) ?_
        refine at_take 5 (by kernel_rfl) (l' := #[true, false, true, false, true, true, false, false, false, false, false, false]) rfl rfl rfl (op_move (.tmp mem16)) wants_none (put_new (by kernel_rfl)) ?_
        refine at_take 6 (by kernel_rfl) (l' := #[true, false, true, false, true, true, true, false, false, false, false, false]) rfl rfl rfl (op_indexW (i := k) (.tmp mem1) (.tmp mem0) hsS (by omega) (by omega) (by omega) (by kernel_rfl) (Nat.mul_one _)) wants_none (put_new (by kernel_rfl)) ?_
        refine at_group [1, 3, 7, 8, 9, 10] 1 rfl (by kernel_rfl) (l' := #[true, true, true, true, true, true, true, true, true, true, true, false]) rfl ?_
        refine qt_q (oq_loadA (o := 0) (i := 0) (k := 11) (us := [.int .i64 c.workers, .int .i64 c.levels, .int .i64 c.classes, .int .i64 c.tasks, .int .i64 c.deque, .int .i64 c.heap, .int .i64 c.batch, .int .i64 c.age, .int .i64 c.patience, .slice l.pa c.progs.length l.pc, .slice l.sa c.subs.length l.sc]) (.tmp (memU mem1)) mem1 (rfl) (by kernel_rfl) rfl rfl) wants_none (put_new (by kernel_rfl)) ?_
        have hat : atV (k : Int) c.tasks (layTab c + 0) 5 = layTab c + (k : Int) * 5 := by rw [atV_in (by omega) (by omega)]; omega
        have hat2 : (atV (k : Int) c.tasks (layTab c + 0) 5).toNat = (layTab c + (k : Int) * 5).toNat := by rw [hat]
        refine qt_q (oq_call0 (by kernel_rfl) (.cons (.tmp mem0) (.cons (.tmp mem4) .nil)) (refState_spec c l hn _ B W _)) wants_none (put_new (by kernel_rfl)) ?_
        refine qt_q (oq_loadW1 (i := k) (j := 0) (.tmp mem2) hsS (byt_at (by omega)) rfl (by omega) (by kernel_rfl)) wants_none (put_new (by kernel_rfl)) ?_
        refine qt_q (op_rem (.tmp mem0) .const (by omega) (rem64 (by omega))).q wants_none (put_new (by kernel_rfl)) ?_
        refine qt_q (op_conv (.tmp mem0) Try.underlying5 Try.underlying33 (wu64 (by omega) (by omega))).q wants_none (put_new (by kernel_rfl)) ?_
        refine qt_q (oq_indexS (i := ((atV ((k : Int)) c.tasks (layTab c + 0) 5)).toNat) (.tmp mem9) (.tmp mem3) mem0 (by omega) (by omega) (by omega) (by kernel_rfl) (Nat.mul_one _)) wants_none (put_new (by kernel_rfl)) ?_
        refine qt_nil ?_
        refine at_t 11 (by kernel_rfl) (l' := #[true, true, true, true, true, true, true, true, true, true, true, true]) rfl rfl (ot_storeS (i := ((atV ((k : Int)) c.tasks (layTab c + 0) 5)).toNat) (.tmp mem0) (.tmp mem1) turn0 (by first | omega | (simp only [List.length_map, List.length_set, laidE_len, laidS_len]; omega)) (by kernel_rfl) rfl) wants_none (fun _ => put_none) (fun _ => ?_)
        refine at_ent ent_set ?_
        refine at_end (by kernel_rfl) ?_
        refine et_block ?_
        refine et_then ?_
        refine ct_region ?_
        refine rt_q (op_move (.tmp (memU mem4))).q wants_none (put_new (by kernel_rfl)) ?_
        refine rt_q (op_add (.tmp mem0) .const (w64 (by omega) (by omega))).q wants_none (put_new (by kernel_rfl)) ?_
        refine rt_q (op_assign (.tmp mem0)).q wants_none (put_over (pickU pick6) (by kernel_rfl)) ?_
        refine rt_nil ?_
        exact et_again (n := 101) ((k + 1)) (by omega) (by omega) (.cons mem0 (congrArg (Value.int .i64) (by first | rfl | omega | (simp; omega) | simp)) (.cons (memU mem7) rfl (.cons (memU mem8) rfl (.cons (memU mem9) rfl (.cons (memU mem10) rfl .nil))))) ((ent_rowd (laidS_yes hat2 (by omega)) rfl Ent.refl))
      · refine ct_skip ?_
        refine et_block ?_
        refine et_then ?_
        refine ct_region ?_
        refine rt_q (op_move (.tmp mem13)).q wants_none (put_new (by kernel_rfl)) ?_
        refine rt_q (op_add (.tmp mem0) .const (w64 (by omega) (by omega))).q wants_none (put_new (by kernel_rfl)) ?_
        refine rt_q (op_assign (.tmp mem0)).q wants_none (put_over pick15 (by kernel_rfl)) ?_
        refine rt_nil ?_
        exact et_again (n := 101) ((k + 1)) (by omega) (by omega) (.cons mem0 (congrArg (Value.int .i64) (by first | rfl | omega | (simp; omega) | simp)) (.cons mem16 rfl (.cons mem17 rfl (.cons mem18 rfl (.cons mem19 rfl .nil))))) ((ent_rowd (laidS_no hat2 (by omega)) rfl Ent.refl))
    · refine ct_exit ?_
      refine et_then_exit ?_
      refine et_then_exit ?_
      refine et_block_here ?_
      refine et_then ?_
      refine ct_seq ?_
      refine ct_region ?_
      refine rt_q (op_move (.tmp mem5)).q wants_none (put_new (by kernel_rfl)) ?_
      refine rt_q (op_assign (.tmp mem0)).q wants_none (put_over pick7 (by kernel_rfl)) ?_
      refine rt_nil ?_
      refine et_then ?_
      refine ct_ret ?_
      obtain rfl : k = c.tasks.toNat := by omega
      exact et_fn (some ⟨b2, 0, none⟩) rfl (.cons mem0 .nil) rfl (Ent.cons (fun _ h => h) Ent.drop)

end Go.Proofs.Ytkfkiaieeiodnaa
