/- Walks by program: the choice of a victim, the sorts. -/
import Derived.Test.YtkfkiaieeiodnaaSo5
namespace Go.Proofs.Ytkfkiaieeiodnaa
open Go Go.RowKit

set_option maxRecDepth 100000 in
theorem choose_spec (A : Option Addr) (cap : Nat) (bs : List Int) (sf st : Int) (hwf : CWf bs) (hlen : bs.length ≤ 16) {B : Nat} {W : World} (hS : Sl encU 1 W B A bs) (L : List SProp) : Pure Try.prog 49 #[.slice A bs.length cap, .int .i64 sf, .int .i64 st] B W L (.tuple #[.int .i64 (chFrom bs sf st bs.length).1, .int .i64 (chFrom bs sf st bs.length).2]) := by
  refine pure_enter Try.func49 rfl (m := 43) rfl (Nat.le_of_ble_eq_true rfl) (R := [(0, .slice A bs.length cap), (1, .int .i64 sf), (2, .int .i64 st)]) (by kernel_rfl) ?_
  refine ct_seq ?_
  refine ct_region ?_
  refine rt_q (op_assign .const).q wants_none (put_new (by kernel_rfl)) ?_
  refine rt_q (op_assign .const).q wants_none (put_new (by kernel_rfl)) ?_
  refine rt_nil ?_
  refine et_then ?_
  refine ct_seq ?_
  refine ct_region ?_
  refine rt_q (op_assign .const).q wants_none (put_over pick1 (by kernel_rfl)) ?_
  refine rt_q (op_assign .const).q wants_none (put_over pick1 (by kernel_rfl)) ?_
  refine rt_nil ?_
  refine et_then ?_
  refine ct_seq ?_
  refine ct_region ?_
  refine rt_q (op_move (.tmp mem2)).q wants_none (put_new (by kernel_rfl)) ?_
  refine rt_q (op_len (.tmp mem0) Try.underlying26).q wants_none (put_new (by kernel_rfl)) ?_
  refine rt_q (op_assign (.tmp mem0)).q wants_none (put_new (by kernel_rfl)) ?_
  refine rt_nil ?_
  refine et_then ?_
  refine ct_seq ?_
  refine ct_seq ?_
  refine ct_region ?_
  refine rt_q (op_move (.tmp mem0)).q wants_none (put_new (by kernel_rfl)) ?_
  refine rt_q (op_move .const).q wants_none (put_new (by kernel_rfl)) ?_
  refine rt_nil ?_
  refine et_then ?_
  refine ct_block ?_
  refine ct_loop (X := Nat) (fun k => bs.length - k) (fun k => k ≤ bs.length) (fun k => [(15, .int .i64 ((k : Int))), (14, .int .i64 (((bs.length : Nat) : Int))), (8, .int .i64 (((bs.length : Nat) : Int))), (7, .int .i64 ((chFrom bs sf st k).2)), (6, .int .i64 ((chFrom bs sf st k).1)), (0, .slice A bs.length cap), (1, .int .i64 sf), (2, .int .i64 st)]) (fun k => L) 0 (by omega) (.cons mem0 (congrArg (Value.int .i64) (by first | rfl | omega | (simp; omega) | simp)) (.cons mem1 rfl (.cons mem2 rfl (.cons mem5 (congrArg (Value.int .i64) (by first | rfl | omega | (simp; omega) | simp)) (.cons mem6 (congrArg (Value.int .i64) (by first | rfl | omega | (simp; omega) | simp)) (.cons mem7 rfl (.cons mem8 rfl (.cons mem9 rfl .nil)))))))) (Ent.refl) (fun k hi1 => ?_)
  refine ct_seq ?_
  refine ct_region ?_
  refine rt_q (op_lss (.tmp mem0) (.tmp mem1)).q wants_none (put_new (by kernel_rfl)) ?_
  refine rt_nil ?_
  refine et_then ?_
  refine ct_seq ?_
  refine ct_if (.tmp mem0) (fun h2 => ?_) (fun h2 => ?_)
  · obtain ⟨hd1, hd2⟩ := drawM_rng (d := st) (n := ((bs.length : Nat) : Int)) (by omega)
    have he1 := Int.emod_nonneg (drawM st ((bs.length : Nat) : Int) + (k : Int)) (show ((bs.length : Nat) : Int) ≠ 0 by omega)
    have he2 := Int.emod_lt_of_pos (drawM st ((bs.length : Nat) : Int) + (k : Int)) (show 0 < ((bs.length : Nat) : Int) by omega)
    have hw1 := hwf ((drawM st ((bs.length : Nat) : Int) + (k : Int)) % ((bs.length : Nat) : Int)).toNat
    refine ct_skip ?_
    refine et_then ?_
    refine ct_seq ?_
    refine ct_block ?_
    refine ct_seq ?_
    refine ct_region ?_
    refine rt_q (op_move (.tmp mem1)).q wants_none (put_new (by kernel_rfl)) ?_
    refine rt_q (op_assign (.tmp mem0)).q wants_none (put_new (by kernel_rfl)) ?_
    refine rt_nil ?_
    refine et_then ?_
    refine ct_seq ?_
    refine ct_region ?_
    refine rt_q (op_move (.tmp mem10)).q wants_none (put_new (by kernel_rfl)) ?_
    refine rt_q (op_move (.tmp mem6)).q wants_none (put_new (by kernel_rfl)) ?_
    refine rt_q (oq_call0 (by kernel_rfl) (.cons (.tmp mem1) (.cons (.tmp mem0) .nil)) (mod_spec _ _ (by omega) B W _)) wants_none (put_new (by kernel_rfl)) ?_
    refine rt_q (op_move (.tmp mem3)).q wants_none (put_new (by kernel_rfl)) ?_
    refine rt_q (op_add (.tmp mem1) (.tmp mem0) (w64 (by omega) (by omega))).q wants_none (put_new (by kernel_rfl)) ?_
    refine rt_q (op_move (.tmp mem10)).q wants_none (put_new (by kernel_rfl)) ?_
    refine rt_q (op_rem (.tmp mem1) (.tmp mem0) (by omega) (rem64 (by omega))).q wants_none (put_new (by kernel_rfl)) ?_
    refine rt_q (op_assign (.tmp mem0)).q wants_none (put_new (by kernel_rfl)) ?_
    refine rt_nil ?_
    refine et_then ?_
    refine ct_seq ?_
    refine ct_region ?_
    refine rt_q (op_move (.tmp mem16)).q wants_none (put_new (by kernel_rfl)) ?_
    refine rt_q (op_move (.tmp mem1)).q wants_none (put_new (by kernel_rfl)) ?_
    refine rt_q (op_indexW (i := ((((drawM st (((bs.length : Nat) : Int))) + (k : Int)) % ((bs.length : Nat) : Int))).toNat) (.tmp mem1) (.tmp mem0) hS (by omega) (by omega) (by omega) (by kernel_rfl) (Nat.mul_one _)).q wants_none (put_new (by kernel_rfl)) ?_
    refine rt_q (oq_loadW1 (i := ((((drawM st (((bs.length : Nat) : Int))) + (k : Int)) % ((bs.length : Nat) : Int))).toNat) (j := 0) (.tmp mem0) hS (gi_get (by omega)) rfl (by omega) (by kernel_rfl)) wants_none (put_new (by kernel_rfl)) ?_
    refine rt_q (oq_call0 (by kernel_rfl) (.cons (.tmp mem0) .nil) (high_spec _ (by omega) (by omega) B W _)) wants_none (put_new (by kernel_rfl)) ?_
    refine rt_q (op_assign (.tmp mem0)).q wants_none (put_new (by kernel_rfl)) ?_
    refine rt_nil ?_
    refine et_then ?_
    refine ct_seq ?_
    refine ct_region ?_
    refine rt_q (op_move (.tmp mem6)).q wants_none (put_new (by kernel_rfl)) ?_
    refine rt_q (op_move (.tmp (memU mem4))).q wants_none (put_new (by kernel_rfl)) ?_
    refine rt_q (op_neq (.tmp mem1) (.tmp mem0)).q wants_none (put_new (by kernel_rfl)) ?_
    refine rt_q (op_move (.tmp mem0)).q wants_none (put_new (by kernel_rfl)) ?_
    refine rt_case turn0 turn0 (fun h3 => ?_) (fun h3 => ?_)
    · refine rt_q (op_move (.tmp mem4)).q (wants_some rfl rfl mem0 rfl) (put_new (by kernel_rfl)) ?_
      refine rt_q (op_move (.tmp (memU mem5))).q (wants_some rfl rfl mem1 rfl) (put_new (by kernel_rfl)) ?_
      refine rt_q (op_gtr (.tmp mem1) (.tmp mem0)).q (wants_some rfl rfl mem2 rfl) (put_new (by kernel_rfl)) ?_
      refine rt_q (op_pick (b := true) (.tmp mem3) (.tmp mem0)).q wants_none (put_new (by kernel_rfl)) ?_
      refine rt_nil ?_
      refine et_then ?_
      refine ct_if (.tmp mem0) (fun h4 => ?_) (fun h4 => ?_)
      · refine ct_region ?_
        refine rt_q (op_move (.tmp mem14)).q wants_none (put_new (by kernel_rfl)) ?_
        refine rt_q (op_move (.tmp mem9)).q wants_none (put_new (by kernel_rfl)) ?_
        refine rt_q (op_assign (.tmp mem1)).q wants_none (put_over (pickU pick11) (by kernel_rfl)) ?_
        refine rt_q (op_assign (.tmp mem1)).q wants_none (put_over (pickU pick11) (by kernel_rfl)) ?_
        refine rt_nil ?_
        refine et_block ?_
        refine et_then ?_
        refine ct_region ?_
        refine rt_q (op_add (.tmp (memU mem9)) .const (w64 (by omega) (by omega))).q wants_none (put_new (by kernel_rfl)) ?_
        refine rt_q (op_move (.tmp mem0)).q wants_none (put_over (pickU pick10) (by kernel_rfl)) ?_
        refine rt_nil ?_
        exact et_again (n := 43) ((k + 1)) (by omega) (by omega) (.cons mem0 (congrArg (Value.int .i64) (by first | rfl | omega | (simp; omega) | simp)) (.cons (memU mem11) rfl (.cons (memU mem12) rfl (.cons mem2 (congrArg (Value.int .i64) (by first | rw [chFrom_yes (by omega) (by omega)] | rw [chFrom_no (by omega)])) (.cons mem3 (congrArg (Value.int .i64) (by first | rw [chFrom_yes (by omega) (by omega)] | rw [chFrom_no (by omega)])) (.cons (memU mem13) rfl (.cons (memU mem14) rfl (.cons (memU mem15) rfl .nil)))))))) (Ent.refl)
      · refine ct_skip ?_
        refine et_block ?_
        refine et_then ?_
        refine ct_region ?_
        refine rt_q (op_add (.tmp (memU mem5)) .const (w64 (by omega) (by omega))).q wants_none (put_new (by kernel_rfl)) ?_
        refine rt_q (op_move (.tmp mem0)).q wants_none (put_over (pickU pick6) (by kernel_rfl)) ?_
        refine rt_nil ?_
        exact et_again (n := 43) ((k + 1)) (by omega) (by omega) (.cons mem0 (congrArg (Value.int .i64) (by first | rfl | omega | (simp; omega) | simp)) (.cons (memU mem7) rfl (.cons (memU mem8) rfl (.cons (memU mem9) (congrArg (Value.int .i64) (by first | rw [chFrom_yes (by omega) (by omega)] | rw [chFrom_no (by omega)])) (.cons (memU mem10) (congrArg (Value.int .i64) (by first | rw [chFrom_yes (by omega) (by omega)] | rw [chFrom_no (by omega)])) (.cons (memU mem11) rfl (.cons (memU mem12) rfl (.cons (memU mem13) rfl .nil)))))))) (Ent.refl)
    · refine rt_skip (wants_some rfl rfl mem0 rfl) (put_new (by kernel_rfl)) ?_
      refine rt_skip (wants_some rfl rfl mem1 rfl) (put_new (by kernel_rfl)) ?_
      refine rt_skip (wants_some rfl rfl mem2 rfl) (put_new (by kernel_rfl)) ?_
      refine rt_q (op_pick (b := false) (.tmp mem3) .const).q wants_none (put_new (by kernel_rfl)) ?_
      refine rt_nil ?_
      refine et_then ?_
      refine ct_false (.tmp mem0) ?_
      refine ct_skip ?_
      refine et_block ?_
      refine et_then ?_
      refine ct_region ?_
      refine rt_q (op_add (.tmp (memU mem5)) .const (w64 (by omega) (by omega))).q wants_none (put_new (by kernel_rfl)) ?_
      refine rt_q (op_move (.tmp mem0)).q wants_none (put_over (pickU pick6) (by kernel_rfl)) ?_
      refine rt_nil ?_
      exact et_again (n := 43) ((k + 1)) (by omega) (by omega) (.cons mem0 (congrArg (Value.int .i64) (by first | rfl | omega | (simp; omega) | simp)) (.cons (memU mem7) rfl (.cons (memU mem8) rfl (.cons (memU mem9) (congrArg (Value.int .i64) (by first | rw [chFrom_yes (by omega) (by omega)] | rw [chFrom_no (by omega)])) (.cons (memU mem10) (congrArg (Value.int .i64) (by first | rw [chFrom_yes (by omega) (by omega)] | rw [chFrom_no (by omega)])) (.cons (memU mem11) rfl (.cons (memU mem12) rfl (.cons (memU mem13) rfl .nil)))))))) (Ent.refl)
  · refine ct_exit ?_
    refine et_then_exit ?_
    refine et_then_exit ?_
    refine et_block_here ?_
    refine et_then ?_
    refine ct_seq ?_
    refine ct_region ?_
    refine rt_q (op_move (.tmp mem5)).q wants_none (put_new (by kernel_rfl)) ?_
    refine rt_q (op_move (.tmp mem5)).q wants_none (put_new (by kernel_rfl)) ?_
    refine rt_q (op_assign (.tmp mem1)).q wants_none (put_over pick7 (by kernel_rfl)) ?_
    refine rt_q (op_assign (.tmp mem1)).q wants_none (put_over pick7 (by kernel_rfl)) ?_
    refine rt_nil ?_
    refine et_then ?_
    refine ct_ret ?_
    exact et_ret rfl (.cons mem1 (.cons mem0 .nil)) (by have e : k = bs.length := (by omega); subst e; rfl) Ent.refl

set_option maxRecDepth 100000 in
theorem isNaN_spec (a : Int) (B : Nat) (W : World) (L : List SProp) : Pure Try.prog 92 #[.int .u64 a] B W L (.bool false) := by
  refine pure_enter Try.func92 rfl (m := 6) rfl (Nat.le_of_ble_eq_true rfl) (R := [(0, .int .u64 a)]) (by kernel_rfl) ?_
  refine ct_seq ?_
  refine ct_region ?_
  refine rt_q (op_assign .const).q wants_none (put_new (by kernel_rfl)) ?_
  refine rt_nil ?_
  refine et_then ?_
  refine ct_seq ?_
  refine ct_region ?_
  refine rt_q (op_move (.tmp mem1)).q wants_none (put_new (by kernel_rfl)) ?_
  refine rt_q (op_move (.tmp mem2)).q wants_none (put_new (by kernel_rfl)) ?_
  refine rt_q (op_neq (.tmp mem1) (.tmp mem0)).q wants_none (put_new (by kernel_rfl)) ?_
  refine rt_q (op_assign (.tmp mem0)).q wants_none (put_over pick3 (by kernel_rfl)) ?_
  refine rt_nil ?_
  refine et_then ?_
  refine ct_ret ?_
  exact et_ret rfl (.cons mem0 .nil) (by simp [tupled]) Ent.refl

set_option maxRecDepth 100000 in
theorem less_spec (a b : Int) (B : Nat) (W : World) (L : List SProp) : Pure Try.prog 83 #[.int .u64 a, .int .u64 b] B W L (.bool (decide (a < b))) := by
  refine pure_enter Try.func83 rfl (m := 17) rfl (Nat.le_of_ble_eq_true rfl) (R := [(0, .int .u64 a), (1, .int .u64 b)]) (by kernel_rfl) ?_
  refine ct_seq ?_
  refine ct_region ?_
  refine rt_q (op_assign .const).q wants_none (put_new (by kernel_rfl)) ?_
  refine rt_nil ?_
  refine et_then ?_
  refine ct_seq ?_
  refine ct_region ?_
  refine rt_q (op_move (.tmp mem1)).q wants_none (put_new (by kernel_rfl)) ?_
  refine rt_q (oq_call0 (by kernel_rfl) (.cons (.tmp mem0) .nil) (isNaN_spec _ B W _)) wants_none (put_new (by kernel_rfl)) ?_
  refine rt_q (op_move (.tmp mem0)).q wants_none (put_new (by kernel_rfl)) ?_
  refine rt_skip (wants_some rfl rfl mem0 rfl) (put_new (by kernel_rfl)) ?_
  refine rt_skip (wants_some rfl rfl mem1 rfl) (put_new (by kernel_rfl)) ?_
  refine rt_skip (wants_some rfl rfl mem2 rfl) (put_new (by kernel_rfl)) ?_
  refine rt_q (op_pick (b := false) (.tmp mem3) .const).q wants_none (put_new (by kernel_rfl)) ?_
  refine rt_q (op_move (.tmp mem0)).q wants_none (put_new (by kernel_rfl)) ?_
  refine rt_q (op_move (.tmp mem9)).q (wants_some rfl rfl mem0 rfl) (put_new (by kernel_rfl)) ?_
  refine rt_q (op_move (.tmp mem11)).q (wants_some rfl rfl mem1 rfl) (put_new (by kernel_rfl)) ?_
  refine rt_q (op_lss (.tmp mem1) (.tmp mem0)).q (wants_some rfl rfl mem2 rfl) (put_new (by kernel_rfl)) ?_
  refine rt_q (op_pick (b := false) (.tmp mem3) (.tmp mem0)).q wants_none (put_new (by kernel_rfl)) ?_
  refine rt_q (op_assign (.tmp mem0)).q wants_none (put_over pick12 (by kernel_rfl)) ?_
  refine rt_nil ?_
  refine et_then ?_
  refine ct_ret ?_
  exact et_ret rfl (.cons mem0 .nil) (by rfl) Ent.refl

set_option maxRecDepth 100000 in
theorem insSort_spec (A : Option Addr) (cap : Nat) (xs : List Int) (h1 : 1 ≤ xs.length) (h2 : xs.length ≤ 64) (B : Nat) (W : World) : Fn_ Try.prog 77 #[.slice A xs.length cap, .int .i64 0, .int .i64 (((xs.length : Nat) : Int))] B W [rowS A xs.length cap 1 (xs.map (Value.int .u64))] (X := Unit) (fun _ => .tuple #[]) (fun _ => [rowS A xs.length cap 1 ((sortV xs).map (Value.int .u64))]) := by
  refine fn_enter Try.func77 rfl (m := 49) rfl (Nat.le_of_ble_eq_true rfl) (R := [(0, .slice A xs.length cap), (1, .int .i64 0), (2, .int .i64 (((xs.length : Nat) : Int)))]) (by kernel_rfl) (fun F => ?_)
  refine ct_seq ?_
  refine ct_region ?_
  refine rt_q (op_move (.tmp mem1)).q wants_none (put_new (by kernel_rfl)) ?_
  refine rt_q (op_add (.tmp mem0) .const (w64 (by omega) (by omega))).q wants_none (put_new (by kernel_rfl)) ?_
  refine rt_q (op_assign (.tmp mem0)).q wants_none (put_new (by kernel_rfl)) ?_
  refine rt_nil ?_
  refine et_then ?_
  refine ct_block ?_
  refine ct_loop (X := Nat) (fun k => xs.length - k) (fun k => 1 ≤ k ∧ k ≤ xs.length) (fun k => [(6, .int .i64 ((k : Int))), (0, .slice A xs.length cap), (1, .int .i64 0), (2, .int .i64 (((xs.length : Nat) : Int)))]) (fun k => rowS A xs.length cap 1 ((sortV (xs.take k) ++ xs.drop k).map (Value.int .u64)) :: [F]) 1 (⟨by omega, by omega⟩) (.cons mem0 (congrArg (Value.int .i64) (by first | rfl | omega | (simp; omega) | simp)) (.cons mem3 rfl (.cons mem4 rfl (.cons mem5 rfl .nil)))) (ent_row (sort_start h1)) (fun k hi1 => ?_)
  obtain ⟨hk1, hk2⟩ := hi1
  refine ct_seq ?_
  refine ct_seq ?_
  refine ct_region ?_
  refine rt_q (op_move (.tmp mem0)).q wants_none (put_new (by kernel_rfl)) ?_
  refine rt_q (op_move (.tmp mem4)).q wants_none (put_new (by kernel_rfl)) ?_
  refine rt_q (op_lss (.tmp mem1) (.tmp mem0)).q wants_none (put_new (by kernel_rfl)) ?_
  refine rt_nil ?_
  refine et_then ?_
  refine ct_if (.tmp mem0) (fun h2 => ?_) (fun h2 => ?_)
  · have hsl : (sortV (xs.take k)).length = k := by rw [sortV_len]; simp; omega
    refine ct_skip ?_
    refine et_then ?_
    refine ct_seq ?_
    refine ct_block ?_
    refine ct_seq ?_
    refine ct_region ?_
    refine rt_q (op_move (.tmp mem3)).q wants_none (put_new (by kernel_rfl)) ?_
    refine rt_q (op_assign (.tmp mem0)).q wants_none (put_new (by kernel_rfl)) ?_
    refine rt_nil ?_
    refine et_then ?_
    refine ct_block ?_
    refine ct_loop (X := Nat) (fun j => j) (fun j => j ≤ k ∧ ∀ e ∈ (sortV (xs.take k)).drop j, gi xs k < e) (fun j => [(7, .int .i64 ((j : Int))), (15, .int .i64 ((k : Int))), (12, .bool (decide ((k : Int) < ((xs.length : Nat) : Int)))), (11, .int .i64 (((xs.length : Nat) : Int))), (10, .int .i64 ((k : Int))), (6, .int .i64 ((k : Int))), (0, .slice A xs.length cap), (1, .int .i64 0), (2, .int .i64 (((xs.length : Nat) : Int)))]) (fun j => rowS A xs.length cap 1 ((insAt (sortV (xs.take k)) (gi xs k) j ++ xs.drop (k + 1)).map (Value.int .u64)) :: [F]) k (⟨Nat.le_refl _, by rw [List.drop_eq_nil_of_le (by omega)]; intro e he; cases he⟩) (.cons mem0 (congrArg (Value.int .i64) (by first | rfl | omega | (simp; omega) | simp)) (.cons mem1 rfl (.cons mem2 rfl (.cons mem3 rfl (.cons mem4 rfl (.cons mem5 rfl (.cons mem6 rfl (.cons mem7 rfl (.cons mem8 rfl .nil))))))))) (ent_row (sort_in (by omega))) (fun j hi3 => ?_)
    obtain ⟨hjk, hdj⟩ := hi3
    refine ct_seq ?_
    refine ct_seq ?_
    refine ct_draw (by kernel_rfl) (by kernel_rfl) ?_
    refine qt_q (op_move (.tmp mem0)).q wants_none (put_new (by kernel_rfl)) ?_
    refine qt_q (op_move (.tmp mem8)).q wants_none (put_new (by kernel_rfl)) ?_
    refine qt_q (op_gtr (.tmp mem1) (.tmp mem0)).q wants_none (put_new (by kernel_rfl)) ?_
    refine qt_q (op_move (.tmp mem0)).q wants_none (put_new (by kernel_rfl)) ?_
    refine qt_case turn0 turn0 (fun h4 => ?_) (fun h4 => ?_)
    · have hg1 := gi_insAt (s := sortV (xs.take k)) (x := gi xs k) (j := j) (t := xs.drop (k + 1)) (by omega)
      have hj1 : ((j : Int) - 1).toNat = j - 1 := by omega
      have hg2 : gi (insAt (sortV (xs.take k)) (gi xs k) j ++ xs.drop (k + 1)) ((j : Int) - 1).toNat = gi (sortV (xs.take k)) (j - 1) := by rw [hj1]; exact gi_insAt_pred (by omega) (by omega)
      refine qt_q (op_move (.tmp mem10)).q (wants_some rfl rfl mem0 rfl) (put_new (by kernel_rfl)) ?_
      refine qt_q (op_move (.tmp mem5)).q (wants_some rfl rfl mem1 rfl) (put_new (by kernel_rfl)) ?_
      refine qt_q (oq_indexS (i := j) (.tmp mem1) (.tmp mem0) mem0 (by omega) (by omega) (by omega) (by kernel_rfl) (Nat.mul_one _)) (wants_some rfl rfl mem2 rfl) (put_new (by kernel_rfl)) ?_
      refine qt_q (oq_loadS (i := j) (.tmp mem0) mem0 (gi_map (by simp [insAt_len, sortV_len]; omega)) (by kernel_rfl)) (wants_some rfl rfl mem3 rfl) (put_new (by kernel_rfl)) ?_
      refine qt_q (op_move (.tmp mem14)).q (wants_some rfl rfl mem4 rfl) (put_new (by kernel_rfl)) ?_
      refine qt_q (op_move (.tmp mem9)).q (wants_some rfl rfl mem5 rfl) (put_new (by kernel_rfl)) ?_
      refine qt_q (op_sub (.tmp mem0) .const (w64 (by omega) (by omega))).q (wants_some rfl rfl mem6 rfl) (put_new (by kernel_rfl)) ?_
      refine qt_q (oq_indexS (i := (((j : Int) - 1)).toNat) (.tmp mem2) (.tmp mem0) mem0 (by omega) (by omega) (by omega) (by kernel_rfl) (Nat.mul_one _)) (wants_some rfl rfl mem7 rfl) (put_new (by kernel_rfl)) ?_
      refine qt_q (oq_loadS (i := (((j : Int) - 1)).toNat) (.tmp mem0) mem0 (gi_map (by simp [insAt_len, sortV_len]; omega)) (by kernel_rfl)) (wants_some rfl rfl mem8 rfl) (put_new (by kernel_rfl)) ?_
      refine qt_q (oq_call0 (by kernel_rfl) (.cons (.tmp mem5) (.cons (.tmp mem0) .nil)) (less_spec _ _ B W _)) (wants_some rfl rfl mem9 rfl) (put_new (by kernel_rfl)) ?_
      refine qt_q (op_pick (b := true) (.tmp mem10) (.tmp mem0)).q wants_none (put_new (by kernel_rfl)) ?_
      refine qt_nil ?_
      refine et_then ?_
      refine ct_if (.tmp mem0) (fun h5 => ?_) (fun h5 => ?_)
      · refine ct_skip ?_
        refine et_then ?_
        refine ct_seq ?_
        refine ct_block ?_
        refine ct_any 18 (by kernel_rfl) rfl (listed := #[false, false, false, false, false, false, false, false, false, false, false, false, false, false, false, false, false, false]) rfl ?_
        refine at_take 0 (by kernel_rfl) (l' := #[true, false, false, false, false, false, false, false, false, false, false, false, false, false, false, false, false, false]) rfl rfl rfl (op_move (.tmp (memU mem1))) wants_none (put_new (by kernel_rfl)) ?_
        refine at_take 1 (by kernel_rfl) (l' := #[true, true, false, false, false, false, false, false, false, false, false, false, false, false, false, false, false, false]) rfl rfl rfl (op_move (.tmp mem16)) wants_none (put_new (by kernel_rfl)) ?_
        refine at_take 2 (by kernel_rfl) (l' := #[true, true, true, false, false, false, false, false, false, false, false, false, false, false, false, false, false, false]) rfl rfl rfl (op_move (.tmp (memU mem3))) wants_none (put_new (by kernel_rfl)) ?_
        refine at_take 3 (by kernel_rfl) (l' := #[true, true, true, true, false, false, false, false, false, false, false, false, false, false, false, false, false, false]) rfl rfl rfl (op_move (.tmp mem18)) wants_none (put_new (by kernel_rfl)) ?_
        refine at_take 4 (by kernel_rfl) (l' := #[true, true, true, true, true, false, false, false, false, false, false, false, false, false, false, false, false, false]) rfl rfl rfl (op_sub (.tmp mem0) .const (w64 (by omega) (by omega))) wants_none (put_new (by kernel_rfl)) ?_
        refine at_take 5 (by kernel_rfl) (l' := #[true, true, true, true, true, true, false, false, false, false, false, false, false, false, false, false, false, false]) rfl rfl rfl (op_move (.tmp (memU mem6))) wants_none (put_new (by kernel_rfl)) ?_
        refine at_take 6 (by kernel_rfl) (l' := #[true, true, true, true, true, true, true, false, false, false, false, false, false, false, false, false, false, false]) rfl rfl rfl (op_move (.tmp (memU mem1))) wants_none (put_new (by kernel_rfl)) ?_
        refine at_take 7 (by kernel_rfl) (l' := #[true, true, true, true, true, true, true, true, false, false, false, false, false, false, false, false, false, false]) rfl rfl rfl (op_sub (.tmp mem0) .const (w64 (by omega) (by omega))) wants_none (put_new (by kernel_rfl)) ?_
        refine at_take 10 (by kernel_rfl) (l' := #[true, true, true, true, true, true, true, true, false, false, true, false, false, false, false, false, false, false]) rfl rfl rfl (op_move (.tmp (memU mem9))) wants_none (put_new (by kernel_rfl)) ?_
        refine at_take 11 (by kernel_rfl) (l' := #[true, true, true, true, true, true, true, true, false, false, true, true, false, false, false, false, false, false]) rfl rfl rfl (op_move (.tmp (memU mem4))) wants_none (put_new (by kernel_rfl)) ?_
        refine at_group [8, 9, 12, 13, 14] 3 rfl (by kernel_rfl) (l' := #[true, true, true, true, true, true, true, true, true, true, true, true, true, true, true, false, false, false]) rfl ?_
        refine qt_q (oq_indexS (i := (((j : Int) - 1)).toNat) (.tmp mem4) (.tmp mem2) mem0 (by omega) (by omega) (by omega) (by kernel_rfl) (Nat.mul_one _)) wants_none (put_new (by kernel_rfl)) ?_
        refine qt_q (oq_loadS (i := (((j : Int) - 1)).toNat) (.tmp mem0) mem0 (gi_map (by simp [insAt_len, sortV_len]; omega)) (by kernel_rfl)) wants_none (put_new (by kernel_rfl)) ?_
        refine qt_q (oq_indexS (i := j) (.tmp mem3) (.tmp mem2) mem0 (by omega) (by omega) (by omega) (by kernel_rfl) (Nat.mul_one _)) wants_none (put_new (by kernel_rfl)) ?_
        refine qt_q (oq_loadS (i := j) (.tmp mem0) mem0 (gi_map (by simp [insAt_len, sortV_len]; omega)) (by kernel_rfl)) wants_none (put_new (by kernel_rfl)) ?_
        refine qt_q (oq_indexS (i := j) (.tmp mem13) (.tmp mem12) mem0 (by omega) (by omega) (by omega) (by kernel_rfl) (Nat.mul_one _)) wants_none (put_new (by kernel_rfl)) ?_
        refine qt_nil ?_
        refine at_t 15 (by kernel_rfl) (l' := #[true, true, true, true, true, true, true, true, true, true, true, true, true, true, true, true, false, false]) rfl rfl (ot_storeS (i := j) (.tmp mem0) (.tmp mem3) turn0 (by simp [insAt_len, sortV_len]; first | omega | skip) (by kernel_rfl) rfl) wants_none (fun _ => put_none) (fun _ => ?_)
        refine at_ent ent_set ?_
        refine at_q 16 (by kernel_rfl) (l' := #[true, true, true, true, true, true, true, true, true, true, true, true, true, true, true, true, true, false]) rfl rfl (oq_indexS (i := (((j : Int) - 1)).toNat) (.tmp mem12) (.tmp mem10) mem0 (by omega) (by omega) (by omega) (by kernel_rfl) (Nat.mul_one _)) wants_none (put_new (by kernel_rfl)) ?_
        refine at_t 17 (by kernel_rfl) (l' := #[true, true, true, true, true, true, true, true, true, true, true, true, true, true, true, true, true, true]) rfl rfl (ot_storeS (i := (((j : Int) - 1)).toNat) (.tmp mem0) (.tmp mem2) turn0 (by simp [insAt_len, sortV_len]; first | omega | skip) (by kernel_rfl) rfl) wants_none (fun _ => put_none) (fun _ => ?_)
        refine at_ent ent_set ?_
        refine at_end (by kernel_rfl) ?_
        refine et_block ?_
        refine et_then ?_
        refine ct_region ?_
        refine rt_q (op_move (.tmp (memU mem11))).q wants_none (put_new (by kernel_rfl)) ?_
        refine rt_q (op_sub (.tmp mem0) .const (w64 (by omega) (by omega))).q wants_none (put_new (by kernel_rfl)) ?_
        refine rt_q (op_assign (.tmp mem0)).q wants_none (put_over (pickU pick13) (by kernel_rfl)) ?_
        refine rt_nil ?_
        exact et_again (n := 49) ((j - 1)) (⟨by omega, drop_step (by omega) (by omega) (by omega) hdj⟩) (by omega) (.cons mem0 (congrArg (Value.int .i64) (by first | rfl | omega | (simp; omega) | simp)) (.cons (memU mem14) rfl (.cons (memU mem15) rfl (.cons (memU mem16) rfl (.cons (memU mem17) rfl (.cons (memU mem18) rfl (.cons (memU mem19) rfl (.cons (memU (memU mem0)) rfl (.cons (memU (memU mem1)) rfl .nil))))))))) (ent_row (by rw [hg1, hg2, hj1]; exact insAt_swap (by omega) (by omega)))
      · refine ct_exit ?_
        refine et_then_exit ?_
        refine et_then_exit ?_
        refine et_block_here ?_
        refine et_block ?_
        refine et_then ?_
        refine ct_region ?_
        refine rt_q (op_move (.tmp (memU mem0))).q wants_none (put_new (by kernel_rfl)) ?_
        refine rt_q (op_add (.tmp mem0) .const (w64 (by omega) (by omega))).q wants_none (put_new (by kernel_rfl)) ?_
        refine rt_q (op_assign (.tmp mem0)).q wants_none (put_over (pickU pick2) (by kernel_rfl)) ?_
        refine rt_nil ?_
        exact et_again (n := 49) ((k + 1)) (⟨by omega, by omega⟩) (by omega) (.cons mem0 (congrArg (Value.int .i64) (by first | rfl | omega | (simp; omega) | simp)) (.cons (memU mem3) rfl (.cons (memU mem4) rfl (.cons (memU mem5) rfl .nil)))) (ent_row (sort_out (by omega) (by omega) (by first | exact .inl (by omega) | exact .inr (by omega)) hdj))
    · refine qt_skip (wants_some rfl rfl mem0 rfl) (put_new (by kernel_rfl)) ?_
      refine qt_skip (wants_some rfl rfl mem1 rfl) (put_new (by kernel_rfl)) ?_
      refine qt_skip (wants_some rfl rfl mem2 rfl) (put_new (by kernel_rfl)) ?_
      refine qt_skip (wants_some rfl rfl mem3 rfl) (put_new (by kernel_rfl)) ?_
      refine qt_skip (wants_some rfl rfl mem4 rfl) (put_new (by kernel_rfl)) ?_
      refine qt_skip (wants_some rfl rfl mem5 rfl) (put_new (by kernel_rfl)) ?_
      refine qt_skip (wants_some rfl rfl mem6 rfl) (put_new (by kernel_rfl)) ?_
      refine qt_skip (wants_some rfl rfl mem7 rfl) (put_new (by kernel_rfl)) ?_
      refine qt_skip (wants_some rfl rfl mem8 rfl) (put_new (by kernel_rfl)) ?_
      refine qt_skip (wants_some rfl rfl mem9 rfl) (put_new (by kernel_rfl)) ?_
      refine qt_q (op_pick (b := false) (.tmp mem10) .const).q wants_none (put_new (by kernel_rfl)) ?_
      refine qt_nil ?_
      refine et_then ?_
      refine ct_false (.tmp mem0) ?_
      refine ct_exit ?_
      refine et_then_exit ?_
      refine et_then_exit ?_
      refine et_block_here ?_
      refine et_block ?_
      refine et_then ?_
      refine ct_region ?_
      refine rt_q (op_move (.tmp (memU mem0))).q wants_none (put_new (by kernel_rfl)) ?_
      refine rt_q (op_add (.tmp mem0) .const (w64 (by omega) (by omega))).q wants_none (put_new (by kernel_rfl)) ?_
      refine rt_q (op_assign (.tmp mem0)).q wants_none (put_over (pickU pick2) (by kernel_rfl)) ?_
      refine rt_nil ?_
      exact et_again (n := 49) ((k + 1)) (⟨by omega, by omega⟩) (by omega) (.cons mem0 (congrArg (Value.int .i64) (by first | rfl | omega | (simp; omega) | simp)) (.cons (memU mem3) rfl (.cons (memU mem4) rfl (.cons (memU mem5) rfl .nil)))) (ent_row (sort_out (by omega) (by omega) (by first | exact .inl (by omega) | exact .inr (by omega)) hdj))
  · refine ct_exit ?_
    refine et_then_exit ?_
    refine et_then_exit ?_
    refine et_block_here ?_
    exact et_fn_end () rfl .nil (by rfl) (ent_row (by rw [show k = xs.length by omega, List.drop_length, List.take_length, List.append_nil]))

end Go.Proofs.Ytkfkiaieeiodnaa
