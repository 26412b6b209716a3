/- Walks by program: both sides agree. -/
import Derived.Test.YtkfkiaieeiodnaaSo18
import Derived.Test.YtkfkiaieeiodnaaInts
namespace Go.Proofs.Ytkfkiaieeiodnaa
open Go Go.RowKit
theorem ints_pure {A A' : Option Addr} {cap cap' : Nat} {xs ys : List Int} {m m' : Nat} (hm : xs.length = m) (hm' : ys.length = m') {B : Nat} {W : World} (hx : Sl encInt 1 W B A xs) (hy : Sl encInt 1 W B A' ys) (L : List SProp) : Pure Try.prog 16 #[.slice A m cap, .slice A' m' cap'] B W L (.bool (decide (xs = ys))) := by
  subst hm hm'
  exact pure_of_calls fun w hb hl => ints_any A A' cap cap' xs ys w ((hx.below hb).more hl) ((hy.below hb).more hl)
theorem entries_len (c : Cfg) (cs : List Int) (w v : Int) : (entriesV c cs w v).length ≤ 64 ∨ 64 < c.deque := by
  by_cases hd : 64 < c.deque
  · exact .inr hd
  · left
    unfold entriesV; split
    · simp
    · exact entV_len (by omega)
theorem entries_len2 (c : Cfg) (cs : List Int) (w v : Int) : (entriesV c cs w v).length ≤ 64 := by
  by_cases h : cfgErr c = 0
  · exact (entries_len c cs w v).resolve_right (by have := (cnums (nums_of_err h)).d; omega)
  · unfold entriesV; rw [if_pos (.inl (by simp [goodB, h]))]; simp

set_option maxRecDepth 100000 in
theorem agree_spec (c : Cfg) (l : CfgAt) (CA : Option Addr) (cc : Nat) (cs : List Int) (d w v : Int) (hcc : cs.length ≤ cc) (h8 : c.heap ≤ 8) {B : Nat} {W : World} (hS : Sl encU 1 W B CA cs) (hcw : CWf cs) (hc : CfgIn W B c l) (L : List SProp) : Pure Try.prog 8 #[.agg #[.int .i64 c.workers, .int .i64 c.levels, .int .i64 c.classes, .int .i64 c.tasks, .int .i64 c.deque, .int .i64 c.heap, .int .i64 c.batch, .int .i64 c.age, .int .i64 c.patience, .slice l.pa c.progs.length l.pc, .slice l.sa c.subs.length l.sc], .slice CA cs.length cc, .int .i64 d, .int .i64 w, .int .i64 v] B W L (.bool true) := by
  refine pure_enter Try.func8 rfl (m := 52) rfl (Nat.le_of_ble_eq_true rfl) (R := [(0, .agg #[.int .i64 c.workers, .int .i64 c.levels, .int .i64 c.classes, .int .i64 c.tasks, .int .i64 c.deque, .int .i64 c.heap, .int .i64 c.batch, .int .i64 c.age, .int .i64 c.patience, .slice l.pa c.progs.length l.pc, .slice l.sa c.subs.length l.sc]), (1, .slice CA cs.length cc), (2, .int .i64 d), (3, .int .i64 w), (4, .int .i64 v)]) (by kernel_rfl) ?_
  refine ct_seq ?_
  refine ct_region ?_
  refine rt_t (ot_box (.tmp mem0) (us := [.int .i64 c.workers, .int .i64 c.levels, .int .i64 c.classes, .int .i64 c.tasks, .int .i64 c.deque, .int .i64 c.heap, .int .i64 c.batch, .int .i64 c.age, .int .i64 c.patience, .slice l.pa c.progs.length l.pc, .slice l.sa c.subs.length l.sc]) rfl) wants_none (fun _ => (put_new (by kernel_rfl))) ?_
  rintro b1
  refine rt_q (op_assign .const).q wants_none (put_new (by kernel_rfl)) ?_
  refine rt_nil ?_
  refine et_then ?_
  refine ct_seq ?_
  refine ct_region ?_
  refine rt_q (oq_loadA (o := 0) (i := 0) (k := 11) (us := [.int .i64 c.workers, .int .i64 c.levels, .int .i64 c.classes, .int .i64 c.tasks, .int .i64 c.deque, .int .i64 c.heap, .int .i64 c.batch, .int .i64 c.age, .int .i64 c.patience, .slice l.pa c.progs.length l.pc, .slice l.sa c.subs.length l.sc]) (.tmp mem1) mem0 (rfl) (by kernel_rfl) rfl rfl) wants_none (put_new (by kernel_rfl)) ?_
  refine rt_q (op_move (.tmp mem4)).q wants_none (put_new (by kernel_rfl)) ?_
  refine rt_q (op_move (.tmp mem6)).q wants_none (put_new (by kernel_rfl)) ?_
  refine rt_q (op_move (.tmp mem8)).q wants_none (put_new (by kernel_rfl)) ?_
  refine rt_q (oq_call0 (by kernel_rfl) (.cons (.tmp mem3) (.cons (.tmp mem2) (.cons (.tmp mem1) (.cons (.tmp mem0) .nil)))) (solNext_any c l CA cc cs _ _ hcc h8 hS hcw hc _)) wants_none (put_new (by kernel_rfl)) ?_
  refine rt_q (op_move (.tmp mem0)).q wants_none (put_new (by kernel_rfl)) ?_
  refine rt_q (op_extract (.tmp mem0) rfl).q wants_none (put_new (by kernel_rfl)) ?_
  refine rt_q (op_extract (.tmp mem1) rfl).q wants_none (put_new (by kernel_rfl)) ?_
  refine rt_q (op_assign (.tmp mem1)).q wants_none (put_new (by kernel_rfl)) ?_
  refine rt_q (op_assign (.tmp mem1)).q wants_none (put_new (by kernel_rfl)) ?_
  refine rt_nil ?_
  refine et_then ?_
  refine ct_seq ?_
  refine ct_region ?_
  refine rt_q (oq_loadA (o := 0) (i := 0) (k := 11) (us := [.int .i64 c.workers, .int .i64 c.levels, .int .i64 c.classes, .int .i64 c.tasks, .int .i64 c.deque, .int .i64 c.heap, .int .i64 c.batch, .int .i64 c.age, .int .i64 c.patience, .slice l.pa c.progs.length l.pc, .slice l.sa c.subs.length l.sc]) (.tmp mem11) mem0 (rfl) (by kernel_rfl) rfl rfl) wants_none (put_new (by kernel_rfl)) ?_
  refine rt_q (op_move (.tmp mem14)).q wants_none (put_new (by kernel_rfl)) ?_
  refine rt_q (op_move (.tmp mem16)).q wants_none (put_new (by kernel_rfl)) ?_
  refine rt_q (op_move (.tmp mem18)).q wants_none (put_new (by kernel_rfl)) ?_
  refine rt_q (oq_call0 (by kernel_rfl) (.cons (.tmp mem3) (.cons (.tmp mem2) (.cons (.tmp mem1) (.cons (.tmp mem0) .nil)))) (refNext_any c l CA cc cs _ _ hS hcw hc _)) wants_none (put_new (by kernel_rfl)) ?_
  refine rt_q (op_move (.tmp mem0)).q wants_none (put_new (by kernel_rfl)) ?_
  refine rt_q (op_extract (.tmp mem0) rfl).q wants_none (put_new (by kernel_rfl)) ?_
  refine rt_q (op_extract (.tmp mem1) rfl).q wants_none (put_new (by kernel_rfl)) ?_
  refine rt_q (op_assign (.tmp mem1)).q wants_none (put_new (by kernel_rfl)) ?_
  refine rt_q (op_assign (.tmp mem1)).q wants_none (put_new (by kernel_rfl)) ?_
  refine rt_nil ?_
  refine et_then ?_
  refine ct_seq ?_
  refine ct_any 22 (by kernel_rfl) rfl (listed := #[false, false, false, false, false, false, false, false, false, false, false, false, false, false, false, false, false, false, false, false, false, false]) rfl ?_
  refine at_take 0 (by kernel_rfl) (l' := #[true, false, false, false, false, false, false, false, false, false, false, false, false, false, false, false, false, false, false, false, false, false]) rfl rfl rfl (op_move (.tmp mem11)) wants_none (put_new (by kernel_rfl)) ?_
  refine at_take 1 (by kernel_rfl) (l' := #[true, true, false, false, false, false, false, false, false, false, false, false, false, false, false, false, false, false, false, false, false, false]) rfl rfl rfl (op_move (.tmp mem2)) wants_none (put_new (by kernel_rfl)) ?_
  refine at_take 2 (by kernel_rfl) (l' := #[true, true, true, false, false, false, false, false, false, false, false, false, false, false, false, false, false, false, false, false, false, false]) rfl rfl rfl (op_eql (.tmp mem1) (.tmp mem0)) wants_none (put_new (by kernel_rfl)) ?_
  refine at_take 3 (by kernel_rfl) (l' := #[true, true, true, true, false, false, false, false, false, false, false, false, false, false, false, false, false, false, false, false, false, false]) rfl rfl rfl (op_move (.tmp mem0)) wants_none (put_new (by kernel_rfl)) ?_
  refine at_case turn0 turn0 (fun h2 => ?_) (fun h2 => ?_)
  · refine at_take 4 (by kernel_rfl) (l' := #[true, true, true, true, true, false, false, false, false, false, false, false, false, false, false, false, false, false, false, false, false, false]) rfl rfl rfl (op_move (.tmp mem14)) (wants_some rfl rfl mem0 rfl) (put_new (by kernel_rfl)) ?_
    refine at_take 5 (by kernel_rfl) (l' := #[true, true, true, true, true, true, false, false, false, false, false, false, false, false, false, false, false, false, false, false, false, false]) rfl rfl rfl (op_move (.tmp mem5)) (wants_some rfl rfl mem1 rfl) (put_new (by kernel_rfl)) ?_
    refine at_take 6 (by kernel_rfl) (l' := #[true, true, true, true, true, true, true, false, false, false, false, false, false, false, false, false, false, false, false, false, false, false]) rfl rfl rfl (op_eqb Try.underlying4 (.tmp mem1) (.tmp mem0)) (wants_some rfl rfl mem2 rfl) (put_new (by kernel_rfl)) ?_
    refine at_take 7 (by kernel_rfl) (l' := #[true, true, true, true, true, true, true, true, false, false, false, false, false, false, false, false, false, false, false, false, false, false]) rfl rfl rfl (op_pick (b := true) (.tmp mem3) (.tmp mem0)) wants_none (put_new (by kernel_rfl)) ?_
    refine at_take 8 (by kernel_rfl) (l' := #[true, true, true, true, true, true, true, true, true, false, false, false, false, false, false, false, false, false, false, false, false, false]) rfl rfl rfl (op_move (.tmp mem0)) wants_none (put_new (by kernel_rfl)) ?_
    refine at_case turn0 turn0 (fun h3 => ?_) (fun h3 => ?_)
    · refine at_take 10 (by kernel_rfl) (l' := #[true, true, true, true, true, true, true, true, true, false, true, false, false, false, false, false, false, false, false, false, false, false]) rfl rfl rfl (op_move (.tmp (memU mem12))) (wants_some rfl rfl mem0 rfl) (put_new (by kernel_rfl)) ?_
      refine at_take 11 (by kernel_rfl) (l' := #[true, true, true, true, true, true, true, true, true, false, true, true, false, false, false, false, false, false, false, false, false, false]) rfl rfl rfl (op_move (.tmp (memU mem15))) (wants_some rfl rfl mem1 rfl) (put_new (by kernel_rfl)) ?_
      refine at_take 12 (by kernel_rfl) (l' := #[true, true, true, true, true, true, true, true, true, false, true, true, true, false, false, false, false, false, false, false, false, false]) rfl rfl rfl (op_move (.tmp (memU mem17))) (wants_some rfl rfl mem2 rfl) (put_new (by kernel_rfl)) ?_
      refine at_take 15 (by kernel_rfl) (l' := #[true, true, true, true, true, true, true, true, true, false, true, true, true, false, false, true, false, false, false, false, false, false]) rfl rfl rfl (op_move (.tmp (memU mem15))) (wants_some rfl rfl mem3 rfl) (put_new (by kernel_rfl)) ?_
      refine at_take 16 (by kernel_rfl) (l' := #[true, true, true, true, true, true, true, true, true, false, true, true, true, false, false, true, true, false, false, false, false, false]) rfl rfl rfl (op_move (.tmp (memU mem18))) (wants_some rfl rfl mem4 rfl) (put_new (by kernel_rfl)) ?_
      refine at_take 17 (by kernel_rfl) (l' := #[true, true, true, true, true, true, true, true, true, false, true, true, true, false, false, true, true, true, false, false, false, false]) rfl rfl rfl (op_move (.tmp (memU (memU mem0)))) (wants_some rfl rfl mem5 rfl) (put_new (by kernel_rfl)) ?_
      refine at_each (H := [9, 14]) (by kernel_rfl) rfl (each_cons ?_ (each_cons ?_ each_nil))
      · show ST _ _ _ _ _ _ _ _ _ _ _
        refine st_q (l' := #[true, true, true, true, true, true, true, true, true, true, true, true, true, false, false, true, true, true, false, false, false, false]) rfl rfl (oq_loadA (o := 0) (i := 0) (k := 11) (us := [.int .i64 c.workers, .int .i64 c.levels, .int .i64 c.classes, .int .i64 c.tasks, .int .i64 c.deque, .int .i64 c.heap, .int .i64 c.batch, .int .i64 c.age, .int .i64 c.patience, .slice l.pa c.progs.length l.pc, .slice l.sa c.subs.length l.sc]) (.tmp (memU mem16)) mem0 (rfl) (by kernel_rfl) rfl rfl) (wants_some rfl rfl mem6 rfl) (put_new (by kernel_rfl)) ?_
        refine at_each (H := [13, 14]) (by kernel_rfl) rfl (each_cons ?_ (each_cons ?_ each_nil))
        · show ST _ _ _ _ _ _ _ _ _ _ _
          refine st_t (l' := #[true, true, true, true, true, true, true, true, true, true, true, true, true, true, false, true, true, true, false, false, false, false]) rfl rfl (ot_call0 (by kernel_rfl) (.cons (.tmp mem0) (.cons (.tmp mem6) (.cons (.tmp mem5) (.cons (.tmp mem4) .nil)))) (solEntries_any c l CA cc cs _ _ hS hcw hc) .nil) (wants_some rfl rfl mem7 rfl) (fun _ => (put_new (by kernel_rfl))) ?_
          rintro ⟨A4, c4⟩
          refine at_q 14 (by kernel_rfl) (l' := #[true, true, true, true, true, true, true, true, true, true, true, true, true, true, true, true, true, true, false, false, false, false]) rfl rfl (oq_loadA (o := 0) (i := 0) (k := 11) (us := [.int .i64 c.workers, .int .i64 c.levels, .int .i64 c.classes, .int .i64 c.tasks, .int .i64 c.deque, .int .i64 c.heap, .int .i64 c.batch, .int .i64 c.age, .int .i64 c.patience, .slice l.pa c.progs.length l.pc, .slice l.sa c.subs.length l.sc]) (.tmp (memU mem18)) mem1 (rfl) (by kernel_rfl) rfl rfl) (wants_some rfl rfl mem8 rfl) (put_new (by kernel_rfl)) ?_
          refine at_t 18 (by kernel_rfl) (l' := #[true, true, true, true, true, true, true, true, true, true, true, true, true, true, true, true, true, true, true, false, false, false]) rfl rfl (ot_call0 (by kernel_rfl) (.cons (.tmp mem0) (.cons (.tmp mem5) (.cons (.tmp mem4) (.cons (.tmp mem3) .nil)))) (refEntries_any c l CA cc cs _ _ hS hcw hc) .nil) (wants_some rfl rfl mem9 rfl) (fun _ => (put_new (by kernel_rfl))) ?_
          rintro ⟨A5, c5⟩
          refine at_q 19 (by kernel_rfl) (l' := #[true, true, true, true, true, true, true, true, true, true, true, true, true, true, true, true, true, true, true, true, false, false]) rfl rfl (oq_call0 (by kernel_rfl) (.cons (.tmp mem2) (.cons (.tmp mem0) .nil)) (pure_rekeep fun w0 hw0 => ints_pure rfl rfl (sl_ints (fun _ => rfl) mem1 hw0.2.2 rfl (Nat.le_trans (entries_len2 _ _ _ _) (by decide))) (sl_ints (fun _ => rfl) mem0 hw0.2.2 rfl (Nat.le_trans (entries_len2 _ _ _ _) (by decide))) _)) (wants_some rfl rfl mem10 rfl) (put_new (by kernel_rfl)) ?_
          refine at_take 20 (by kernel_rfl) (l' := #[true, true, true, true, true, true, true, true, true, true, true, true, true, true, true, true, true, true, true, true, true, false]) rfl rfl rfl (op_pick (b := true) (.tmp mem11) (.tmp mem0)) wants_none (put_new (by kernel_rfl)) ?_
          refine at_take 21 (by kernel_rfl) (l' := #[true, true, true, true, true, true, true, true, true, true, true, true, true, true, true, true, true, true, true, true, true, true]) rfl rfl rfl (op_assign (.tmp mem0)) wants_none (put_over (pickU (pickU pick1)) (by kernel_rfl)) ?_
          refine at_end (by kernel_rfl) ?_
          refine et_then ?_
          refine ct_ret ?_
          exact et_ret rfl (.cons mem0 .nil) (by simp [tupled]) (Ent.drop.trans (Ent.drop.trans Ent.drop))
        · show ST _ _ _ _ _ _ _ _ _ _ _
          refine st_q (l' := #[true, true, true, true, true, true, true, true, true, true, true, true, true, false, true, true, true, true, false, false, false, false]) rfl rfl (oq_loadA (o := 0) (i := 0) (k := 11) (us := [.int .i64 c.workers, .int .i64 c.levels, .int .i64 c.classes, .int .i64 c.tasks, .int .i64 c.deque, .int .i64 c.heap, .int .i64 c.batch, .int .i64 c.age, .int .i64 c.patience, .slice l.pa c.progs.length l.pc, .slice l.sa c.subs.length l.sc]) (.tmp (memU mem17)) mem0 (rfl) (by kernel_rfl) rfl rfl) (wants_some rfl rfl mem7 rfl) (put_new (by kernel_rfl)) ?_
          refine at_t 13 (by kernel_rfl) (l' := #[true, true, true, true, true, true, true, true, true, true, true, true, true, true, true, true, true, true, false, false, false, false]) rfl rfl (ot_call0 (by kernel_rfl) (.cons (.tmp mem1) (.cons (.tmp mem7) (.cons (.tmp mem6) (.cons (.tmp mem5) .nil)))) (solEntries_any c l CA cc cs _ _ hS hcw hc) .nil) (wants_some rfl rfl mem8 rfl) (fun _ => (put_new (by kernel_rfl))) ?_
          rintro ⟨A6, c6⟩
          refine at_t 18 (by kernel_rfl) (l' := #[true, true, true, true, true, true, true, true, true, true, true, true, true, true, true, true, true, true, true, false, false, false]) rfl rfl (ot_call0 (by kernel_rfl) (.cons (.tmp mem1) (.cons (.tmp mem5) (.cons (.tmp mem4) (.cons (.tmp mem3) .nil)))) (refEntries_any c l CA cc cs _ _ hS hcw hc) .nil) (wants_some rfl rfl mem9 rfl) (fun _ => (put_new (by kernel_rfl))) ?_
          rintro ⟨A7, c7⟩
          refine at_q 19 (by kernel_rfl) (l' := #[true, true, true, true, true, true, true, true, true, true, true, true, true, true, true, true, true, true, true, true, false, false]) rfl rfl (oq_call0 (by kernel_rfl) (.cons (.tmp mem1) (.cons (.tmp mem0) .nil)) (pure_rekeep fun w0 hw0 => ints_pure rfl rfl (sl_ints (fun _ => rfl) mem1 hw0.2.2 rfl (Nat.le_trans (entries_len2 _ _ _ _) (by decide))) (sl_ints (fun _ => rfl) mem0 hw0.2.2 rfl (Nat.le_trans (entries_len2 _ _ _ _) (by decide))) _)) (wants_some rfl rfl mem10 rfl) (put_new (by kernel_rfl)) ?_
          refine at_take 20 (by kernel_rfl) (l' := #[true, true, true, true, true, true, true, true, true, true, true, true, true, true, true, true, true, true, true, true, true, false]) rfl rfl rfl (op_pick (b := true) (.tmp mem11) (.tmp mem0)) wants_none (put_new (by kernel_rfl)) ?_
          refine at_take 21 (by kernel_rfl) (l' := #[true, true, true, true, true, true, true, true, true, true, true, true, true, true, true, true, true, true, true, true, true, true]) rfl rfl rfl (op_assign (.tmp mem0)) wants_none (put_over (pickU (pickU pick1)) (by kernel_rfl)) ?_
          refine at_end (by kernel_rfl) ?_
          refine et_then ?_
          refine ct_ret ?_
          exact et_ret rfl (.cons mem0 .nil) (by simp [tupled]) (Ent.drop.trans (Ent.drop.trans Ent.drop))
      · show ST _ _ _ _ _ _ _ _ _ _ _
        refine st_q (l' := #[true, true, true, true, true, true, true, true, true, false, true, true, true, false, true, true, true, true, false, false, false, false]) rfl rfl (oq_loadA (o := 0) (i := 0) (k := 11) (us := [.int .i64 c.workers, .int .i64 c.levels, .int .i64 c.classes, .int .i64 c.tasks, .int .i64 c.deque, .int .i64 c.heap, .int .i64 c.batch, .int .i64 c.age, .int .i64 c.patience, .slice l.pa c.progs.length l.pc, .slice l.sa c.subs.length l.sc]) (.tmp (memU mem16)) mem0 (rfl) (by kernel_rfl) rfl rfl) (wants_some rfl rfl mem6 rfl) (put_new (by kernel_rfl)) ?_
        refine at_q 9 (by kernel_rfl) (l' := #[true, true, true, true, true, true, true, true, true, true, true, true, true, false, true, true, true, true, false, false, false, false]) rfl rfl (oq_loadA (o := 0) (i := 0) (k := 11) (us := [.int .i64 c.workers, .int .i64 c.levels, .int .i64 c.classes, .int .i64 c.tasks, .int .i64 c.deque, .int .i64 c.heap, .int .i64 c.batch, .int .i64 c.age, .int .i64 c.patience, .slice l.pa c.progs.length l.pc, .slice l.sa c.subs.length l.sc]) (.tmp (memU mem17)) mem0 (rfl) (by kernel_rfl) rfl rfl) (wants_some rfl rfl mem7 rfl) (put_new (by kernel_rfl)) ?_
        refine at_t 13 (by kernel_rfl) (l' := #[true, true, true, true, true, true, true, true, true, true, true, true, true, true, true, true, true, true, false, false, false, false]) rfl rfl (ot_call0 (by kernel_rfl) (.cons (.tmp mem0) (.cons (.tmp mem7) (.cons (.tmp mem6) (.cons (.tmp mem5) .nil)))) (solEntries_any c l CA cc cs _ _ hS hcw hc) .nil) (wants_some rfl rfl mem8 rfl) (fun _ => (put_new (by kernel_rfl))) ?_
        rintro ⟨A8, c8⟩
        refine at_t 18 (by kernel_rfl) (l' := #[true, true, true, true, true, true, true, true, true, true, true, true, true, true, true, true, true, true, true, false, false, false]) rfl rfl (ot_call0 (by kernel_rfl) (.cons (.tmp mem2) (.cons (.tmp mem5) (.cons (.tmp mem4) (.cons (.tmp mem3) .nil)))) (refEntries_any c l CA cc cs _ _ hS hcw hc) .nil) (wants_some rfl rfl mem9 rfl) (fun _ => (put_new (by kernel_rfl))) ?_
        rintro ⟨A9, c9⟩
        refine at_q 19 (by kernel_rfl) (l' := #[true, true, true, true, true, true, true, true, true, true, true, true, true, true, true, true, true, true, true, true, false, false]) rfl rfl (oq_call0 (by kernel_rfl) (.cons (.tmp mem1) (.cons (.tmp mem0) .nil)) (pure_rekeep fun w0 hw0 => ints_pure rfl rfl (sl_ints (fun _ => rfl) mem1 hw0.2.2 rfl (Nat.le_trans (entries_len2 _ _ _ _) (by decide))) (sl_ints (fun _ => rfl) mem0 hw0.2.2 rfl (Nat.le_trans (entries_len2 _ _ _ _) (by decide))) _)) (wants_some rfl rfl mem10 rfl) (put_new (by kernel_rfl)) ?_
        refine at_take 20 (by kernel_rfl) (l' := #[true, true, true, true, true, true, true, true, true, true, true, true, true, true, true, true, true, true, true, true, true, false]) rfl rfl rfl (op_pick (b := true) (.tmp mem11) (.tmp mem0)) wants_none (put_new (by kernel_rfl)) ?_
        refine at_take 21 (by kernel_rfl) (l' := #[true, true, true, true, true, true, true, true, true, true, true, true, true, true, true, true, true, true, true, true, true, true]) rfl rfl rfl (op_assign (.tmp mem0)) wants_none (put_over (pickU (pickU pick1)) (by kernel_rfl)) ?_
        refine at_end (by kernel_rfl) ?_
        refine et_then ?_
        refine ct_ret ?_
        exact et_ret rfl (.cons mem0 .nil) (by simp [tupled]) (Ent.drop.trans (Ent.drop.trans Ent.drop))
    · exact absurd rfl h3
  · exact absurd rfl h2

end Go.Proofs.Ytkfkiaieeiodnaa
