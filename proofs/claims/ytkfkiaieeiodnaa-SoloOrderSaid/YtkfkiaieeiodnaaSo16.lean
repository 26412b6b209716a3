/- Walks by program: the iterator over the injector's groups. -/
import Derived.Test.YtkfkiaieeiodnaaSo15
import Derived.Test.YtkfkiaieeiodnaaSl10
namespace Go.Proofs.Ytkfkiaieeiodnaa
open Go Go.RowKit
structure Grp where
  A : Option Addr
  cp : Nat
  q : Nat
def kOf (c : Cfg) (m : Nat) : Int := if (m : Int) < c.batch then m else c.batch
theorem kOf_spec (c : Cfg) (m : Nat) (hb : 1 ≤ c.batch) : (kOf c m = m ∧ (m : Int) < c.batch) ∨ (kOf c m = c.batch ∧ c.batch ≤ m) := by
  unfold kOf; split
  · exact .inl ⟨rfl, by assumption⟩
  · exact .inr ⟨rfl, by omega⟩
def grpE (c : Cfg) (cs : List Int) (x : Grp) : Array Value := #[.slice x.A (kOf c ((injN cs).toNat - x.q)).toNat x.cp]
def grpG (cs : List Int) (x : Grp) : List SProp := [rowS x.A ((injN cs).toNat - x.q) x.cp 1 (((injKeys cs).drop x.q).map (Value.int .u64))]
def injIn (c : Cfg) (cs : List Int) : Prop := 1 ≤ injN cs ∧ injN cs ≤ c.heap
def grpOk (c : Cfg) (cs : List Int) (pre : List Grp) (x : Grp) : Prop := x.q = pre.length * c.batch.toNat ∧ x.q < (injN cs).toNat ∧ injIn c cs
def grpS (c : Cfg) (cs : List Int) (xs : List Grp) : Prop := (¬ injIn c cs ∧ xs = []) ∨ (injIn c cs ∧ (injN cs).toNat ≤ xs.length * c.batch.toNat)
theorem len_snoc (pre : List Grp) (x : Grp) (b : Nat) : (pre ++ [x]).length * b = pre.length * b + b := by
  rw [List.length_append, List.length_singleton, Nat.add_mul, Nat.one_mul]
theorem laySlot0 (c : Cfg) (hn : CNums c) (B : Nat) (W : World) (L : List SProp) : Pure Try.prog 66 #[.agg #[.int .i64 c.workers, .int .i64 c.levels, .int .i64 c.classes, .int .i64 c.tasks, .int .i64 c.deque, .int .i64 c.heap, .int .i64 ((laySlp c)), .int .i64 ((layEpo c)), .int .i64 ((layBit c)), .int .i64 ((layDeq c)), .int .i64 ((layTab c))], .int .i64 0] B W L (.int .i64 4) := by
  have h := laySlot_spec c hn 0 B W L
  have hh := hn.h
  rwa [show atV 0 c.heap 4 1 = 4 from atV_in (by omega) (by omega)] at h
theorem edfSorted_at (A0 : Option Addr) (cap n : Nat) (xs : List Int) (hn : xs.length = n) (h1 : 1 ≤ xs.length) (h2 : xs.length ≤ 12) {B : Nat} {W : World} (hS : Sl encU 1 W B A0 xs) : Fn_ Try.prog 65 #[.slice A0 n cap] B W [] (X := Option Addr × Nat) (fun p => .slice p.1 n p.2) (fun p => [rowS p.1 n p.2 1 ((sortV xs).map (Value.int .u64))]) := by
  subst hn; exact edfSorted_spec A0 cap xs h1 h2 hS
theorem drop_drop_at {xs : List Int} {p q k : Nat} {f : Int → Value} (h : q = p + k) : ((xs.drop p).map f).drop k = (xs.drop q).map f := by
  subst h; rw [← List.map_drop, List.drop_drop]
theorem drop_step2 {xs : List Int} {p q k : Nat} {f : Int → Value} (h : q = p + k ∨ (xs.length ≤ q ∧ xs.length ≤ p + k)) : (xs.drop q).map f = ((xs.drop p).map f).drop k := by
  rw [← List.map_drop, List.drop_drop]
  rcases h with h | ⟨h, h'⟩
  · rw [h]
  · rw [List.drop_eq_nil_of_le h, List.drop_eq_nil_of_le h']

set_option maxRecDepth 100000 in
theorem groups_seq (c : Cfg) (l : CfgAt) (CA : Option Addr) (cc : Nat) (cs : List Int) (hn : CNums c) (hl : (cs.length : Int) = layCells c) (hcc : cs.length ≤ cc) (h8 : c.heap ≤ 8) {B : Nat} {W : World} (hS : Sl encU 1 W B CA cs) (hcw : CWf cs) (b1 : Nat) : SeqC Try.prog 63 #[.pointer (some ⟨b1, 0, none⟩)] (grpE c cs) B W [pts b1 0 [.int .i64 c.workers, .int .i64 c.levels, .int .i64 c.classes, .int .i64 c.tasks, .int .i64 c.deque, .int .i64 c.heap, .int .i64 c.batch, .int .i64 c.age, .int .i64 c.patience, .slice l.pa c.progs.length l.pc, .slice l.sa c.subs.length l.sc, .int .i64 c.workers, .int .i64 c.levels, .int .i64 c.classes, .int .i64 c.tasks, .int .i64 c.deque, .int .i64 c.heap, .int .i64 ((laySlp c)), .int .i64 ((layEpo c)), .int .i64 ((layBit c)), .int .i64 ((layDeq c)), .int .i64 ((layTab c)), .slice CA cs.length cc]] (grpG cs) (grpOk c cs) (grpS c cs) (fun _ => True) := by
  obtain ⟨t1, t2, t3, t4, t5⟩ := tab_in hn
  have ht := hn.t
  have hcl : layCells c = layTab c + 5 * c.tasks := rfl
  have hd := hn.d
  have hh := hn.h
  have hbt := hn.b
  intro l0 J Jx hY F u0 hu0
  refine seq_enter Try.func63 rfl (m := 53) rfl (Nat.le_of_ble_eq_true rfl) (R := [(0, .func (.yield l0) #[] #[]), (1, .pointer (some ⟨b1, 0, none⟩))]) (by kernel_rfl) (cls_shut (L1 := [_]) hu0) ?_
  refine ct_seq ?_
  refine ct_draw (by kernel_rfl) (by kernel_rfl) ?_
  refine qt_q (op_field (k := 22) (o' := 22) (.tmp mem1) (by kernel_rfl) (by rfl)).q wants_none (put_new (by kernel_rfl)) ?_
  refine qt_q (oq_load (o := 0) (i := 22) (.tmp mem0) mem0 (rfl) rfl (by kernel_rfl)) wants_none (put_new (by kernel_rfl)) ?_
  refine qt_q (op_field (k := 11) (o' := 11) (.tmp mem3) (by kernel_rfl) (by rfl)).q wants_none (put_new (by kernel_rfl)) ?_
  refine qt_q (oq_loadA (o := 0) (i := 11) (k := 11) (us := [.int .i64 c.workers, .int .i64 c.levels, .int .i64 c.classes, .int .i64 c.tasks, .int .i64 c.deque, .int .i64 c.heap, .int .i64 ((laySlp c)), .int .i64 ((layEpo c)), .int .i64 ((layBit c)), .int .i64 ((layDeq c)), .int .i64 ((layTab c))]) (.tmp mem0) mem0 (rfl) (by kernel_rfl) rfl rfl) wants_none (put_new (by kernel_rfl)) ?_
  refine qt_q (oq_call0 (by kernel_rfl) (.cons (.tmp mem0) .nil) (laySize_spec c hn B W _)) wants_none (put_new (by kernel_rfl)) ?_
  refine qt_q (op_indexW (i := 2) (.tmp mem3) (.tmp mem0) hS (by omega) (by omega) (by omega) (by kernel_rfl) (Nat.mul_one _)).q wants_none (put_new (by kernel_rfl)) ?_
  refine qt_q (oq_loadW1 (i := 2) (j := 0) (.tmp mem0) hS (gi_get (by omega)) rfl (by omega) (by kernel_rfl)) wants_none (put_new (by kernel_rfl)) ?_
  refine qt_q (op_conv (.tmp mem0) Try.underlying33 Try.underlying3 (show _ = injN cs from rfl)).q wants_none (put_new (by kernel_rfl)) ?_
  refine qt_q (op_assign (.tmp mem0)).q wants_none (put_new (by kernel_rfl)) ?_
  refine qt_nil ?_
  refine et_then ?_
  refine ct_seq ?_
  refine ct_seq ?_
  refine ct_region ?_
  refine rt_q (op_move (.tmp mem0)).q wants_none (put_new (by kernel_rfl)) ?_
  refine rt_q (op_lss (.tmp mem0) .const).q wants_none (put_new (by kernel_rfl)) ?_
  refine rt_q (op_move (.tmp mem0)).q wants_none (put_new (by kernel_rfl)) ?_
  refine rt_case turn0 turn0 (fun h1 => ?_) (fun h1 => ?_)
  · refine rt_skip (wants_some rfl rfl mem0 rfl) (put_new (by kernel_rfl)) ?_
    refine rt_skip (wants_some rfl rfl mem1 rfl) (put_new (by kernel_rfl)) ?_
    refine rt_skip (wants_some rfl rfl mem2 rfl) (put_new (by kernel_rfl)) ?_
    refine rt_skip (wants_some rfl rfl mem3 rfl) (put_new (by kernel_rfl)) ?_
    refine rt_skip (wants_some rfl rfl mem4 rfl) (put_new (by kernel_rfl)) ?_
    refine rt_q (op_pick (b := true) (.tmp mem5) .const).q wants_none (put_new (by kernel_rfl)) ?_
    refine rt_nil ?_
    refine et_then ?_
    refine ct_true (.tmp mem0) ?_
    refine ct_ret ?_
    refine et_then_ret ?_
    exact et_out rfl .nil (fun u h => ⟨⟨_, rfl⟩, .inl ⟨[], .inl ⟨fun hi => absurd hi.1 (by have := hi.2; omega), rfl⟩, cls_open (L1 := [_]) h⟩⟩)
  · refine rt_q (op_move (.tmp mem3)).q (wants_some rfl rfl mem0 rfl) (put_new (by kernel_rfl)) ?_
    refine rt_q (op_field (k := 0) (o' := 0) (.tmp mem14) (by kernel_rfl) (by rfl)).q (wants_some rfl rfl mem1 rfl) (put_new (by kernel_rfl)) ?_
    refine rt_q (op_field (k := 5) (o' := 5) (.tmp mem0) (by kernel_rfl) (by rfl)).q (wants_some rfl rfl mem2 rfl) (put_new (by kernel_rfl)) ?_
    refine rt_q (oq_load (o := 0) (i := 5) (.tmp mem0) mem0 (rfl) rfl (by kernel_rfl)) (wants_some rfl rfl mem3 rfl) (put_new (by kernel_rfl)) ?_
    refine rt_q (op_gtr (.tmp mem3) (.tmp mem0)).q (wants_some rfl rfl mem4 rfl) (put_new (by kernel_rfl)) ?_
    refine rt_q (op_pick (b := false) (.tmp mem5) (.tmp mem0)).q wants_none (put_new (by kernel_rfl)) ?_
    refine rt_nil ?_
    refine et_then ?_
    refine ct_if (.tmp mem0) (fun h2 => ?_) (fun h2 => ?_)
    · refine ct_ret ?_
      refine et_then_ret ?_
      exact et_out rfl .nil (fun u h => ⟨⟨_, rfl⟩, .inl ⟨[], .inl ⟨fun hi => absurd hi.1 (by have := hi.2; omega), rfl⟩, cls_open (L1 := [_]) h⟩⟩)
    · refine ct_skip ?_
      refine et_then ?_
      refine ct_seq ?_
      refine ct_any 13 (by kernel_rfl) rfl (listed := #[false, false, false, false, false, false, false, false, false, false, false, false, false]) rfl ?_
      refine at_take 0 (by kernel_rfl) (l' := #[true, false, false, false, false, false, false, false, false, false, false, false, false]) rfl rfl rfl (op_field (k := 22) (o' := 22) (.tmp mem19) (by kernel_rfl) (by rfl)) wants_none (put_new (by kernel_rfl)) ?_
      refine at_take 2 (by kernel_rfl) (l' := #[true, false, true, false, false, false, false, false, false, false, false, false, false]) rfl rfl rfl (op_field (k := 11) (o' := 11) (.tmp (memU mem0)) (by kernel_rfl) (by rfl)) wants_none (put_new (by kernel_rfl)) ?_
      refine at_take 5 (by kernel_rfl) (l' := #[true, false, true, false, false, true, false, false, false, false, false, false, false]) rfl rfl rfl (op_field (k := 11) (o' := 11) (.tmp (memU mem1)) (by kernel_rfl) (by rfl)) wants_none (put_new (by kernel_rfl)) ?_
      refine at_take 8 (by kernel_rfl) (l' := #[true, false, true, false, false, true, false, false, true, false, false, false, false]) rfl rfl rfl (op_move (.tmp mem12)) wants_none (put_new (by kernel_rfl)) ?_
      refine at_group [1, 3, 4, 6, 7, 9, 10] 2 rfl (by kernel_rfl) (l' := #[true, true, true, true, true, true, true, true, true, true, true, false, false]) rfl ?_
      refine qt_q (oq_load (o := 0) (i := 22) (.tmp mem3) mem0 (rfl) rfl (by kernel_rfl)) wants_none (put_new (by kernel_rfl)) ?_
      refine qt_q (oq_loadA (o := 0) (i := 11) (k := 11) (us := [.int .i64 c.workers, .int .i64 c.levels, .int .i64 c.classes, .int .i64 c.tasks, .int .i64 c.deque, .int .i64 c.heap, .int .i64 ((laySlp c)), .int .i64 ((layEpo c)), .int .i64 ((layBit c)), .int .i64 ((layDeq c)), .int .i64 ((layTab c))]) (.tmp mem3) mem0 (rfl) (by kernel_rfl) rfl rfl) wants_none (put_new (by kernel_rfl)) ?_
      refine qt_q (oq_call0 (by kernel_rfl) (.cons (.tmp mem0) (.cons .const .nil)) (laySlot0 c hn B W _)) wants_none (put_new (by kernel_rfl)) ?_
      refine qt_q (oq_loadA (o := 0) (i := 11) (k := 11) (us := [.int .i64 c.workers, .int .i64 c.levels, .int .i64 c.classes, .int .i64 c.tasks, .int .i64 c.deque, .int .i64 c.heap, .int .i64 ((laySlp c)), .int .i64 ((layEpo c)), .int .i64 ((layBit c)), .int .i64 ((layDeq c)), .int .i64 ((layTab c))]) (.tmp mem4) mem0 (rfl) (by kernel_rfl) rfl rfl) wants_none (put_new (by kernel_rfl)) ?_
      refine qt_q (oq_call0 (by kernel_rfl) (.cons (.tmp mem0) (.cons .const .nil)) (laySlot0 c hn B W _)) wants_none (put_new (by kernel_rfl)) ?_
      refine qt_q (op_add (.tmp mem0) (.tmp mem5) (w64 (by omega) (by omega))).q wants_none (put_new (by kernel_rfl)) ?_
      refine qt_q (op_slice_lh (l := 4) (h' := ((4 + (injN cs))).toNat) (.tmp mem5) Try.underlying26 (by kernel_rfl : _ = 1) (by omega) (evalr_cast (.tmp mem3) (by omega)) (evalr_cast (.tmp mem0) (by omega)) (by omega) (by omega) rfl).q wants_none (put_new (by kernel_rfl)) ?_
      refine qt_nil ?_
      have hkl : ((cs.drop 4).take ((4 + injN cs).toNat - 4)).length = (4 + injN cs).toNat - 4 := by rw [List.length_take, List.length_drop]; omega
      have hks : sortV ((cs.drop 4).take ((4 + injN cs).toNat - 4)) = injKeys cs := by rw [show (4 + injN cs).toNat - 4 = (injN cs).toNat by omega]; rfl
      have hksl : (injKeys cs).length = (injN cs).toNat := by rw [← hks, sortV_len]; omega
      refine at_t 11 (by kernel_rfl) (l' := #[true, true, true, true, true, true, true, true, true, true, true, true, false]) rfl rfl (ot_call0 (by kernel_rfl) (.cons (.tmp mem0) .nil) (edfSorted_at _ _ _ _ hkl (by omega) (by omega) (sl_piece hS (by omega) (.inl (by omega)))) .nil) wants_none (fun _ => (put_new (by kernel_rfl))) ?_
      rintro ⟨A3, c3⟩
      refine at_ent (ent_rowd hks rfl Ent.refl) ?_
      refine at_take 12 (by kernel_rfl) (l' := #[true, true, true, true, true, true, true, true, true, true, true, true, true]) rfl rfl rfl (op_assign (.tmp mem0)) wants_none (put_new (by kernel_rfl)) ?_
      refine at_end (by kernel_rfl) ?_
      refine et_then ?_
      refine ct_block ?_
      have hin : injIn c cs := ⟨by omega, by omega⟩
      have hNe : ((4 + injN cs).toNat - 4) = (injN cs).toNat := by omega
      refine ct_loop3 (X := List Grp) (Y := Option Addr) (Z := Nat) (fun pre A cx => (injN cs).toNat - (pre.length * c.batch.toNat)) (fun pre A cx => True) (fun pre A cx => [(4, .slice A (((injN cs).toNat - (pre.length * c.batch.toNat))) cx), (0, .func (.yield l0) #[] #[]), (1, .pointer (some ⟨b1, 0, none⟩))]) (fun pre A cx => rowS A ((injN cs).toNat - (pre.length * c.batch.toNat)) cx 1 (((injKeys cs).drop (pre.length * c.batch.toNat)).map (Value.int .u64)) :: pts b1 0 [.int .i64 c.workers, .int .i64 c.levels, .int .i64 c.classes, .int .i64 c.tasks, .int .i64 c.deque, .int .i64 c.heap, .int .i64 c.batch, .int .i64 c.age, .int .i64 c.patience, .slice l.pa c.progs.length l.pc, .slice l.sa c.subs.length l.sc, .int .i64 c.workers, .int .i64 c.levels, .int .i64 c.classes, .int .i64 c.tasks, .int .i64 c.deque, .int .i64 c.heap, .int .i64 ((laySlp c)), .int .i64 ((layEpo c)), .int .i64 ((layBit c)), .int .i64 ((layDeq c)), .int .i64 ((layTab c)), .slice CA cs.length cc] :: starS (J pre) :: [F]) [] A3 c3 (trivial) (.cons mem0 (by simp only [List.length_nil, Nat.zero_mul, Nat.sub_zero, hNe]) (.cons (memU mem11) rfl (.cons (memU mem12) rfl .nil))) ((ent_rowd (by simp) (by simp [hNe]) Ent.refl)) (fun pre A cx hi4 => ?_)
      clear hi4
      refine ct_fact (rowS_cap mem0) (fun hcap => ?_)
      refine ct_seq ?_
      refine ct_seq ?_
      refine ct_region ?_
      refine rt_q (op_move (.tmp mem0)).q wants_none (put_new (by kernel_rfl)) ?_
      refine rt_q (op_len (.tmp mem0) Try.underlying26).q wants_none (put_new (by kernel_rfl)) ?_
      refine rt_q (op_gtr (.tmp mem0) .const).q wants_none (put_new (by kernel_rfl)) ?_
      refine rt_nil ?_
      refine et_then ?_
      refine ct_if (.tmp mem0) (fun h5 => ?_) (fun h5 => ?_)
      · refine ct_skip ?_
        refine et_then ?_
        refine ct_block ?_
        refine ct_seq ?_
        refine ct_region ?_
        refine rt_q (op_field (k := 0) (o' := 0) (.tmp mem5) (by kernel_rfl) (by rfl)).q wants_none (put_new (by kernel_rfl)) ?_
        refine rt_q (op_field (k := 6) (o' := 6) (.tmp mem0) (by kernel_rfl) (by rfl)).q wants_none (put_new (by kernel_rfl)) ?_
        refine rt_q (oq_load (o := 0) (i := 6) (.tmp mem0) mem1 (rfl) rfl (by kernel_rfl)) wants_none (put_new (by kernel_rfl)) ?_
        refine rt_q (op_move (.tmp mem6)).q wants_none (put_new (by kernel_rfl)) ?_
        refine rt_q (op_len (.tmp mem0) Try.underlying26).q wants_none (put_new (by kernel_rfl)) ?_
        have hk := kOf_spec c ((injN cs).toNat - (pre.length * c.batch.toNat)) (by omega)
        refine rt_q (op_min (.tmp mem2) (.tmp mem0)).q wants_none (put_new (by kernel_rfl)) ?_
        refine rt_q (op_assign (.tmp mem0)).q wants_none (put_new (by kernel_rfl)) ?_
        refine rt_nil ?_
        refine et_then ?_
        refine ct_seq ?_
        refine ct_seq ?_
        refine ct_region ?_
        refine rt_q (op_move (.tmp mem11)).q wants_none (put_new (by kernel_rfl)) ?_
        refine rt_q (op_move (.tmp mem11)).q wants_none (put_new (by kernel_rfl)) ?_
        refine rt_q (op_move (.tmp mem2)).q wants_none (put_new (by kernel_rfl)) ?_
        refine rt_q (op_slice_h (h' := ((kOf c ((injN cs).toNat - (pre.length * c.batch.toNat)))).toNat) (.tmp mem1) Try.underlying26 (by kernel_rfl : _ = 1) (by omega) (evalr_cast (.tmp mem0) (by omega)) (by omega)).q wants_none (put_new (by kernel_rfl)) ?_
        have hlen := len_snoc pre ⟨A, cx, (pre.length * c.batch.toNat)⟩ c.batch.toNat
        refine rt_yield (L1 := [rowS A ((injN cs).toNat - (pre.length * c.batch.toNat)) cx 1 (((injKeys cs).drop (pre.length * c.batch.toNat)).map (Value.int .u64)), pts b1 0 [.int .i64 c.workers, .int .i64 c.levels, .int .i64 c.classes, .int .i64 c.tasks, .int .i64 c.deque, .int .i64 c.heap, .int .i64 c.batch, .int .i64 c.age, .int .i64 c.patience, .slice l.pa c.progs.length l.pc, .slice l.sa c.subs.length l.sc, .int .i64 c.workers, .int .i64 c.levels, .int .i64 c.classes, .int .i64 c.tasks, .int .i64 c.deque, .int .i64 c.heap, .int .i64 ((laySlp c)), .int .i64 ((layEpo c)), .int .i64 ((layBit c)), .int .i64 ((layDeq c)), .int .i64 ((layTab c)), .slice CA cs.length cc], starS (J (pre ++ [⟨A, cx, (pre.length * c.batch.toNat)⟩])), F]) (L2 := [rowS A ((injN cs).toNat - (pre.length * c.batch.toNat)) cx 1 (((injKeys cs).drop (pre.length * c.batch.toNat)).map (Value.int .u64)), pts b1 0 [.int .i64 c.workers, .int .i64 c.levels, .int .i64 c.classes, .int .i64 c.tasks, .int .i64 c.deque, .int .i64 c.heap, .int .i64 c.batch, .int .i64 c.age, .int .i64 c.patience, .slice l.pa c.progs.length l.pc, .slice l.sa c.subs.length l.sc, .int .i64 c.workers, .int .i64 c.levels, .int .i64 c.classes, .int .i64 c.tasks, .int .i64 c.deque, .int .i64 c.heap, .int .i64 ((laySlp c)), .int .i64 ((layEpo c)), .int .i64 ((layBit c)), .int .i64 ((layDeq c)), .int .i64 ((layTab c)), .slice CA cs.length cc], starS (Jx (pre ++ [⟨A, cx, (pre.length * c.batch.toNat)⟩])), F]) (.tmp mem3) (.cons (.tmp mem0) .nil) (fun u hu => YieldAt.mono (hY pre ⟨A, cx, (pre.length * c.batch.toNat)⟩ F u ⟨rfl, (by show (pre.length * c.batch.toNat) < (injN cs).toNat; omega), hin⟩ (cls_open (L1 := [_, _]) hu)) ?_) wants_none (fun b => (put_new (by kernel_rfl))) ?_ ?_
        · rintro e u (⟨rfl, h⟩ | ⟨rfl, h⟩)
          · exact .inl ⟨rfl, cls_shut (L1 := [_, _]) h⟩
          · exact .inr ⟨rfl, cls_shut (L1 := [_, _]) h⟩
        · skip
          refine rt_q (op_notb (.tmp mem0)).q wants_none (put_new (by kernel_rfl)) ?_
          refine rt_nil ?_
          refine et_then ?_
          refine ct_false (.tmp mem0) ?_
          refine ct_skip ?_
          refine et_then ?_
          refine ct_region ?_
          refine rt_q (op_move (.tmp mem16)).q wants_none (put_new (by kernel_rfl)) ?_
          refine rt_q (op_move (.tmp mem7)).q wants_none (put_new (by kernel_rfl)) ?_
          refine rt_q (op_slice_l (l := ((kOf c ((injN cs).toNat - (pre.length * c.batch.toNat)))).toNat) (.tmp mem1) Try.underlying26 (by kernel_rfl : _ = 1) (by omega) (evalr_cast (.tmp mem0) (by omega)) (by omega) (by omega) rfl).q wants_none (put_new (by kernel_rfl)) ?_
          refine rt_q (op_assign (.tmp mem0)).q wants_none (put_over pick19 (by kernel_rfl)) ?_
          refine rt_nil ?_
          refine et_block ?_
          exact et_again3 (n := 53) (pre ++ [⟨A, cx, (pre.length * c.batch.toNat)⟩]) _ (cx - (kOf c ((injN cs).toNat - (pre.length * c.batch.toNat))).toNat) (trivial) (by omega) (.cons mem0 (congrArg (fun m => Value.slice _ m _) (by omega)) (.cons (memU mem0) rfl (.cons (memU mem1) rfl .nil))) (row_tail (by omega) (by omega) (drop_step2 (by omega)))
        · skip
          refine rt_q (op_notb (.tmp mem0)).q wants_none (put_new (by kernel_rfl)) ?_
          refine rt_nil ?_
          refine et_then ?_
          refine ct_true (.tmp mem0) ?_
          refine ct_ret ?_
          refine et_then_ret ?_
          refine et_block_ret ?_
          refine et_then_ret ?_
          refine et_block_ret ?_
          exact et_out rfl .nil (fun u h => ⟨⟨_, rfl⟩, .inr ⟨_, trivial, cls_open (L1 := [_]) (h.ent Ent.drop)⟩⟩)
      · refine ct_exit ?_
        refine et_then_exit ?_
        refine et_then_exit ?_
        refine et_block_here ?_
        exact et_out_end rfl .nil (fun u h => ⟨⟨_, rfl⟩, .inl ⟨_, .inr ⟨hin, by omega⟩, cls_open (L1 := [_]) (h.ent Ent.drop)⟩⟩)

end Go.Proofs.Ytkfkiaieeiodnaa
