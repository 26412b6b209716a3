/- Walks by program: SoloDesks. -/
import Derived.Test.YtkfkiaieeiodnaaSo24
namespace Go.Proofs.Ytkfkiaieeiodnaa
open Go Go.RowKit
section
variable {B : Nat} {W : World} {L : List SProp} {C : Cfg} {l : CfgAt} {A : Option Addr} {n cap : Nat} {cs : List Int} {d w v : Int}
theorem agreeH (hr : rowS A n cap 1 (cs.map (Value.int .u64)) ∈ L) (hc : cfgS C l ∈ L) (hn : cs.length = n) (h2 : n ≤ 9223372036854775807) (h8 : C.heap ≤ 8) (hcw : CWf cs) : Pure Try.prog 8 #[cfgV C l, .slice A n cap, .int .i64 d, .int .i64 w, .int .i64 v] B W L (.bool true) := by
  subst hn
  exact pure_rekeep fun w0 hw0 => agree_spec C l A cap cs d w v (cells_cap hr hw0.2.2) h8 (sl_ints (fun _ => rfl) hr hw0.2.2 rfl h2) hcw (sat_held hw0.2.2 hc) []
end

set_option maxRecDepth 100000 in
theorem soloDesks_spec (BA : Option Addr) (bc : Nat) (bs : List Nat) (hbw : BytesWf bs) (SA : Option Addr) (sc : Nat) (ss : List Nat) (hsw : BytesWf ss) (KA : Option Addr) (kc : Nat) (ks : List Nat) (hkw : BytesWf ks) (wk d w v : Int) (h1 : 0 ≤ wk ∧ wk ≤ 255) (h2 : 0 ≤ w ∧ w ≤ 255) (h3 : 0 ≤ v ∧ v ≤ 255) {B : Nat} {W : World} (hbS : Sl encByte 1 W B BA bs) (hsS : Sl encByte 1 W B SA ss) (hkS : Sl encByte 1 W B KA ks) (L : List SProp) : Pure Try.prog 4 #[.slice BA bs.length bc, .slice SA ss.length sc, .slice KA ks.length kc, .int .u8 wk, .int .i64 d, .int .u8 w, .int .u8 v] B W L (.bool true) := by
  have hn := deskN (k := (1 + (wk % 4))) (by omega)
  have e1 : (deskC (1 + (wk % 4))).heap = 4 := rfl
  have e2 : (deskC (1 + (wk % 4))).tasks = 6 := rfl
  have e3 : (deskC (1 + (wk % 4))).workers = (1 + (wk % 4)) := rfl
  have e4 : (deskC (1 + (wk % 4))).levels = 2 := rfl
  obtain ⟨t1, t2, t3, t4, t5⟩ := tab_in hn
  have hcl : layCells (deskC (1 + (wk % 4))) = layTab (deskC (1 + (wk % 4))) + 5 * (deskC (1 + (wk % 4))).tasks := rfl
  refine pure_enter Try.func4 rfl (m := 107) rfl (Nat.le_of_ble_eq_true rfl) (R := [(0, .slice BA bs.length bc), (1, .slice SA ss.length sc), (2, .slice KA ks.length kc), (3, .int .u8 wk), (4, .int .i64 d), (5, .int .u8 w), (6, .int .u8 v)]) (by kernel_rfl) ?_
  refine ct_seq ?_
  refine ct_region ?_
  refine rt_q (op_assign .const).q wants_none (put_new (by kernel_rfl)) ?_
  refine rt_nil ?_
  refine et_then ?_
  refine ct_seq ?_
  refine ct_seq ?_
  refine ct_region ?_
  refine rt_q (op_move (.tmp mem1)).q wants_none (put_new (by kernel_rfl)) ?_
  refine rt_q (op_len (.tmp mem0) Try.underlying30).q wants_none (put_new (by kernel_rfl)) ?_
  refine rt_q (op_gtr (.tmp mem0) .const).q wants_none (put_new (by kernel_rfl)) ?_
  refine rt_q (op_move (.tmp mem0)).q wants_none (put_new (by kernel_rfl)) ?_
  refine rt_case turn0 turn0 (fun h1 => ?_) (fun h1 => ?_)
  · refine rt_skip (wants_some rfl rfl mem0 rfl) (put_new (by kernel_rfl)) ?_
    refine rt_skip (wants_some rfl rfl mem1 rfl) (put_new (by kernel_rfl)) ?_
    refine rt_skip (wants_some rfl rfl mem2 rfl) (put_new (by kernel_rfl)) ?_
    refine rt_q (op_pick (b := true) (.tmp mem3) .const).q wants_none (put_new (by kernel_rfl)) ?_
    refine rt_nil ?_
    refine et_then ?_
    refine ct_true (.tmp mem0) ?_
    refine ct_seq ?_
    refine ct_region ?_
    refine rt_q (op_assign .const).q wants_none (put_over pick8 (by kernel_rfl)) ?_
    refine rt_nil ?_
    refine et_then ?_
    refine ct_ret ?_
    refine et_then_ret ?_
    exact et_ret rfl (.cons mem0 .nil) (by rfl) Ent.refl
  · refine rt_q (op_move (.tmp mem7)).q (wants_some rfl rfl mem0 rfl) (put_new (by kernel_rfl)) ?_
    refine rt_q (op_len (.tmp mem0) Try.underlying30).q (wants_some rfl rfl mem1 rfl) (put_new (by kernel_rfl)) ?_
    refine rt_q (op_gtr (.tmp mem0) .const).q (wants_some rfl rfl mem2 rfl) (put_new (by kernel_rfl)) ?_
    refine rt_q (op_pick (b := false) (.tmp mem3) (.tmp mem0)).q wants_none (put_new (by kernel_rfl)) ?_
    refine rt_nil ?_
    refine et_then ?_
    refine ct_if (.tmp mem0) (fun h2 => ?_) (fun h2 => ?_)
    · refine ct_seq ?_
      refine ct_region ?_
      refine rt_q (op_assign .const).q wants_none (put_over pick8 (by kernel_rfl)) ?_
      refine rt_nil ?_
      refine et_then ?_
      refine ct_ret ?_
      refine et_then_ret ?_
      exact et_ret rfl (.cons mem0 .nil) (by rfl) Ent.refl
    · refine ct_skip ?_
      refine et_then ?_
      refine ct_seq ?_
      refine ct_region ?_
      refine rt_q (op_move (.tmp mem12)).q wants_none (put_new (by kernel_rfl)) ?_
      refine rt_q (op_rem (.tmp mem0) .const (by omega) (rem64 (by omega))).q wants_none (put_new (by kernel_rfl)) ?_
      refine rt_q (op_conv (.tmp mem0) Try.underlying5 Try.underlying3 (w64 (by omega) (by omega))).q wants_none (put_new (by kernel_rfl)) ?_
      refine rt_q (op_add .const (.tmp mem0) (w64 (by omega) (by omega))).q wants_none (put_new (by kernel_rfl)) ?_
      refine rt_t (ot_call0 (by kernel_rfl) (.cons (.tmp mem0) .nil) (desks_spec _) .nil) wants_none (fun _ => (put_new (by kernel_rfl))) ?_
      rintro l3
      refine rt_t (ot_alloc (v := .agg #[.int .i64 0, .int .i64 0, .int .i64 0, .int .i64 0, .int .i64 0, .int .i64 0, .int .i64 0, .int .i64 0, .int .i64 0, .slice none 0 0, .slice none 0 0]) (us := [.int .i64 0, .int .i64 0, .int .i64 0, .int .i64 0, .int .i64 0, .int .i64 0, .int .i64 0, .int .i64 0, .int .i64 0, .slice none 0 0, .slice none 0 0]) (by kernel_rfl) rfl) wants_none (fun _ => (put_new (by kernel_rfl))) ?_
      rintro b4
      refine rt_t (ot_store (o := 0) (i := 0) (k := 11) (us := [.int .i64 ((deskC (1 + (wk % 4))).workers), .int .i64 ((deskC (1 + (wk % 4))).levels), .int .i64 ((deskC (1 + (wk % 4))).classes), .int .i64 ((deskC (1 + (wk % 4))).tasks), .int .i64 ((deskC (1 + (wk % 4))).deque), .int .i64 ((deskC (1 + (wk % 4))).heap), .int .i64 ((deskC (1 + (wk % 4))).batch), .int .i64 ((deskC (1 + (wk % 4))).age), .int .i64 ((deskC (1 + (wk % 4))).patience), .slice l3.pa ((deskC (1 + (wk % 4))).progs.length) l3.pc, .slice l3.sa ((deskC (1 + (wk % 4))).subs.length) l3.sc]) (ws := [.int .i64 ((deskC (1 + (wk % 4))).workers), .int .i64 ((deskC (1 + (wk % 4))).levels), .int .i64 ((deskC (1 + (wk % 4))).classes), .int .i64 ((deskC (1 + (wk % 4))).tasks), .int .i64 ((deskC (1 + (wk % 4))).deque), .int .i64 ((deskC (1 + (wk % 4))).heap), .int .i64 ((deskC (1 + (wk % 4))).batch), .int .i64 ((deskC (1 + (wk % 4))).age), .int .i64 ((deskC (1 + (wk % 4))).patience), .slice l3.pa ((deskC (1 + (wk % 4))).progs.length) l3.pc, .slice l3.sa ((deskC (1 + (wk % 4))).subs.length) l3.sc]) (.tmp mem0) (.tmp mem1) turn0 (rfl) (by kernel_rfl) rfl (by decide) rfl rfl (by simp) rfl) wants_none (fun _ => put_none) (fun _ => ?_)
      refine rt_nil ?_
      refine et_then ?_
      refine ct_seq ?_
      refine ct_region ?_
      refine rt_q (oq_loadA (o := 0) (i := 0) (k := 11) (us := [.int .i64 ((deskC (1 + (wk % 4))).workers), .int .i64 ((deskC (1 + (wk % 4))).levels), .int .i64 ((deskC (1 + (wk % 4))).classes), .int .i64 ((deskC (1 + (wk % 4))).tasks), .int .i64 ((deskC (1 + (wk % 4))).deque), .int .i64 ((deskC (1 + (wk % 4))).heap), .int .i64 ((deskC (1 + (wk % 4))).batch), .int .i64 ((deskC (1 + (wk % 4))).age), .int .i64 ((deskC (1 + (wk % 4))).patience), .slice l3.pa ((deskC (1 + (wk % 4))).progs.length) l3.pc, .slice l3.sa ((deskC (1 + (wk % 4))).subs.length) l3.sc]) (.tmp mem0) mem0 (rfl) (by kernel_rfl) rfl rfl) wants_none (put_new (by kernel_rfl)) ?_
      refine rt_q (op_move (.tmp mem16)).q wants_none (put_new (by kernel_rfl)) ?_
      refine rt_q (op_move (.tmp mem18)).q wants_none (put_new (by kernel_rfl)) ?_
      refine rt_t (ot_call0 (by kernel_rfl) (.cons (.tmp mem2) (.cons (.tmp mem1) (.cons (.tmp mem0) .nil))) (laid_spec (deskC (1 + (wk % 4))) l3 hn _ _ bs hbw _ _ ss hsw hbS hsS) .nil) wants_none (fun _ => (put_new (by kernel_rfl))) ?_
      rintro A5
      refine rt_q (op_assign (.tmp mem0)).q wants_none (put_new (by kernel_rfl)) ?_
      refine rt_nil ?_
      refine et_then ?_
      refine ct_seq ?_
      refine ct_seq ?_
      refine ct_region ?_
      refine rt_q (op_assign .const).q wants_none (put_new (by kernel_rfl)) ?_
      refine rt_nil ?_
      refine et_then ?_
      refine ct_block ?_
      refine ct_loop3 (X := Nat) (Y := List Int) (Z := Unit) (fun i xs z => ks.length - i) (fun i xs z => i ≤ ks.length ∧ (i : Int) ≤ 4 ∧ xs.length = (layCells (deskC (1 + (wk % 4)))).toNat ∧ CWf xs) (fun i xs z => [(17, .int .i64 ((i : Int))), (16, .slice A5 ((layCells (deskC (1 + (wk % 4)))).toNat) ((layCells (deskC (1 + (wk % 4)))).toNat)), (15, .pointer (some ⟨b4, 0, none⟩)), (14, .bool false), (2, .slice KA ks.length kc), (4, .int .i64 d), (5, .int .u8 w), (6, .int .u8 v)]) (fun i xs z => rowS A5 ((layCells (deskC (1 + (wk % 4)))).toNat) ((layCells (deskC (1 + (wk % 4)))).toNat) 1 (xs.map (Value.int .u64)) :: pts b4 0 [.int .i64 ((deskC (1 + (wk % 4))).workers), .int .i64 ((deskC (1 + (wk % 4))).levels), .int .i64 ((deskC (1 + (wk % 4))).classes), .int .i64 ((deskC (1 + (wk % 4))).tasks), .int .i64 ((deskC (1 + (wk % 4))).deque), .int .i64 ((deskC (1 + (wk % 4))).heap), .int .i64 ((deskC (1 + (wk % 4))).batch), .int .i64 ((deskC (1 + (wk % 4))).age), .int .i64 ((deskC (1 + (wk % 4))).patience), .slice l3.pa ((deskC (1 + (wk % 4))).progs.length) l3.pc, .slice l3.sa ((deskC (1 + (wk % 4))).subs.length) l3.sc] :: cfgS (deskC (1 + (wk % 4))) l3 :: L) 0 (laidV (deskC (1 + (wk % 4))) bs ss) () (⟨by omega, by omega, laidS_len, laidS_wf hn _ _ _⟩) (.cons mem0 (congrArg (Value.int .i64) (by first | rfl | omega | (simp; omega) | simp)) (.cons mem1 rfl (.cons mem6 rfl (.cons (memU mem0) rfl (.cons (memU mem3) rfl (.cons (memU mem5) rfl (.cons (memU mem6) rfl (.cons (memU mem7) rfl .nil)))))))) (Ent.refl) (fun i xs z hi6 => ?_)
      obtain ⟨hi0, hi1, hxl, hxw⟩ := hi6
      have hby := hkw i
      refine ct_seq ?_
      refine ct_seq ?_
      refine ct_region ?_
      refine rt_q (op_move (.tmp mem0)).q wants_none (put_new (by kernel_rfl)) ?_
      refine rt_q (op_move (.tmp mem5)).q wants_none (put_new (by kernel_rfl)) ?_
      refine rt_q (op_len (.tmp mem0) Try.underlying30).q wants_none (put_new (by kernel_rfl)) ?_
      refine rt_q (op_lss (.tmp mem2) (.tmp mem0)).q wants_none (put_new (by kernel_rfl)) ?_
      refine rt_q (op_move (.tmp mem0)).q wants_none (put_new (by kernel_rfl)) ?_
      refine rt_case turn0 turn0 (fun h7 => ?_) (fun h7 => ?_)
      · refine rt_q (op_move (.tmp mem5)).q (wants_some rfl rfl mem0 rfl) (put_new (by kernel_rfl)) ?_
        refine rt_q (op_field (k := 5) (o' := 5) (.tmp mem8) (by kernel_rfl) (by rfl)).q (wants_some rfl rfl mem1 rfl) (put_new (by kernel_rfl)) ?_
        refine rt_q (oq_load (o := 0) (i := 5) (.tmp mem0) mem1 (rfl) rfl (by kernel_rfl)) (wants_some rfl rfl mem2 rfl) (put_new (by kernel_rfl)) ?_
        refine rt_q (op_lss (.tmp mem2) (.tmp mem0)).q (wants_some rfl rfl mem3 rfl) (put_new (by kernel_rfl)) ?_
        refine rt_q (op_pick (b := true) (.tmp mem4) (.tmp mem0)).q wants_none (put_new (by kernel_rfl)) ?_
        refine rt_nil ?_
        refine et_then ?_
        refine ct_if (.tmp mem0) (fun h8 => ?_) (fun h8 => ?_)
        · refine ct_skip ?_
          refine et_then ?_
          refine ct_seq ?_
          refine ct_block ?_
          refine ct_seq ?_
          refine ct_any 24 (by kernel_rfl) rfl (listed := #[false, false, false, false, false, false, false, false, false, false, false, false, false, false, false, false, false, false, false, false, false, false, false, false]) rfl ?_
          refine at_take 0 (by kernel_rfl) (l' := #[true, false, false, false, false, false, false, false, false, false, false, false, false, false, false, false, false, false, false, false, false, false, false, false]) rfl rfl rfl (op_move (.tmp mem11)) wants_none (put_new (by kernel_rfl)) ?_
          refine at_take 2 (by kernel_rfl) (l' := #[true, false, true, false, false, false, false, false, false, false, false, false, false, false, false, false, false, false, false, false, false, false, false, false]) rfl rfl rfl (op_move (.tmp mem11)) wants_none (put_new (by kernel_rfl)) ?_
          refine at_take 4 (by kernel_rfl) (l' := #[true, false, true, false, true, false, false, false, false, false, false, false, false, false, false, false, false, false, false, false, false, false, false, false]) rfl rfl rfl (op_move (.tmp mem16)) wants_none (put_new (by kernel_rfl)) ?_
          refine at_take 5 (by kernel_rfl) (l' := #[true, false, true, false, true, true, false, false, false, false, false, false, false, false, false, false, false, false, false, false, false, false, false, false]) rfl rfl rfl (op_move (.tmp mem13)) wants_none (put_new (by kernel_rfl)) ?_
          refine at_take 6 (by kernel_rfl) (l' := #[true, false, true, false, true, true, true, false, false, false, false, false, false, false, false, false, false, false, false, false, false, false, false, false]) rfl rfl rfl (op_indexW (i := i) (.tmp mem1) (.tmp mem0) hkS (by omega) (by omega) (by omega) (by kernel_rfl) (Nat.mul_one _)) wants_none (put_new (by kernel_rfl)) ?_
          refine at_take 11 (by kernel_rfl) (l' := #[true, false, true, false, true, true, true, false, false, false, false, true, false, false, false, false, false, false, false, false, false, false, false, false]) rfl rfl rfl (op_move (.tmp mem15)) wants_none (put_new (by kernel_rfl)) ?_
          refine at_take 12 (by kernel_rfl) (l' := #[true, false, true, false, true, true, true, false, false, false, false, true, true, false, false, false, false, false, false, false, false, false, false, false]) rfl rfl rfl (op_conv (.tmp mem0) Try.underlying3 Try.underlying33 (wu64 (by omega) (by omega))) wants_none (put_new (by kernel_rfl)) ?_
          refine at_take 13 (by kernel_rfl) (l' := #[true, false, true, false, true, true, true, false, false, false, false, true, true, true, false, false, false, false, false, false, false, false, false, false]) rfl rfl rfl (op_shl (.tmp mem0) .const (by decide) rfl) wants_none (put_new (by kernel_rfl)) ?_
          refine at_take 15 (by kernel_rfl) (l' := #[true, false, true, false, true, true, true, false, false, false, false, true, true, true, false, true, false, false, false, false, false, false, false, false]) rfl rfl rfl (op_move (.tmp (memU mem2))) wants_none (put_new (by kernel_rfl)) ?_
          refine at_take 16 (by kernel_rfl) (l' := #[true, false, true, false, true, true, true, false, false, false, false, true, true, true, false, true, true, false, false, false, false, false, false, false]) rfl rfl rfl (op_move (.tmp mem19)) wants_none (put_new (by kernel_rfl)) ?_
          refine at_take 17 (by kernel_rfl) (l' := #[true, false, true, false, true, true, true, false, false, false, false, true, true, true, false, true, true, true, false, false, false, false, false, false]) rfl rfl rfl (op_indexW (i := i) (.tmp mem1) (.tmp mem0) hkS (by omega) (by omega) (by omega) (by kernel_rfl) (Nat.mul_one _)) wants_none (put_new (by kernel_rfl)) ?_
          refine at_group [1, 3, 7, 8, 9, 10, 14, 18, 19, 20, 21, 22] 1 rfl (by kernel_rfl) (l' := #[true, true, true, true, true, true, true, true, true, true, true, true, true, true, true, true, true, true, true, true, true, true, true, false]) rfl ?_
          refine qt_q (oq_loadA (o := 0) (i := 0) (k := 11) (us := [.int .i64 ((deskC (1 + (wk % 4))).workers), .int .i64 ((deskC (1 + (wk % 4))).levels), .int .i64 ((deskC (1 + (wk % 4))).classes), .int .i64 ((deskC (1 + (wk % 4))).tasks), .int .i64 ((deskC (1 + (wk % 4))).deque), .int .i64 ((deskC (1 + (wk % 4))).heap), .int .i64 ((deskC (1 + (wk % 4))).batch), .int .i64 ((deskC (1 + (wk % 4))).age), .int .i64 ((deskC (1 + (wk % 4))).patience), .slice l3.pa ((deskC (1 + (wk % 4))).progs.length) l3.pc, .slice l3.sa ((deskC (1 + (wk % 4))).subs.length) l3.sc]) (.tmp (memU mem3)) mem1 (rfl) (by kernel_rfl) rfl rfl) wants_none (put_new (by kernel_rfl)) ?_
          have hat : atV (i : Int) (deskC (1 + (wk % 4))).heap 4 1 = 4 + (i : Int) * 1 := atV_in (by omega) (by omega)
          refine qt_q (oq_call0 (by kernel_rfl) (.cons (.tmp mem0) (.cons (.tmp mem10) .nil)) (refSlot_spec (deskC (1 + (wk % 4))) l3 hn _ _ _ _)) wants_none (put_new (by kernel_rfl)) ?_
          refine qt_q (oq_loadW1 (i := i) (j := 0) (.tmp mem8) hkS (byt_at (by omega)) rfl (by omega) (by kernel_rfl)) wants_none (put_new (by kernel_rfl)) ?_
          refine qt_q (op_quo (.tmp mem0) .const (by omega) (quou8 (by omega) (by omega) (by omega))).q wants_none (put_new (by kernel_rfl)) ?_
          refine qt_q (op_conv (.tmp mem0) Try.underlying5 Try.underlying33 (wu64 (by omega) (by omega))).q wants_none (put_new (by kernel_rfl)) ?_
          refine qt_q (op_shl (.tmp mem0) .const (by decide) rfl).q wants_none (put_new (by kernel_rfl)) ?_
          refine qt_q (op_add (.tmp mem0) (.tmp mem9) rfl).q wants_none (put_new (by kernel_rfl)) ?_
          refine qt_q (oq_loadW1 (i := i) (j := 0) (.tmp mem7) hkS (byt_at (by omega)) rfl (by omega) (by kernel_rfl)) wants_none (put_new (by kernel_rfl)) ?_
          refine qt_q (op_rem (.tmp mem0) .const (by omega) (rem64 (by omega))).q wants_none (put_new (by kernel_rfl)) ?_
          refine qt_q (op_conv (.tmp mem0) Try.underlying5 Try.underlying33 (wu64 (by omega) (by omega))).q wants_none (put_new (by kernel_rfl)) ?_
          refine qt_q (op_add (.tmp mem3) (.tmp mem0) rfl).q wants_none (put_new (by kernel_rfl)) ?_
          refine qt_q (oq_indexS (i := ((atV ((i : Int)) (deskC (1 + (wk % 4))).heap 4 1)).toNat) (.tmp (memU mem1)) (.tmp mem9) mem0 (by omega) (by omega) (by omega) (by kernel_rfl) (Nat.mul_one _)) wants_none (put_new (by kernel_rfl)) ?_
          refine qt_nil ?_
          refine at_t 23 (by kernel_rfl) (l' := #[true, true, true, true, true, true, true, true, true, true, true, true, true, true, true, true, true, true, true, true, true, true, true, true]) rfl rfl (ot_storeS (i := ((atV ((i : Int)) (deskC (1 + (wk % 4))).heap 4 1)).toNat) (.tmp mem0) (.tmp mem1) turn0 (by first | omega | (simp only [List.length_map, List.length_set]; omega)) (by kernel_rfl) rfl) wants_none (fun _ => put_none) (fun _ => ?_)
          refine at_ent ent_set ?_
          refine at_end (by kernel_rfl) ?_
          refine et_then ?_
          refine ct_seq ?_
          refine ct_region ?_
          refine rt_q (op_move (.tmp (memU mem14))).q wants_none (put_new (by kernel_rfl)) ?_
          refine rt_q (oq_indexS (i := 2) (.tmp mem0) .const mem0 (by omega) (by omega) (by omega) (by kernel_rfl) (Nat.mul_one _)) wants_none (put_new (by kernel_rfl)) ?_
          refine rt_q (oq_loadS (i := 2) (.tmp mem0) mem0 (gi_map (by first | omega | (simp only [List.length_set]; omega))) (by kernel_rfl)) wants_none (put_new (by kernel_rfl)) ?_
          refine rt_q (op_add (.tmp mem0) .const rfl).q wants_none (put_new (by kernel_rfl)) ?_
          refine rt_q (oq_indexS (i := 2) (.tmp mem3) .const mem0 (by omega) (by omega) (by omega) (by kernel_rfl) (Nat.mul_one _)) wants_none (put_new (by kernel_rfl)) ?_
          refine rt_t (ot_storeS (i := 2) (.tmp mem0) (.tmp mem1) turn0 (by first | omega | (simp only [List.length_map, List.length_set]; omega)) (by kernel_rfl) rfl) wants_none (fun _ => put_none) (fun _ => ?_)
          refine rt_ent ent_set ?_
          refine rt_nil ?_
          refine et_then ?_
          refine ct_any 18 (by kernel_rfl) rfl (listed := #[false, false, false, false, false, false, false, false, false, false, false, false, false, false, false, false, false, false]) rfl ?_
          refine at_take 0 (by kernel_rfl) (l' := #[true, false, false, false, false, false, false, false, false, false, false, false, false, false, false, false, false, false]) rfl rfl rfl (op_move (.tmp (memU mem19))) wants_none (put_new (by kernel_rfl)) ?_
          refine at_take 2 (by kernel_rfl) (l' := #[true, false, true, false, false, false, false, false, false, false, false, false, false, false, false, false, false, false]) rfl rfl rfl (op_move (.tmp (memU (memU mem3)))) wants_none (put_new (by kernel_rfl)) ?_
          refine at_take 3 (by kernel_rfl) (l' := #[true, false, true, true, false, false, false, false, false, false, false, false, false, false, false, false, false, false]) rfl rfl rfl (op_move (.tmp (memU (memU mem0)))) wants_none (put_new (by kernel_rfl)) ?_
          refine at_take 4 (by kernel_rfl) (l' := #[true, false, true, true, true, false, false, false, false, false, false, false, false, false, false, false, false, false]) rfl rfl rfl (op_indexW (i := i) (.tmp mem1) (.tmp mem0) hkS (by omega) (by omega) (by omega) (by kernel_rfl) (Nat.mul_one _)) wants_none (put_new (by kernel_rfl)) ?_
          refine at_take 9 (by kernel_rfl) (l' := #[true, false, true, true, true, false, false, false, false, true, false, false, false, false, false, false, false, false]) rfl rfl rfl (op_move (.tmp (memU (memU mem6)))) wants_none (put_new (by kernel_rfl)) ?_
          refine at_take 10 (by kernel_rfl) (l' := #[true, false, true, true, true, false, false, false, false, true, true, false, false, false, false, false, false, false]) rfl rfl rfl (op_move (.tmp (memU (memU mem3)))) wants_none (put_new (by kernel_rfl)) ?_
          refine at_take 11 (by kernel_rfl) (l' := #[true, false, true, true, true, false, false, false, false, true, true, true, false, false, false, false, false, false]) rfl rfl rfl (op_indexW (i := i) (.tmp mem1) (.tmp mem0) hkS (by omega) (by omega) (by omega) (by kernel_rfl) (Nat.mul_one _)) wants_none (put_new (by kernel_rfl)) ?_
          refine at_group [1, 5, 6, 7, 8, 12, 13, 14, 15, 16] 1 rfl (by kernel_rfl) (l' := #[true, true, true, true, true, true, true, true, true, true, true, true, true, true, true, true, true, false]) rfl ?_
          refine qt_q (oq_loadA (o := 0) (i := 0) (k := 11) (us := [.int .i64 ((deskC (1 + (wk % 4))).workers), .int .i64 ((deskC (1 + (wk % 4))).levels), .int .i64 ((deskC (1 + (wk % 4))).classes), .int .i64 ((deskC (1 + (wk % 4))).tasks), .int .i64 ((deskC (1 + (wk % 4))).deque), .int .i64 ((deskC (1 + (wk % 4))).heap), .int .i64 ((deskC (1 + (wk % 4))).batch), .int .i64 ((deskC (1 + (wk % 4))).age), .int .i64 ((deskC (1 + (wk % 4))).patience), .slice l3.pa ((deskC (1 + (wk % 4))).progs.length) l3.pc, .slice l3.sa ((deskC (1 + (wk % 4))).subs.length) l3.sc]) (.tmp (memU (memU mem7))) mem1 (rfl) (by kernel_rfl) rfl rfl) wants_none (put_new (by kernel_rfl)) ?_
          refine qt_q (oq_loadW1 (i := i) (j := 0) (.tmp mem4) hkS (byt_at (by omega)) rfl (by omega) (by kernel_rfl)) wants_none (put_new (by kernel_rfl)) ?_
          refine qt_q (op_rem (.tmp mem0) .const (by omega) (rem64 (by omega))).q wants_none (put_new (by kernel_rfl)) ?_
          refine qt_q (op_conv (.tmp mem0) Try.underlying5 Try.underlying3 (w64 (by omega) (by omega))).q wants_none (put_new (by kernel_rfl)) ?_
          have hat2 : atV ((((byt ks i : Nat) : Int) % 6)) (deskC (1 + (wk % 4))).tasks (layTab (deskC (1 + (wk % 4))) + 1) 5 = layTab (deskC (1 + (wk % 4))) + 1 + ((((byt ks i : Nat) : Int) % 6)) * 5 := atV_in (by omega) (by omega)
          refine qt_q (oq_call0 (by kernel_rfl) (.cons (.tmp mem3) (.cons (.tmp mem0) .nil)) (refLevel_spec (deskC (1 + (wk % 4))) l3 hn _ _ _ _)) wants_none (put_new (by kernel_rfl)) ?_
          refine qt_q (oq_loadW1 (i := i) (j := 0) (.tmp mem5) hkS (byt_at (by omega)) rfl (by omega) (by kernel_rfl)) wants_none (put_new (by kernel_rfl)) ?_
          refine qt_q (op_quo (.tmp mem0) .const (by omega) (quou8 (by omega) (by omega) (by omega))).q wants_none (put_new (by kernel_rfl)) ?_
          refine qt_q (op_rem (.tmp mem0) .const (by omega) (rem64 (by omega))).q wants_none (put_new (by kernel_rfl)) ?_
          refine qt_q (op_conv (.tmp mem0) Try.underlying5 Try.underlying33 (wu64 (by omega) (by omega))).q wants_none (put_new (by kernel_rfl)) ?_
          refine qt_q (oq_indexS (i := ((atV ((((byt ks i : Nat) : Int) % 6)) (deskC (1 + (wk % 4))).tasks (layTab (deskC (1 + (wk % 4))) + 1) 5)).toNat) (.tmp mem15) (.tmp mem4) mem0 (by omega) (by omega) (by omega) (by kernel_rfl) (Nat.mul_one _)) wants_none (put_new (by kernel_rfl)) ?_
          refine qt_nil ?_
          refine at_t 17 (by kernel_rfl) (l' := #[true, true, true, true, true, true, true, true, true, true, true, true, true, true, true, true, true, true]) rfl rfl (ot_storeS (i := ((atV ((((byt ks i : Nat) : Int) % 6)) (deskC (1 + (wk % 4))).tasks (layTab (deskC (1 + (wk % 4))) + 1) 5)).toNat) (.tmp mem0) (.tmp mem1) turn0 (by first | omega | (simp only [List.length_map, List.length_set]; omega)) (by kernel_rfl) rfl) wants_none (fun _ => put_none) (fun _ => ?_)
          refine at_ent ent_set ?_
          refine at_end (by kernel_rfl) ?_
          refine et_block ?_
          refine et_then ?_
          refine ct_region ?_
          refine rt_q (op_move (.tmp (memU (memU mem15)))).q wants_none (put_new (by kernel_rfl)) ?_
          refine rt_q (op_add (.tmp mem0) .const (w64 (by omega) (by omega))).q wants_none (put_new (by kernel_rfl)) ?_
          refine rt_q (op_assign (.tmp mem0)).q wants_none (put_over (pickU (pickU pick17)) (by kernel_rfl)) ?_
          refine rt_nil ?_
          exact et_again3 (n := 107) (i + 1) _ () (⟨by omega, by omega, by simp only [List.length_set]; exact hxl, cwf_set (cwf_set (cwf_set hxw (wrapu_bd _)) (wrapu_bd _)) (by omega)⟩) (by omega) (.cons mem0 (congrArg (Value.int .i64) (by first | rfl | omega | (simp; omega) | simp)) (.cons (memU (memU mem18)) rfl (.cons (memU (memU mem19)) rfl (.cons (memU (memU (memU mem0))) rfl (.cons (memU (memU (memU mem1))) rfl (.cons (memU (memU (memU mem2))) rfl (.cons (memU (memU (memU mem3))) rfl (.cons (memU (memU (memU mem4))) rfl .nil)))))))) (Ent.refl)
        · refine ct_exit ?_
          refine et_then_exit ?_
          refine et_then_exit ?_
          refine et_block_here ?_
          refine et_then ?_
          refine ct_seq ?_
          refine ct_draw (by kernel_rfl) (by kernel_rfl) ?_
          refine qt_q (oq_call0 (by kernel_rfl) .nil (awake_spec _)) wants_none (put_new (by kernel_rfl)) ?_
          refine qt_q (op_move (.tmp mem0)).q wants_none (put_new (by kernel_rfl)) ?_
          refine qt_q (oq_loadA (o := 0) (i := 0) (k := 11) (us := [.int .i64 ((deskC (1 + (wk % 4))).workers), .int .i64 ((deskC (1 + (wk % 4))).levels), .int .i64 ((deskC (1 + (wk % 4))).classes), .int .i64 ((deskC (1 + (wk % 4))).tasks), .int .i64 ((deskC (1 + (wk % 4))).deque), .int .i64 ((deskC (1 + (wk % 4))).heap), .int .i64 ((deskC (1 + (wk % 4))).batch), .int .i64 ((deskC (1 + (wk % 4))).age), .int .i64 ((deskC (1 + (wk % 4))).patience), .slice l3.pa ((deskC (1 + (wk % 4))).progs.length) l3.pc, .slice l3.sa ((deskC (1 + (wk % 4))).subs.length) l3.sc]) (.tmp mem14) mem1 (rfl) (by kernel_rfl) rfl rfl) (wants_some rfl rfl mem0 rfl) (put_new (by kernel_rfl)) ?_
          refine qt_q (op_move (.tmp mem14)).q (wants_some rfl rfl mem1 rfl) (put_new (by kernel_rfl)) ?_
          refine qt_q (op_move (.tmp mem19)).q (wants_some rfl rfl mem2 rfl) (put_new (by kernel_rfl)) ?_
          refine qt_q (op_move (.tmp (memU mem1))).q (wants_some rfl rfl mem3 rfl) (put_new (by kernel_rfl)) ?_
          refine qt_q (op_conv (.tmp mem0) Try.underlying5 Try.underlying3 (w64 (by omega) (by omega))).q (wants_some rfl rfl mem4 rfl) (put_new (by kernel_rfl)) ?_
          refine qt_q (op_field (k := 0) (o' := 0) (.tmp mem19) (by kernel_rfl) (by rfl)).q (wants_some rfl rfl mem5 rfl) (put_new (by kernel_rfl)) ?_
          refine qt_q (oq_load (o := 0) (i := 0) (.tmp mem0) mem1 (rfl) rfl (by kernel_rfl)) (wants_some rfl rfl mem6 rfl) (put_new (by kernel_rfl)) ?_
          refine qt_q (op_rem (.tmp mem2) (.tmp mem0) (by omega) (rem64 (by omega))).q (wants_some rfl rfl mem7 rfl) (put_new (by kernel_rfl)) ?_
          refine qt_q (op_move (.tmp (memU mem7))).q (wants_some rfl rfl mem8 rfl) (put_new (by kernel_rfl)) ?_
          refine qt_q (op_rem (.tmp mem0) .const (by omega) (rem64 (by omega))).q (wants_some rfl rfl mem9 rfl) (put_new (by kernel_rfl)) ?_
          refine qt_q (op_conv (.tmp mem0) Try.underlying5 Try.underlying3 (w64 (by omega) (by omega))).q (wants_some rfl rfl mem10 rfl) (put_new (by kernel_rfl)) ?_
          refine qt_q (oq_call0 (by kernel_rfl) (.cons (.tmp mem10) (.cons (.tmp mem9) (.cons (.tmp mem8) (.cons (.tmp mem3) (.cons (.tmp mem0) .nil))))) (agreeH (cs := xs) mem0 mem2 hxl (by omega) (by show (4 : Int) ≤ 8; omega) hxw)) (wants_some rfl rfl mem11 rfl) (put_new (by kernel_rfl)) ?_
          refine qt_q (op_pick (b := true) (.tmp mem12) (.tmp mem0)).q wants_none (put_new (by kernel_rfl)) ?_
          refine qt_q (op_assign (.tmp mem0)).q wants_none (put_over (pickU pick8) (by kernel_rfl)) ?_
          refine qt_nil ?_
          refine et_then ?_
          refine ct_ret ?_
          exact et_ret rfl (.cons mem0 .nil) (by rfl) (Ent.drop.trans (Ent.drop.trans Ent.drop))
      · refine rt_skip (wants_some rfl rfl mem0 rfl) (put_new (by kernel_rfl)) ?_
        refine rt_skip (wants_some rfl rfl mem1 rfl) (put_new (by kernel_rfl)) ?_
        refine rt_skip (wants_some rfl rfl mem2 rfl) (put_new (by kernel_rfl)) ?_
        refine rt_skip (wants_some rfl rfl mem3 rfl) (put_new (by kernel_rfl)) ?_
        refine rt_q (op_pick (b := false) (.tmp mem4) .const).q wants_none (put_new (by kernel_rfl)) ?_
        refine rt_nil ?_
        refine et_then ?_
        refine ct_false (.tmp mem0) ?_
        refine ct_exit ?_
        refine et_then_exit ?_
        refine et_then_exit ?_
        refine et_block_here ?_
        refine et_then ?_
        refine ct_seq ?_
        refine ct_draw (by kernel_rfl) (by kernel_rfl) ?_
        refine qt_q (oq_call0 (by kernel_rfl) .nil (awake_spec _)) wants_none (put_new (by kernel_rfl)) ?_
        refine qt_q (op_move (.tmp mem0)).q wants_none (put_new (by kernel_rfl)) ?_
        refine qt_q (oq_loadA (o := 0) (i := 0) (k := 11) (us := [.int .i64 ((deskC (1 + (wk % 4))).workers), .int .i64 ((deskC (1 + (wk % 4))).levels), .int .i64 ((deskC (1 + (wk % 4))).classes), .int .i64 ((deskC (1 + (wk % 4))).tasks), .int .i64 ((deskC (1 + (wk % 4))).deque), .int .i64 ((deskC (1 + (wk % 4))).heap), .int .i64 ((deskC (1 + (wk % 4))).batch), .int .i64 ((deskC (1 + (wk % 4))).age), .int .i64 ((deskC (1 + (wk % 4))).patience), .slice l3.pa ((deskC (1 + (wk % 4))).progs.length) l3.pc, .slice l3.sa ((deskC (1 + (wk % 4))).subs.length) l3.sc]) (.tmp mem14) mem1 (rfl) (by kernel_rfl) rfl rfl) (wants_some rfl rfl mem0 rfl) (put_new (by kernel_rfl)) ?_
        refine qt_q (op_move (.tmp mem14)).q (wants_some rfl rfl mem1 rfl) (put_new (by kernel_rfl)) ?_
        refine qt_q (op_move (.tmp mem19)).q (wants_some rfl rfl mem2 rfl) (put_new (by kernel_rfl)) ?_
        refine qt_q (op_move (.tmp (memU mem1))).q (wants_some rfl rfl mem3 rfl) (put_new (by kernel_rfl)) ?_
        refine qt_q (op_conv (.tmp mem0) Try.underlying5 Try.underlying3 (w64 (by omega) (by omega))).q (wants_some rfl rfl mem4 rfl) (put_new (by kernel_rfl)) ?_
        refine qt_q (op_field (k := 0) (o' := 0) (.tmp mem19) (by kernel_rfl) (by rfl)).q (wants_some rfl rfl mem5 rfl) (put_new (by kernel_rfl)) ?_
        refine qt_q (oq_load (o := 0) (i := 0) (.tmp mem0) mem1 (rfl) rfl (by kernel_rfl)) (wants_some rfl rfl mem6 rfl) (put_new (by kernel_rfl)) ?_
        refine qt_q (op_rem (.tmp mem2) (.tmp mem0) (by omega) (rem64 (by omega))).q (wants_some rfl rfl mem7 rfl) (put_new (by kernel_rfl)) ?_
        refine qt_q (op_move (.tmp (memU mem7))).q (wants_some rfl rfl mem8 rfl) (put_new (by kernel_rfl)) ?_
        refine qt_q (op_rem (.tmp mem0) .const (by omega) (rem64 (by omega))).q (wants_some rfl rfl mem9 rfl) (put_new (by kernel_rfl)) ?_
        refine qt_q (op_conv (.tmp mem0) Try.underlying5 Try.underlying3 (w64 (by omega) (by omega))).q (wants_some rfl rfl mem10 rfl) (put_new (by kernel_rfl)) ?_
        refine qt_q (oq_call0 (by kernel_rfl) (.cons (.tmp mem10) (.cons (.tmp mem9) (.cons (.tmp mem8) (.cons (.tmp mem3) (.cons (.tmp mem0) .nil))))) (agreeH (cs := xs) mem0 mem2 hxl (by omega) (by show (4 : Int) ≤ 8; omega) hxw)) (wants_some rfl rfl mem11 rfl) (put_new (by kernel_rfl)) ?_
        refine qt_q (op_pick (b := true) (.tmp mem12) (.tmp mem0)).q wants_none (put_new (by kernel_rfl)) ?_
        refine qt_q (op_assign (.tmp mem0)).q wants_none (put_over (pickU pick8) (by kernel_rfl)) ?_
        refine qt_nil ?_
        refine et_then ?_
        refine ct_ret ?_
        exact et_ret rfl (.cons mem0 .nil) (by rfl) (Ent.drop.trans (Ent.drop.trans Ent.drop))

end Go.Proofs.Ytkfkiaieeiodnaa
