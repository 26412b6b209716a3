/- Walks by program: the example of the statements. -/
import Derived.Test.YtkfkiaieeiodnaaSo22
namespace Go.Proofs.Ytkfkiaieeiodnaa
open Go Go.RowKit
theorem sl_bytes {B : Nat} {L : List SProp} {b : Nat} {xs : List Nat} {w : World} (h : pts b 0 (xs.map fun (x : Nat) => Value.int .u8 (x : Int)) ∈ L) (s : Sat B w L) (hn : xs.length ≤ 9223372036854775807) : Sl encByte 1 w w.heap.size (some ⟨b, 0, none⟩) xs := by
  have h0 := sl_pts (k := .u8) (enc := fun x => [.int .u8 x]) (fun _ => rfl) (xs := xs.map fun (x : Nat) => (x : Int)) (b := b) (L := L) (B := B) (by rw [List.map_map]; exact h) s (by simpa using hn)
  refine ⟨hn, fun hne => ?_⟩
  obtain ⟨b', o, e, hb, hc⟩ := h0.2 (by simpa using hne)
  exact ⟨b', o, e, hb, fun i x hx j u hu => hc i (x : Int) (by simp [hx]) j u hu⟩
theorem cells_cap {B : Nat} {L : List SProp} {A : Option Addr} {n cap : Nat} {vs : List Value} {w : World} (h : rowS A n cap 1 vs ∈ L) (s : Sat B w L) : n ≤ cap := (sat_rowS s h).2.1
section
variable {B : Nat} {W : World} {L : List SProp} {C : Cfg} {l : CfgAt} {A : Option Addr} {n cap : Nat} {cs : List Int} {d w v : Int}
theorem solNextH (hr : rowS A n cap 1 (cs.map (Value.int .u64)) ∈ L) (hc : cfgS C l ∈ L) (hn : cs.length = n) (h2 : n ≤ 9223372036854775807) (h8 : C.heap ≤ 8) (hcw : CWf cs) : Pure Try.prog 15 #[cfgV C l, .slice A n cap, .int .i64 d, .int .i64 w] B W L (.tuple #[.int .i64 ((nextV C cs d w).getD 0), .bool (nextV C cs d w).isSome]) := by
  subst hn
  exact pure_rekeep fun w0 hw0 => solNext_any C l A cap cs d w (cells_cap hr hw0.2.2) h8 (sl_ints (fun _ => rfl) hr hw0.2.2 rfl h2) hcw (sat_held hw0.2.2 hc) []
theorem solNextS {t : Int} (hr : rowS A n cap 1 (cs.map (Value.int .u64)) ∈ L) (hc : cfgS C l ∈ L) (hn : cs.length = n) (h2 : n ≤ 9223372036854775807) (h8 : C.heap ≤ 8) (hcw : CWf cs) (hv : nextV C cs d w = some t) : Pure Try.prog 15 #[cfgV C l, .slice A n cap, .int .i64 d, .int .i64 w] B W L (.tuple #[.int .i64 t, .bool true]) := by
  have h := solNextH (d := d) (w := w) (B := B) (W := W) hr hc hn h2 h8 hcw
  rwa [hv] at h
theorem solEntriesH (hn : cs.length = n) (hcw : CWf cs) (hS : Sl encU 1 W B A cs) (hc : CfgIn W B C l) {xs : List Int} (hv : entriesV C cs w v = xs) : Fn_ Try.prog 17 #[cfgV C l, .slice A n cap, .int .i64 w, .int .i64 v] B W [] (X := Option Addr × Nat) (fun p => .slice p.1 xs.length p.2) (fun p => [rowS p.1 xs.length p.2 1 (xs.map (Value.int .i64))]) := by
  subst hn hv; exact solEntries_any C l A cap cs w v hS hcw hc
end
theorem deskC_err {k : Int} (h : 1 ≤ k ∧ k ≤ 4) : cfgErr (deskC k) = 0 := by
  have : k = 1 ∨ k = 2 ∨ k = 3 ∨ k = 4 := by omega
  have e1 : cfgErr (deskC 1) = 0 := by kernel_rfl
  have e2 : cfgErr (deskC 2) = 0 := by kernel_rfl
  have e3 : cfgErr (deskC 3) = 0 := by kernel_rfl
  have e4 : cfgErr (deskC 4) = 0 := by kernel_rfl
  rcases this with rfl | rfl | rfl | rfl <;> assumption
theorem deskN {k : Int} (h : 1 ≤ k ∧ k ≤ 4) : CNums (deskC k) := cnums (nums_of_err (deskC_err h))
def awCS : List Int := laidV (deskC 2) [8, 16, 28] []
theorem aw_wf : CWf awCS := laidS_wf (deskN (by omega)) _ _ _
theorem aw_wf2 : CWf (awCS.set 52 4) := cwf_set aw_wf (by omega)
theorem aw_bytes : BytesWf [8, 16, 28] := fun i => by
  match i with
  | 0 | 1 | 2 => decide
  | i + 3 => simp [byt]
theorem no_bytes : BytesWf [] := fun i => by simp [byt]
theorem aw_state (l : CfgAt) (B : Nat) (W : World) (L : List SProp) : Pure Try.prog 14 #[.agg #[.int .i64 ((deskC 2).workers), .int .i64 ((deskC 2).levels), .int .i64 ((deskC 2).classes), .int .i64 ((deskC 2).tasks), .int .i64 ((deskC 2).deque), .int .i64 ((deskC 2).heap), .int .i64 ((deskC 2).batch), .int .i64 ((deskC 2).age), .int .i64 ((deskC 2).patience), .slice l.pa ((deskC 2).progs.length) l.pc, .slice l.sa ((deskC 2).subs.length) l.sc], .int .i64 3] B W L (.int .i64 52) := by
  have h := refState_spec (deskC 2) l (deskN (by omega)) 3 B W L
  rwa [show atV 3 (deskC 2).tasks (layTab (deskC 2) + 0) 5 = 52 from by kernel_rfl] at h
theorem aw1 : nextV (deskC 2) awCS 0 0 = some 3 := by kernel_rfl
theorem aw2 : nextV (deskC 2) awCS 0 1 = some 3 := by kernel_rfl
theorem aw3 : nextV (deskC 2) (awCS.set 52 4) 0 0 = some 2 := by kernel_rfl
theorem aw4 : nextV (deskC 2) (awCS.set 52 4) 0 1 = some 1 := by kernel_rfl
theorem aw5 : entriesV (deskC 2) (awCS.set 52 4) 0 0 = [1, 2] := by kernel_rfl

set_option maxRecDepth 100000 in
theorem awake_spec  {B : Nat} {W : World} (L : List SProp) : Pure Try.prog 7 #[] B W L (.bool true) := by
  refine pure_enter Try.func7 rfl (m := 76) rfl (Nat.le_of_ble_eq_true rfl) (R := []) (by kernel_rfl) ?_
  refine ct_seq ?_
  refine ct_region ?_
  refine rt_q (op_assign .const).q wants_none (put_new (by kernel_rfl)) ?_
  refine rt_nil ?_
  refine et_then ?_
  refine ct_seq ?_
  refine ct_region ?_
  refine rt_t (ot_call0 (by kernel_rfl) (.cons .const .nil) (desks_spec _) .nil) wants_none (fun _ => (put_new (by kernel_rfl))) ?_
  rintro l1
  refine rt_t (ot_alloc (v := .agg #[.int .i64 0, .int .i64 0, .int .i64 0, .int .i64 0, .int .i64 0, .int .i64 0, .int .i64 0, .int .i64 0, .int .i64 0, .slice none 0 0, .slice none 0 0]) (us := [.int .i64 0, .int .i64 0, .int .i64 0, .int .i64 0, .int .i64 0, .int .i64 0, .int .i64 0, .int .i64 0, .int .i64 0, .slice none 0 0, .slice none 0 0]) (by kernel_rfl) rfl) wants_none (fun _ => (put_new (by kernel_rfl))) ?_
  rintro b2
  refine rt_t (ot_store (o := 0) (i := 0) (k := 11) (us := [.int .i64 ((deskC 2).workers), .int .i64 ((deskC 2).levels), .int .i64 ((deskC 2).classes), .int .i64 ((deskC 2).tasks), .int .i64 ((deskC 2).deque), .int .i64 ((deskC 2).heap), .int .i64 ((deskC 2).batch), .int .i64 ((deskC 2).age), .int .i64 ((deskC 2).patience), .slice l1.pa ((deskC 2).progs.length) l1.pc, .slice l1.sa ((deskC 2).subs.length) l1.sc]) (ws := [.int .i64 ((deskC 2).workers), .int .i64 ((deskC 2).levels), .int .i64 ((deskC 2).classes), .int .i64 ((deskC 2).tasks), .int .i64 ((deskC 2).deque), .int .i64 ((deskC 2).heap), .int .i64 ((deskC 2).batch), .int .i64 ((deskC 2).age), .int .i64 ((deskC 2).patience), .slice l1.pa ((deskC 2).progs.length) l1.pc, .slice l1.sa ((deskC 2).subs.length) l1.sc]) (.tmp mem0) (.tmp mem1) turn0 (rfl) (by kernel_rfl) rfl (by decide) rfl rfl (by simp) rfl) wants_none (fun _ => put_none) (fun _ => ?_)
  refine rt_nil ?_
  refine et_then ?_
  refine ct_seq ?_
  refine ct_region ?_
  refine rt_q (oq_loadA (o := 0) (i := 0) (k := 11) (us := [.int .i64 ((deskC 2).workers), .int .i64 ((deskC 2).levels), .int .i64 ((deskC 2).classes), .int .i64 ((deskC 2).tasks), .int .i64 ((deskC 2).deque), .int .i64 ((deskC 2).heap), .int .i64 ((deskC 2).batch), .int .i64 ((deskC 2).age), .int .i64 ((deskC 2).patience), .slice l1.pa ((deskC 2).progs.length) l1.pc, .slice l1.sa ((deskC 2).subs.length) l1.sc]) (.tmp mem0) mem0 (rfl) (by kernel_rfl) rfl rfl) wants_none (put_new (by kernel_rfl)) ?_
  refine rt_t (ot_buildSlice (T' := 5) (us := [.int .u8 8, .int .u8 16, .int .u8 28]) (.cons .const (.cons .const (.cons .const .nil))) (fun _ => by kernel_rfl)) wants_none (fun _ => (put_new (by kernel_rfl))) ?_
  rintro b3
  refine rt_t (ot_rekeep (by kernel_rfl) (.cons (.tmp mem1) (.cons (.tmp mem0) (.cons .const .nil))) (fun w hw => laid_spec (deskC 2) l1 (deskN (by omega)) _ _ [8, 16, 28] aw_bytes none 0 [] no_bytes (sl_bytes (xs := [8, 16, 28]) mem0 hw.2.2 (by decide)) ⟨by simp, fun h => absurd rfl h⟩)) wants_none (fun _ => (put_new (by kernel_rfl))) ?_
  rintro A4
  refine rt_q (op_assign (.tmp mem0)).q wants_none (put_new (by kernel_rfl)) ?_
  refine rt_nil ?_
  refine et_then ?_
  refine ct_seq ?_
  refine ct_region ?_
  refine rt_q (oq_loadA (o := 0) (i := 0) (k := 11) (us := [.int .i64 ((deskC 2).workers), .int .i64 ((deskC 2).levels), .int .i64 ((deskC 2).classes), .int .i64 ((deskC 2).tasks), .int .i64 ((deskC 2).deque), .int .i64 ((deskC 2).heap), .int .i64 ((deskC 2).batch), .int .i64 ((deskC 2).age), .int .i64 ((deskC 2).patience), .slice l1.pa ((deskC 2).progs.length) l1.pc, .slice l1.sa ((deskC 2).subs.length) l1.sc]) (.tmp mem4) mem2 (rfl) (by kernel_rfl) rfl rfl) wants_none (put_new (by kernel_rfl)) ?_
  refine rt_q (op_move (.tmp mem1)).q wants_none (put_new (by kernel_rfl)) ?_
  refine rt_q (oq_call0 (by kernel_rfl) (.cons (.tmp mem1) (.cons (.tmp mem0) (.cons .const (.cons .const .nil)))) (solNextS (cs := awCS) mem0 mem3 (by kernel_rfl) (by decide) (by decide) aw_wf aw1)) wants_none (put_new (by kernel_rfl)) ?_
  refine rt_q (op_move (.tmp mem0)).q wants_none (put_new (by kernel_rfl)) ?_
  refine rt_q (op_extract (.tmp mem0) rfl).q wants_none (put_new (by kernel_rfl)) ?_
  refine rt_q (op_extract (.tmp mem1) rfl).q wants_none (put_new (by kernel_rfl)) ?_
  refine rt_q (op_assign (.tmp mem1)).q wants_none (put_new (by kernel_rfl)) ?_
  refine rt_q (op_assign (.tmp mem1)).q wants_none (put_new (by kernel_rfl)) ?_
  refine rt_nil ?_
  refine et_then ?_
  refine ct_seq ?_
  refine ct_region ?_
  refine rt_q (oq_loadA (o := 0) (i := 0) (k := 11) (us := [.int .i64 ((deskC 2).workers), .int .i64 ((deskC 2).levels), .int .i64 ((deskC 2).classes), .int .i64 ((deskC 2).tasks), .int .i64 ((deskC 2).deque), .int .i64 ((deskC 2).heap), .int .i64 ((deskC 2).batch), .int .i64 ((deskC 2).age), .int .i64 ((deskC 2).patience), .slice l1.pa ((deskC 2).progs.length) l1.pc, .slice l1.sa ((deskC 2).subs.length) l1.sc]) (.tmp mem12) mem2 (rfl) (by kernel_rfl) rfl rfl) wants_none (put_new (by kernel_rfl)) ?_
  refine rt_q (op_move (.tmp mem9)).q wants_none (put_new (by kernel_rfl)) ?_
  refine rt_q (oq_call0 (by kernel_rfl) (.cons (.tmp mem1) (.cons (.tmp mem0) (.cons .const (.cons .const .nil)))) (solNextS (cs := awCS) mem0 mem3 (by kernel_rfl) (by decide) (by decide) aw_wf aw2)) wants_none (put_new (by kernel_rfl)) ?_
  refine rt_q (op_move (.tmp mem0)).q wants_none (put_new (by kernel_rfl)) ?_
  refine rt_q (op_extract (.tmp mem0) rfl).q wants_none (put_new (by kernel_rfl)) ?_
  refine rt_q (op_extract (.tmp mem1) rfl).q wants_none (put_new (by kernel_rfl)) ?_
  refine rt_q (op_assign (.tmp mem1)).q wants_none (put_new (by kernel_rfl)) ?_
  refine rt_q (op_assign (.tmp mem1)).q wants_none (put_new (by kernel_rfl)) ?_
  refine rt_nil ?_
  refine et_then ?_
  refine ct_seq ?_
  refine ct_region ?_
  refine rt_q (op_move (.tmp mem16)).q wants_none (put_new (by kernel_rfl)) ?_
  refine rt_q (oq_loadA (o := 0) (i := 0) (k := 11) (us := [.int .i64 ((deskC 2).workers), .int .i64 ((deskC 2).levels), .int .i64 ((deskC 2).classes), .int .i64 ((deskC 2).tasks), .int .i64 ((deskC 2).deque), .int .i64 ((deskC 2).heap), .int .i64 ((deskC 2).batch), .int .i64 ((deskC 2).age), .int .i64 ((deskC 2).patience), .slice l1.pa ((deskC 2).progs.length) l1.pc, .slice l1.sa ((deskC 2).subs.length) l1.sc]) (.tmp (memU mem1)) mem2 (rfl) (by kernel_rfl) rfl rfl) wants_none (put_new (by kernel_rfl)) ?_
  refine rt_q (oq_call0 (by kernel_rfl) (.cons (.tmp mem0) (.cons .const .nil)) (aw_state _ _ _ _)) wants_none (put_new (by kernel_rfl)) ?_
  refine rt_q (oq_indexS (i := 52) (.tmp mem2) (.tmp mem0) mem0 (by decide) (by omega) (by decide) (by kernel_rfl) (Nat.mul_one _)) wants_none (put_new (by kernel_rfl)) ?_
  refine rt_t (ot_storeS (i := 52) (.tmp mem0) .const turn0 (by decide) (by kernel_rfl) rfl) wants_none (fun _ => put_none) (fun _ => ?_)
  refine rt_ent ent_set ?_
  refine rt_nil ?_
  refine et_then ?_
  refine ct_seq ?_
  refine ct_region ?_
  refine rt_q (oq_loadA (o := 0) (i := 0) (k := 11) (us := [.int .i64 ((deskC 2).workers), .int .i64 ((deskC 2).levels), .int .i64 ((deskC 2).classes), .int .i64 ((deskC 2).tasks), .int .i64 ((deskC 2).deque), .int .i64 ((deskC 2).heap), .int .i64 ((deskC 2).batch), .int .i64 ((deskC 2).age), .int .i64 ((deskC 2).patience), .slice l1.pa ((deskC 2).progs.length) l1.pc, .slice l1.sa ((deskC 2).subs.length) l1.sc]) (.tmp (memU mem4)) mem2 (rfl) (by kernel_rfl) rfl rfl) wants_none (put_new (by kernel_rfl)) ?_
  refine rt_q (op_move (.tmp (memU mem1))).q wants_none (put_new (by kernel_rfl)) ?_
  refine rt_q (oq_call0 (by kernel_rfl) (.cons (.tmp mem1) (.cons (.tmp mem0) (.cons .const (.cons .const .nil)))) (solNextS (cs := (awCS.set 52 4)) mem0 mem3 (by kernel_rfl) (by decide) (by decide) aw_wf2 aw3)) wants_none (put_new (by kernel_rfl)) ?_
  refine rt_q (op_move (.tmp mem0)).q wants_none (put_new (by kernel_rfl)) ?_
  refine rt_q (op_extract (.tmp mem0) rfl).q wants_none (put_new (by kernel_rfl)) ?_
  refine rt_q (op_extract (.tmp mem1) rfl).q wants_none (put_new (by kernel_rfl)) ?_
  refine rt_q (op_assign (.tmp mem1)).q wants_none (put_new (by kernel_rfl)) ?_
  refine rt_q (op_assign (.tmp mem1)).q wants_none (put_new (by kernel_rfl)) ?_
  refine rt_nil ?_
  refine et_then ?_
  refine ct_seq ?_
  refine ct_region ?_
  refine rt_q (oq_loadA (o := 0) (i := 0) (k := 11) (us := [.int .i64 ((deskC 2).workers), .int .i64 ((deskC 2).levels), .int .i64 ((deskC 2).classes), .int .i64 ((deskC 2).tasks), .int .i64 ((deskC 2).deque), .int .i64 ((deskC 2).heap), .int .i64 ((deskC 2).batch), .int .i64 ((deskC 2).age), .int .i64 ((deskC 2).patience), .slice l1.pa ((deskC 2).progs.length) l1.pc, .slice l1.sa ((deskC 2).subs.length) l1.sc]) (.tmp (memU mem12)) mem2 (rfl) (by kernel_rfl) rfl rfl) wants_none (put_new (by kernel_rfl)) ?_
  refine rt_q (op_move (.tmp (memU mem9))).q wants_none (put_new (by kernel_rfl)) ?_
  refine rt_q (oq_call0 (by kernel_rfl) (.cons (.tmp mem1) (.cons (.tmp mem0) (.cons .const (.cons .const .nil)))) (solNextS (cs := (awCS.set 52 4)) mem0 mem3 (by kernel_rfl) (by decide) (by decide) aw_wf2 aw4)) wants_none (put_new (by kernel_rfl)) ?_
  refine rt_q (op_move (.tmp mem0)).q wants_none (put_new (by kernel_rfl)) ?_
  refine rt_q (op_extract (.tmp mem0) rfl).q wants_none (put_new (by kernel_rfl)) ?_
  refine rt_q (op_extract (.tmp mem1) rfl).q wants_none (put_new (by kernel_rfl)) ?_
  refine rt_q (op_assign (.tmp mem1)).q wants_none (put_new (by kernel_rfl)) ?_
  refine rt_q (op_assign (.tmp mem1)).q wants_none (put_new (by kernel_rfl)) ?_
  refine rt_nil ?_
  refine et_then ?_
  refine ct_seq ?_
  refine ct_region ?_
  refine rt_q (op_move (.tmp (memU mem8))).q wants_none (put_new (by kernel_rfl)) ?_
  refine rt_q (op_move (.tmp mem0)).q wants_none (put_new (by kernel_rfl)) ?_
  refine rt_q (op_move (.tmp (memU mem11))).q (wants_some rfl rfl mem0 rfl) (put_new (by kernel_rfl)) ?_
  refine rt_q (op_eql (.tmp mem0) .const).q (wants_some rfl rfl mem1 rfl) (put_new (by kernel_rfl)) ?_
  refine rt_q (op_pick (b := true) (.tmp mem2) (.tmp mem0)).q wants_none (put_new (by kernel_rfl)) ?_
  refine rt_q (op_move (.tmp mem0)).q wants_none (put_new (by kernel_rfl)) ?_
  refine rt_case turn0 turn0 (fun h5 => ?_) (fun h5 => ?_)
  · refine rt_q (op_move (.tmp (memU mem6))).q (wants_some rfl rfl mem0 rfl) (put_new (by kernel_rfl)) ?_
    refine rt_q (op_pick (b := true) (.tmp mem1) (.tmp mem0)).q wants_none (put_new (by kernel_rfl)) ?_
    refine rt_q (op_move (.tmp mem0)).q wants_none (put_new (by kernel_rfl)) ?_
    refine rt_q (op_move (.tmp (memU mem10))).q (wants_some rfl rfl mem0 rfl) (put_new (by kernel_rfl)) ?_
    refine rt_q (op_eql (.tmp mem0) .const).q (wants_some rfl rfl mem1 rfl) (put_new (by kernel_rfl)) ?_
    refine rt_q (op_pick (b := true) (.tmp mem2) (.tmp mem0)).q wants_none (put_new (by kernel_rfl)) ?_
    refine rt_q (op_move (.tmp mem0)).q wants_none (put_new (by kernel_rfl)) ?_
    refine rt_case turn0 turn0 (fun h6 => ?_) (fun h6 => ?_)
    · refine rt_q (op_move (.tmp (memU mem1))).q (wants_some rfl rfl mem0 rfl) (put_new (by kernel_rfl)) ?_
      refine rt_q (op_pick (b := true) (.tmp mem1) (.tmp mem0)).q wants_none (put_new (by kernel_rfl)) ?_
      refine rt_q (op_move (.tmp mem0)).q wants_none (put_new (by kernel_rfl)) ?_
      refine rt_q (op_move (.tmp (memU mem5))).q (wants_some rfl rfl mem0 rfl) (put_new (by kernel_rfl)) ?_
      refine rt_q (op_eql (.tmp mem0) .const).q (wants_some rfl rfl mem1 rfl) (put_new (by kernel_rfl)) ?_
      refine rt_q (op_pick (b := true) (.tmp mem2) (.tmp mem0)).q wants_none (put_new (by kernel_rfl)) ?_
      refine rt_q (op_move (.tmp mem0)).q wants_none (put_new (by kernel_rfl)) ?_
      refine rt_case turn0 turn0 (fun h7 => ?_) (fun h7 => ?_)
      · refine rt_q (op_move (.tmp (memU mem0))).q (wants_some rfl rfl mem0 rfl) (put_new (by kernel_rfl)) ?_
        refine rt_q (op_pick (b := true) (.tmp mem1) (.tmp mem0)).q wants_none (put_new (by kernel_rfl)) ?_
        refine rt_q (op_move (.tmp mem0)).q wants_none (put_new (by kernel_rfl)) ?_
        refine rt_q (op_move (.tmp (memU mem4))).q (wants_some rfl rfl mem0 rfl) (put_new (by kernel_rfl)) ?_
        refine rt_q (op_eql (.tmp mem0) .const).q (wants_some rfl rfl mem1 rfl) (put_new (by kernel_rfl)) ?_
        refine rt_q (op_pick (b := true) (.tmp mem2) (.tmp mem0)).q wants_none (put_new (by kernel_rfl)) ?_
        refine rt_q (op_move (.tmp mem0)).q wants_none (put_new (by kernel_rfl)) ?_
        refine rt_case turn0 turn0 (fun h8 => ?_) (fun h8 => ?_)
        · refine rt_q (oq_loadA (o := 0) (i := 0) (k := 11) (us := [.int .i64 ((deskC 2).workers), .int .i64 ((deskC 2).levels), .int .i64 ((deskC 2).classes), .int .i64 ((deskC 2).tasks), .int .i64 ((deskC 2).deque), .int .i64 ((deskC 2).heap), .int .i64 ((deskC 2).batch), .int .i64 ((deskC 2).age), .int .i64 ((deskC 2).patience), .slice l1.pa ((deskC 2).progs.length) l1.pc, .slice l1.sa ((deskC 2).subs.length) l1.sc]) (.tmp (memU (memU (memU mem7)))) mem2 (rfl) (by kernel_rfl) rfl rfl) (wants_some rfl rfl mem0 rfl) (put_new (by kernel_rfl)) ?_
          refine rt_q (op_move (.tmp (memU (memU (memU mem4))))).q (wants_some rfl rfl mem1 rfl) (put_new (by kernel_rfl)) ?_
          refine rt_t (ot_rekeep (by kernel_rfl) (.cons (.tmp mem1) (.cons (.tmp mem0) (.cons .const (.cons .const .nil)))) (fun w hw => solEntriesH (cs := awCS.set 52 4) (xs := [1, 2]) (by kernel_rfl) aw_wf2 (sl_ints (fun _ => rfl) mem0 hw.2.2 (by kernel_rfl) (by decide)) (sat_held hw.2.2 mem3) aw5)) (wants_some rfl rfl mem2 rfl) (fun _ => (put_new (by kernel_rfl))) ?_
          rintro ⟨A9, c9⟩
          refine rt_t (ot_buildSlice (T' := 3) (us := [.int .i64 1, .int .i64 2]) (.cons .const (.cons .const .nil)) (fun _ => by kernel_rfl)) (wants_some rfl rfl mem3 rfl) (fun _ => (put_new (by kernel_rfl))) ?_
          rintro b10
          refine rt_q (oq_call0 (by kernel_rfl) (.cons (.tmp mem1) (.cons (.tmp mem0) .nil)) (pure_rekeep fun w0 hw0 => ints_pure (xs := [1, 2]) (ys := [1, 2]) rfl rfl (sl_ints (fun _ => rfl) mem1 hw0.2.2 rfl (by decide)) (sl_pts (xs := [1, 2]) (k := .i64) (fun _ => rfl) mem0 hw0.2.2 (by decide)) _)) (wants_some rfl rfl mem4 rfl) (put_new (by kernel_rfl)) ?_
          refine rt_q (op_pick (b := true) (.tmp mem5) (.tmp mem0)).q wants_none (put_new (by kernel_rfl)) ?_
          refine rt_q (op_assign (.tmp mem0)).q wants_none (put_over (pickU (pickU (pickU pick15))) (by kernel_rfl)) ?_
          refine rt_nil ?_
          refine et_then ?_
          refine ct_ret ?_
          exact et_ret rfl (.cons mem0 .nil) (by simp [tupled]) (Ent.drop.trans (Ent.drop.trans (Ent.drop.trans (Ent.drop.trans (Ent.drop.trans Ent.drop)))))
        · exact absurd rfl h8
      · exact absurd rfl h7
    · exact absurd rfl h6
  · exact absurd rfl h5

end Go.Proofs.Ytkfkiaieeiodnaa
