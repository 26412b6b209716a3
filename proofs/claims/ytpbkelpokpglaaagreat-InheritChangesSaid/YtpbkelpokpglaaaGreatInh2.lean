/- Walks: the program's first state and its step (layer 30). -/
import Derived.Test.YtpbkelpokpglaaaGreatInh1
import Derived.Test.YtpbkelpokpglaaaGreatReg
set_option linter.all false
namespace Go.Proofs.YtpbkelpokpglaaaGreat
open Go.RowKit Go.Maps
@[reducible] def evV (e : Ev) : Value := .agg #[.int .i64 e.kind, .int .i64 e.worker, .int .i64 e.task, .int .i64 e.other, .int .i64 e.level]
def EvOk (e : Ev) : Prop := (-9223372036854775808 ≤ e.kind ∧ e.kind ≤ 9223372036854775807) ∧ (-9223372036854775808 ≤ e.worker ∧ e.worker ≤ 9223372036854775807) ∧ (-9223372036854775808 ≤ e.task ∧ e.task ≤ 9223372036854775807) ∧ (-9223372036854775808 ≤ e.other ∧ e.other ≤ 9223372036854775807) ∧ (-9223372036854775808 ≤ e.level ∧ e.level ≤ 9223372036854775807)
@[reducible] def evBox (e : Ev) : Obj := .cells #[.int .i64 e.kind, .int .i64 e.worker, .int .i64 e.task, .int .i64 e.other, .int .i64 e.level] 83
def ApplyP (B : Nat) (w : World) (g bl cl bf bm : Nat) (s : Inh) (n nm : Nat) (e : Ev) (v : Ending) (w' : World) : Prop :=
  v = .returned (.bool (raisesI s e)) ∧ (∃ nm', nm' ≤ nm + 1 ∧ PInh B w' g bl cl bf bm (applyI s e) n nm') ∧ Below B w w'
section
variable {B : Nat} {w : World} {g bl cl bf bm : Nat} {s : Inh} {n nm : Nat} {e : Ev}
theorem inh_size (h : PInh B w g bl cl bf bm s n nm) : B ≤ w.heap.size := Nat.le_of_lt (Nat.lt_of_le_of_lt h.xg h.st.lt)
theorem lvAt (h : PInh B w g bl cl bf bm s n nm) {i : Nat} (hi : i < n) : w.cell? ⟨bl, i, none⟩ = some (.int .i64 (s.lv.getD i 0)) := by
  have hl := h.wf.lv
  exact h.lv.cell (by simp [List.getD, show i < s.lv.length from by omega])
theorem finAt (h : PInh B w g bl cl bf bm s n nm) {i : Nat} (hi : i < n) : w.cell? ⟨bf, i, none⟩ = some (.bool (s.fin.getD i false)) := by
  have hl := h.wf.fin
  exact h.fin.cell (by simp [List.getD, show i < s.fin.length from by omega])
theorem set_sameI {ws : List (Option Wt)} {i : Nat} {o : Option Wt} (h : ws.getD i none = o) : ws.set i o = ws := by
  apply List.ext_getElem (by simp)
  intro j h2 h3
  by_cases e2 : i = j
  · subst e2; simp [List.getD, h3] at h; simp [h]
  · simp [List.getElem_set_ne e2]
theorem wsAt (s : Inh) {k : Int} (h0 : 0 ≤ k) : wsF s.ws k = s.ws.getD k.toNat none := by unfold wsF; rw [if_neg (by omega)]
theorem inh_setLv (h : PInh B w g bl cl bf bm s n nm) {i : Nat} (hi : i < n) (x : Int) : PInh B (w.setCell ⟨bl, i, none⟩ (.int .i64 x)) g bl cl bf bm { s with lv := s.lv.set i x } n nm := by
  have hl := h.wf.lv
  refine ⟨h.st.far (Ne.symm (arr_blk_ne h.lv h.st (by decide))) _, (h.lv.set_ i (by simp; omega) _).of_eq (by simp [List.map_set]), h.fin.far (Ne.symm (arr_ne h.lv h.fin (by decide))) _, h.ws.setCell (fun e => ?_) _, ⟨by simpa using h.wf.lv, h.wf.fin, h.wf.ws⟩, h.n1, h.n2, h.m2, h.xg, h.xl, h.xf, h.xm⟩
  obtain ⟨cs, hB, _⟩ := h.lv
  exact h.ws.blk_ne hB e
theorem inh_setFin (h : PInh B w g bl cl bf bm s n nm) {i : Nat} (hi : i < n) : PInh B (w.setCell ⟨bf, i, none⟩ (.bool true)) g bl cl bf bm { s with fin := s.fin.set i true } n nm := by
  have hl := h.wf.fin
  refine ⟨h.st.far (Ne.symm (arr_blk_ne h.fin h.st (by decide))) _, h.lv.far (arr_ne h.lv h.fin (by decide)) _, (h.fin.set_ i (by simp; omega) _).of_eq (by simp [List.map_set]), h.ws.setCell (fun e => ?_) _, ⟨h.wf.lv, by simpa using h.wf.fin, h.wf.ws⟩, h.n1, h.n2, h.m2, h.xg, h.xl, h.xf, h.xm⟩
  obtain ⟨cs, hB, _⟩ := h.fin
  exact h.ws.blk_ne hB e
theorem inh_setWs {w' : World} {nm' : Nat} {k : Int} {o : Option Wt} (h : PInh B w g bl cl bf bm s n nm) (h0 : 0 ≤ k) (h1 : k < n) (hg : w.grownBy w' (some bm)) (hm : WMap w' bm nm' (fun j => if j = k then o else wsF s.ws j)) (hn : nm' ≤ 1048576) :
    PInh B w' g bl cl bf bm { s with ws := s.ws.set k.toNat o } n nm' := by
  have hl := h.wf.ws
  have e1 : bm ≠ g := h.ws.blk_ne h.st
  have e2 : bm ≠ bl := by obtain ⟨cs, hB, _⟩ := h.lv; exact h.ws.blk_ne hB
  have e3 : bm ≠ bf := by obtain ⟨cs, hB, _⟩ := h.fin; exact h.ws.blk_ne hB
  exact ⟨h.st.grown hg (by simp; omega), h.lv.grown hg (by simp; omega), h.fin.grown hg (by simp; omega), hm.of_eq (wsF_set h0 (by omega) o).symm, ⟨h.wf.lv, h.wf.fin, by simpa using h.wf.ws⟩, h.n1, h.n2, hn, h.xg, h.xl, h.xf, h.xm⟩
end
set_option maxRecDepth 100000 in
set_option maxHeartbeats 1000000 in
theorem apply_out {B : Nat} {w : World} {g bl cl bf bm : Nat} {s : Inh} {n nm : Nat} {e : Ev} (h : PInh B w g bl cl bf bm s n nm) (_he : EvOk e) (_hm : nm < 1048576) (ho : e.task < 0 ∨ (n : Int) ≤ e.task) :
    Calls Tryz.prog 65 #[.pointer (some ⟨g, 0, none⟩), evV e] w (ApplyP B w g bl cl bf bm s n nm e) := by
  have hW := h.alloc (evBox e)
  have hsz := inh_size h
  have hB0 : Below B w (w.alloc (evBox e)) := (Below.refl _ _).alloc hsz _
  have hll := h.wf.lv
  have hcS := hW.st.cell
  have hfS := hW.st.frozen
  have hn1 := h.n1
  have hn2 := h.n2
  have hfin : raisesI s e = true ∧ applyI s e = s := by unfold raisesI applyI; rw [hll, if_pos ho, if_pos ho]; exact ⟨rfl, rfl⟩
  have Hfin := Lib.hid hfin
  clear hfin hll
  rcases ho with ho | ho
  · by_cases h9 : (n : Int) ≤ e.task
    · omega
    go_enter Tryz.func65, Tryz.ntmps65
    go_wp2
    go_ret
    exact ⟨ret_bool Hfin.out.1.symm, ⟨nm, by omega, by rw [Hfin.out.2]; exact hW⟩, hB0⟩
  · have h9 : 0 ≤ e.task := by omega
    go_enter Tryz.func65, Tryz.ntmps65
    go_wp2
    go_ret
    exact ⟨ret_bool Hfin.out.1.symm, ⟨nm, by omega, by rw [Hfin.out.2]; exact hW⟩, hB0⟩
set_option maxRecDepth 100000 in
set_option maxHeartbeats 1000000 in
theorem apply_raise11 {B : Nat} {w : World} {g bl cl bf bm : Nat} {s : Inh} {n nm : Nat} {e : Ev} (h : PInh B w g bl cl bf bm s n nm) (_he : EvOk e) (_hm : nm < 1048576) (h0 : 0 ≤ e.task) (h1 : e.task < n) (hk : e.kind = 11) :
    Calls Tryz.prog 65 #[.pointer (some ⟨g, 0, none⟩), evV e] w (ApplyP B w g bl cl bf bm s n nm e) := by
  have hW := h.alloc (evBox e)
  have hsz := inh_size h
  have hB0 : Below B w (w.alloc (evBox e)) := (Below.refl _ _).alloc hsz _
  have hll := h.wf.lv
  have hcS := hW.st.cell
  have hfS := hW.st.frozen
  have hn1 := h.n1
  have hn2 := h.n2
  have cl0 := lvAt hW (i := e.task.toNat) (by omega)
  have hset : applyI s e = { s with lv := s.lv.set e.task.toNat e.level } := by unfold applyI; rw [hll, if_neg (by omega), if_pos (by omega)]
  have hrz : raisesI s e = (!(s.lv.getD e.task.toNat 0 == -1) && decide (s.lv.getD e.task.toNat 0 < e.level)) := by unfold raisesI; rw [hll, if_neg (by omega), if_pos (by omega)]
  have Hset := Lib.hid hset
  have hst := fun N => inh_setLv (hW.drewN N) (i := e.task.toNat) (by omega) e.level
  obtain ⟨x, hx⟩ : ∃ x, x = s.lv.getD e.task.toNat 0 := ⟨_, rfl⟩
  rw [← hx] at cl0 hrz
  have hlt := hW.lv.lt
  have hfl := hW.lv.frozen
  have k11 : (e.kind == 11) = true := by simpa using hk
  clear hset hx hk hll
  by_cases hx1 : x = -1
  · have t1 : (x != -1) = false := by simp [hx1]
    have Hrz := Lib.hid (show raisesI s e = false by rw [hrz]; simp [hx1])
    clear hx1 hrz
    go_enter Tryz.func65, Tryz.ntmps65
    go_wp2
    go_quiet (fail)
    go_wp2
    refine wp_region_drawn 8 (by kernel_rfl) (by kernel_rfl) ?_
    simp only [List.take_succ_cons, List.take_zero, List.drop_succ_cons, List.drop_zero]
    repeat (go_big_quiet_step (fail))
    refine wpQuiet_nil ?_
    rintro _ ⟨nq2, rfl⟩
    go_wp2
    go_ret
    exact ⟨ret_bool Hrz.out.symm, ⟨nm, by omega, by rw [Hset.out]; exact hst _⟩, (below_drewN hB0 _).setCell (by have := h.xl; simpa using this) _⟩
  · have t1 : (x != -1) = true := by simpa using hx1
    have Hrz := Lib.hid (show raisesI s e = decide (x < e.level) by rw [hrz]; simp [hx1])
    clear hx1 hrz
    go_enter Tryz.func65, Tryz.ntmps65
    go_wp2
    go_quiet (fail)
    go_wp2
    refine wp_region_drawn 8 (by kernel_rfl) (by kernel_rfl) ?_
    simp only [List.take_succ_cons, List.take_zero, List.drop_succ_cons, List.drop_zero]
    repeat (go_big_quiet_step (fail))
    refine wpQuiet_nil ?_
    rintro _ ⟨nq2, rfl⟩
    go_wp2
    go_ret
    exact ⟨ret_bool Hrz.out.symm, ⟨nm, by omega, by rw [Hset.out]; exact hst _⟩, (below_drewN hB0 _).setCell (by have := h.xl; simpa using this) _⟩
set_option maxRecDepth 100000 in
set_option maxHeartbeats 1000000 in
theorem apply_raise12 {B : Nat} {w : World} {g bl cl bf bm : Nat} {s : Inh} {n nm : Nat} {e : Ev} (h : PInh B w g bl cl bf bm s n nm) (_he : EvOk e) (_hm : nm < 1048576) (h0 : 0 ≤ e.task) (h1 : e.task < n) (hk : e.kind = 12) :
    Calls Tryz.prog 65 #[.pointer (some ⟨g, 0, none⟩), evV e] w (ApplyP B w g bl cl bf bm s n nm e) := by
  have hW := h.alloc (evBox e)
  have hsz := inh_size h
  have hB0 : Below B w (w.alloc (evBox e)) := (Below.refl _ _).alloc hsz _
  have hll := h.wf.lv
  have hcS := hW.st.cell
  have hfS := hW.st.frozen
  have hn1 := h.n1
  have hn2 := h.n2
  have cl0 := lvAt hW (i := e.task.toNat) (by omega)
  have hset : applyI s e = { s with lv := s.lv.set e.task.toNat e.level } := by unfold applyI; rw [hll, if_neg (by omega), if_pos (by omega)]
  have hrz : raisesI s e = (!(s.lv.getD e.task.toNat 0 == -1) && decide (s.lv.getD e.task.toNat 0 < e.level)) := by unfold raisesI; rw [hll, if_neg (by omega), if_pos (by omega)]
  have Hset := Lib.hid hset
  have hst := fun N => inh_setLv (hW.drewN N) (i := e.task.toNat) (by omega) e.level
  obtain ⟨x, hx⟩ : ∃ x, x = s.lv.getD e.task.toNat 0 := ⟨_, rfl⟩
  rw [← hx] at cl0 hrz
  have hlt := hW.lv.lt
  have hfl := hW.lv.frozen
  have k11 : (e.kind == 11) = false := by simp only [beq_eq_false_iff_ne]; omega
  have k12 : (e.kind == 12) = true := by simpa using hk
  clear hset hx hk hll
  by_cases hx1 : x = -1
  · have t1 : (x != -1) = false := by simp [hx1]
    have Hrz := Lib.hid (show raisesI s e = false by rw [hrz]; simp [hx1])
    clear hx1 hrz
    go_enter Tryz.func65, Tryz.ntmps65
    go_wp2
    go_quiet (fail)
    go_wp2
    refine wp_region_drawn 8 (by kernel_rfl) (by kernel_rfl) ?_
    simp only [List.take_succ_cons, List.take_zero, List.drop_succ_cons, List.drop_zero]
    repeat (go_big_quiet_step (fail))
    refine wpQuiet_nil ?_
    rintro _ ⟨nq2, rfl⟩
    go_wp2
    go_ret
    exact ⟨ret_bool Hrz.out.symm, ⟨nm, by omega, by rw [Hset.out]; exact hst _⟩, (below_drewN hB0 _).setCell (by have := h.xl; simpa using this) _⟩
  · have t1 : (x != -1) = true := by simpa using hx1
    have Hrz := Lib.hid (show raisesI s e = decide (x < e.level) by rw [hrz]; simp [hx1])
    clear hx1 hrz
    go_enter Tryz.func65, Tryz.ntmps65
    go_wp2
    go_quiet (fail)
    go_wp2
    refine wp_region_drawn 8 (by kernel_rfl) (by kernel_rfl) ?_
    simp only [List.take_succ_cons, List.take_zero, List.drop_succ_cons, List.drop_zero]
    repeat (go_big_quiet_step (fail))
    refine wpQuiet_nil ?_
    rintro _ ⟨nq2, rfl⟩
    go_wp2
    go_ret
    exact ⟨ret_bool Hrz.out.symm, ⟨nm, by omega, by rw [Hset.out]; exact hst _⟩, (below_drewN hB0 _).setCell (by have := h.xl; simpa using this) _⟩
set_option maxRecDepth 100000 in
set_option maxHeartbeats 1000000 in
theorem apply_set1 {B : Nat} {w : World} {g bl cl bf bm : Nat} {s : Inh} {n nm : Nat} {e : Ev} (h : PInh B w g bl cl bf bm s n nm) (_he : EvOk e) (_hm : nm < 1048576) (h0 : 0 ≤ e.task) (h1 : e.task < n) (hk : e.kind = 1) :
    Calls Tryz.prog 65 #[.pointer (some ⟨g, 0, none⟩), evV e] w (ApplyP B w g bl cl bf bm s n nm e) := by
  have hW := h.alloc (evBox e)
  have hsz := inh_size h
  have hB0 : Below B w (w.alloc (evBox e)) := (Below.refl _ _).alloc hsz _
  have hll := h.wf.lv
  have hcS := hW.st.cell
  have hfS := hW.st.frozen
  have hn1 := h.n1
  have hn2 := h.n2
  have Hrz : Hid (raisesI s e = true) := by unfold raisesI; rw [hll, if_neg (by omega), if_neg (by omega)]; rfl
  have Hset : Hid (applyI s e = { s with lv := s.lv.set e.task.toNat e.level }) := by unfold applyI; rw [hll, if_neg (by omega), if_pos (by omega)]; rfl
  have hst := fun N => inh_setLv (hW.drewN N) (i := e.task.toNat) (by omega) e.level
  have cl0 := lvAt hW (i := e.task.toNat) (by omega)
  have hlt := hW.lv.lt
  have hfl := hW.lv.frozen
  have k11 : (e.kind == 11) = false := by simp only [beq_eq_false_iff_ne]; omega
  have k12 : (e.kind == 12) = false := by simp only [beq_eq_false_iff_ne]; omega
  have k1 : (e.kind == 1) = true := by simpa using hk
  clear hk hll
  go_enter Tryz.func65, Tryz.ntmps65
  go_wp2
  refine wp_region_drawn 8 (by kernel_rfl) (by kernel_rfl) ?_
  simp only [List.take_succ_cons, List.take_zero, List.drop_succ_cons, List.drop_zero]
  repeat (go_big_quiet_step (fail))
  refine wpQuiet_nil ?_
  rintro _ ⟨nq2, rfl⟩
  go_wp2
  go_ret
  exact ⟨ret_bool Hrz.out.symm, ⟨nm, by omega, by rw [Hset.out]; exact hst _⟩, (below_drewN hB0 _).setCell (by have := h.xl; simpa using this) _⟩
set_option maxRecDepth 100000 in
set_option maxHeartbeats 1000000 in
theorem apply_set3 {B : Nat} {w : World} {g bl cl bf bm : Nat} {s : Inh} {n nm : Nat} {e : Ev} (h : PInh B w g bl cl bf bm s n nm) (_he : EvOk e) (_hm : nm < 1048576) (h0 : 0 ≤ e.task) (h1 : e.task < n) (hk : e.kind = 3) :
    Calls Tryz.prog 65 #[.pointer (some ⟨g, 0, none⟩), evV e] w (ApplyP B w g bl cl bf bm s n nm e) := by
  have hW := h.alloc (evBox e)
  have hsz := inh_size h
  have hB0 : Below B w (w.alloc (evBox e)) := (Below.refl _ _).alloc hsz _
  have hll := h.wf.lv
  have hcS := hW.st.cell
  have hfS := hW.st.frozen
  have hn1 := h.n1
  have hn2 := h.n2
  have Hrz : Hid (raisesI s e = true) := by unfold raisesI; rw [hll, if_neg (by omega), if_neg (by omega)]; rfl
  have Hset : Hid (applyI s e = { s with lv := s.lv.set e.task.toNat e.level }) := by unfold applyI; rw [hll, if_neg (by omega), if_pos (by omega)]; rfl
  have hst := fun N => inh_setLv (hW.drewN N) (i := e.task.toNat) (by omega) e.level
  have cl0 := lvAt hW (i := e.task.toNat) (by omega)
  have hlt := hW.lv.lt
  have hfl := hW.lv.frozen
  have k11 : (e.kind == 11) = false := by simp only [beq_eq_false_iff_ne]; omega
  have k12 : (e.kind == 12) = false := by simp only [beq_eq_false_iff_ne]; omega
  have k1 : (e.kind == 1) = false := by simp only [beq_eq_false_iff_ne]; omega
  have k3 : (e.kind == 3) = true := by simpa using hk
  clear hk hll
  go_enter Tryz.func65, Tryz.ntmps65
  go_wp2
  refine wp_region_drawn 8 (by kernel_rfl) (by kernel_rfl) ?_
  simp only [List.take_succ_cons, List.take_zero, List.drop_succ_cons, List.drop_zero]
  repeat (go_big_quiet_step (fail))
  refine wpQuiet_nil ?_
  rintro _ ⟨nq2, rfl⟩
  go_wp2
  go_ret
  exact ⟨ret_bool Hrz.out.symm, ⟨nm, by omega, by rw [Hset.out]; exact hst _⟩, (below_drewN hB0 _).setCell (by have := h.xl; simpa using this) _⟩
set_option maxRecDepth 100000 in
set_option maxHeartbeats 1000000 in
theorem apply_block {B : Nat} {w : World} {g bl cl bf bm : Nat} {s : Inh} {n nm : Nat} {e : Ev} (h : PInh B w g bl cl bf bm s n nm) (he : EvOk e) (hm : nm < 1048576) (h0 : 0 ≤ e.task) (h1 : e.task < n) (hk : e.kind = 6) :
    Calls Tryz.prog 65 #[.pointer (some ⟨g, 0, none⟩), evV e] w (ApplyP B w g bl cl bf bm s n nm e) := by
  have hW := h.alloc (evBox e)
  have hsz := inh_size h
  have hB0 : Below B w (w.alloc (evBox e)) := (Below.refl _ _).alloc hsz _
  have hll := h.wf.lv
  have hcS := hW.st.cell
  have hfS := hW.st.frozen
  have hn1 := h.n1
  have hn2 := h.n2
  have Hrz : Hid (raisesI s e = true) := by unfold raisesI; rw [hll, if_neg (by omega), if_neg (by omega)]; rfl
  have Hset : Hid (applyI s e = { s with ws := s.ws.set e.task.toNat (some ⟨e.other, e.worker, false, 0⟩) }) := by unfold applyI; rw [hll, if_neg (by omega), if_neg (by omega), if_pos (by omega)]; rfl
  have hlt := hW.ws.lt
  have ht := he.2.2.1
  have k11 : (e.kind == 11) = false := by simp only [beq_eq_false_iff_ne]; omega
  have k12 : (e.kind == 12) = false := by simp only [beq_eq_false_iff_ne]; omega
  have k1 : (e.kind == 1) = false := by simp only [beq_eq_false_iff_ne]; omega
  have k3 : (e.kind == 3) = false := by simp only [beq_eq_false_iff_ne]; omega
  have k6 : (e.kind == 6) = true := by simpa using hk
  clear hk hll
  go_enter Tryz.func65, Tryz.ntmps65
  go_wp2
  refine wp_region_drawn 10 (by kernel_rfl) (by kernel_rfl) ?_
  simp only [List.take_succ_cons, List.take_zero, List.drop_succ_cons, List.drop_zero]
  repeat (go_big_quiet_step (fail))
  refine wpQuiet_nil ?_
  rintro _ ⟨nq2, rfl⟩
  go_wp2_with (first
    | (at_mapUpdate; refine wpList_update_wt _ rfl _ _ _ rfl bm nm (wsF s.ws) rfl (hW.ws.drewN _) (by omega) e.task (by omega) (by omega) rfl ⟨e.other, e.worker, false, 0⟩ rfl ?_; intro w2 hm2 hg2))
  go_ret
  exact ⟨ret_bool Hrz.out.symm, ⟨nm + 1, by omega, by rw [Hset.out]; exact inh_setWs (hW.drewN _) h0 h1 hg2 hm2 (by omega)⟩, Below.grown (below_drewN hB0 _) hg2 (by simp; omega) (fun j hj => by cases hj; exact h.xm)⟩
set_option maxRecDepth 100000 in
set_option maxHeartbeats 1000000 in
theorem apply_resume {B : Nat} {w : World} {g bl cl bf bm : Nat} {s : Inh} {n nm : Nat} {e : Ev} (h : PInh B w g bl cl bf bm s n nm) (he : EvOk e) (_hm : nm < 1048576) (h0 : 0 ≤ e.task) (h1 : e.task < n) (hk : e.kind = 9) :
    Calls Tryz.prog 65 #[.pointer (some ⟨g, 0, none⟩), evV e] w (ApplyP B w g bl cl bf bm s n nm e) := by
  have hW := h.alloc (evBox e)
  have hsz := inh_size h
  have hB0 : Below B w (w.alloc (evBox e)) := (Below.refl _ _).alloc hsz _
  have hll := h.wf.lv
  have hcS := hW.st.cell
  have hfS := hW.st.frozen
  have hn1 := h.n1
  have hn2 := h.n2
  have Hrz : Hid (raisesI s e = true) := by unfold raisesI; rw [hll, if_neg (by omega), if_neg (by omega)]; rfl
  have Hset : Hid (applyI s e = { s with ws := s.ws.set e.task.toNat none }) := by unfold applyI; rw [hll, if_neg (by omega), if_neg (by omega), if_neg (by omega), if_neg (by omega), if_pos (by omega)]; rfl
  have hlt := hW.ws.lt
  have ht := he.2.2.1
  have k11 : (e.kind == 11) = false := by simp only [beq_eq_false_iff_ne]; omega
  have k12 : (e.kind == 12) = false := by simp only [beq_eq_false_iff_ne]; omega
  have k1 : (e.kind == 1) = false := by simp only [beq_eq_false_iff_ne]; omega
  have k3 : (e.kind == 3) = false := by simp only [beq_eq_false_iff_ne]; omega
  have k6 : (e.kind == 6) = false := by simp only [beq_eq_false_iff_ne]; omega
  have k7 : (e.kind == 7) = false := by simp only [beq_eq_false_iff_ne]; omega
  have k9 : (e.kind == 9) = true := by simpa using hk
  clear hk hll
  go_enter Tryz.func65, Tryz.ntmps65
  go_wp2_with (first
    | (at_delete; refine wpList_delete_wt _ rfl _ _ rfl bm nm (wsF s.ws) rfl hW.ws e.task (by omega) (by omega) rfl ?_; intro w2 hm2 hg2))
  go_ret
  exact ⟨ret_bool Hrz.out.symm, ⟨nm, by omega, by rw [Hset.out]; exact inh_setWs hW h0 h1 hg2 hm2 (by omega)⟩, Below.grown hB0 hg2 (by simp; omega) (fun j hj => by cases hj; exact h.xm)⟩
set_option maxRecDepth 100000 in
set_option maxHeartbeats 1000000 in
theorem apply_finish {B : Nat} {w : World} {g bl cl bf bm : Nat} {s : Inh} {n nm : Nat} {e : Ev} (h : PInh B w g bl cl bf bm s n nm) (_he : EvOk e) (_hm : nm < 1048576) (h0 : 0 ≤ e.task) (h1 : e.task < n) (hk : e.kind = 10) :
    Calls Tryz.prog 65 #[.pointer (some ⟨g, 0, none⟩), evV e] w (ApplyP B w g bl cl bf bm s n nm e) := by
  have hW := h.alloc (evBox e)
  have hsz := inh_size h
  have hB0 : Below B w (w.alloc (evBox e)) := (Below.refl _ _).alloc hsz _
  have hll := h.wf.lv
  have hcS := hW.st.cell
  have hfS := hW.st.frozen
  have hn1 := h.n1
  have hn2 := h.n2
  have Hrz : Hid (raisesI s e = true) := by unfold raisesI; rw [hll, if_neg (by omega), if_neg (by omega)]; rfl
  have Hset : Hid (applyI s e = { s with fin := s.fin.set e.task.toNat true }) := by unfold applyI; rw [hll, if_neg (by omega), if_neg (by omega), if_neg (by omega), if_neg (by omega), if_neg (by omega), if_pos (by omega)]; rfl
  have hst := inh_setFin hW (i := e.task.toNat) (by omega)
  have cl0 := finAt hW (i := e.task.toNat) (by omega)
  have hlt := hW.fin.lt
  have hfl := hW.fin.frozen
  have k11 : (e.kind == 11) = false := by simp only [beq_eq_false_iff_ne]; omega
  have k12 : (e.kind == 12) = false := by simp only [beq_eq_false_iff_ne]; omega
  have k1 : (e.kind == 1) = false := by simp only [beq_eq_false_iff_ne]; omega
  have k3 : (e.kind == 3) = false := by simp only [beq_eq_false_iff_ne]; omega
  have k6 : (e.kind == 6) = false := by simp only [beq_eq_false_iff_ne]; omega
  have k7 : (e.kind == 7) = false := by simp only [beq_eq_false_iff_ne]; omega
  have k9 : (e.kind == 9) = false := by simp only [beq_eq_false_iff_ne]; omega
  have k10 : (e.kind == 10) = true := by simpa using hk
  clear hk hll
  go_enter Tryz.func65, Tryz.ntmps65
  go_wp2
  go_ret
  exact ⟨ret_bool Hrz.out.symm, ⟨nm, by omega, by rw [Hset.out]; exact hst⟩, hB0.setCell (by have := h.xf; simpa using this) _⟩
set_option maxRecDepth 100000 in
set_option maxHeartbeats 1000000 in
theorem apply_other {B : Nat} {w : World} {g bl cl bf bm : Nat} {s : Inh} {n nm : Nat} {e : Ev} (h : PInh B w g bl cl bf bm s n nm) (_he : EvOk e) (_hm : nm < 1048576) (h0 : 0 ≤ e.task) (h1 : e.task < n) (hk : e.kind ≠ 1 ∧ e.kind ≠ 3 ∧ e.kind ≠ 11 ∧ e.kind ≠ 12 ∧ e.kind ≠ 6 ∧ e.kind ≠ 7 ∧ e.kind ≠ 9 ∧ e.kind ≠ 10) :
    Calls Tryz.prog 65 #[.pointer (some ⟨g, 0, none⟩), evV e] w (ApplyP B w g bl cl bf bm s n nm e) := by
  have hW := h.alloc (evBox e)
  have hsz := inh_size h
  have hB0 : Below B w (w.alloc (evBox e)) := (Below.refl _ _).alloc hsz _
  have hll := h.wf.lv
  have hcS := hW.st.cell
  have hfS := hW.st.frozen
  have hn1 := h.n1
  have hn2 := h.n2
  have Hrz : Hid (raisesI s e = true) := by unfold raisesI; rw [hll, if_neg (by omega), if_neg (by omega)]; rfl
  have Hset : Hid (applyI s e = s) := by unfold applyI; rw [hll, if_neg (by omega), if_neg (by omega), if_neg (by omega), if_neg (by omega), if_neg (by omega), if_neg (by omega)]; rfl
  have k11 : (e.kind == 11) = false := by simp only [beq_eq_false_iff_ne]; omega
  have k12 : (e.kind == 12) = false := by simp only [beq_eq_false_iff_ne]; omega
  have k1 : (e.kind == 1) = false := by simp only [beq_eq_false_iff_ne]; omega
  have k3 : (e.kind == 3) = false := by simp only [beq_eq_false_iff_ne]; omega
  have k6 : (e.kind == 6) = false := by simp only [beq_eq_false_iff_ne]; omega
  have k7 : (e.kind == 7) = false := by simp only [beq_eq_false_iff_ne]; omega
  have k9 : (e.kind == 9) = false := by simp only [beq_eq_false_iff_ne]; omega
  have k10 : (e.kind == 10) = false := by simp only [beq_eq_false_iff_ne]; omega
  clear hk hll
  go_enter Tryz.func65, Tryz.ntmps65
  go_wp2
  go_ret
  exact ⟨ret_bool Hrz.out.symm, ⟨nm, by omega, by rw [Hset.out]; exact hW⟩, hB0⟩
set_option maxRecDepth 100000 in
set_option maxHeartbeats 1000000 in
theorem apply_settle {B : Nat} {w : World} {g bl cl bf bm : Nat} {s : Inh} {n nm : Nat} {e : Ev} (h : PInh B w g bl cl bf bm s n nm) (he : EvOk e) (hm : nm < 1048576) (h0 : 0 ≤ e.task) (h1 : e.task < n) (hk : e.kind = 7) :
    Calls Tryz.prog 65 #[.pointer (some ⟨g, 0, none⟩), evV e] w (ApplyP B w g bl cl bf bm s n nm e) := by
  have hW := h.alloc (evBox e)
  have hsz := inh_size h
  have hB0 : Below B w (w.alloc (evBox e)) := (Below.refl _ _).alloc hsz _
  have hll := h.wf.lv
  have hcS := hW.st.cell
  have hfS := hW.st.frozen
  have hn1 := h.n1
  have hn2 := h.n2
  have Hrz : Hid (raisesI s e = true) := by unfold raisesI; rw [hll, if_neg (by omega), if_neg (by omega)]; rfl
  have Hset : Hid (applyI s e = { s with ws := s.ws.set e.task.toNat (settleW e (s.ws.getD e.task.toNat none)) }) := by unfold applyI; rw [hll, if_neg (by omega), if_neg (by omega), if_neg (by omega), if_pos (by omega)]; rfl
  have hlt := hW.ws.lt
  have ht := he.2.2.1
  have hwl := h.wf.ws
  have hat := wsAt s h0
  have k11 : (e.kind == 11) = false := by simp only [beq_eq_false_iff_ne]; omega
  have k12 : (e.kind == 12) = false := by simp only [beq_eq_false_iff_ne]; omega
  have k1 : (e.kind == 1) = false := by simp only [beq_eq_false_iff_ne]; omega
  have k3 : (e.kind == 3) = false := by simp only [beq_eq_false_iff_ne]; omega
  have k6 : (e.kind == 6) = false := by simp only [beq_eq_false_iff_ne]; omega
  have k7 : (e.kind == 7) = true := by simpa using hk
  clear hk hll
  cases hy : s.ws.getD e.task.toNat none with
  | none =>
    rw [hy] at hat
    have Hsame : Hid (applyI s e = s) := by
      have := Hset.out
      rw [hy] at this
      rw [Hid, this]
      have e1 : s.ws.set e.task.toNat (settleW e none) = s.ws := set_sameI hy
      rw [e1]
    have hlook := Lib.hid hat
    clear hat hy hwl Hset
    go_enter Tryz.func65, Tryz.ntmps65
    go_wp2_with (first
      | (at_lookup; refine wpList_lookup_wt_ok _ rfl _ _ rfl bm nm (wsF s.ws) rfl hW.ws e.task (by omega) (by omega) rfl ?_; rw [hlook.out]))
    go_ret
    exact ⟨ret_bool Hrz.out.symm, ⟨nm, by omega, by rw [Hsame.out]; exact hW.alloc _⟩, hB0.alloc (by simp; omega) _⟩
  | some y =>
    rw [hy] at hat
    have hlook := Lib.hid hat
    have Hy := Lib.hid hy
    clear hat hy hwl
    obtain ⟨yc, yw, ys, yl⟩ := y
    cases ys with
    | true =>
      have Hsame : Hid (applyI s e = s) := by
        have := Hset.out
        rw [Hy.out] at this
        rw [Hid, this]
        have e1 : s.ws.set e.task.toNat (settleW e (some ⟨yc, yw, true, yl⟩)) = s.ws := set_sameI Hy.out
        rw [e1]
      clear Hset
      go_enter Tryz.func65, Tryz.ntmps65
      go_wp2_with (first
        | (at_lookup; refine wpList_lookup_wt_ok _ rfl _ _ rfl bm nm (wsF s.ws) rfl hW.ws e.task (by omega) (by omega) rfl ?_; rw [hlook.out]))
      go_ret
      exact ⟨ret_bool Hrz.out.symm, ⟨nm, by omega, by rw [Hsame.out]; exact hW.alloc _⟩, hB0.alloc (by simp; omega) _⟩
    | false =>
      by_cases hw2 : yw = e.worker
      · have t9 : (yw == e.worker) = true := by simpa using hw2
        have Hnew : Hid (applyI s e = { s with ws := s.ws.set e.task.toNat (some ⟨yc, yw, true, e.level⟩) }) := by
          have := Hset.out
          rw [Hy.out] at this
          rw [Hid, this]
          simp [settleW, hw2]
        clear Hset hw2
        have h2 := hW.alloc (.cells #[.int .i64 yc, .int .i64 yw, .bool true, .int .i64 e.level] 169)
        have hcS2 := h2.st.cell
        have hB2 := hB0.alloc (by simp; omega) (.cells #[.int .i64 yc, .int .i64 yw, .bool true, .int .i64 e.level] 169)
        go_enter Tryz.func65, Tryz.ntmps65
        go_wp2_with (first
          | (at_lookup; refine wpList_lookup_wt_ok _ rfl _ _ rfl bm nm (wsF s.ws) rfl hW.ws e.task (by omega) (by omega) rfl ?_; rw [hlook.out]))
        go_region
        all_goals go_wp2
        all_goals
          refine wp_region_drawn 6 (by kernel_rfl) (by kernel_rfl) ?_
          simp only [List.take_succ_cons, List.take_zero, List.drop_succ_cons, List.drop_zero]
          repeat (go_big_quiet_step (fail))
          refine wpQuiet_nil ?_
          rintro _ ⟨nq2, rfl⟩
          go_wp2_with (first
            | (at_mapUpdate; refine wpList_update_wt _ rfl _ _ _ rfl bm nm (wsF s.ws) rfl ((h2.drewN 1).drewN _).ws (by omega) e.task (by omega) (by omega) rfl ⟨yc, yw, true, e.level⟩ rfl ?_; intro w2 hm2 hg2))
          go_ret
          exact ⟨ret_bool Hrz.out.symm, ⟨nm + 1, by omega, by rw [Hnew.out]; exact inh_setWs ((h2.drewN 1).drewN _) h0 h1 hg2 hm2 (by omega)⟩, Below.grown (below_drewN (below_drewN hB2 1) _) hg2 (by simp; omega) (fun j hj => by cases hj; exact h.xm)⟩
      · have t9 : (yw == e.worker) = false := by simpa using hw2
        have Hsame : Hid (applyI s e = s) := by
          have := Hset.out
          rw [Hy.out] at this
          rw [Hid, this]
          have e1 : s.ws.set e.task.toNat (settleW e (some ⟨yc, yw, false, yl⟩)) = s.ws := by
            have : settleW e (some ⟨yc, yw, false, yl⟩) = some ⟨yc, yw, false, yl⟩ := by simp [settleW, hw2]
            rw [this]; exact set_sameI Hy.out
          rw [e1]
        clear Hset hw2
        go_enter Tryz.func65, Tryz.ntmps65
        go_wp2_with (first
          | (at_lookup; refine wpList_lookup_wt_ok _ rfl _ _ rfl bm nm (wsF s.ws) rfl hW.ws e.task (by omega) (by omega) rfl ?_; rw [hlook.out]))
        go_ret
        exact ⟨ret_bool Hrz.out.symm, ⟨nm, by omega, by rw [Hsame.out]; exact hW.alloc _⟩, hB0.alloc (by simp; omega) _⟩
end Go.Proofs.YtpbkelpokpglaaaGreat
