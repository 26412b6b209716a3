/- Walks: the reference's step (layer 30). -/
import Derived.Test.YtpbkelpokpglaaaGreatInh6
set_option linter.all false
namespace Go.Proofs.YtpbkelpokpglaaaGreat
open Go.RowKit Go.Maps
theorem Arr.of_row5 {w : World} {base n sz : Nat} {t : TypeId} {v : Value} {vs : List Value} (h : w.ownsRow base t sz v n vs) (hn : 0 < n) : ∃ g cap, v = .slice (some ⟨g, 0, none⟩) n cap ∧ base ≤ g ∧ Arr w g t vs := by
  rcases h.2 with ⟨_, rfl⟩ | ⟨g, cap, cur, rfl, h1, h2, _, _, _, h5⟩
  · omega
  · exact ⟨g, cap, rfl, h1, cur, h2, cur.toList.drop (n * sz), by rw [← h5]; simp⟩
/-- The reference's state s of n tasks in memory. -/
structure RInh (B : Nat) (w : World) (g bl cl bf cf bw cw : Nat) (s : Inh) (n : Nat) : Prop where
  st : Blk w g 141 #[.slice (some ⟨bl, 0, none⟩) n cl, .slice (some ⟨bf, 0, none⟩) n cf, .slice (some ⟨bw, 0, none⟩) n cw]
  lv : Arr w bl 3 (s.lv.map (Value.int .i64))
  fin : Arr w bf 4 (s.fin.map Value.bool)
  ws : Arr w bw 174 (s.ws.flatMap encW)
  wf : s.Wf n
  n1 : 1 ≤ n
  n2 : n ≤ 256
  xg : B ≤ g
  xl : B ≤ bl
  xf : B ≤ bf
  xw : B ≤ bw
theorem flat5_get (ws : List (Option Wt)) (i : Nat) {o : Option Wt} (h : ws[i]? = some o) {j : Nat} {u : Value} (hj : (encW o)[j]? = some u) : (ws.flatMap encW)[i * 5 + j]? = some u := flat_getD (sz := 5) encW_len ws i o h j u hj
theorem flat5_len (ws : List (Option Wt)) : (ws.flatMap encW).length = ws.length * 5 := by
  induction ws with
  | nil => rfl
  | cons o ws ih => rw [List.flatMap_cons, List.length_append, encW_len, ih, List.length_cons]; omega
theorem set_app5 {xs ys : List Value} (h : xs.length = 5) {j : Nat} {v : Value} : (xs ++ ys).set (j + 5) v = xs ++ ys.set j v := by
  rw [List.set_append_right _ _ (by omega), h, Nat.add_sub_cancel]
theorem flat5_set (ws : List (Option Wt)) (i : Nat) (hi : i < ws.length) (o : Option Wt) {a b c d e : Value} (ho : encW o = [a, b, c, d, e]) :
    (((((ws.flatMap encW).set (i * 5) a).set (i * 5 + 1) b).set (i * 5 + 2) c).set (i * 5 + 3) d).set (i * 5 + 4) e = (ws.set i o).flatMap encW := by
  induction ws generalizing i with
  | nil => simp at hi
  | cons x ws ih =>
    cases i with
    | zero =>
      obtain ⟨x0, x1, x2, x3, x4, hx⟩ : ∃ x0 x1 x2 x3 x4, encW x = [x0, x1, x2, x3, x4] := by cases x <;> exact ⟨_, _, _, _, _, rfl⟩
      simp [List.flatMap_cons, hx, ho]
    | succ i =>
      have := ih i (by simpa using hi)
      rw [List.flatMap_cons, List.set_cons_succ, List.flatMap_cons, ← this]
      have hl := encW_len x
      rw [show (i + 1) * 5 = i * 5 + 5 from by omega, show i * 5 + 5 + 1 = i * 5 + 1 + 5 from by omega, show i * 5 + 5 + 2 = i * 5 + 2 + 5 from by omega, show i * 5 + 5 + 3 = i * 5 + 3 + 5 from by omega, show i * 5 + 5 + 4 = i * 5 + 4 + 5 from by omega]
      rw [set_app5 hl, set_app5 hl, set_app5 hl, set_app5 hl, set_app5 hl]
theorem flat5_set2 (ws : List (Option Wt)) (i : Nat) (hi : i < ws.length) {y : Wt} (hy : ws[i]? = some (some y)) (l : Int) :
    ((ws.flatMap encW).set (i * 5 + 1) (.bool true)).set (i * 5 + 4) (.int .i64 l) = (ws.set i (some { y with settled := true, level := l })).flatMap encW := by
  induction ws generalizing i with
  | nil => simp at hi
  | cons x ws ih =>
    cases i with
    | zero =>
      simp at hy
      subst hy
      simp [List.flatMap_cons, encW]
    | succ i =>
      have := ih i (by simpa using hi) (by simpa using hy)
      rw [List.flatMap_cons, List.set_cons_succ, List.flatMap_cons, ← this]
      have hl := encW_len x
      rw [show (i + 1) * 5 + 1 = i * 5 + 1 + 5 from by omega, show (i + 1) * 5 + 4 = i * 5 + 4 + 5 from by omega]
      rw [set_app5 hl, set_app5 hl]
section
variable {B : Nat} {w w' : World} {g bl cl bf cf bw cw : Nat} {s : Inh} {n : Nat} {e : Ev}
theorem RInh.below {B' : Nat} (h : RInh B w g bl cl bf cf bw cw s n) (hb : Below B' w w') (hB : w.heap.size ≤ B') : RInh B w' g bl cl bf cf bw cw s n :=
  ⟨h.st.below hb (Nat.lt_of_lt_of_le h.st.lt hB), h.lv.below hb (Nat.lt_of_lt_of_le h.lv.lt hB), h.fin.below hb (Nat.lt_of_lt_of_le h.fin.lt hB), h.ws.below hb (Nat.lt_of_lt_of_le h.ws.lt hB), h.wf, h.n1, h.n2, h.xg, h.xl, h.xf, h.xw⟩
theorem RInh.down {B' : Nat} (h : RInh B w g bl cl bf cf bw cw s n) (hB : B' ≤ B) : RInh B' w g bl cl bf cf bw cw s n :=
  ⟨h.st, h.lv, h.fin, h.ws, h.wf, h.n1, h.n2, Nat.le_trans hB h.xg, Nat.le_trans hB h.xl, Nat.le_trans hB h.xf, Nat.le_trans hB h.xw⟩
theorem RInh.alloc (h : RInh B w g bl cl bf cf bw cw s n) (o : Obj) : RInh B (w.alloc o) g bl cl bf cf bw cw s n :=
  ⟨h.st.alloc o, h.lv.alloc o, h.fin.alloc o, h.ws.alloc o, h.wf, h.n1, h.n2, h.xg, h.xl, h.xf, h.xw⟩
theorem RInh.drewN (h : RInh B w g bl cl bf cf bw cw s n) (k : Nat) : RInh B (w.drewN k) g bl cl bf cf bw cw s n :=
  ⟨h.st.drewN k, h.lv.drewN k, h.fin.drewN k, h.ws.drewN k, h.wf, h.n1, h.n2, h.xg, h.xl, h.xf, h.xw⟩
theorem rinh_size (h : RInh B w g bl cl bf cf bw cw s n) : B ≤ w.heap.size := Nat.le_of_lt (Nat.lt_of_le_of_lt h.xg h.st.lt)
theorem rlvAt (h : RInh B w g bl cl bf cf bw cw s n) {i : Nat} (hi : i < n) : w.cell? ⟨bl, i, none⟩ = some (.int .i64 (s.lv.getD i 0)) := by
  have hl := h.wf.lv
  exact h.lv.cell (by simp [List.getD, show i < s.lv.length from by omega])
theorem rfinAt (h : RInh B w g bl cl bf cf bw cw s n) {i : Nat} (hi : i < n) : w.cell? ⟨bf, i, none⟩ = some (.bool (s.fin.getD i false)) := by
  have hl := h.wf.fin
  exact h.fin.cell (by simp [List.getD, show i < s.fin.length from by omega])
theorem rwsAt (h : RInh B w g bl cl bf cf bw cw s n) {i : Nat} (hi : i < n) : w.cell? ⟨bw, i * 5, none⟩ = some (.bool (s.ws.getD i none).isSome) ∧ w.cell? ⟨bw, i * 5 + 1, none⟩ = some (.bool ((s.ws.getD i none).getD wtZ).settled) ∧
    w.cell? ⟨bw, i * 5 + 2, none⟩ = some (.int .i64 ((s.ws.getD i none).getD wtZ).child) ∧ w.cell? ⟨bw, i * 5 + 3, none⟩ = some (.int .i64 ((s.ws.getD i none).getD wtZ).worker) ∧ w.cell? ⟨bw, i * 5 + 4, none⟩ = some (.int .i64 ((s.ws.getD i none).getD wtZ).level) := by
  have hl := h.wf.ws
  have hg : s.ws[i]? = some (s.ws.getD i none) := by simp [List.getD, show i < s.ws.length from by omega]
  have key := fun j u (hj : (encW (s.ws.getD i none))[j]? = some u) => h.ws.cell (flat5_get s.ws i hg (j := j) hj)
  cases hc : s.ws.getD i none with
  | none => rw [hc] at key; exact ⟨key 0 _ rfl, key 1 _ rfl, key 2 _ rfl, key 3 _ rfl, key 4 _ rfl⟩
  | some x => rw [hc] at key; exact ⟨key 0 _ rfl, key 1 _ rfl, key 2 _ rfl, key 3 _ rfl, key 4 _ rfl⟩
theorem rinh_setLv (h : RInh B w g bl cl bf cf bw cw s n) {i : Nat} (hi : i < n) (x : Int) : RInh B (w.setCell ⟨bl, i, none⟩ (.int .i64 x)) g bl cl bf cf bw cw { s with lv := s.lv.set i x } n := by
  have hl := h.wf.lv
  exact ⟨h.st.far (Ne.symm (arr_blk_ne h.lv h.st (by decide))) _, (h.lv.set_ i (by simp; omega) _).of_eq (by simp [List.map_set]), h.fin.far (Ne.symm (arr_ne h.lv h.fin (by decide))) _, h.ws.far (Ne.symm (arr_ne h.lv h.ws (by decide))) _, ⟨by simpa using h.wf.lv, h.wf.fin, h.wf.ws⟩, h.n1, h.n2, h.xg, h.xl, h.xf, h.xw⟩
theorem rinh_setFin (h : RInh B w g bl cl bf cf bw cw s n) {i : Nat} (hi : i < n) : RInh B (w.setCell ⟨bf, i, none⟩ (.bool true)) g bl cl bf cf bw cw { s with fin := s.fin.set i true } n := by
  have hl := h.wf.fin
  exact ⟨h.st.far (Ne.symm (arr_blk_ne h.fin h.st (by decide))) _, h.lv.far (arr_ne h.lv h.fin (by decide)) _, (h.fin.set_ i (by simp; omega) _).of_eq (by simp [List.map_set]), h.ws.far (Ne.symm (arr_ne h.fin h.ws (by decide))) _, ⟨h.wf.lv, by simpa using h.wf.fin, h.wf.ws⟩, h.n1, h.n2, h.xg, h.xl, h.xf, h.xw⟩
theorem rinh_setWs (h : RInh B w g bl cl bf cf bw cw s n) {i : Nat} (hi : i < n) {o : Option Wt} {a b c d e : Value} (ho : encW o = [a, b, c, d, e]) :
    RInh B (((((w.setCell ⟨bw, i * 5, none⟩ a).setCell ⟨bw, i * 5 + 1, none⟩ b).setCell ⟨bw, i * 5 + 2, none⟩ c).setCell ⟨bw, i * 5 + 3, none⟩ d).setCell ⟨bw, i * 5 + 4, none⟩ e) g bl cl bf cf bw cw { s with ws := s.ws.set i o } n := by
  have hl := h.wf.ws
  have hlen := flat5_len s.ws
  have hgw := Ne.symm (arr_blk_ne h.ws h.st (by decide))
  have hlw := arr_ne h.lv h.ws (by decide)
  have hfw := arr_ne h.fin h.ws (by decide)
  have h1 := (((((h.ws.set_ (i * 5) (by omega) a).set_ (i * 5 + 1) (by simp only [List.length_set]; omega) b).set_ (i * 5 + 2) (by simp only [List.length_set]; omega) c).set_ (i * 5 + 3) (by simp only [List.length_set]; omega) d).set_ (i * 5 + 4) (by simp only [List.length_set]; omega) e).of_eq (flat5_set s.ws i (by omega) o ho)
  exact ⟨((((h.st.far hgw _).far hgw _).far hgw _).far hgw _).far hgw _, ((((h.lv.far hlw _).far hlw _).far hlw _).far hlw _).far hlw _, ((((h.fin.far hfw _).far hfw _).far hfw _).far hfw _).far hfw _, h1, ⟨h.wf.lv, h.wf.fin, by simpa using h.wf.ws⟩, h.n1, h.n2, h.xg, h.xl, h.xf, h.xw⟩
theorem rinh_settle (h : RInh B w g bl cl bf cf bw cw s n) {i : Nat} (hi : i < n) {y : Wt} (hy : s.ws.getD i none = some y) (l : Int) :
    RInh B ((w.setCell ⟨bw, i * 5 + 1, none⟩ (.bool true)).setCell ⟨bw, i * 5 + 4, none⟩ (.int .i64 l)) g bl cl bf cf bw cw { s with ws := s.ws.set i (some { y with settled := true, level := l }) } n := by
  have hl := h.wf.ws
  have hlen := flat5_len s.ws
  have hgw := Ne.symm (arr_blk_ne h.ws h.st (by decide))
  have hlw := arr_ne h.lv h.ws (by decide)
  have hfw := arr_ne h.fin h.ws (by decide)
  have h1 := ((h.ws.set_ (i * 5 + 1) (by omega) (.bool true)).set_ (i * 5 + 4) (by simp only [List.length_set]; omega) (.int .i64 l)).of_eq (flat5_set2 s.ws i (by omega) (by simpa [List.getD, show i < s.ws.length from by omega] using hy) l)
  exact ⟨(h.st.far hgw _).far hgw _, (h.lv.far hlw _).far hlw _, (h.fin.far hfw _).far hfw _, h1, ⟨h.wf.lv, h.wf.fin, by simpa using h.wf.ws⟩, h.n1, h.n2, h.xg, h.xl, h.xf, h.xw⟩
end
def RApplyP (B : Nat) (w : World) (g bl cl bf cf bw cw : Nat) (s : Inh) (n : Nat) (e : Ev) (v : Ending) (w' : World) : Prop :=
  v = .returned (.bool (raisesI s e)) ∧ RInh B w' g bl cl bf cf bw cw (applyI s e) n ∧ Below B w w'
set_option maxRecDepth 100000 in
set_option maxHeartbeats 1000000 in
theorem rapply_out {B : Nat} {w : World} {g bl cl bf cf bw cw : Nat} {s : Inh} {n : Nat} {e : Ev} (h : RInh B w g bl cl bf cf bw cw s n) (ho : e.task < 0 ∨ (n : Int) ≤ e.task) :
    Calls Tryz.prog 71 #[.pointer (some ⟨g, 0, none⟩), evV e] w (RApplyP B w g bl cl bf cf bw cw s n e) := by
  have hW := h.alloc (evBox e)
  have hsz := rinh_size h
  have hB0 : Below B w (w.alloc (evBox e)) := (Below.refl _ _).alloc hsz _
  have hll := h.wf.lv
  have hcS := hW.st.cell
  have hfS := hW.st.frozen
  have hlg := h.st.lt
  have hn1 := h.n1
  have hn2 := h.n2
  have hfin : raisesI s e = true ∧ applyI s e = s := by unfold raisesI applyI; rw [hll, if_pos ho, if_pos ho]; exact ⟨rfl, rfl⟩
  have Hfin := Lib.hid hfin
  clear hfin hll
  by_cases h9 : e.task < 0
  · clear ho
    have t0 : decide (e.task < 0) = true := by simpa using h9
    go_enter Tryz.func71, Tryz.ntmps71
    go_wp2
    go_quiet (fail)
    go_wp2
    go_ret
    exact ⟨ret_bool Hfin.out.1.symm, by rw [Hfin.out.2]; exact hW.drewN _, below_drewN hB0 _⟩
  · have h8 : (n : Int) ≤ e.task := by omega
    have t0 : decide (e.task < 0) = false := by simpa using h9
    clear ho
    go_enter Tryz.func71, Tryz.ntmps71
    go_wp2
    go_quiet (fail)
    go_wp2
    go_ret
    exact ⟨ret_bool Hfin.out.1.symm, by rw [Hfin.out.2]; exact hW.drewN _, below_drewN hB0 _⟩
set_option maxRecDepth 100000 in
set_option maxHeartbeats 1000000 in
theorem rapply_raise11 {B : Nat} {w : World} {g bl cl bf cf bw cw : Nat} {s : Inh} {n : Nat} {e : Ev} (h : RInh B w g bl cl bf cf bw cw s n) (h0 : 0 ≤ e.task) (h1 : e.task < n) (hk : e.kind = 11) :
    Calls Tryz.prog 71 #[.pointer (some ⟨g, 0, none⟩), evV e] w (RApplyP B w g bl cl bf cf bw cw s n e) := by
  have hW := h.alloc (evBox e)
  have hsz := rinh_size h
  have hB0 : Below B w (w.alloc (evBox e)) := (Below.refl _ _).alloc hsz _
  have hll := h.wf.lv
  have hcS := hW.st.cell
  have hfS := hW.st.frozen
  have hlg := h.st.lt
  have hn1 := h.n1
  have hn2 := h.n2
  have cl0 := rlvAt hW (i := e.task.toNat) (by omega)
  have hset : applyI s e = { s with lv := s.lv.set e.task.toNat e.level } := by unfold applyI; rw [hll, if_neg (by omega), if_pos (by omega)]
  have hrz : raisesI s e = (!(s.lv.getD e.task.toNat 0 == -1) && decide (s.lv.getD e.task.toNat 0 < e.level)) := by unfold raisesI; rw [hll, if_neg (by omega), if_pos (by omega)]
  have Hset := Lib.hid hset
  have hst := fun N => rinh_setLv (hW.drewN N) (i := e.task.toNat) (by omega) e.level
  obtain ⟨x, hx⟩ : ∃ x, x = s.lv.getD e.task.toNat 0 := ⟨_, rfl⟩
  rw [← hx] at cl0 hrz
  have hlt := hW.lv.lt
  have hfl := hW.lv.frozen
  have t0 : decide (e.task < 0) = false := by simp; omega
  have k1 : (e.kind == 1) = false := by simp only [beq_eq_false_iff_ne]; omega
  have k3 : (e.kind == 3) = false := by simp only [beq_eq_false_iff_ne]; omega
  have k11 : (e.kind == 11) = true := by simpa using hk
  clear hset hx hk hll
  by_cases hx1 : x = -1
  · have t1 : (x != -1) = false := by simp [hx1]
    have Hrz := Lib.hid (show raisesI s e = false by rw [hrz]; simp [hx1])
    clear hx1 hrz
    go_enter Tryz.func71, Tryz.ntmps71
    go_wp2
    go_quiet (fail)
    go_wp2
    go_quiet (fail)
    go_wp2
    refine wp_region_drawn 8 (by kernel_rfl) (by kernel_rfl) ?_
    simp only [List.take_succ_cons, List.take_zero, List.drop_succ_cons, List.drop_zero]
    repeat (go_big_quiet_step (fail))
    refine wpQuiet_nil ?_
    rintro _ ⟨nq2, rfl⟩
    go_wp2
    go_ret
    exact ⟨ret_bool Hrz.out.symm, by rw [Hset.out]; exact hst _, (below_drewN hB0 _).setCell (by have := h.xl; simpa using this) _⟩
  · have t1 : (x != -1) = true := by simpa using hx1
    have Hrz := Lib.hid (show raisesI s e = decide (x < e.level) by rw [hrz]; simp [hx1])
    clear hx1 hrz
    go_enter Tryz.func71, Tryz.ntmps71
    go_wp2
    go_quiet (fail)
    go_wp2
    go_quiet (fail)
    go_wp2
    refine wp_region_drawn 8 (by kernel_rfl) (by kernel_rfl) ?_
    simp only [List.take_succ_cons, List.take_zero, List.drop_succ_cons, List.drop_zero]
    repeat (go_big_quiet_step (fail))
    refine wpQuiet_nil ?_
    rintro _ ⟨nq2, rfl⟩
    go_wp2
    go_ret
    exact ⟨ret_bool Hrz.out.symm, by rw [Hset.out]; exact hst _, (below_drewN hB0 _).setCell (by have := h.xl; simpa using this) _⟩
set_option maxRecDepth 100000 in
set_option maxHeartbeats 1000000 in
theorem rapply_raise12 {B : Nat} {w : World} {g bl cl bf cf bw cw : Nat} {s : Inh} {n : Nat} {e : Ev} (h : RInh B w g bl cl bf cf bw cw s n) (h0 : 0 ≤ e.task) (h1 : e.task < n) (hk : e.kind = 12) :
    Calls Tryz.prog 71 #[.pointer (some ⟨g, 0, none⟩), evV e] w (RApplyP B w g bl cl bf cf bw cw s n e) := by
  have hW := h.alloc (evBox e)
  have hsz := rinh_size h
  have hB0 : Below B w (w.alloc (evBox e)) := (Below.refl _ _).alloc hsz _
  have hll := h.wf.lv
  have hcS := hW.st.cell
  have hfS := hW.st.frozen
  have hlg := h.st.lt
  have hn1 := h.n1
  have hn2 := h.n2
  have cl0 := rlvAt hW (i := e.task.toNat) (by omega)
  have hset : applyI s e = { s with lv := s.lv.set e.task.toNat e.level } := by unfold applyI; rw [hll, if_neg (by omega), if_pos (by omega)]
  have hrz : raisesI s e = (!(s.lv.getD e.task.toNat 0 == -1) && decide (s.lv.getD e.task.toNat 0 < e.level)) := by unfold raisesI; rw [hll, if_neg (by omega), if_pos (by omega)]
  have Hset := Lib.hid hset
  have hst := fun N => rinh_setLv (hW.drewN N) (i := e.task.toNat) (by omega) e.level
  obtain ⟨x, hx⟩ : ∃ x, x = s.lv.getD e.task.toNat 0 := ⟨_, rfl⟩
  rw [← hx] at cl0 hrz
  have hlt := hW.lv.lt
  have hfl := hW.lv.frozen
  have t0 : decide (e.task < 0) = false := by simp; omega
  have k1 : (e.kind == 1) = false := by simp only [beq_eq_false_iff_ne]; omega
  have k3 : (e.kind == 3) = false := by simp only [beq_eq_false_iff_ne]; omega
  have k11 : (e.kind == 11) = false := by simp only [beq_eq_false_iff_ne]; omega
  have k12 : (e.kind == 12) = true := by simpa using hk
  clear hset hx hk hll
  by_cases hx1 : x = -1
  · have t1 : (x != -1) = false := by simp [hx1]
    have Hrz := Lib.hid (show raisesI s e = false by rw [hrz]; simp [hx1])
    clear hx1 hrz
    go_enter Tryz.func71, Tryz.ntmps71
    go_wp2
    go_quiet (fail)
    go_wp2
    go_quiet (fail)
    go_wp2
    refine wp_region_drawn 8 (by kernel_rfl) (by kernel_rfl) ?_
    simp only [List.take_succ_cons, List.take_zero, List.drop_succ_cons, List.drop_zero]
    repeat (go_big_quiet_step (fail))
    refine wpQuiet_nil ?_
    rintro _ ⟨nq2, rfl⟩
    go_wp2
    go_ret
    exact ⟨ret_bool Hrz.out.symm, by rw [Hset.out]; exact hst _, (below_drewN hB0 _).setCell (by have := h.xl; simpa using this) _⟩
  · have t1 : (x != -1) = true := by simpa using hx1
    have Hrz := Lib.hid (show raisesI s e = decide (x < e.level) by rw [hrz]; simp [hx1])
    clear hx1 hrz
    go_enter Tryz.func71, Tryz.ntmps71
    go_wp2
    go_quiet (fail)
    go_wp2
    go_quiet (fail)
    go_wp2
    refine wp_region_drawn 8 (by kernel_rfl) (by kernel_rfl) ?_
    simp only [List.take_succ_cons, List.take_zero, List.drop_succ_cons, List.drop_zero]
    repeat (go_big_quiet_step (fail))
    refine wpQuiet_nil ?_
    rintro _ ⟨nq2, rfl⟩
    go_wp2
    go_ret
    exact ⟨ret_bool Hrz.out.symm, by rw [Hset.out]; exact hst _, (below_drewN hB0 _).setCell (by have := h.xl; simpa using this) _⟩
set_option maxRecDepth 100000 in
set_option maxHeartbeats 1000000 in
theorem rapply_set1 {B : Nat} {w : World} {g bl cl bf cf bw cw : Nat} {s : Inh} {n : Nat} {e : Ev} (h : RInh B w g bl cl bf cf bw cw s n) (h0 : 0 ≤ e.task) (h1 : e.task < n) (hk : e.kind = 1) :
    Calls Tryz.prog 71 #[.pointer (some ⟨g, 0, none⟩), evV e] w (RApplyP B w g bl cl bf cf bw cw s n e) := by
  have hW := h.alloc (evBox e)
  have hsz := rinh_size h
  have hB0 : Below B w (w.alloc (evBox e)) := (Below.refl _ _).alloc hsz _
  have hll := h.wf.lv
  have hcS := hW.st.cell
  have hfS := hW.st.frozen
  have hlg := h.st.lt
  have hn1 := h.n1
  have hn2 := h.n2
  have Hrz : Hid (raisesI s e = true) := by unfold raisesI; rw [hll, if_neg (by omega), if_neg (by omega)]; rfl
  have Hset : Hid (applyI s e = { s with lv := s.lv.set e.task.toNat e.level }) := by unfold applyI; rw [hll, if_neg (by omega), if_pos (by omega)]; rfl
  have hst := fun N => rinh_setLv (hW.drewN N) (i := e.task.toNat) (by omega) e.level
  have cl0 := rlvAt hW (i := e.task.toNat) (by omega)
  have hlt := hW.lv.lt
  have hfl := hW.lv.frozen
  have t0 : decide (e.task < 0) = false := by simp; omega
  have k1 : (e.kind == 1) = true := by simpa using hk
  clear hk hll
  go_enter Tryz.func71, Tryz.ntmps71
  go_wp2
  go_quiet (fail)
  go_wp2
  refine wp_region_drawn 8 (by kernel_rfl) (by kernel_rfl) ?_
  simp only [List.take_succ_cons, List.take_zero, List.drop_succ_cons, List.drop_zero]
  repeat (go_big_quiet_step (fail))
  refine wpQuiet_nil ?_
  rintro _ ⟨nq2, rfl⟩
  go_wp2
  go_ret
  exact ⟨ret_bool Hrz.out.symm, by rw [Hset.out]; exact hst _, (below_drewN hB0 _).setCell (by have := h.xl; simpa using this) _⟩
set_option maxRecDepth 100000 in
set_option maxHeartbeats 1000000 in
theorem rapply_set3 {B : Nat} {w : World} {g bl cl bf cf bw cw : Nat} {s : Inh} {n : Nat} {e : Ev} (h : RInh B w g bl cl bf cf bw cw s n) (h0 : 0 ≤ e.task) (h1 : e.task < n) (hk : e.kind = 3) :
    Calls Tryz.prog 71 #[.pointer (some ⟨g, 0, none⟩), evV e] w (RApplyP B w g bl cl bf cf bw cw s n e) := by
  have hW := h.alloc (evBox e)
  have hsz := rinh_size h
  have hB0 : Below B w (w.alloc (evBox e)) := (Below.refl _ _).alloc hsz _
  have hll := h.wf.lv
  have hcS := hW.st.cell
  have hfS := hW.st.frozen
  have hlg := h.st.lt
  have hn1 := h.n1
  have hn2 := h.n2
  have Hrz : Hid (raisesI s e = true) := by unfold raisesI; rw [hll, if_neg (by omega), if_neg (by omega)]; rfl
  have Hset : Hid (applyI s e = { s with lv := s.lv.set e.task.toNat e.level }) := by unfold applyI; rw [hll, if_neg (by omega), if_pos (by omega)]; rfl
  have hst := fun N => rinh_setLv (hW.drewN N) (i := e.task.toNat) (by omega) e.level
  have cl0 := rlvAt hW (i := e.task.toNat) (by omega)
  have hlt := hW.lv.lt
  have hfl := hW.lv.frozen
  have t0 : decide (e.task < 0) = false := by simp; omega
  have k1 : (e.kind == 1) = false := by simp only [beq_eq_false_iff_ne]; omega
  have k3 : (e.kind == 3) = true := by simpa using hk
  clear hk hll
  go_enter Tryz.func71, Tryz.ntmps71
  go_wp2
  go_quiet (fail)
  go_wp2
  refine wp_region_drawn 8 (by kernel_rfl) (by kernel_rfl) ?_
  simp only [List.take_succ_cons, List.take_zero, List.drop_succ_cons, List.drop_zero]
  repeat (go_big_quiet_step (fail))
  refine wpQuiet_nil ?_
  rintro _ ⟨nq2, rfl⟩
  go_wp2
  go_ret
  exact ⟨ret_bool Hrz.out.symm, by rw [Hset.out]; exact hst _, (below_drewN hB0 _).setCell (by have := h.xl; simpa using this) _⟩
set_option maxRecDepth 100000 in
set_option maxHeartbeats 1000000 in
theorem rapply_block {B : Nat} {w : World} {g bl cl bf cf bw cw : Nat} {s : Inh} {n : Nat} {e : Ev} (h : RInh B w g bl cl bf cf bw cw s n) (h0 : 0 ≤ e.task) (h1 : e.task < n) (hk : e.kind = 6) :
    Calls Tryz.prog 71 #[.pointer (some ⟨g, 0, none⟩), evV e] w (RApplyP B w g bl cl bf cf bw cw s n e) := by
  have hW := h.alloc (evBox e)
  have hsz := rinh_size h
  have hB0 : Below B w (w.alloc (evBox e)) := (Below.refl _ _).alloc hsz _
  have hll := h.wf.lv
  have hcS := hW.st.cell
  have hfS := hW.st.frozen
  have hlg := h.st.lt
  have hn1 := h.n1
  have hn2 := h.n2
  have Hrz : Hid (raisesI s e = true) := by unfold raisesI; rw [hll, if_neg (by omega), if_neg (by omega)]; rfl
  have Hset : Hid (applyI s e = { s with ws := s.ws.set e.task.toNat (some ⟨e.other, e.worker, false, 0⟩) }) := by unfold applyI; rw [hll, if_neg (by omega), if_neg (by omega), if_pos (by omega)]; rfl
  obtain ⟨w0, w1, w2, w3, w4⟩ := rwsAt hW (i := e.task.toNat) (by omega)
  have hlt := hW.ws.lt
  have hfl := hW.ws.frozen
  have t0 : decide (e.task < 0) = false := by simp; omega
  have k1 : (e.kind == 1) = false := by simp only [beq_eq_false_iff_ne]; omega
  have k3 : (e.kind == 3) = false := by simp only [beq_eq_false_iff_ne]; omega
  have k11 : (e.kind == 11) = false := by simp only [beq_eq_false_iff_ne]; omega
  have k12 : (e.kind == 12) = false := by simp only [beq_eq_false_iff_ne]; omega
  have k6 : (e.kind == 6) = true := by simpa using hk
  clear hk hll
  go_enter Tryz.func71, Tryz.ntmps71
  go_wp2
  go_quiet (fail)
  go_wp2
  refine wp_region_drawn 10 (by kernel_rfl) (by kernel_rfl) ?_
  simp only [List.take_succ_cons, List.take_zero, List.drop_succ_cons, List.drop_zero]
  repeat (go_big_quiet_step (fail))
  refine wpQuiet_nil ?_
  rintro _ ⟨nq2, rfl⟩
  go_wp2
  go_ret
  exact ⟨ret_bool Hrz.out.symm, by rw [Hset.out]; exact rinh_setWs (hW.drewN _) (by omega) rfl, by have := h.xw; repeat' (first | (with_reducible exact below_drewN hB0 _) | (with_reducible refine Below.setCell ?_ (by simpa using this) _))⟩
set_option maxRecDepth 100000 in
set_option maxHeartbeats 1000000 in
theorem rapply_resume {B : Nat} {w : World} {g bl cl bf cf bw cw : Nat} {s : Inh} {n : Nat} {e : Ev} (h : RInh B w g bl cl bf cf bw cw s n) (h0 : 0 ≤ e.task) (h1 : e.task < n) (hk : e.kind = 9) :
    Calls Tryz.prog 71 #[.pointer (some ⟨g, 0, none⟩), evV e] w (RApplyP B w g bl cl bf cf bw cw s n e) := by
  have hW := h.alloc (evBox e)
  have hsz := rinh_size h
  have hB0 : Below B w (w.alloc (evBox e)) := (Below.refl _ _).alloc hsz _
  have hll := h.wf.lv
  have hcS := hW.st.cell
  have hfS := hW.st.frozen
  have hlg := h.st.lt
  have hn1 := h.n1
  have hn2 := h.n2
  have Hrz : Hid (raisesI s e = true) := by unfold raisesI; rw [hll, if_neg (by omega), if_neg (by omega)]; rfl
  have Hset : Hid (applyI s e = { s with ws := s.ws.set e.task.toNat none }) := by unfold applyI; rw [hll, if_neg (by omega), if_neg (by omega), if_neg (by omega), if_neg (by omega), if_pos (by omega)]; rfl
  obtain ⟨w0, w1, w2, w3, w4⟩ := rwsAt hW (i := e.task.toNat) (by omega)
  have hlt := hW.ws.lt
  have hfl := hW.ws.frozen
  have t0 : decide (e.task < 0) = false := by simp; omega
  have k1 : (e.kind == 1) = false := by simp only [beq_eq_false_iff_ne]; omega
  have k3 : (e.kind == 3) = false := by simp only [beq_eq_false_iff_ne]; omega
  have k11 : (e.kind == 11) = false := by simp only [beq_eq_false_iff_ne]; omega
  have k12 : (e.kind == 12) = false := by simp only [beq_eq_false_iff_ne]; omega
  have k6 : (e.kind == 6) = false := by simp only [beq_eq_false_iff_ne]; omega
  have k7 : (e.kind == 7) = false := by simp only [beq_eq_false_iff_ne]; omega
  have k9 : (e.kind == 9) = true := by simpa using hk
  clear hk hll
  go_enter Tryz.func71, Tryz.ntmps71
  go_wp2
  go_quiet (fail)
  go_wp2
  go_ret
  exact ⟨ret_bool Hrz.out.symm, by rw [Hset.out]; exact rinh_setWs (hW.drewN _) (by omega) rfl, by have := h.xw; repeat' (first | (with_reducible exact below_drewN hB0 _) | (with_reducible refine Below.setCell ?_ (by simpa using this) _))⟩
set_option maxRecDepth 100000 in
set_option maxHeartbeats 1000000 in
theorem rapply_finish {B : Nat} {w : World} {g bl cl bf cf bw cw : Nat} {s : Inh} {n : Nat} {e : Ev} (h : RInh B w g bl cl bf cf bw cw s n) (h0 : 0 ≤ e.task) (h1 : e.task < n) (hk : e.kind = 10) :
    Calls Tryz.prog 71 #[.pointer (some ⟨g, 0, none⟩), evV e] w (RApplyP B w g bl cl bf cf bw cw s n e) := by
  have hW := h.alloc (evBox e)
  have hsz := rinh_size h
  have hB0 : Below B w (w.alloc (evBox e)) := (Below.refl _ _).alloc hsz _
  have hll := h.wf.lv
  have hcS := hW.st.cell
  have hfS := hW.st.frozen
  have hlg := h.st.lt
  have hn1 := h.n1
  have hn2 := h.n2
  have Hrz : Hid (raisesI s e = true) := by unfold raisesI; rw [hll, if_neg (by omega), if_neg (by omega)]; rfl
  have Hset : Hid (applyI s e = { s with fin := s.fin.set e.task.toNat true }) := by unfold applyI; rw [hll, if_neg (by omega), if_neg (by omega), if_neg (by omega), if_neg (by omega), if_neg (by omega), if_pos (by omega)]; rfl
  have hst := fun N => rinh_setFin (hW.drewN N) (i := e.task.toNat) (by omega)
  have cl0 := rfinAt hW (i := e.task.toNat) (by omega)
  have hlt := hW.fin.lt
  have hfl := hW.fin.frozen
  have t0 : decide (e.task < 0) = false := by simp; omega
  have k1 : (e.kind == 1) = false := by simp only [beq_eq_false_iff_ne]; omega
  have k3 : (e.kind == 3) = false := by simp only [beq_eq_false_iff_ne]; omega
  have k11 : (e.kind == 11) = false := by simp only [beq_eq_false_iff_ne]; omega
  have k12 : (e.kind == 12) = false := by simp only [beq_eq_false_iff_ne]; omega
  have k6 : (e.kind == 6) = false := by simp only [beq_eq_false_iff_ne]; omega
  have k7 : (e.kind == 7) = false := by simp only [beq_eq_false_iff_ne]; omega
  have k9 : (e.kind == 9) = false := by simp only [beq_eq_false_iff_ne]; omega
  have k10 : (e.kind == 10) = true := by simpa using hk
  clear hk hll
  go_enter Tryz.func71, Tryz.ntmps71
  go_wp2
  go_quiet (fail)
  go_wp2
  go_ret
  exact ⟨ret_bool Hrz.out.symm, by rw [Hset.out]; exact hst _, (below_drewN hB0 _).setCell (by have := h.xf; simpa using this) _⟩
set_option maxRecDepth 100000 in
set_option maxHeartbeats 1000000 in
theorem rapply_other {B : Nat} {w : World} {g bl cl bf cf bw cw : Nat} {s : Inh} {n : Nat} {e : Ev} (h : RInh B w g bl cl bf cf bw cw s n) (h0 : 0 ≤ e.task) (h1 : e.task < n) (hk : e.kind ≠ 1 ∧ e.kind ≠ 3 ∧ e.kind ≠ 11 ∧ e.kind ≠ 12 ∧ e.kind ≠ 6 ∧ e.kind ≠ 7 ∧ e.kind ≠ 9 ∧ e.kind ≠ 10) :
    Calls Tryz.prog 71 #[.pointer (some ⟨g, 0, none⟩), evV e] w (RApplyP B w g bl cl bf cf bw cw s n e) := by
  have hW := h.alloc (evBox e)
  have hsz := rinh_size h
  have hB0 : Below B w (w.alloc (evBox e)) := (Below.refl _ _).alloc hsz _
  have hll := h.wf.lv
  have hcS := hW.st.cell
  have hfS := hW.st.frozen
  have hlg := h.st.lt
  have hn1 := h.n1
  have hn2 := h.n2
  have Hrz : Hid (raisesI s e = true) := by unfold raisesI; rw [hll, if_neg (by omega), if_neg (by omega)]; rfl
  have Hset : Hid (applyI s e = s) := by unfold applyI; rw [hll, if_neg (by omega), if_neg (by omega), if_neg (by omega), if_neg (by omega), if_neg (by omega), if_neg (by omega)]; rfl
  have t0 : decide (e.task < 0) = false := by simp; omega
  have k1 : (e.kind == 1) = false := by simp only [beq_eq_false_iff_ne]; omega
  have k3 : (e.kind == 3) = false := by simp only [beq_eq_false_iff_ne]; omega
  have k11 : (e.kind == 11) = false := by simp only [beq_eq_false_iff_ne]; omega
  have k12 : (e.kind == 12) = false := by simp only [beq_eq_false_iff_ne]; omega
  have k6 : (e.kind == 6) = false := by simp only [beq_eq_false_iff_ne]; omega
  have k7 : (e.kind == 7) = false := by simp only [beq_eq_false_iff_ne]; omega
  have k9 : (e.kind == 9) = false := by simp only [beq_eq_false_iff_ne]; omega
  have k10 : (e.kind == 10) = false := by simp only [beq_eq_false_iff_ne]; omega
  clear hk hll
  go_enter Tryz.func71, Tryz.ntmps71
  go_wp2
  go_quiet (fail)
  go_wp2
  go_ret
  exact ⟨ret_bool Hrz.out.symm, by rw [Hset.out]; exact hW.drewN _, below_drewN hB0 _⟩
set_option maxRecDepth 100000 in
set_option maxHeartbeats 1000000 in
theorem rapply_settle {B : Nat} {w : World} {g bl cl bf cf bw cw : Nat} {s : Inh} {n : Nat} {e : Ev} (h : RInh B w g bl cl bf cf bw cw s n) (h0 : 0 ≤ e.task) (h1 : e.task < n) (hk : e.kind = 7) :
    Calls Tryz.prog 71 #[.pointer (some ⟨g, 0, none⟩), evV e] w (RApplyP B w g bl cl bf cf bw cw s n e) := by
  have hW := h.alloc (evBox e)
  have hsz := rinh_size h
  have hB0 : Below B w (w.alloc (evBox e)) := (Below.refl _ _).alloc hsz _
  have hll := h.wf.lv
  have hcS := hW.st.cell
  have hfS := hW.st.frozen
  have hlg := h.st.lt
  have hn1 := h.n1
  have hn2 := h.n2
  have Hrz : Hid (raisesI s e = true) := by unfold raisesI; rw [hll, if_neg (by omega), if_neg (by omega)]; rfl
  have Hset : Hid (applyI s e = { s with ws := s.ws.set e.task.toNat (settleW e (s.ws.getD e.task.toNat none)) }) := by unfold applyI; rw [hll, if_neg (by omega), if_neg (by omega), if_neg (by omega), if_pos (by omega)]; rfl
  obtain ⟨w0, w1, w2, w3, w4⟩ := rwsAt hW (i := e.task.toNat) (by omega)
  have hlt := hW.ws.lt
  have hfl := hW.ws.frozen
  have t0 : decide (e.task < 0) = false := by simp; omega
  have k1 : (e.kind == 1) = false := by simp only [beq_eq_false_iff_ne]; omega
  have k3 : (e.kind == 3) = false := by simp only [beq_eq_false_iff_ne]; omega
  have k11 : (e.kind == 11) = false := by simp only [beq_eq_false_iff_ne]; omega
  have k12 : (e.kind == 12) = false := by simp only [beq_eq_false_iff_ne]; omega
  have k6 : (e.kind == 6) = false := by simp only [beq_eq_false_iff_ne]; omega
  have k7 : (e.kind == 7) = true := by simpa using hk
  clear hk hll
  cases hy : s.ws.getD e.task.toNat none with
  | none =>
    rw [hy] at w0 w1 w2 w3 w4
    simp only [Option.isSome_none, Option.getD_none] at w0 w1 w2 w3 w4
    have Hsame : Hid (applyI s e = s) := by
      have := Hset.out
      rw [hy] at this
      rw [Hid, this]
      have e1 : s.ws.set e.task.toNat (settleW e (none)) = s.ws := by
        have e2 : settleW e (none) = none := by simp [settleW]
        rw [e2]; exact set_sameI hy
      rw [e1]
    clear Hset hy
    go_enter Tryz.func71, Tryz.ntmps71
    go_wp2
    go_quiet (fail)
    go_wp2
    go_quiet (fail)
    go_wp2
    go_ret
    exact ⟨ret_bool Hrz.out.symm, by rw [Hsame.out]; exact (hW.drewN _).drewN _, below_drewN (below_drewN hB0 _) _⟩
  | some y =>
    obtain ⟨yc, yw, ys, yl⟩ := y
    rw [hy] at w0 w1 w2 w3 w4
    simp only [Option.isSome_some, Option.getD_some] at w0 w1 w2 w3 w4
    cases ys with
    | true =>
      have Hsame : Hid (applyI s e = s) := by
        have := Hset.out
        rw [hy] at this
        rw [Hid, this]
        have e1 : s.ws.set e.task.toNat (settleW e (some ⟨yc, yw, true, yl⟩)) = s.ws := by
          have e2 : settleW e (some ⟨yc, yw, true, yl⟩) = some ⟨yc, yw, true, yl⟩ := by simp [settleW]
          rw [e2]; exact set_sameI hy
        rw [e1]
      clear Hset hy
      go_enter Tryz.func71, Tryz.ntmps71
      go_wp2
      go_quiet (fail)
      go_wp2
      go_quiet (fail)
      go_wp2
      go_ret
      exact ⟨ret_bool Hrz.out.symm, by rw [Hsame.out]; exact (hW.drewN _).drewN _, below_drewN (below_drewN hB0 _) _⟩
    | false =>
      by_cases hw2 : yw = e.worker
      · have t9 : (yw == e.worker) = true := by simpa using hw2
        have Hnew : Hid (applyI s e = { s with ws := s.ws.set e.task.toNat (some ⟨yc, yw, true, e.level⟩) }) := by
          have := Hset.out
          rw [hy] at this
          rw [Hid, this]
          simp [settleW, hw2]
        have hst := fun N => rinh_settle (hW.drewN N) (i := e.task.toNat) (by omega) hy e.level
        clear Hset hw2 hy
        go_enter Tryz.func71, Tryz.ntmps71
        go_wp2
        go_quiet (fail)
        go_wp2
        go_quiet (fail)
        go_wp2
        go_region
        all_goals go_wp2
        all_goals (go_ret; exact ⟨ret_bool Hrz.out.symm, by rw [Hnew.out]; exact hst _, by have := h.xw; repeat' (first | (with_reducible exact below_drewN hB0 _) | (with_reducible refine Below.setCell ?_ (by simpa using this) _))⟩)
      · have t9 : (yw == e.worker) = false := by simpa using hw2
        have Hsame : Hid (applyI s e = s) := by
          have := Hset.out
          rw [hy] at this
          rw [Hid, this]
          have e1 : s.ws.set e.task.toNat (settleW e (some ⟨yc, yw, false, yl⟩)) = s.ws := by
            have e2 : settleW e (some ⟨yc, yw, false, yl⟩) = some ⟨yc, yw, false, yl⟩ := by simp [settleW, hw2]
            rw [e2]; exact set_sameI hy
          rw [e1]
        clear Hset hy hw2
        go_enter Tryz.func71, Tryz.ntmps71
        go_wp2
        go_quiet (fail)
        go_wp2
        go_quiet (fail)
        go_wp2
        go_ret
        exact ⟨ret_bool Hrz.out.symm, by rw [Hsame.out]; exact (hW.drewN _).drewN _, below_drewN (below_drewN hB0 _) _⟩
theorem rapply_any {B : Nat} {w : World} {g bl cl bf cf bw cw : Nat} {s : Inh} {n : Nat} {e : Ev} (h : RInh B w g bl cl bf cf bw cw s n) :
    Calls Tryz.prog 71 #[.pointer (some ⟨g, 0, none⟩), evV e] w (RApplyP B w g bl cl bf cf bw cw s n e) := by
  by_cases h0 : e.task < 0
  · exact rapply_out h (.inl h0)
  by_cases h1 : (n : Int) ≤ e.task
  · exact rapply_out h (.inr h1)
  by_cases k1 : e.kind = 1
  · exact rapply_set1 h (by omega) (by omega) k1
  by_cases k3 : e.kind = 3
  · exact rapply_set3 h (by omega) (by omega) k3
  by_cases k11 : e.kind = 11
  · exact rapply_raise11 h (by omega) (by omega) k11
  by_cases k12 : e.kind = 12
  · exact rapply_raise12 h (by omega) (by omega) k12
  by_cases k6 : e.kind = 6
  · exact rapply_block h (by omega) (by omega) k6
  by_cases k7 : e.kind = 7
  · exact rapply_settle h (by omega) (by omega) k7
  by_cases k9 : e.kind = 9
  · exact rapply_resume h (by omega) (by omega) k9
  by_cases k10 : e.kind = 10
  · exact rapply_finish h (by omega) (by omega) k10
  exact rapply_other h (by omega) (by omega) ⟨k1, k3, k11, k12, k6, k7, k9, k10⟩
theorem first_inh {w w' : World} {g n : Nat} {v1 v2 v3 : Value} (h : FirSt w g n v1 v2 v3 w') (h1 : 1 ≤ n) (h2 : n ≤ 256) : ∃ bl cl bf cf bw cw, RInh w.heap.size w' g bl cl bf cf bw cw (inh0 n) n := by
  obtain ⟨bl, cl, rfl, xl, al⟩ := Arr.of_row5 h.lv (by omega)
  obtain ⟨bf, cf, rfl, xf, af⟩ := Arr.of_row5 h.fin (by omega)
  obtain ⟨bw, cw, rfl, xw, aw⟩ := Arr.of_row5 h.ws (by omega)
  exact ⟨bl, cl, bf, cf, bw, cw, h.st, al.of_eq (by simp [inh0]), af.of_eq (by simp [inh0]), aw, inh0_wf _, h1, h2, h.xg, xl, xf, xw⟩
end Go.Proofs.YtpbkelpokpglaaaGreat
