/- Walks: Of of measure. -/
import Derived.Test.YtpbkelpokpglaaaGreatMeas5
set_option linter.all false
namespace Go.Proofs.YtpbkelpokpglaaaGreat
open Go.RowKit Go.Maps
set_option maxRecDepth 100000 in
set_option maxHeartbeats 400000 in
theorem of_err (c : Cfg) (p : CfgAt) (A : Option Addr) (cap : Nat) (l : List St) (w : World) (hc : CfgIn w w.heap.size c p) (hl : Sl St.enc 6 w w.heap.size A l) (he : measErr c l ≠ 0) :
    Calls Tryz.prog 18 #[cfgV c p, .slice A l.length cap] w fun e w' => e = .returned (ofV c l) ∧ Below w.heap.size w w' := by
  have hb0 : Below w.heap.size w ((w.alloc (cfgBox c p)).alloc figObj) := ((Below.refl _ _).alloc (Nat.le_refl _) _).alloc (by simp) _
  have hfin : ofV c l = .tuple #[figZ, .int .i64 (measErr c l)] := by simp [ofV, he]
  have Hfin := Lib.hid hfin
  have he' : (measErr c l == 0) = false := by simpa using he
  clear hfin he
  unfold cfgV
  go_enter Tryz.func18, Tryz.ntmps18
  go_wp2_with fail
  refine (measCheck_any c p A cap l _ (hc.up hb0) (hl.up hb0)).mono ?_; rintro e w1 ⟨rfl, hb1⟩
  have hb1' : Below (w.heap.size + 2) ((w.alloc (cfgBox c p)).alloc figObj) w1 := by simpa using hb1
  have hw1 : Below w.heap.size w w1 := hb0.trans (hb1'.mono (by omega))
  have hz : w.heap.size + 2 ≤ w1.heap.size := by have := hb1'.size; simpa using this
  obtain ⟨hcs, hfz⟩ := bcell hb1'
  clear hb1
  go_wp2_with fail
  exact bodyPost_ret (v := .tuple #[figZ, .int .i64 (measErr c l)]) (by simp [results, Tryz.results18, go_sem, hcs]) rfl ⟨by rw [Hfin.out], by repeat' (first | (with_reducible exact hw1) | (with_reducible refine Below.setCell ?_ (by simp) _))⟩
set_option maxRecDepth 100000 in
set_option maxHeartbeats 4000000 in
theorem of_any (c : Cfg) (p : CfgAt) (A : Option Addr) (cap : Nat) (l : List St) (w : World) (hc : CfgIn w w.heap.size c p) (hl : Sl St.enc 6 w w.heap.size A l) (hn : l.length ≤ 1048576) (hwf : StWf l) :
    Calls Tryz.prog 18 #[cfgV c p, .slice A l.length cap] w fun e w' => e = .returned (ofV c l) ∧ Below w.heap.size w w' := by
  by_cases he : measErr c l ≠ 0
  · exact of_err c p A cap l w hc hl he
  have he : measErr c l = 0 := by omega
  have hb0 : Below w.heap.size w ((w.alloc (cfgBox c p)).alloc figObj) := ((Below.refl _ _).alloc (Nat.le_refl _) _).alloc (by simp) _
  have hfin : ofV c l = .tuple #[figV l l.length, .int .i64 0] := by simp [ofV, he]
  have Hfin := Lib.hid hfin
  clear hfin
  have hr := (measErr_zero he).2
  have hmm := @run_makeMap Tryz.prog
  unfold cfgV
  go_enter Tryz.func18, Tryz.ntmps18
  go_wp2_with fail
  refine (measCheck_any c p A cap l _ (hc.up hb0) (hl.up hb0)).mono ?_; rintro e w1 ⟨rfl, hb1⟩
  have hb1' : Below (w.heap.size + 2) ((w.alloc (cfgBox c p)).alloc figObj) w1 := by simpa using hb1
  have hw1 : Below w.heap.size w w1 := hb0.trans (hb1'.mono (by omega))
  have hz : w.heap.size + 2 ≤ w1.heap.size := by have := hb1'.size; simpa using this
  clear hb1
  go_wp2_with fail
  obtain ⟨g7, hg7⟩ : ∃ g : Nat, g = w1.heap.size := ⟨_, rfl⟩
  have hinv : OfInv w ((w.alloc (cfgBox c p)).alloc figObj) g7 (g7 + 1) l 0 ((w1.alloc figObj).alloc (.map #[] 0)) :=
    ⟨(hb1'.alloc (by omega) _).alloc (by first | omega | (simp <;> omega)) _, by rw [hg7]; exact ((Blk.new _ _ _).alloc _).of_eq (by simp [figP, latSum, latMax, cnt]),
      .map [], by
        have := World.ownsMap_made (H := Unit) (w1.alloc figObj) Tryz.prog 3 (plainElem Tryz.prog 3)
        rw [hg7]; simpa using this, born0 l⟩
  rw [← hg7] at hz
  simp only [← hg7]
  clear hb1' hw1
  go_loopw [25] (fun i wr => ∃ k : Nat, k ≤ l.length ∧ i = .int .i64 k ∧ OfInv w ((w.alloc (cfgBox c p)).alloc figObj) g7 (g7 + 1) l k wr) (fun i _ => l.length - (intOf i).toNat)
  case atStart => exact ⟨0, Nat.zero_le _, rfl, hinv⟩
  case round =>
    clear hinv hg7 hmm
    obtain ⟨k, hk, rfl, hinv⟩ := hrel
    have hbw := ofInv_W hinv hb0
    have hB := hinv.fig
    have hlt7 := hB.lt
    obtain ⟨D, hown, hbn⟩ := hinv.born
    have hlt8 := hown.lt
    by_cases hlt : k < l.length
    · obtain ⟨hcs, hfz⟩ := bcell hbw
      obtain ⟨b, o, rfl, hbb, hcc⟩ := st_cells hl hlt
      obtain ⟨c0, c1, c2, c3, c4, c5⟩ := hcc k hlt
      have hw := hwf k hlt
      have hrk := hr k hlt
      have c11 : wr.cell? ⟨g7, 11, none⟩ = some (.int .i64 (latSum l k)) := hB.cell 11
      have c12 : wr.cell? ⟨g7, 12, none⟩ = some (.int .i64 (latMax l k)) := hB.cell 12
      have f7 := hB.frozen
      have hs1 := latSum_rng hr k
      have hs2 := latMax_rng hr k
      by_cases k1 : l[k].ev.kind = 1
      · skip
        have hslot : slotOf l[k].ev.kind = some 0 := by rw [k1]; rfl
        have hlat := Lib.hid (latAt_not hlt (by omega))
        have hput := Lib.hid (born_put hbn hlt (by omega))
        have t1 : (l[k].ev.kind == 1) = true := by rw [k1]; rfl
        have t3 : (l[k].ev.kind == 3) = false := by rw [k1]; rfl
        have t5 : (l[k].ev.kind == 5) = false := by rw [k1]; rfl
        have hj := slot_spec (l := l) (k := k) hslot
        have hj1 := hj.1
        have cj := (hB.cell 0).trans hj.2
        have hcn := cnt_take_le l l[k].ev.kind k
        clear hj
        clear k1
        have hcall := counter_any g7 l[k].ev.kind
        rw [hslot] at hcall
        simp only [slotV] at hcall
        have Hcall := Lib.hid hcall
        have Hslot := Lib.hid hslot
        clear hcall hslot
        go_wp2_with fail
        refine (Hcall.out _).mono ?_; rintro e w2 ⟨rfl, rfl⟩
        go_wp2_with (first
          | (at_mapUpdate; refine wpList_mapUpdate_own _ rfl _ _ _ 93 rfl 3 3 mapLaw Tryz.underlying93 _ (g7 + 1) k D rfl (by repeat' (first | (with_reducible exact hown) | (with_reducible refine World.ownsMap.setCell ?_ (by first | omega | (simp <;> omega)) _) | (with_reducible refine World.ownsMap.alloc ?_ _))) (by unfold maxLen; omega) _ _ (.int .i64 l[k].ev.task) rfl rfl (keyOf_int_mk Tryz.underlying3 (WalkArith.wf_i64 hw)) (.lit (.int .i64 l[k].at_)) [] (plainElem_int Tryz.underlying3 (WalkArith.wf_i64 (by omega))) ?_; intro w2 hown2 hg2))
        go_roundw
        case rel => exact ⟨k + 1, by omega, by go_num, Below.grown (by repeat' (first | (with_reducible exact hinv.below) | (with_reducible refine Below.setCell ?_ (by first | omega | (simp <;> omega)) _) | (with_reducible refine Below.alloc ?_ (by first | omega | (simp <;> omega)) _))) hg2 (by first | omega | (simp <;> omega)) (fun j hj => by cases hj; omega), (Blk.grown (by repeat' (first | (with_reducible exact hB) | (with_reducible refine Blk.set_ ?_ _ _) | (with_reducible refine Blk.alloc ?_ _))) hg2 (by simp)).of_eq (fig_bump hlt Hslot.out hlat.out), _, hown2, hput.out⟩
        case measure => simp [intOf] <;> omega
      by_cases k3 : l[k].ev.kind = 3
      · have k1 := k3
        clear k3
        have hslot : slotOf l[k].ev.kind = some 2 := by rw [k1]; rfl
        have hlat := Lib.hid (latAt_not hlt (by omega))
        have hput := Lib.hid (born_put hbn hlt (by omega))
        have t1 : (l[k].ev.kind == 1) = false := by rw [k1]; rfl
        have t3 : (l[k].ev.kind == 3) = true := by rw [k1]; rfl
        have t5 : (l[k].ev.kind == 5) = false := by rw [k1]; rfl
        have hj := slot_spec (l := l) (k := k) hslot
        have hj1 := hj.1
        have cj := (hB.cell 2).trans hj.2
        have hcn := cnt_take_le l l[k].ev.kind k
        clear hj
        clear k1
        have hcall := counter_any g7 l[k].ev.kind
        rw [hslot] at hcall
        simp only [slotV] at hcall
        have Hcall := Lib.hid hcall
        have Hslot := Lib.hid hslot
        clear hcall hslot
        go_wp2_with fail
        refine (Hcall.out _).mono ?_; rintro e w2 ⟨rfl, rfl⟩
        go_wp2_with (first
          | (at_mapUpdate; refine wpList_mapUpdate_own _ rfl _ _ _ 93 rfl 3 3 mapLaw Tryz.underlying93 _ (g7 + 1) k D rfl (by repeat' (first | (with_reducible exact hown) | (with_reducible refine World.ownsMap.setCell ?_ (by first | omega | (simp <;> omega)) _) | (with_reducible refine World.ownsMap.alloc ?_ _))) (by unfold maxLen; omega) _ _ (.int .i64 l[k].ev.task) rfl rfl (keyOf_int_mk Tryz.underlying3 (WalkArith.wf_i64 hw)) (.lit (.int .i64 l[k].at_)) [] (plainElem_int Tryz.underlying3 (WalkArith.wf_i64 (by omega))) ?_; intro w2 hown2 hg2))
        go_roundw
        case rel => exact ⟨k + 1, by omega, by go_num, Below.grown (by repeat' (first | (with_reducible exact hinv.below) | (with_reducible refine Below.setCell ?_ (by first | omega | (simp <;> omega)) _) | (with_reducible refine Below.alloc ?_ (by first | omega | (simp <;> omega)) _))) hg2 (by first | omega | (simp <;> omega)) (fun j hj => by cases hj; omega), (Blk.grown (by repeat' (first | (with_reducible exact hB) | (with_reducible refine Blk.set_ ?_ _ _) | (with_reducible refine Blk.alloc ?_ _))) hg2 (by simp)).of_eq (fig_bump hlt Hslot.out hlat.out), _, hown2, hput.out⟩
        case measure => simp [intOf] <;> omega
      by_cases k5 : l[k].ev.kind = 5
      · skip
        have hslot : slotOf l[k].ev.kind = some 4 := by rw [k5]; rfl
        have hkeep := Lib.hid (born_keep hbn hlt (by omega))
        have h5 := Lib.hid k5
        have t1 : (l[k].ev.kind == 1) = false := by rw [k5]; rfl
        have t3 : (l[k].ev.kind == 3) = false := by rw [k5]; rfl
        have t5 : (l[k].ev.kind == 5) = true := by rw [k5]; rfl
        have hj := slot_spec (l := l) (k := k) hslot
        have hj1 := hj.1
        have cj := (hB.cell 4).trans hj.2
        have hcn := cnt_take_le l l[k].ev.kind k
        clear hj
        have hbt := hbn.2 l[k].ev.task
        cases hbo : bornAt l l[k].ev.task k with
        | none =>
          have hlat := Lib.hid (latAt_none hlt k5 hbo)
          have hhas : has D (.int .i64 l[k].ev.task) = false := by rw [hbt.1, hbo]; rfl
          clear k5 hbt hbo k1 k3
          have hcall := counter_any g7 l[k].ev.kind
          rw [hslot] at hcall
          simp only [slotV] at hcall
          have Hcall := Lib.hid hcall
          have Hslot := Lib.hid hslot
          clear hcall hslot
          go_wp2_with fail
          refine (Hcall.out _).mono ?_; rintro e w2 ⟨rfl, rfl⟩
          go_wp2_with (first
            | (at_lookup; refine wpList_lookup_own_ok_int _ rfl _ _ 93 rfl 3 3 .i64 mapLaw Tryz.underlying93 Tryz.underlying3 (zeroInt _) (g7 + 1) k D rfl (by repeat' (first | (with_reducible exact hown) | (with_reducible refine World.ownsMap.setCell ?_ (by first | omega | (simp <;> omega)) _) | (with_reducible refine World.ownsMap.alloc ?_ _))) _ (.int .i64 l[k].ev.task) rfl (keyOf_int_mk Tryz.underlying3 (WalkArith.wf_i64 hw)) ?_; intro cv hat hwc; rw [hhas]; clear hat hwc))
          go_roundw
          case rel => exact ⟨k + 1, by omega, by go_num, by repeat' (first | (with_reducible exact hinv.below) | (with_reducible refine Below.setCell ?_ (by first | omega | (simp <;> omega)) _) | (with_reducible refine Below.alloc ?_ (by first | omega | (simp <;> omega)) _)), Blk.of_eq (by repeat' (first | (with_reducible exact hB) | (with_reducible refine Blk.set_ ?_ _ _) | (with_reducible refine Blk.alloc ?_ _))) (fig_bump hlt Hslot.out hlat.out), _, World.ownsMap.mono (n := k) (by repeat' (first | (with_reducible exact hown) | (with_reducible refine World.ownsMap.setCell ?_ (by first | omega | (simp <;> omega)) _) | (with_reducible refine World.ownsMap.alloc ?_ _))) (by omega), hkeep.out⟩
          case measure => simp [intOf] <;> omega
        | some v =>
          have hlat := Lib.hid (latAt_some hlt k5 hbo)
          have hhas : has D (.int .i64 l[k].ev.task) = true := by rw [hbt.1, hbo]; rfl
          have hfs : Hid ((((figP l k).setIfInBounds 4 (.int .i64 ((cnt (l.take k) l[k].ev.kind : Int) + 1))).setIfInBounds 11 (.int .i64 (latSum l k + (l[k].at_ - v)))).setIfInBounds 12 (.int .i64 (if latMax l k < l[k].at_ - v then l[k].at_ - v else latMax l k)) = figP l (k + 1)) := by
            have := fig_start hlt k5 hlat.out
            rw [← k5] at this
            exact this
          have hval := Lib.hid (hbt.2 v hbo (.lit (.int .i64 0)))
          have hv := bornAt_rng hr hbo
          clear k5 hbt hbo k1 k3
          have hcall := counter_any g7 l[k].ev.kind
          rw [hslot] at hcall
          simp only [slotV] at hcall
          have Hcall := Lib.hid hcall
          have Hslot := Lib.hid hslot
          clear hcall hslot
          go_wp2_with fail
          refine (Hcall.out _).mono ?_; rintro e w2 ⟨rfl, rfl⟩
          go_wp2_with (first
            | (at_lookup; refine wpList_lookup_own_ok_int _ rfl _ _ 93 rfl 3 3 .i64 mapLaw Tryz.underlying93 Tryz.underlying3 (zeroInt _) (g7 + 1) k D rfl (by repeat' (first | (with_reducible exact hown) | (with_reducible refine World.ownsMap.setCell ?_ (by first | omega | (simp <;> omega)) _) | (with_reducible refine World.ownsMap.alloc ?_ _))) _ (.int .i64 l[k].ev.task) rfl (keyOf_int_mk Tryz.underlying3 (WalkArith.wf_i64 hw)) ?_; intro cv hat hwc; rw [hhas]; have hcv : cv = v := (by have := hat.symm.trans hval.out; injection this with this; injection this with _ this); subst hcv; clear hat hwc))
          go_roundw
          case rel => exact ⟨k + 1, by omega, by go_num, by repeat' (first | (with_reducible exact hinv.below) | (with_reducible refine Below.setCell ?_ (by first | omega | (simp <;> omega)) _) | (with_reducible refine Below.alloc ?_ (by first | omega | (simp <;> omega)) _)), Blk.of_eq (by repeat' (first | (with_reducible exact hB) | (with_reducible refine Blk.set_ ?_ _ _) | (with_reducible refine Blk.alloc ?_ _))) hfs.out, _, World.ownsMap.mono (n := k) (by repeat' (first | (with_reducible exact hown) | (with_reducible refine World.ownsMap.setCell ?_ (by first | omega | (simp <;> omega)) _) | (with_reducible refine World.ownsMap.alloc ?_ _))) (by omega), hkeep.out⟩
          case measure => simp [intOf] <;> omega
      have hlat := Lib.hid (latAt_not hlt k5)
      have hkeep := Lib.hid (born_keep hbn hlt (by omega))
      cases hslot : slotOf l[k].ev.kind with
      | some j =>
        have t1 : (l[k].ev.kind == 1) = false := by simp only [beq_eq_false_iff_ne]; assumption
        have t3 : (l[k].ev.kind == 3) = false := by simp only [beq_eq_false_iff_ne]; assumption
        have t5 : (l[k].ev.kind == 5) = false := by simp only [beq_eq_false_iff_ne]; assumption
        have hj := slot_spec (l := l) (k := k) hslot
        have hj1 := hj.1
        have cj := (hB.cell j).trans hj.2
        have hcn := cnt_take_le l l[k].ev.kind k
        clear hj
        clear k1 k3 k5
        have hcall := counter_any g7 l[k].ev.kind
        rw [hslot] at hcall
        simp only [slotV] at hcall
        have Hcall := Lib.hid hcall
        have Hslot := Lib.hid hslot
        clear hcall hslot
        go_wp2_with fail
        refine (Hcall.out _).mono ?_; rintro e w2 ⟨rfl, rfl⟩
        go_wp2_with fail
        go_roundw
        case rel => exact ⟨k + 1, by omega, by go_num, by repeat' (first | (with_reducible exact hinv.below) | (with_reducible refine Below.setCell ?_ (by first | omega | (simp <;> omega)) _) | (with_reducible refine Below.alloc ?_ (by first | omega | (simp <;> omega)) _)), Blk.of_eq (by repeat' (first | (with_reducible exact hB) | (with_reducible refine Blk.set_ ?_ _ _) | (with_reducible refine Blk.alloc ?_ _))) (fig_bump hlt Hslot.out hlat.out), _, World.ownsMap.mono (n := k) (by repeat' (first | (with_reducible exact hown) | (with_reducible refine World.ownsMap.setCell ?_ (by first | omega | (simp <;> omega)) _) | (with_reducible refine World.ownsMap.alloc ?_ _))) (by omega), hkeep.out⟩
        case measure => simp [intOf] <;> omega
      | none =>
        have t1 : (l[k].ev.kind == 1) = false := by simp only [beq_eq_false_iff_ne]; assumption
        have t3 : (l[k].ev.kind == 3) = false := by simp only [beq_eq_false_iff_ne]; assumption
        have t5 : (l[k].ev.kind == 5) = false := by simp only [beq_eq_false_iff_ne]; assumption
        have Hsame := Lib.hid (fig_same hlt hslot hlat.out)
        clear k1 k3 k5
        have hcall := counter_any g7 l[k].ev.kind
        rw [hslot] at hcall
        simp only [slotV] at hcall
        have Hcall := Lib.hid hcall
        have Hslot := Lib.hid hslot
        clear hcall hslot
        go_wp2_with fail
        refine (Hcall.out _).mono ?_; rintro e w2 ⟨rfl, rfl⟩
        go_wp2_with fail
        go_roundw
        case rel => exact ⟨k + 1, by omega, by go_num, by repeat' (first | (with_reducible exact hinv.below) | (with_reducible refine Below.setCell ?_ (by first | omega | (simp <;> omega)) _) | (with_reducible refine Below.alloc ?_ (by first | omega | (simp <;> omega)) _)), Blk.of_eq (by repeat' (first | (with_reducible exact hB) | (with_reducible refine Blk.set_ ?_ _ _) | (with_reducible refine Blk.alloc ?_ _))) Hsame.out, _, World.ownsMap.mono (n := k) (by repeat' (first | (with_reducible exact hown) | (with_reducible refine World.ownsMap.setCell ?_ (by first | omega | (simp <;> omega)) _) | (with_reducible refine World.ownsMap.alloc ?_ _))) (by omega), hkeep.out⟩
        case measure => simp [intOf] <;> omega
    · have e : k = l.length := by omega
      subst e
      have hc7 := hB.cell
      obtain ⟨hcs, hfz⟩ := bcell hinv.below
      go_wp2_with fail
      exact bodyPost_ret (v := .tuple #[figV l l.length, .int .i64 0]) (by simp [results, Tryz.results18, go_sem, hcs]) rfl ⟨by rw [Hfin.out], by repeat' (first | (with_reducible exact hbw) | (with_reducible refine Below.setCell ?_ (by simp) _))⟩
end Go.Proofs.YtpbkelpokpglaaaGreat
