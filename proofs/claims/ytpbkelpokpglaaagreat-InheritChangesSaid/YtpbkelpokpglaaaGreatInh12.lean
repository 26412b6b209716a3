/- Walk: law 30's awake. -/
import Derived.Test.YtpbkelpokpglaaaGreatInh11
set_option linter.all false
namespace Go.Proofs.YtpbkelpokpglaaaGreat
open Go.RowKit Go.Maps
abbrev evL5 : List Ev := [⟨1, 1, 0, 0, 2⟩, ⟨3, 0, 1, 0, 0⟩, ⟨6, 0, 0, 1, 0⟩, ⟨11, 0, 1, 0, 2⟩, ⟨7, 0, 0, 0, 2⟩]
abbrev evL4 : List Ev := [⟨1, 1, 0, 0, 2⟩, ⟨3, 0, 1, 0, 0⟩, ⟨6, 0, 0, 1, 0⟩, ⟨7, 0, 0, 0, 2⟩]
theorem aw_chk5 : chkOut cfg4 evL5 = (5, 0) := by decide +kernel
theorem aw_chk4 : chkOut cfg4 evL4 = (3, 6) := by decide +kernel
theorem aw_fl : flOut cfg4 evL5 = [-1, 2, -1, -1] := by decide +kernel
theorem aw_lv : lvOut cfg4 evL5 = [2, 2, -1, -1] := by decide +kernel
theorem ev5_ok : EvsOk evL5 := by
  intro k hk
  match k, hk with
  | 0, _ => simp [evL5, EvOk]
  | 1, _ => simp [evL5, EvOk]
  | 2, _ => simp [evL5, EvOk]
  | 3, _ => simp [evL5, EvOk]
  | 4, _ => simp [evL5, EvOk]
theorem ev4_ok : EvsOk evL4 := by
  intro k hk
  match k, hk with
  | 0, _ => simp [evL4, EvOk]
  | 1, _ => simp [evL4, EvOk]
  | 2, _ => simp [evL4, EvOk]
  | 3, _ => simp [evL4, EvOk]
theorem evS {w' : World} {g5 : Nat} (h : Blk w' g5 83 #[.int .i64 1, .int .i64 1, .int .i64 0, .int .i64 0, .int .i64 2, .int .i64 3, .int .i64 0, .int .i64 1, .int .i64 0, .int .i64 0, .int .i64 6, .int .i64 0, .int .i64 0, .int .i64 1, .int .i64 0, .int .i64 11, .int .i64 0, .int .i64 1, .int .i64 0, .int .i64 2, .int .i64 7, .int .i64 0, .int .i64 0, .int .i64 0, .int .i64 2]) : w'.cell? ⟨g5, 0, none⟩ = some (.int .i64 1) ∧ w'.cell? ⟨g5, 1, none⟩ = some (.int .i64 1) ∧ w'.cell? ⟨g5, 2, none⟩ = some (.int .i64 0) ∧ w'.cell? ⟨g5, 3, none⟩ = some (.int .i64 0) ∧ w'.cell? ⟨g5, 4, none⟩ = some (.int .i64 2) ∧ w'.cell? ⟨g5, 5, none⟩ = some (.int .i64 3) ∧ w'.cell? ⟨g5, 6, none⟩ = some (.int .i64 0) ∧ w'.cell? ⟨g5, 7, none⟩ = some (.int .i64 1) ∧ w'.cell? ⟨g5, 8, none⟩ = some (.int .i64 0) ∧ w'.cell? ⟨g5, 9, none⟩ = some (.int .i64 0) ∧ w'.cell? ⟨g5, 10, none⟩ = some (.int .i64 6) ∧ w'.cell? ⟨g5, 11, none⟩ = some (.int .i64 0) ∧ w'.cell? ⟨g5, 12, none⟩ = some (.int .i64 0) ∧ w'.cell? ⟨g5, 13, none⟩ = some (.int .i64 1) ∧ w'.cell? ⟨g5, 14, none⟩ = some (.int .i64 0) ∧ w'.cell? ⟨g5, 15, none⟩ = some (.int .i64 11) ∧ w'.cell? ⟨g5, 16, none⟩ = some (.int .i64 0) ∧ w'.cell? ⟨g5, 17, none⟩ = some (.int .i64 1) ∧ w'.cell? ⟨g5, 18, none⟩ = some (.int .i64 0) ∧ w'.cell? ⟨g5, 19, none⟩ = some (.int .i64 2) ∧ w'.cell? ⟨g5, 20, none⟩ = some (.int .i64 7) ∧ w'.cell? ⟨g5, 21, none⟩ = some (.int .i64 0) ∧ w'.cell? ⟨g5, 22, none⟩ = some (.int .i64 0) ∧ w'.cell? ⟨g5, 23, none⟩ = some (.int .i64 0) ∧ w'.cell? ⟨g5, 24, none⟩ = some (.int .i64 2) := ⟨h.cell 0, h.cell 1, h.cell 2, h.cell 3, h.cell 4, h.cell 5, h.cell 6, h.cell 7, h.cell 8, h.cell 9, h.cell 10, h.cell 11, h.cell 12, h.cell 13, h.cell 14, h.cell 15, h.cell 16, h.cell 17, h.cell 18, h.cell 19, h.cell 20, h.cell 21, h.cell 22, h.cell 23, h.cell 24⟩
theorem sl5 {w : World} {g : Nat} (h : Blk w g 83 #[.int .i64 1, .int .i64 1, .int .i64 0, .int .i64 0, .int .i64 2, .int .i64 3, .int .i64 0, .int .i64 1, .int .i64 0, .int .i64 0, .int .i64 6, .int .i64 0, .int .i64 0, .int .i64 1, .int .i64 0, .int .i64 11, .int .i64 0, .int .i64 1, .int .i64 0, .int .i64 2, .int .i64 7, .int .i64 0, .int .i64 0, .int .i64 0, .int .i64 2]) : Sl Ev.enc 5 w w.heap.size (some ⟨g, 0, none⟩) evL5 := sl_blk (enc := Ev.enc) (sz := 5) (xs := evL5) (fun _ => rfl) h rfl (by decide)
theorem sl4 {w : World} {g : Nat} (h : Blk w g 83 #[.int .i64 1, .int .i64 1, .int .i64 0, .int .i64 0, .int .i64 2, .int .i64 3, .int .i64 0, .int .i64 1, .int .i64 0, .int .i64 0, .int .i64 6, .int .i64 0, .int .i64 0, .int .i64 1, .int .i64 0, .int .i64 7, .int .i64 0, .int .i64 0, .int .i64 0, .int .i64 2]) : Sl Ev.enc 5 w w.heap.size (some ⟨g, 0, none⟩) evL4 := sl_blk (enc := Ev.enc) (sz := 5) (xs := evL4) (fun _ => rfl) h rfl (by decide)
set_option maxRecDepth 100000 in
set_option maxHeartbeats 4000000 in
theorem awakeI_any (w : World) : Calls Tryz.prog 20 #[] w fun e w' => e = .returned (.bool true) ∧ Below w.heap.size w w' := by
  obtain ⟨c4, hc4⟩ : ∃ c, c = cfg4 := ⟨_, rfl⟩
  have Hfour : Hid (∀ W, Calls Tryz.prog 41 #[] W (CfgPI W c4)) := by rw [Hid, hc4]; exact four_any
  have H1 : Hid (chkOut c4 evL5 = (5, 0)) := by rw [Hid, hc4]; exact aw_chk5
  have H2 : Hid (chkOut c4 evL4 = (3, 6)) := by rw [Hid, hc4]; exact aw_chk4
  have H3 : Hid (flOut c4 evL5 = [-1, 2, -1, -1]) := by rw [Hid, hc4]; exact aw_fl
  have H4 : Hid (lvOut c4 evL5 = [2, 2, -1, -1]) := by rw [Hid, hc4]; exact aw_lv
  clear hc4
  have hB0 : Below w.heap.size w (w.alloc (.cells #[.int .i64 1, .int .i64 1, .int .i64 0, .int .i64 0, .int .i64 2, .int .i64 3, .int .i64 0, .int .i64 1, .int .i64 0, .int .i64 0, .int .i64 6, .int .i64 0, .int .i64 0, .int .i64 1, .int .i64 0, .int .i64 11, .int .i64 0, .int .i64 1, .int .i64 0, .int .i64 2, .int .i64 7, .int .i64 0, .int .i64 0, .int .i64 0, .int .i64 2] 83)) := (Below.refl _ _).alloc (Nat.le_refl _) _
  have hK0 : Blk (w.alloc (.cells #[.int .i64 1, .int .i64 1, .int .i64 0, .int .i64 0, .int .i64 2, .int .i64 3, .int .i64 0, .int .i64 1, .int .i64 0, .int .i64 0, .int .i64 6, .int .i64 0, .int .i64 0, .int .i64 1, .int .i64 0, .int .i64 11, .int .i64 0, .int .i64 1, .int .i64 0, .int .i64 2, .int .i64 7, .int .i64 0, .int .i64 0, .int .i64 0, .int .i64 2] 83)) w.heap.size 83 #[.int .i64 1, .int .i64 1, .int .i64 0, .int .i64 0, .int .i64 2, .int .i64 3, .int .i64 0, .int .i64 1, .int .i64 0, .int .i64 0, .int .i64 6, .int .i64 0, .int .i64 0, .int .i64 1, .int .i64 0, .int .i64 11, .int .i64 0, .int .i64 1, .int .i64 0, .int .i64 2, .int .i64 7, .int .i64 0, .int .i64 0, .int .i64 0, .int .i64 2] := Blk.new _ _ _
  obtain ⟨g5, hg5⟩ : ∃ b, b = w.heap.size := ⟨_, rfl⟩
  go_enter Tryz.func20, Tryz.ntmps20
  go_wp2_with fail
  refine (Hfour.out _).mono ?_; rintro e w1 ⟨⟨q1, rfl, hq1⟩, hb1⟩
  have hB1 := below_next hB0 hb1
  have hK1 := hK0.below hb1 hK0.lt
  simp only [← hg5] at hK1 ⊢
  clear hg5 hB0 hK0 hb1
  go_wp2_with fail
  refine (inhCheck_any c4 q1 _ 5 evL5 _ hq1 (sl5 hK1) (by decide) ev5_ok).mono ?_; rintro e w2 ⟨rfl, hb2⟩
  rw [H1.out]
  simp only
  have hB2 := below_next hB1 hb2
  have hK2 := hK1.below hb2 hK1.lt
  clear hB1 hK1 hb2 hq1
  go_wp2_with fail
  replace hB2 := hB2.drew
  replace hK2 : Blk w2.drew g5 83 #[.int .i64 1, .int .i64 1, .int .i64 0, .int .i64 0, .int .i64 2, .int .i64 3, .int .i64 0, .int .i64 1, .int .i64 0, .int .i64 0, .int .i64 6, .int .i64 0, .int .i64 0, .int .i64 1, .int .i64 0, .int .i64 11, .int .i64 0, .int .i64 1, .int .i64 0, .int .i64 2, .int .i64 7, .int .i64 0, .int .i64 0, .int .i64 0, .int .i64 2] := hK2
  go_region_held3 (fun w' => w'.cell? ⟨g5, 0, none⟩ = some (.int .i64 1) ∧ w'.cell? ⟨g5, 1, none⟩ = some (.int .i64 1) ∧ w'.cell? ⟨g5, 2, none⟩ = some (.int .i64 0) ∧ w'.cell? ⟨g5, 3, none⟩ = some (.int .i64 0) ∧ w'.cell? ⟨g5, 4, none⟩ = some (.int .i64 2) ∧ w'.cell? ⟨g5, 5, none⟩ = some (.int .i64 3) ∧ w'.cell? ⟨g5, 6, none⟩ = some (.int .i64 0) ∧ w'.cell? ⟨g5, 7, none⟩ = some (.int .i64 1) ∧ w'.cell? ⟨g5, 8, none⟩ = some (.int .i64 0) ∧ w'.cell? ⟨g5, 9, none⟩ = some (.int .i64 0) ∧ w'.cell? ⟨g5, 10, none⟩ = some (.int .i64 6) ∧ w'.cell? ⟨g5, 11, none⟩ = some (.int .i64 0) ∧ w'.cell? ⟨g5, 12, none⟩ = some (.int .i64 0) ∧ w'.cell? ⟨g5, 13, none⟩ = some (.int .i64 1) ∧ w'.cell? ⟨g5, 14, none⟩ = some (.int .i64 0) ∧ w'.cell? ⟨g5, 15, none⟩ = some (.int .i64 11) ∧ w'.cell? ⟨g5, 16, none⟩ = some (.int .i64 0) ∧ w'.cell? ⟨g5, 17, none⟩ = some (.int .i64 1) ∧ w'.cell? ⟨g5, 18, none⟩ = some (.int .i64 0) ∧ w'.cell? ⟨g5, 19, none⟩ = some (.int .i64 2) ∧ w'.cell? ⟨g5, 20, none⟩ = some (.int .i64 7) ∧ w'.cell? ⟨g5, 21, none⟩ = some (.int .i64 0) ∧ w'.cell? ⟨g5, 22, none⟩ = some (.int .i64 0) ∧ w'.cell? ⟨g5, 23, none⟩ = some (.int .i64 0) ∧ w'.cell? ⟨g5, 24, none⟩ = some (.int .i64 2)) (exact evS (by first | assumption | exact Blk.alloc (by assumption) _)) (first
    | (go_at_call 41; refine (Hfour.out _).mono ?_; rintro e w3 ⟨⟨q3, rfl, hq3⟩, hb3⟩; have hK3 : Blk w3 g5 83 #[.int .i64 1, .int .i64 1, .int .i64 0, .int .i64 0, .int .i64 2, .int .i64 3, .int .i64 0, .int .i64 1, .int .i64 0, .int .i64 0, .int .i64 6, .int .i64 0, .int .i64 0, .int .i64 1, .int .i64 0, .int .i64 11, .int .i64 0, .int .i64 1, .int .i64 0, .int .i64 2, .int .i64 7, .int .i64 0, .int .i64 0, .int .i64 0, .int .i64 2] := (by first | exact hK2.below hb3 hK2.lt | exact (hK2.alloc _).below hb3 (hK2.alloc _).lt))
    | (go_at_call 40; refine (inhCheck_any c4 q3 _ 4 evL4 _ (by first | exact hq3 | exact hq3.up ((Below.refl _ _).alloc (Nat.le_refl _) _)) (by first | exact sl4 (Blk.new _ _ _) | exact sl4 (Blk.below (w := (w2.alloc (.cells #[.int .i64 1, .int .i64 1, .int .i64 0, .int .i64 0, .int .i64 2, .int .i64 3, .int .i64 0, .int .i64 1, .int .i64 0, .int .i64 0, .int .i64 6, .int .i64 0, .int .i64 0, .int .i64 1, .int .i64 0, .int .i64 7, .int .i64 0, .int .i64 0, .int .i64 0, .int .i64 2] 83)).drew) (Blk.new w2 83 #[.int .i64 1, .int .i64 1, .int .i64 0, .int .i64 0, .int .i64 2, .int .i64 3, .int .i64 0, .int .i64 1, .int .i64 0, .int .i64 0, .int .i64 6, .int .i64 0, .int .i64 0, .int .i64 1, .int .i64 0, .int .i64 7, .int .i64 0, .int .i64 0, .int .i64 0, .int .i64 2]) hb3 (by simp))) (by decide) ev4_ok).mono ?_; rintro e w4 ⟨rfl, hb4⟩; rw [H2.out]; simp only; have hK4 : Blk w4 g5 83 #[.int .i64 1, .int .i64 1, .int .i64 0, .int .i64 0, .int .i64 2, .int .i64 3, .int .i64 0, .int .i64 1, .int .i64 0, .int .i64 0, .int .i64 6, .int .i64 0, .int .i64 0, .int .i64 1, .int .i64 0, .int .i64 11, .int .i64 0, .int .i64 1, .int .i64 0, .int .i64 2, .int .i64 7, .int .i64 0, .int .i64 0, .int .i64 0, .int .i64 2] := (by first | exact hK3.below hb4 hK3.lt | exact (hK3.alloc _).below hb4 (hK3.alloc _).lt); have hB4 : Below w.heap.size w w4 := (by first | exact below_next (below_next hB2 hb3) hb4 | exact below_next ((below_next hB2 hb3).alloc (below_next hB2 hb3).size _) hb4 | exact below_next (below_next (hB2.alloc hB2.size _) hb3) hb4)))
  all_goals
    clear hb3 hb4 hK3 hq3 hK2 hB2
    go_wp2_with fail
    refine (Hfour.out _).mono ?_; rintro e w5 ⟨⟨q5, rfl, hq5⟩, hb5⟩
    have hB5 := below_next hB4 hb5
    have hK5 := hK4.below hb5 hK4.lt
    clear hb5 hB4 hK4
    go_wp2_with fail
    refine (inhFloors_any c4 q5 _ 5 evL5 _ hq5 (sl5 hK5) (by decide) ev5_ok).mono ?_; rintro e w6 ⟨⟨A6, p6, rfl, hs6⟩, hb6⟩
    have hB6 := below_next hB5 hb6
    have hK6 := hK5.below hb6 hK5.lt
    rw [H3.out] at hs6 ⊢
    clear hb6 hB5 hK5 hq5
    go_wp2_with fail
    have hE : Below w6.heap.size w6 (w6.alloc (.cells #[.int .i64 (-1), .int .i64 2, .int .i64 (-1), .int .i64 (-1)] 3)) := (Below.refl _ _).alloc (Nat.le_refl _) _
    refine (ints_same (hs6.up hE) (sl_blk (enc := encInt) (sz := 1) (xs := [-1, 2, -1, -1]) (fun _ => rfl) (Blk.new w6 _ _) rfl (by decide))).mono ?_; rintro e w7 ⟨rfl, hb7⟩
    have hB7 := below_next (below_next hB6 hE) hb7
    have hK7 := (hK6.alloc (.cells #[.int .i64 (-1), .int .i64 2, .int .i64 (-1), .int .i64 (-1)] 3)).below hb7 (hK6.alloc _).lt
    clear hB6 hK6 hE hb7 hs6
    go_wp2_with fail
    refine (Hfour.out _).mono ?_; rintro e w8 ⟨⟨q8, rfl, hq8⟩, hb8⟩
    have hB8 := below_next hB7 hb8
    have hK8 := hK7.below hb8 hK7.lt
    clear hb8 hB7 hK7
    go_wp2_with fail
    refine (inhLevels_any c4 q8 _ 5 evL5 _ hq8 (sl5 hK8) (by decide) ev5_ok).mono ?_; rintro e w9 ⟨⟨A9, p9, rfl, hs9⟩, hb9⟩
    have hB9 := below_next hB8 hb9
    rw [H4.out] at hs9 ⊢
    clear hb9 hB8 hK8 hq8
    go_wp2_with fail
    have hE : Below w9.heap.size w9 (w9.alloc (.cells #[.int .i64 2, .int .i64 2, .int .i64 (-1), .int .i64 (-1)] 3)) := (Below.refl _ _).alloc (Nat.le_refl _) _
    refine (ints_same (hs9.up hE) (sl_blk (enc := encInt) (sz := 1) (xs := [2, 2, -1, -1]) (fun _ => rfl) (Blk.new w9 _ _) rfl (by decide))).mono ?_; rintro e w10 ⟨rfl, hb10⟩
    have hB10 := below_next (below_next hB9 hE) hb10
    clear hb10 hE hs9 hB9
    go_wp2_with fail
    go_ret
    exact ⟨rfl, hB10⟩
end Go.Proofs.YtpbkelpokpglaaaGreat
