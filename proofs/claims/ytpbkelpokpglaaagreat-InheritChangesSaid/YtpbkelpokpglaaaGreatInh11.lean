/- Walks: law 30's events with small numbers, and its comparison. -/
import Derived.Test.YtpbkelpokpglaaaGreatInh10
set_option linter.all false
namespace Go.Proofs.YtpbkelpokpglaaaGreat
open Go.RowKit Go.Maps
theorem ints_same {A A' : Option Addr} {cap cap' : Nat} {xs : List Int} {w : World} (hx : Sl encInt 1 w w.heap.size A xs) (hy : Sl encInt 1 w w.heap.size A' xs) :
    Calls Tryz.prog 33 #[.slice A xs.length cap, .slice A' xs.length cap'] w fun e w' => e = .returned (.bool true) ∧ Below w.heap.size w w' :=
  (ints_any A A' cap cap' xs xs w hx hy).mono fun _ _ ⟨h1, h2⟩ => ⟨by rw [h1]; simp, h2⟩
theorem cfgS {w' : World} {b0 : Nat} {c : Cfg} {p : CfgAt} (h : Blk w' b0 28 (cfgC c.workers c.levels c.classes c.tasks c.deque c.heap c.batch c.age c.patience (.slice p.pa c.progs.length p.pc) (.slice p.sa c.subs.length p.sc))) : w'.cell? ⟨b0, 0, none⟩ = some (.int .i64 c.workers) ∧ w'.cell? ⟨b0, 1, none⟩ = some (.int .i64 c.levels) ∧ w'.cell? ⟨b0, 2, none⟩ = some (.int .i64 c.classes) ∧ w'.cell? ⟨b0, 3, none⟩ = some (.int .i64 c.tasks) ∧ w'.cell? ⟨b0, 4, none⟩ = some (.int .i64 c.deque) ∧ w'.cell? ⟨b0, 5, none⟩ = some (.int .i64 c.heap) ∧ w'.cell? ⟨b0, 6, none⟩ = some (.int .i64 c.batch) ∧ w'.cell? ⟨b0, 7, none⟩ = some (.int .i64 c.age) ∧ w'.cell? ⟨b0, 8, none⟩ = some (.int .i64 c.patience) ∧ w'.cell? ⟨b0, 9, none⟩ = some (.slice p.pa c.progs.length p.pc) ∧ w'.cell? ⟨b0, 10, none⟩ = some (.slice p.sa c.subs.length p.sc) := ⟨h.cell 0, h.cell 1, h.cell 2, h.cell 3, h.cell 4, h.cell 5, h.cell 6, h.cell 7, h.cell 8, h.cell 9, h.cell 10⟩
theorem Sl.drew {α : Type} {enc : α → List Value} {sz : Nat} {w : World} {B : Nat} {A : Option Addr} {xs : List α} (h : Sl enc sz w B A xs) : Sl enc sz w.drew B A xs := h
set_option maxRecDepth 100000 in
set_option maxHeartbeats 4000000 in
theorem agreeI_any (c : Cfg) (p : CfgAt) (A : Option Addr) (cap : Nat) (l : List Ev) (w : World) (hc : CfgIn w w.heap.size c p) (hl : Sl Ev.enc 5 w w.heap.size A l) (hn : l.length ≤ 1000000) (hwf : EvsOk l) :
    Calls Tryz.prog 21 #[cfgV c p, .slice A l.length cap] w fun e w' => e = .returned (.bool true) ∧ Below w.heap.size w w' := by
  have hB0 : Below w.heap.size w (w.alloc (cfgBox c p)) := (Below.refl _ _).alloc (Nat.le_refl _) _
  have hK0 : Blk (w.alloc (cfgBox c p)) w.heap.size 28 (cfgC c.workers c.levels c.classes c.tasks c.deque c.heap c.batch c.age c.patience (.slice p.pa c.progs.length p.pc) (.slice p.sa c.subs.length p.sc)) := Blk.new _ _ _
  obtain ⟨b0, hb0⟩ : ∃ b, b = w.heap.size := ⟨_, rfl⟩
  unfold cfgV
  go_enter Tryz.func21, Tryz.ntmps21
  go_wp2_with fail
  refine (inhCheck_any c p A cap l _ (hc.up hB0) (hl.up hB0) hn hwf).mono ?_; rintro e w1 ⟨rfl, hb1⟩
  have hB1 := below_next hB0 hb1
  have hK1 := hK0.below hb1 hK0.lt
  clear hB0 hK0
  simp only [← hb0] at hK1 ⊢
  clear hb0
  have hcs := hK1.cell
  go_wp2_with fail
  clear hcs
  refine (refInhCheck_any c p A cap l _ (hc.up hB1) (hl.up hB1)).mono ?_; rintro e w2 ⟨rfl, hb2⟩
  have hB2 := below_next hB1 hb2
  have hK2 := hK1.below hb2 hK1.lt
  clear hB1 hK1 hb1 hb2
  obtain ⟨ka, hka⟩ : ∃ x, x = (chkOut c l).1 := ⟨_, rfl⟩
  obtain ⟨kb, hkb⟩ : ∃ x, x = (chkOut c l).2 := ⟨_, rfl⟩
  simp only [← hka, ← hkb]
  clear hka hkb
  go_wp2_with fail
  replace hB2 := hB2.drew
  replace hK2 : Blk w2.drew b0 28 (cfgC c.workers c.levels c.classes c.tasks c.deque c.heap c.batch c.age c.patience (.slice p.pa c.progs.length p.pc) (.slice p.sa c.subs.length p.sc)) := hK2
  have hcS := cfgS hK2
  go_region_held3 (fun w' => w'.cell? ⟨b0, 0, none⟩ = some (.int .i64 c.workers) ∧ w'.cell? ⟨b0, 1, none⟩ = some (.int .i64 c.levels) ∧ w'.cell? ⟨b0, 2, none⟩ = some (.int .i64 c.classes) ∧ w'.cell? ⟨b0, 3, none⟩ = some (.int .i64 c.tasks) ∧ w'.cell? ⟨b0, 4, none⟩ = some (.int .i64 c.deque) ∧ w'.cell? ⟨b0, 5, none⟩ = some (.int .i64 c.heap) ∧ w'.cell? ⟨b0, 6, none⟩ = some (.int .i64 c.batch) ∧ w'.cell? ⟨b0, 7, none⟩ = some (.int .i64 c.age) ∧ w'.cell? ⟨b0, 8, none⟩ = some (.int .i64 c.patience) ∧ w'.cell? ⟨b0, 9, none⟩ = some (.slice p.pa c.progs.length p.pc) ∧ w'.cell? ⟨b0, 10, none⟩ = some (.slice p.sa c.subs.length p.sc)) (exact cfgS (by first | assumption)) (first
    | (go_at_call 42; (with_reducible refine (inhFloors_any c p A cap l _ (hc.up hB2) (hl.up hB2) hn hwf).mono ?_); rintro e w3 ⟨⟨A3, q3, rfl, hs3⟩, hb3⟩; have hB3 := below_next hB2 hb3; have hK3 := hK2.below hb3 hK2.lt)
    | (go_at_call 45; (with_reducible refine (refInhFloors_any c p A cap l _ (hc.up hB3) (hl.up hB3)).mono ?_); rintro e w4 ⟨⟨A4, q4, rfl, hs4⟩, hb4⟩; have hB4 := below_next hB3 hb4; have hK4 := hK3.below hb4 hK3.lt; have hsp4 := hs3.up hb4)
    | (go_at_call 43; (with_reducible refine (inhLevels_any c p A cap l _ (hc.up hB5) (hl.up hB5) hn hwf).mono ?_); rintro e w6 ⟨⟨A6, q6, rfl, hs6⟩, hb6⟩; have hB6 := below_next hB5 hb6; have hK6 := hK5.below hb6 hK5.lt)
    | (go_at_call 46; (with_reducible refine (refInhLevels_any c p A cap l _ (hc.up hB6) (hl.up hB6)).mono ?_); rintro e w7 ⟨⟨A7, q7, rfl, hs7⟩, hb7⟩; have hB7 := below_next hB6 hb7; have hK7 := hK6.below hb7 hK6.lt; have hsp7 := hs6.up hb7)
    | (go_at_call 33; (with_reducible refine (ints_same hsp4 hs4).mono ?_); rintro e w5 ⟨rfl, hb5⟩; have hB5 := below_next hB4 hb5; have hK5 := hK4.below hb5 hK4.lt)
    | (go_at_call 33; (with_reducible refine (ints_same hsp7 hs7).mono ?_); rintro e w8 ⟨rfl, hb8⟩; have hB8 := below_next hB7 hb8; have hK8 := hK7.below hb8 hK7.lt))
  go_wp2
  go_ret
  exact ⟨rfl, by first | exact hB8 | assumption⟩
end Go.Proofs.YtpbkelpokpglaaaGreat
