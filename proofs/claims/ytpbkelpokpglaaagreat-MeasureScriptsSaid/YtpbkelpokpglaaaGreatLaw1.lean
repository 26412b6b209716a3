/- Walks: the statements' helpers of law 35: agree. -/
import Derived.Test.YtpbkelpokpglaaaGreatMeas8
import Derived.Test.YtpbkelpokpglaaaGreatDec3
set_option linter.all false
namespace Go.Proofs.YtpbkelpokpglaaaGreat
open Go.RowKit
def shOut (c : Cfg) (l : List St) : List Int := if measErr c l = 0 then shL c l else []
def buOut (c : Cfg) (l : List St) : Int := if measErr c l = 0 then gI (shL c l) (shL c l).length else 0
section
variable (c : Cfg) (p : CfgAt) (A : Option Addr) (cap : Nat) (l : List St) (w : World) (hc : CfgIn w w.heap.size c p) (hl : Sl St.enc 6 w w.heap.size A l) (hn : l.length ≤ 1048576)
include hc hl hn
theorem shares_any : Calls Tryz.prog 31 #[cfgV c p, .slice A l.length cap] w fun e w' => (∃ A' cap', e = .returned (.tuple #[.slice A' (shOut c l).length cap', .int .i64 (measErr c l)]) ∧ Sl encInt 1 w' w'.heap.size A' (shOut c l)) ∧ Below w.heap.size w w' := by
  by_cases he : measErr c l = 0
  · refine (shares_ok c p A cap l w hc hl hn he).mono ?_
    rintro e w' ⟨⟨g, rfl, hg, hB⟩, hb⟩
    refine ⟨⟨some ⟨g, 0, none⟩, c.workers.toNat, ?_, ?_⟩, hb⟩
    · rw [shOut, if_pos he, shL_len, he]
    · rw [shOut, if_pos he]; exact sl_of_blk hB (workers_of he).2
  · refine (shares_err c p A cap l w hc hl he).mono ?_
    rintro e w' ⟨rfl, hb⟩
    refine ⟨⟨none, 0, ?_, ?_⟩, hb⟩
    · rw [shOut, if_neg he]; rfl
    · rw [shOut, if_neg he]; exact Sl.nil
theorem refShares_any : Calls Tryz.prog 35 #[cfgV c p, .slice A l.length cap] w fun e w' => (∃ A' cap', e = .returned (.tuple #[.slice A' (shOut c l).length cap', .int .i64 (measErr c l)]) ∧ Sl encInt 1 w' w'.heap.size A' (shOut c l)) ∧ Below w.heap.size w w' := by
  by_cases he : measErr c l = 0
  · refine (refShares_ok c p A cap l w hc hl hn he).mono ?_
    rintro e w' ⟨⟨g, rfl, hg, hB⟩, hb⟩
    refine ⟨⟨some ⟨g, 0, none⟩, c.workers.toNat, ?_, ?_⟩, hb⟩
    · rw [shOut, if_pos he, shL_len, he]
    · rw [shOut, if_pos he]; exact sl_of_blk hB (workers_of he).2
  · refine (refShares_err c p A cap l w hc hl he).mono ?_
    rintro e w' ⟨rfl, hb⟩
    refine ⟨⟨none, 0, ?_, ?_⟩, hb⟩
    · rw [shOut, if_neg he]; rfl
    · rw [shOut, if_neg he]; exact Sl.nil
theorem busiest_any : Calls Tryz.prog 32 #[cfgV c p, .slice A l.length cap] w fun e w' => e = .returned (.tuple #[.int .i64 (buOut c l), .int .i64 (measErr c l)]) ∧ Below w.heap.size w w' := by
  by_cases he : measErr c l = 0
  · refine (busiest_ok c p A cap l w hc hl hn he).mono ?_
    rintro e w' ⟨rfl, hb⟩
    exact ⟨by rw [buOut, if_pos he, he], hb⟩
  · refine (busiest_err c p A cap l w hc hl he).mono ?_
    rintro e w' ⟨rfl, hb⟩
    exact ⟨by rw [buOut, if_neg he], hb⟩
theorem refBusiest_any : Calls Tryz.prog 36 #[cfgV c p, .slice A l.length cap] w fun e w' => e = .returned (.tuple #[.int .i64 (buOut c l), .int .i64 (measErr c l)]) ∧ Below w.heap.size w w' := by
  by_cases he : measErr c l = 0
  · refine (refBusiest_ok c p A cap l w hc hl hn he).mono ?_
    rintro e w' ⟨rfl, hb⟩
    exact ⟨by rw [buOut, if_pos he, he], hb⟩
  · refine (refBusiest_err c p A cap l w hc hl he).mono ?_
    rintro e w' ⟨rfl, hb⟩
    exact ⟨by rw [buOut, if_neg he], hb⟩
end
@[reducible] def figC (f0 f1 f2 f3 f4 f5 f6 f7 f8 f9 f10 f11 f12 : Int) : Array Value := #[.int .i64 f0, .int .i64 f1, .int .i64 f2, .int .i64 f3, .int .i64 f4, .int .i64 f5, .int .i64 f6, .int .i64 f7, .int .i64 f8, .int .i64 f9, .int .i64 f10, .int .i64 f11, .int .i64 f12]
theorem ofV_some (c : Cfg) (l : List St) : ∃ f0 f1 f2 f3 f4 f5 f6 f7 f8 f9 f10 f11 f12 : Int, ofV c l = .tuple #[.agg (figC f0 f1 f2 f3 f4 f5 f6 f7 f8 f9 f10 f11 f12), .int .i64 (measErr c l)] := by
  by_cases he : measErr c l = 0
  · exact ⟨_, _, _, _, _, _, _, _, _, _, _, _, _, by rw [ofV, if_pos he, he]⟩
  · exact ⟨_, _, _, _, _, _, _, _, _, _, _, _, _, by rw [ofV, if_neg he]⟩
theorem below_step {w W w1 : World} (h : Below w.heap.size w W) (hb : Below W.heap.size W w1) (o : Obj) : Below w.heap.size w (w1.alloc o) := (below_next h hb).alloc (Nat.le_trans h.size hb.size) o
set_option maxRecDepth 100000 in
set_option maxHeartbeats 2000000 in
theorem agree_any (c : Cfg) (p : CfgAt) (A : Option Addr) (cap : Nat) (l : List St) (w : World) (hc : CfgIn w w.heap.size c p) (hl : Sl St.enc 6 w w.heap.size A l) (hn : l.length ≤ 1048576) (hwf : StWf l) :
    Calls Tryz.prog 15 #[cfgV c p, .slice A l.length cap] w fun e w' => e = .returned (.bool true) ∧ Below w.heap.size w w' := by
  obtain ⟨f0, f1, f2, f3, f4, f5, f6, f7, f8, f9, f10, f11, f12, hof⟩ := ofV_some c l
  replace hof := Lib.hid hof
  have hB0 : Below w.heap.size w (w.alloc (cfgBox c p)) := (Below.refl _ _).alloc (Nat.le_refl _) _
  have hK0 : Blk (w.alloc (cfgBox c p)) w.heap.size 28 (cfgC c.workers c.levels c.classes c.tasks c.deque c.heap c.batch c.age c.patience (.slice p.pa c.progs.length p.pc) (.slice p.sa c.subs.length p.sc)) := Blk.new _ _ _
  unfold cfgV
  go_enter Tryz.func15, Tryz.ntmps15
  go_wp2_with fail
  refine (of_any c p A cap l _ (hc.up hB0) (hl.up hB0) hn hwf).mono ?_; rintro e w1 ⟨rfl, hb⟩
  have hB1 := below_step hB0 hb (.cells (figC f0 f1 f2 f3 f4 f5 f6 f7 f8 f9 f10 f11 f12) 44)
  have hK := hK0.below hb hK0.lt
  have hK1 := hK.alloc (.cells (figC f0 f1 f2 f3 f4 f5 f6 f7 f8 f9 f10 f11 f12) 44)
  have hF1 := Blk.new w1 44 (figC f0 f1 f2 f3 f4 f5 f6 f7 f8 f9 f10 f11 f12)
  have hcs := hK.cell
  have hz := hK.lt
  clear hb hB0 hK0 hK
  rw [hof.out]
  go_wp2_with fail
  clear hcs
  obtain ⟨ga, hga⟩ : ∃ g, g = w1.heap.size := ⟨_, rfl⟩
  simp only [← hga] at hF1 hz ⊢
  clear hga
  refine (refOf_any c p A cap l _ (hc.up hB1) (hl.up hB1) hn).mono ?_; rintro e w2 ⟨rfl, hb⟩
  have hB2 := below_step hB1 hb (.cells (figC f0 f1 f2 f3 f4 f5 f6 f7 f8 f9 f10 f11 f12) 44)
  have hK := hK1.below hb hK1.lt
  have hK2 := hK.alloc (.cells (figC f0 f1 f2 f3 f4 f5 f6 f7 f8 f9 f10 f11 f12) 44)
  have hF := hF1.below hb hF1.lt
  have hF2 := hF.alloc (.cells (figC f0 f1 f2 f3 f4 f5 f6 f7 f8 f9 f10 f11 f12) 44)
  have hG2 := Blk.new w2 44 (figC f0 f1 f2 f3 f4 f5 f6 f7 f8 f9 f10 f11 f12)
  have hcs := hK.cell
  have hz2 := hF.lt
  have hz3 := hK.lt
  clear hb hB1 hK1 hK hF hF1
  rw [hof.out]
  go_wp2_with fail
  clear hcs hz3
  obtain ⟨gb, hgb⟩ : ∃ g, g = w2.heap.size := ⟨_, rfl⟩
  simp only [← hgb] at hG2 hz2 ⊢
  clear hgb
  refine (shares_any c p A cap l _ (hc.up hB2) (hl.up hB2) hn).mono ?_; rintro e w3 ⟨⟨A1, c1, rfl, hS3⟩, hb⟩
  have hB3 := below_next hB2 hb
  have hK3 := hK2.below hb hK2.lt
  have hF3 := hF2.below hb hF2.lt
  have hG3 := hG2.below hb hG2.lt
  have hcs := hK3.cell
  clear hb hB2 hK2 hF2 hG2
  go_wp2_with fail
  clear hcs
  refine (refShares_any c p A cap l _ (hc.up hB3) (hl.up hB3) hn).mono ?_; rintro e w4 ⟨⟨A2, c2, rfl, hT4⟩, hb⟩
  have hB4 := below_next hB3 hb
  have hK4 := hK3.below hb hK3.lt
  have hF4 := hF3.below hb hF3.lt
  have hG4 := hG3.below hb hG3.lt
  have hS4 := hS3.up hb
  have hcs := hK4.cell
  clear hb hB3 hK3 hF3 hG3 hS3
  go_wp2_with fail
  clear hcs
  refine (busiest_any c p A cap l _ (hc.up hB4) (hl.up hB4) hn).mono ?_; rintro e w5 ⟨rfl, hb⟩
  have hB5 := below_next hB4 hb
  have hK5 := hK4.below hb hK4.lt
  have hF5 := hF4.below hb hF4.lt
  have hG5 := hG4.below hb hG4.lt
  have hS5 := hS4.up hb
  have hT5 := hT4.up hb
  have hcs := hK5.cell
  clear hb hB4 hK4 hF4 hG4 hS4 hT4
  go_wp2_with fail
  clear hcs
  refine (refBusiest_any c p A cap l _ (hc.up hB5) (hl.up hB5) hn).mono ?_; rintro e w6 ⟨rfl, hb⟩
  have hB6 := below_next hB5 hb
  have hF6 := hF5.below hb hF5.lt
  have hG6 := hG5.below hb hG5.lt
  have hS6 := hS5.up hb
  have hT6 := hT5.up hb
  have hcf := hF6.cell
  have hcg := hG6.cell
  clear hb hB5 hK5 hF5 hG5 hS5 hT5 hF6 hG6
  go_wp2_with fail
  clear hcf hcg
  refine (ints_any A1 A2 c1 c2 (shOut c l) (shOut c l) _ hS6 hT6).mono ?_; rintro e w7 ⟨rfl, hb⟩
  have hB7 := below_next hB6 hb
  clear hb hB6 hS6 hT6
  go_wp2
  go_ret
  exact ⟨by simp, hB7⟩
end Go.Proofs.YtpbkelpokpglaaaGreat
