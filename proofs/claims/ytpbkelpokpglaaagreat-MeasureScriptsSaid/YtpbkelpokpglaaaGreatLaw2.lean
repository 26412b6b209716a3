/- Walks: law 35's awake. -/
import Derived.Test.YtpbkelpokpglaaaGreatLaw1
import Derived.Test.YtpbkelpokpglaaaGreatKeep2
set_option linter.all false
namespace Go.Proofs.YtpbkelpokpglaaaGreat
open Go.RowKit
def awB : List Nat := [0, 0, 0, 3]
def awL : List St := [⟨5, ⟨3, 0, 1, 0, 0⟩⟩, ⟨9, ⟨5, 0, 1, 0, 0⟩⟩]
theorem aw_err : measErr (decode awB) awL = 0 := by decide
theorem aw_of : ofV (decode awB) awL = .tuple #[.agg (figC 0 0 1 0 1 0 0 0 0 0 0 4 4), .int .i64 0] := by
  rw [ofV, if_pos aw_err]; rfl
theorem aw_sh : shOut (decode awB) awL = [1] := by rw [shOut, if_pos aw_err]; decide
theorem aw_bu : buOut (decode awB) awL = 0 := by rw [buOut, if_pos aw_err]; decide
theorem aw_bytes : BytesWf awB := by
  intro i
  match i with
  | 0 => decide
  | 1 => decide
  | 2 => decide
  | 3 => decide
  | n + 4 => simp [byt, awB, List.getD]
theorem aw_st : StWf awL := by
  intro k hk
  match k, hk with
  | 0, _ => simp [awL]
  | 1, _ => simp [awL]
set_option maxRecDepth 100000 in
set_option maxHeartbeats 2000000 in
theorem awake_any (w : World) : Calls Tryz.prog 14 #[] w fun e w' => e = .returned (.bool true) ∧ Below w.heap.size w w' := by
  have hB0 : Below w.heap.size w (w.alloc (.cells #[.int .u8 0, .int .u8 0, .int .u8 0, .int .u8 3] 5)) := (Below.refl _ _).alloc (Nat.le_refl _) _
  have hbs : Sl encByte 1 (w.alloc (.cells #[.int .u8 0, .int .u8 0, .int .u8 0, .int .u8 3] 5)) (w.alloc (.cells #[.int .u8 0, .int .u8 0, .int .u8 0, .int .u8 3] 5)).heap.size (some ⟨w.heap.size, 0, none⟩) awB :=
    sl_blk (enc := encByte) (sz := 1) (xs := awB) (fun _ => rfl) (Blk.new w 5 #[.int .u8 0, .int .u8 0, .int .u8 0, .int .u8 3]) rfl (by decide)
  go_enter Tryz.func14, Tryz.ntmps14
  go_wp2_with fail
  refine (config_any _ 4 awB _ hbs aw_bytes).mono ?_; rintro e w1 ⟨⟨p, rfl, hc⟩, hb⟩
  obtain ⟨c, hcc⟩ : ∃ c, c = decode awB := ⟨_, rfl⟩
  rw [← hcc] at hc ⊢
  have he : Hid (measErr c awL = 0) := by rw [hcc]; exact aw_err
  have hof : Hid (ofV c awL = .tuple #[.agg (figC 0 0 1 0 1 0 0 0 0 0 0 4 4), .int .i64 0]) := by rw [hcc]; exact aw_of
  have hsh : Hid (shOut c awL = [1]) := by rw [hcc]; exact aw_sh
  have hbu : Hid (buOut c awL = 0) := by rw [hcc]; exact aw_bu
  clear hcc
  have hB1 := (below_step hB0 hb (.cells (cfgC c.workers c.levels c.classes c.tasks c.deque c.heap c.batch c.age c.patience (.slice p.pa c.progs.length p.pc) (.slice p.sa c.subs.length p.sc)) 28))
  have hK1 := Blk.new w1 28 (cfgC c.workers c.levels c.classes c.tasks c.deque c.heap c.batch c.age c.patience (.slice p.pa c.progs.length p.pc) (.slice p.sa c.subs.length p.sc))
  have hc1 := hc.up ((Below.refl w1.heap.size w1).alloc (Nat.le_refl _) (.cells (cfgC c.workers c.levels c.classes c.tasks c.deque c.heap c.batch c.age c.patience (.slice p.pa c.progs.length p.pc) (.slice p.sa c.subs.length p.sc)) 28))
  clear hb hB0 hbs hc
  unfold cfgV
  go_wp2_with fail
  obtain ⟨W1, hW1⟩ : ∃ W, W = w1.alloc (.cells (cfgC c.workers c.levels c.classes c.tasks c.deque c.heap c.batch c.age c.patience (.slice p.pa c.progs.length p.pc) (.slice p.sa c.subs.length p.sc)) 28) := ⟨_, rfl⟩
  have hs1 : w1.heap.size + 1 = W1.heap.size := by rw [hW1]; simp
  simp only [← hW1] at hB1 hK1 hc1 ⊢
  clear hW1
  simp only [hs1]
  clear hs1
  have hE : Below W1.heap.size W1 (W1.alloc (.cells #[.int .i64 5, .int .i64 3, .int .i64 0, .int .i64 1, .int .i64 0, .int .i64 0, .int .i64 9, .int .i64 5, .int .i64 0, .int .i64 1, .int .i64 0, .int .i64 0] 85)) := (Below.refl _ _).alloc (Nat.le_refl _) _
  have hl2 : Sl St.enc 6 (W1.alloc (.cells #[.int .i64 5, .int .i64 3, .int .i64 0, .int .i64 1, .int .i64 0, .int .i64 0, .int .i64 9, .int .i64 5, .int .i64 0, .int .i64 1, .int .i64 0, .int .i64 0] 85)) (W1.alloc (.cells #[.int .i64 5, .int .i64 3, .int .i64 0, .int .i64 1, .int .i64 0, .int .i64 0, .int .i64 9, .int .i64 5, .int .i64 0, .int .i64 1, .int .i64 0, .int .i64 0] 85)).heap.size (some ⟨W1.heap.size, 0, none⟩) awL := sl_blk (enc := St.enc) (sz := 6) (xs := awL) (fun _ => rfl) (Blk.new W1 _ _) rfl (by decide)
  have hB2 := below_next hB1 hE
  have hc2 := hc1.up hE
  have hK2 := hK1.alloc (.cells #[.int .i64 5, .int .i64 3, .int .i64 0, .int .i64 1, .int .i64 0, .int .i64 0, .int .i64 9, .int .i64 5, .int .i64 0, .int .i64 1, .int .i64 0, .int .i64 0] 85)
  clear hE hB1 hc1 hK1
  refine (of_any c p _ 2 awL _ hc2 hl2 (by decide) aw_st).mono ?_; rintro e w3 ⟨rfl, hb⟩
  rw [hof.out]
  have hK3 := hK2.below hb hK2.lt
  have hb' := hb.alloc hb.size (.cells (figC 0 0 1 0 1 0 0 0 0 0 0 4 4) 44)
  have hB4 := below_next hB2 hb'
  have hc4 := hc2.up hb'
  have hl4 := hl2.up hb'
  have hK4 := hK3.alloc (.cells (figC 0 0 1 0 1 0 0 0 0 0 0 4 4) 44)
  have hF4 := Blk.new w3 44 (figC 0 0 1 0 1 0 0 0 0 0 0 4 4)
  have hcs := hK3.cell
  have hz := hK3.lt
  clear hb hb' hB2 hc2 hl2 hK2 hK3
  go_wp2_with fail
  clear hcs hz
  refine (shares_any c p _ 2 awL _ hc4 hl4 (by decide)).mono ?_; rintro e w5 ⟨⟨A1, c1, rfl, hS5⟩, hb⟩
  rw [hsh.out, he.out]
  rw [hsh.out] at hS5
  have hK5 := hK4.below hb hK4.lt
  have hF5 := hF4.below hb hF4.lt
  have hB5 := below_next hB4 hb
  have hc5 := hc4.up hb
  have hl5 := hl4.up hb
  have hcs := hK5.cell
  clear hb hB4 hc4 hl4 hK4 hF4
  go_wp2_with fail
  clear hcs
  refine (busiest_any c p _ 2 awL _ hc5 hl5 (by decide)).mono ?_; rintro e w6 ⟨rfl, hb⟩
  rw [hbu.out, he.out]
  have hF6 := hF5.below hb hF5.lt
  have hB6 := below_next hB5 hb
  have hS6 := hS5.up hb
  have hcf := hF6.cell
  clear hb hB5 hc5 hl5 hK5 hF5 hS5
  go_wp2_with fail
  clear hcf hF6
  have hE : Below w6.heap.size w6 (w6.alloc (.cells #[.int .i64 1] 3)) := (Below.refl _ _).alloc (Nat.le_refl _) _
  refine (ints_any A1 _ c1 1 [1] [1] _ (hS6.up hE) (sl_blk (enc := encInt) (sz := 1) (xs := [1]) (fun _ => rfl) (Blk.new w6 _ _) rfl (by decide))).mono ?_; rintro e w7 ⟨rfl, hb⟩
  have hB7 := below_next (below_next hB6 hE) hb
  clear hb hE hB6 hS6
  go_wp2
  go_ret
  exact ⟨by simp, hB7⟩
end Go.Proofs.YtpbkelpokpglaaaGreat
