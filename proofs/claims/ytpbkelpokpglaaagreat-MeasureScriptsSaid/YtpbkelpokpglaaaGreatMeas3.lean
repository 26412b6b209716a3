/- Walks: Of of the reference of measure. -/
import Derived.Test.YtpbkelpokpglaaaGreatMeas2
set_option linter.all false
namespace Go.Proofs.YtpbkelpokpglaaaGreat
open Go.RowKit
/-- The figures' block in the round k of the last loop. -/
@[reducible] def figL (l : List St) (k : Nat) : Array Value := #[.int .i64 (cnt l 1), .int .i64 (cnt l 2), .int .i64 (cnt l 3), .int .i64 (cnt l 4), .int .i64 (cnt l 5), .int .i64 (cnt l 10),
  .int .i64 (cnt l 14), .int .i64 (cnt l 15), .int .i64 (cnt l 11), .int .i64 (cnt l 12), .int .i64 (cnt l 16), .int .i64 (latSum l k), .int .i64 (latMax l k)]
@[reducible] def figObj : Obj := .cells #[.int .i64 0, .int .i64 0, .int .i64 0, .int .i64 0, .int .i64 0, .int .i64 0, .int .i64 0, .int .i64 0, .int .i64 0, .int .i64 0, .int .i64 0, .int .i64 0, .int .i64 0] 44
set_option maxRecDepth 100000 in
set_option maxHeartbeats 400000 in
theorem refOf_err (c : Cfg) (p : CfgAt) (A : Option Addr) (cap : Nat) (l : List St) (w : World) (hc : CfgIn w w.heap.size c p) (hl : Sl St.enc 6 w w.heap.size A l) (he : measErr c l ≠ 0) :
    Calls Tryz.prog 34 #[cfgV c p, .slice A l.length cap] w fun e w' => e = .returned (ofV c l) ∧ Below w.heap.size w w' := by
  have hb0 : Below w.heap.size w ((w.alloc (cfgBox c p)).alloc figObj) := ((Below.refl _ _).alloc (Nat.le_refl _) _).alloc (by simp) _
  have hfin : ofV c l = .tuple #[figZ, .int .i64 (measErr c l)] := by simp [ofV, he]
  have Hfin := Lib.hid hfin
  have he' : (measErr c l == 0) = false := by simpa using he
  clear hfin he
  unfold cfgV
  go_enter Tryz.func34, Tryz.ntmps34
  go_wp2_with fail
  refine (refMeasCheck_any c p A cap l _ (hc.up hb0) (hl.up hb0)).mono ?_; rintro e w1 ⟨rfl, hb1⟩
  have hb1' : Below (w.heap.size + 2) ((w.alloc (cfgBox c p)).alloc figObj) w1 := by simpa using hb1
  have hw1 : Below w.heap.size w w1 := hb0.trans (hb1'.mono (by omega))
  have hz : w.heap.size + 2 ≤ w1.heap.size := by have := hb1'.size; simpa using this
  obtain ⟨hcs, hfz⟩ := bcell hb1'
  clear hb1
  go_wp2_with fail
  exact bodyPost_ret (v := .tuple #[figZ, .int .i64 (measErr c l)]) (by simp [results, Tryz.results34, go_sem, hcs]) rfl ⟨by rw [Hfin.out], by repeat' (first | (with_reducible exact hw1) | (with_reducible refine Below.setCell ?_ (by simp) _))⟩
set_option maxRecDepth 100000 in
set_option maxHeartbeats 4000000 in
theorem refOf_any (c : Cfg) (p : CfgAt) (A : Option Addr) (cap : Nat) (l : List St) (w : World) (hc : CfgIn w w.heap.size c p) (hl : Sl St.enc 6 w w.heap.size A l) (hn : l.length ≤ 1048576) :
    Calls Tryz.prog 34 #[cfgV c p, .slice A l.length cap] w fun e w' => e = .returned (ofV c l) ∧ Below w.heap.size w w' := by
  have hb0 : Below w.heap.size w ((w.alloc (cfgBox c p)).alloc figObj) := ((Below.refl _ _).alloc (Nat.le_refl _) _).alloc (by simp) _
  by_cases he : measErr c l = 0
  · have hfin : ofV c l = .tuple #[figV l l.length, .int .i64 0] := by simp [ofV, he]
    have Hfin := Lib.hid hfin
    clear hfin
    have hr := (measErr_zero he).2
    unfold cfgV
    go_enter Tryz.func34, Tryz.ntmps34
    go_wp2_with fail
    refine (refMeasCheck_any c p A cap l _ (hc.up hb0) (hl.up hb0)).mono ?_; rintro e w1 ⟨rfl, hb1⟩
    have hb1' : Below (w.heap.size + 2) ((w.alloc (cfgBox c p)).alloc figObj) w1 := by simpa using hb1
    have hw1 : Below w.heap.size w w1 := hb0.trans (hb1'.mono (by omega))
    have hz : w.heap.size + 2 ≤ w1.heap.size := by have := hb1'.size; simpa using this
    obtain ⟨hcs, hfz⟩ := bcell hb1'
    clear hb1
    have n1 := cnt_le l 1
    have n2 := cnt_le l 2
    have n3 := cnt_le l 3
    have n4 := cnt_le l 4
    have n5 := cnt_le l 5
    go_wp2_with (first | (go_at_call 61; refine (count_any _ _ _ _ _ (hl.up (by first | exact hw1 | exact hw1.alloc (by omega) _))).mono ?_; rintro e w' ⟨rfl, rfl⟩))
    obtain ⟨g7, hg7⟩ : ∃ g : Nat, g = w1.heap.size := ⟨_, rfl⟩
    have hbl : Below (w.heap.size + 2) ((w.alloc (cfgBox c p)).alloc figObj) (w1.alloc (Obj.cells (figL l 0) 44)) := hb1'.alloc (by omega) _
    have hblk : Blk (w1.alloc (Obj.cells (figL l 0) 44)) w1.heap.size 44 (figL l 0) := Blk.new _ _ _
    clear hcs hfz hb1' hw1
    rw [← hg7] at hblk hz
    simp only [← hg7]
    go_loopw [8] (fun i wr => ∃ k : Nat, k ≤ l.length ∧ i = .int .i64 k ∧ Below (w.heap.size + 2) ((w.alloc (cfgBox c p)).alloc figObj) wr ∧ Blk wr g7 44 (figL l k)) (fun i _ => l.length - (intOf i).toNat)
    case atStart => exact ⟨0, Nat.zero_le _, rfl, hbl, hblk⟩
    case round =>
      clear hbl hblk hg7
      obtain ⟨k, hk, rfl, hb, hB⟩ := hrel
      have hbw : Below w.heap.size w wr := hb0.trans (hb.mono (by omega))
      have hlt7 := hB.lt
      have hc7 := hB.cell
      have hf7 := hB.frozen
      have hs1 := latSum_rng hr k
      have hs2 := latMax_rng hr k
      by_cases hlt : k < l.length
      · have hcall := fun W h => latency_any A cap l k W h hlt hr
        cases hlat : latAt l k with
        | none =>
          rw [hlat] at hcall
          simp only [optV] at hcall
          have Hlat := Lib.hid hlat
          have Hcall := Lib.hid hcall
          clear hlat hcall
          go_wp2_with fail
          refine (Hcall.out _ (hl.up hbw)).mono ?_; rintro e w2 ⟨rfl, hb2⟩
          have hB2 := hB.below hb2 hlt7
          clear hc7 hf7
          go_wp2_with fail
          go_roundw
          case rel => exact ⟨k + 1, by omega, by go_num, hb.trans (hb2.mono (by omega)), hB2.of_eq (by simp [figL, latSum, latMax, Hlat.out])⟩
          case measure => simp [intOf] <;> omega
        | some v =>
          have hv := latAt_rng hr hlat
          rw [hlat] at hcall
          simp only [optV] at hcall
          have Hlat := Lib.hid hlat
          have Hcall := Lib.hid hcall
          clear hlat hcall
          go_wp2_with fail
          refine (Hcall.out _ (hl.up hbw)).mono ?_; rintro e w2 ⟨rfl, hb2⟩
          have hB2 := hB.below hb2 hlt7
          clear hc7 hf7
          have hc7 := hB2.cell
          have hf7 := hB2.frozen
          go_wp2_with fail
          go_roundw
          case rel => exact ⟨k + 1, by omega, by go_num, ((hb.trans (hb2.mono (by omega))).setCell (by simp; omega) _).setCell (by simp; omega) _, ((hB2.set_ 11 _).set_ 12 _).of_eq (by simp [figL, latSum, latMax, Hlat.out])⟩
          case measure => simp [intOf] <;> omega
      · have e : k = l.length := by omega
        subst e
        obtain ⟨hcs, hfz⟩ := bcell hb
        go_wp2_with fail
        exact bodyPost_ret (v := .tuple #[figV l l.length, .int .i64 0]) (by simp [results, Tryz.results34, go_sem, hcs]) rfl ⟨by rw [Hfin.out], by repeat' (first | (with_reducible exact hbw) | (with_reducible refine Below.setCell ?_ (by simp) _))⟩
  · exact refOf_err c p A cap l w hc hl he
end Go.Proofs.YtpbkelpokpglaaaGreat
