/- Walks: the shares of the workers, by measure and by its reference. -/
import Derived.Test.YtpbkelpokpglaaaGreatMeas6
set_option linter.all false
namespace Go.Proofs.YtpbkelpokpglaaaGreat
open Go.RowKit
def shF (l : List St) (k : Nat) (j : Nat) : Nat := (l.take k).countP (fun x => decide ((x.ev.kind = 5 ∨ x.ev.kind = 9) ∧ x.ev.worker = (j : Int)))
theorem shF_le (l : List St) (k j : Nat) : shF l k j ≤ k := Nat.le_trans List.countP_le_length (List.length_take_le _ _)
theorem shF_step {l : List St} {k : Nat} (hk : k < l.length) (j : Nat) : shF l (k + 1) j = shF l k j + if (l[k].ev.kind = 5 ∨ l[k].ev.kind = 9) ∧ l[k].ev.worker = (j : Int) then 1 else 0 := by
  unfold shF; rw [List.take_succ_eq_append_getElem hk, List.countP_append]; simp [List.countP_cons]
def shArr (c : Cfg) (l : List St) (k : Nat) : Array Value := ((List.range c.workers.toNat).map fun j => Value.int .i64 (shF l k j)).toArray
theorem shArr_get (c : Cfg) (l : List St) (k : Nat) {j : Nat} (h : j < c.workers.toNat) : (shArr c l k)[j]? = some (.int .i64 (shF l k j)) := by simp [shArr, h]
theorem shArr0 (c : Cfg) (l : List St) : shArr c l 0 = madeCells #[.int .i64 0] c.workers.toNat := by
  apply Array.ext
  · simp [shArr, madeCells]
  · intro i h1 h2
    simp [shArr, madeCells, shF, Nat.mod_one]
theorem shArr_miss {c : Cfg} {l : List St} {k : Nat} (hk : k < l.length) (h : ¬ ((l[k].ev.kind = 5 ∨ l[k].ev.kind = 9) ∧ 0 ≤ l[k].ev.worker ∧ l[k].ev.worker < c.workers)) : shArr c l k = shArr c l (k + 1) := by
  unfold shArr
  congr 1
  apply List.map_congr_left
  intro j hj
  rw [List.mem_range] at hj
  rw [shF_step hk, if_neg (fun x => h ⟨x.1, by omega, by omega⟩)]
  rfl
theorem shArr_hit {c : Cfg} {l : List St} {k : Nat} (hk : k < l.length) (h : l[k].ev.kind = 5 ∨ l[k].ev.kind = 9) (h1 : 0 ≤ l[k].ev.worker) (h2 : l[k].ev.worker < c.workers) :
    (shArr c l k).setIfInBounds l[k].ev.worker.toNat (.int .i64 ((shF l k l[k].ev.worker.toNat : Int) + 1)) = shArr c l (k + 1) := by
  apply Array.ext
  · simp [shArr]
  · intro i hi1 hi2
    have hi3 : i < c.workers.toNat := by simpa [shArr] using hi2
    rw [Array.getElem_setIfInBounds (by simpa using hi1)]
    by_cases e : l[k].ev.worker.toNat = i
    · subst e
      simp only [if_true, shArr, List.getElem_toArray, List.getElem_map, List.getElem_range]
      rw [shF_step hk, if_pos ⟨h, by omega⟩]
      simp
    · rw [if_neg e]
      simp only [shArr, List.getElem_toArray, List.getElem_map, List.getElem_range]
      rw [shF_step hk, if_neg (fun x => e (by omega))]
      simp
theorem workers_of {c : Cfg} {l : List St} (h : measErr c l = 0) : 1 ≤ c.workers ∧ c.workers ≤ 16 := by
  have h1 := (measErr_zero h).1
  unfold cfgErr at h1
  by_cases hn : numsOk c = true
  · have := numsOk_spec hn; omega
  · simp [hn] at h1
theorem intInfo : (Tryz.prog.info? 3).map (fun i => (i.zero, i.size, i.bytes)) = some (some (.int .i64 0), 1, 8) := by kernel_rfl
theorem makeInts (n : Int) (h0 : 0 ≤ n) (h1 : n ≤ 1048576) (w : World) : (Instr.makeSlice 23 (.int .i64 n) (.int .i64 n)).run Tryz.prog w = .ok (.slice (some ⟨w.heap.size, 0, none⟩) n.toNat n.toNat) (w.alloc (.cells (madeCells #[.int .i64 0] n.toNat) 3)) := by
  obtain ⟨i0, hi, hz0, hz1, hz2⟩ := info_parts intInfo
  have := run_make (P := Tryz.prog) w 23 3 i0 (.int .i64 0) Tryz.underlying23 hi hz0 .i64 .i64 n n h0 (by omega) (by rw [hz2]; omega) (by omega)
  rw [hz1, Nat.mul_one] at this
  exact this
set_option maxRecDepth 100000 in
set_option maxHeartbeats 1000000 in
theorem shares_err (c : Cfg) (p : CfgAt) (A : Option Addr) (cap : Nat) (l : List St) (w : World) (hc : CfgIn w w.heap.size c p) (hl : Sl St.enc 6 w w.heap.size A l) (he : measErr c l ≠ 0) :
    Calls Tryz.prog 31 #[cfgV c p, .slice A l.length cap] w fun e w' => e = .returned (.tuple #[.slice none 0 0, .int .i64 (measErr c l)]) ∧ Below w.heap.size w w' := by
  have hb0 : Below w.heap.size w (w.alloc (cfgBox c p)) := (Below.refl _ _).alloc (Nat.le_refl _) _
  have he' : (measErr c l == 0) = false := by simpa using he
  clear he
  unfold cfgV
  go_enter Tryz.func31, Tryz.ntmps31
  go_wp2_with fail
  refine (measCheck_any c p A cap l _ (hc.up hb0) (hl.up hb0)).mono ?_; rintro e w1 ⟨rfl, hb1⟩
  have hw1 := below_box1 hb1
  go_wp2_with fail
  go_ret2
  exact ⟨rfl, hw1⟩
set_option maxRecDepth 100000 in
set_option maxHeartbeats 4000000 in
theorem shares_ok (c : Cfg) (p : CfgAt) (A : Option Addr) (cap : Nat) (l : List St) (w : World) (hc : CfgIn w w.heap.size c p) (hl : Sl St.enc 6 w w.heap.size A l) (hn : l.length ≤ 1048576) (he : measErr c l = 0) :
    Calls Tryz.prog 31 #[cfgV c p, .slice A l.length cap] w fun e w' => (∃ g, e = .returned (.tuple #[.slice (some ⟨g, 0, none⟩) c.workers.toNat c.workers.toNat, .int .i64 0]) ∧ w.heap.size ≤ g ∧ Blk w' g 3 (shArr c l l.length)) ∧ Below w.heap.size w w' := by
  have hb0 : Below w.heap.size w (w.alloc (cfgBox c p)) := (Below.refl _ _).alloc (Nat.le_refl _) _
  obtain ⟨hw1, hw2⟩ := workers_of he
  have hmk := fun W : World => makeInts c.workers (by omega) (by omega) W
  have Hfin : Hid (shArr c l 0 = madeCells #[.int .i64 0] c.workers.toNat) := shArr0 c l
  have He := Lib.hid he
  have he' : (measErr c l != 0) = false := by simpa using he
  clear he
  unfold cfgV
  go_enter Tryz.func31, Tryz.ntmps31
  go_wp2_with fail
  refine (measCheck_any c p A cap l _ (hc.up hb0) (hl.up hb0)).mono ?_; rintro e w1 ⟨rfl, hb1⟩
  have hb1' : Below (w.heap.size + 1) (w.alloc (cfgBox c p)) w1 := by simpa using hb1
  have hz : w.heap.size + 1 ≤ w1.heap.size := by have := hb1'.size; simpa using this
  obtain ⟨hcs, hfz⟩ := bcell hb1'
  rw [He.out]
  clear hb1
  go_wp2_with fail
  clear hcs hfz hmk
  obtain ⟨g7, hg7⟩ : ∃ g : Nat, g = w1.heap.size := ⟨_, rfl⟩
  have hbl : Below (w.heap.size + 1) (w.alloc (cfgBox c p)) (w1.alloc (.cells (madeCells #[.int .i64 0] c.workers.toNat) 3)) := hb1'.alloc (by omega) _
  have hblk : Blk (w1.alloc (.cells (madeCells #[.int .i64 0] c.workers.toNat) 3)) g7 3 (shArr c l 0) := by rw [hg7, Hfin.out]; exact Blk.new _ _ _
  rw [← hg7] at hz
  simp only [← hg7]
  clear hb1'
  go_loopw [22] (fun i wr => ∃ k : Nat, k ≤ l.length ∧ i = .int .i64 k ∧ Below (w.heap.size + 1) (w.alloc (cfgBox c p)) wr ∧ Blk wr g7 3 (shArr c l k)) (fun i _ => l.length - (intOf i).toNat)
  case atStart => exact ⟨0, Nat.zero_le _, rfl, hbl, hblk⟩
  case round =>
    clear hbl hblk hg7 Hfin
    obtain ⟨k, hk, rfl, hb, hB⟩ := hrel
    have hlt7 := hB.lt
    have f7 := hB.frozen
    have hBs : w.heap.size < wr.heap.size := by have := hb.size; simp at this; omega
    by_cases hlt : k < l.length
    · obtain ⟨hcs, hfz⟩ := bcell hb
      obtain ⟨b, o, rfl, hbb, hcc⟩ := st_cells hl hlt
      obtain ⟨c0, c1, c2, c3, c4, c5⟩ := hcc k hlt
      by_cases hkd : l[k].ev.kind = 5 ∨ l[k].ev.kind = 9
      · by_cases hr : 0 ≤ l[k].ev.worker ∧ l[k].ev.worker < c.workers
        · obtain ⟨hr1, hr2⟩ := hr
          have hstep := Lib.hid (shArr_hit (c := c) hlt hkd hr1 hr2)
          have hcj := (hB.cell l[k].ev.worker.toNat).trans (shArr_get c l k (by omega))
          have hcn := shF_le l k l[k].ev.worker.toNat
          by_cases k5 : l[k].ev.kind = 5
          · have t5 : (l[k].ev.kind == 5) = true := by simpa using k5
            clear k5 hkd
            go_wp2
            go_roundw
            case rel => exact ⟨k + 1, by omega, by go_num, by repeat' (first | (with_reducible exact hb) | (with_reducible refine Below.setCell ?_ (by first | omega | (simp <;> omega)) _) | (with_reducible refine Below.alloc ?_ (by first | omega | (simp <;> omega)) _)), Blk.of_eq (by repeat' (first | (with_reducible exact hB) | (with_reducible refine Blk.set_ ?_ _ _) | (with_reducible refine Blk.alloc ?_ _))) hstep.out⟩
            case measure => simp [intOf] <;> omega
          · have t5 : (l[k].ev.kind == 5) = false := by simpa using k5
            have t9 : (l[k].ev.kind == 9) = true := by simp only [beq_iff_eq]; omega
            clear k5 hkd
            go_wp2
            go_roundw
            case rel => exact ⟨k + 1, by omega, by go_num, by repeat' (first | (with_reducible exact hb) | (with_reducible refine Below.setCell ?_ (by first | omega | (simp <;> omega)) _) | (with_reducible refine Below.alloc ?_ (by first | omega | (simp <;> omega)) _)), Blk.of_eq (by repeat' (first | (with_reducible exact hB) | (with_reducible refine Blk.set_ ?_ _ _) | (with_reducible refine Blk.alloc ?_ _))) hstep.out⟩
            case measure => simp [intOf] <;> omega
        · have hstep := Lib.hid (shArr_miss (c := c) hlt (fun x => hr x.2))
          by_cases k5 : l[k].ev.kind = 5
          · have t5 : (l[k].ev.kind == 5) = true := by simpa using k5
            clear k5 hkd
            by_cases hr1 : 0 ≤ l[k].ev.worker
            · have hr2 : ¬ l[k].ev.worker < c.workers := fun x => hr ⟨hr1, x⟩
              clear hr
              go_wp2
              go_roundw
              case rel => exact ⟨k + 1, by omega, by go_num, by repeat' (first | (with_reducible exact hb) | (with_reducible refine Below.setCell ?_ (by first | omega | (simp <;> omega)) _) | (with_reducible refine Below.alloc ?_ (by first | omega | (simp <;> omega)) _)), Blk.of_eq (by repeat' (first | (with_reducible exact hB) | (with_reducible refine Blk.set_ ?_ _ _) | (with_reducible refine Blk.alloc ?_ _))) hstep.out⟩
              case measure => simp [intOf] <;> omega
            · clear hr
              go_wp2
              go_roundw
              case rel => exact ⟨k + 1, by omega, by go_num, by repeat' (first | (with_reducible exact hb) | (with_reducible refine Below.setCell ?_ (by first | omega | (simp <;> omega)) _) | (with_reducible refine Below.alloc ?_ (by first | omega | (simp <;> omega)) _)), Blk.of_eq (by repeat' (first | (with_reducible exact hB) | (with_reducible refine Blk.set_ ?_ _ _) | (with_reducible refine Blk.alloc ?_ _))) hstep.out⟩
              case measure => simp [intOf] <;> omega
          · have t5 : (l[k].ev.kind == 5) = false := by simpa using k5
            have t9 : (l[k].ev.kind == 9) = true := by simp only [beq_iff_eq]; omega
            clear k5 hkd
            by_cases hr1 : 0 ≤ l[k].ev.worker
            · have hr2 : ¬ l[k].ev.worker < c.workers := fun x => hr ⟨hr1, x⟩
              clear hr
              go_wp2
              go_roundw
              case rel => exact ⟨k + 1, by omega, by go_num, by repeat' (first | (with_reducible exact hb) | (with_reducible refine Below.setCell ?_ (by first | omega | (simp <;> omega)) _) | (with_reducible refine Below.alloc ?_ (by first | omega | (simp <;> omega)) _)), Blk.of_eq (by repeat' (first | (with_reducible exact hB) | (with_reducible refine Blk.set_ ?_ _ _) | (with_reducible refine Blk.alloc ?_ _))) hstep.out⟩
              case measure => simp [intOf] <;> omega
            · clear hr
              go_wp2
              go_roundw
              case rel => exact ⟨k + 1, by omega, by go_num, by repeat' (first | (with_reducible exact hb) | (with_reducible refine Below.setCell ?_ (by first | omega | (simp <;> omega)) _) | (with_reducible refine Below.alloc ?_ (by first | omega | (simp <;> omega)) _)), Blk.of_eq (by repeat' (first | (with_reducible exact hB) | (with_reducible refine Blk.set_ ?_ _ _) | (with_reducible refine Blk.alloc ?_ _))) hstep.out⟩
              case measure => simp [intOf] <;> omega
      · have hstep := Lib.hid (shArr_miss (c := c) hlt (fun x => hkd x.1))
        have t5 : (l[k].ev.kind == 5) = false := by simp only [beq_eq_false_iff_ne]; omega
        have t9 : (l[k].ev.kind == 9) = false := by simp only [beq_eq_false_iff_ne]; omega
        clear hkd
        go_wp2
        go_roundw
        case rel => exact ⟨k + 1, by omega, by go_num, by repeat' (first | (with_reducible exact hb) | (with_reducible refine Below.setCell ?_ (by first | omega | (simp <;> omega)) _) | (with_reducible refine Below.alloc ?_ (by first | omega | (simp <;> omega)) _)), Blk.of_eq (by repeat' (first | (with_reducible exact hB) | (with_reducible refine Blk.set_ ?_ _ _) | (with_reducible refine Blk.alloc ?_ _))) hstep.out⟩
        case measure => simp [intOf] <;> omega
    · have e : k = l.length := by omega
      subst e
      go_wp2_with fail
      go_ret2
      exact ⟨⟨g7, rfl, by omega, hB⟩, hb0.trans (hb.mono (by omega))⟩
set_option maxRecDepth 100000 in
set_option maxHeartbeats 1000000 in
theorem refShares_err (c : Cfg) (p : CfgAt) (A : Option Addr) (cap : Nat) (l : List St) (w : World) (hc : CfgIn w w.heap.size c p) (hl : Sl St.enc 6 w w.heap.size A l) (he : measErr c l ≠ 0) :
    Calls Tryz.prog 35 #[cfgV c p, .slice A l.length cap] w fun e w' => e = .returned (.tuple #[.slice none 0 0, .int .i64 (measErr c l)]) ∧ Below w.heap.size w w' := by
  have hb0 : Below w.heap.size w (w.alloc (cfgBox c p)) := (Below.refl _ _).alloc (Nat.le_refl _) _
  have he' : (measErr c l == 0) = false := by simpa using he
  clear he
  unfold cfgV
  go_enter Tryz.func35, Tryz.ntmps35
  go_wp2_with fail
  refine (refMeasCheck_any c p A cap l _ (hc.up hb0) (hl.up hb0)).mono ?_; rintro e w1 ⟨rfl, hb1⟩
  have hw1 := below_box1 hb1
  go_wp2_with fail
  go_ret2
  exact ⟨rfl, hw1⟩
set_option maxRecDepth 100000 in
set_option maxHeartbeats 4000000 in
theorem refShares_ok (c : Cfg) (p : CfgAt) (A : Option Addr) (cap : Nat) (l : List St) (w : World) (hc : CfgIn w w.heap.size c p) (hl : Sl St.enc 6 w w.heap.size A l) (hn : l.length ≤ 1048576) (he : measErr c l = 0) :
    Calls Tryz.prog 35 #[cfgV c p, .slice A l.length cap] w fun e w' => (∃ g, e = .returned (.tuple #[.slice (some ⟨g, 0, none⟩) c.workers.toNat c.workers.toNat, .int .i64 0]) ∧ w.heap.size ≤ g ∧ Blk w' g 3 (shArr c l l.length)) ∧ Below w.heap.size w w' := by
  have hb0 : Below w.heap.size w (w.alloc (cfgBox c p)) := (Below.refl _ _).alloc (Nat.le_refl _) _
  obtain ⟨hw1, hw2⟩ := workers_of he
  have hmk := fun W : World => makeInts c.workers (by omega) (by omega) W
  have Hfin : Hid (shArr c l 0 = madeCells #[.int .i64 0] c.workers.toNat) := shArr0 c l
  have He := Lib.hid he
  have he' : (measErr c l != 0) = false := by simpa using he
  clear he
  unfold cfgV
  go_enter Tryz.func35, Tryz.ntmps35
  go_wp2_with fail
  refine (refMeasCheck_any c p A cap l _ (hc.up hb0) (hl.up hb0)).mono ?_; rintro e w1 ⟨rfl, hb1⟩
  have hb1' : Below (w.heap.size + 1) (w.alloc (cfgBox c p)) w1 := by simpa using hb1
  have hz : w.heap.size + 1 ≤ w1.heap.size := by have := hb1'.size; simpa using this
  obtain ⟨hcs, hfz⟩ := bcell hb1'
  rw [He.out]
  clear hb1
  go_wp2_with fail
  clear hcs hfz hmk
  obtain ⟨g7, hg7⟩ : ∃ g : Nat, g = w1.heap.size := ⟨_, rfl⟩
  have hbl : Below (w.heap.size + 1) (w.alloc (cfgBox c p)) (w1.alloc (.cells (madeCells #[.int .i64 0] c.workers.toNat) 3)) := hb1'.alloc (by omega) _
  have hblk : Blk (w1.alloc (.cells (madeCells #[.int .i64 0] c.workers.toNat) 3)) g7 3 (shArr c l 0) := by rw [hg7, Hfin.out]; exact Blk.new _ _ _
  rw [← hg7] at hz
  simp only [← hg7]
  clear hb1'
  go_loopw [8] (fun i wr => ∃ k : Nat, k ≤ l.length ∧ i = .int .i64 k ∧ Below (w.heap.size + 1) (w.alloc (cfgBox c p)) wr ∧ Blk wr g7 3 (shArr c l k)) (fun i _ => l.length - (intOf i).toNat)
  case atStart => exact ⟨0, Nat.zero_le _, rfl, hbl, hblk⟩
  case round =>
    clear hbl hblk hg7 Hfin
    obtain ⟨k, hk, rfl, hb, hB⟩ := hrel
    have hlt7 := hB.lt
    have f7 := hB.frozen
    have hBs : w.heap.size < wr.heap.size := by have := hb.size; simp at this; omega
    by_cases hlt : k < l.length
    · obtain ⟨hcs, hfz⟩ := bcell hb
      obtain ⟨b, o, rfl, hbb, hcc⟩ := st_cells hl hlt
      obtain ⟨c0, c1, c2, c3, c4, c5⟩ := hcc k hlt
      by_cases hkd : l[k].ev.kind = 5 ∨ l[k].ev.kind = 9
      · by_cases hr : 0 ≤ l[k].ev.worker ∧ l[k].ev.worker < c.workers
        · obtain ⟨hr1, hr2⟩ := hr
          have hstep := Lib.hid (shArr_hit (c := c) hlt hkd hr1 hr2)
          have hcj := (hB.cell l[k].ev.worker.toNat).trans (shArr_get c l k (by omega))
          have hcn := shF_le l k l[k].ev.worker.toNat
          by_cases k5 : l[k].ev.kind = 5
          · have t5 : (l[k].ev.kind == 5) = true := by simpa using k5
            clear k5 hkd
            go_wp2
            go_roundw
            case rel => exact ⟨k + 1, by omega, by go_num, by repeat' (first | (with_reducible exact hb) | (with_reducible refine Below.setCell ?_ (by first | omega | (simp <;> omega)) _) | (with_reducible refine Below.alloc ?_ (by first | omega | (simp <;> omega)) _)), Blk.of_eq (by repeat' (first | (with_reducible exact hB) | (with_reducible refine Blk.set_ ?_ _ _) | (with_reducible refine Blk.alloc ?_ _))) hstep.out⟩
            case measure => simp [intOf] <;> omega
          · have t5 : (l[k].ev.kind == 5) = false := by simpa using k5
            have t9 : (l[k].ev.kind == 9) = true := by simp only [beq_iff_eq]; omega
            clear k5 hkd
            go_wp2
            go_roundw
            case rel => exact ⟨k + 1, by omega, by go_num, by repeat' (first | (with_reducible exact hb) | (with_reducible refine Below.setCell ?_ (by first | omega | (simp <;> omega)) _) | (with_reducible refine Below.alloc ?_ (by first | omega | (simp <;> omega)) _)), Blk.of_eq (by repeat' (first | (with_reducible exact hB) | (with_reducible refine Blk.set_ ?_ _ _) | (with_reducible refine Blk.alloc ?_ _))) hstep.out⟩
            case measure => simp [intOf] <;> omega
        · have hstep := Lib.hid (shArr_miss (c := c) hlt (fun x => hr x.2))
          by_cases k5 : l[k].ev.kind = 5
          · have t5 : (l[k].ev.kind == 5) = true := by simpa using k5
            clear k5 hkd
            by_cases hr1 : 0 ≤ l[k].ev.worker
            · have hr2 : ¬ l[k].ev.worker < c.workers := fun x => hr ⟨hr1, x⟩
              clear hr
              go_wp2
              go_roundw
              case rel => exact ⟨k + 1, by omega, by go_num, by repeat' (first | (with_reducible exact hb) | (with_reducible refine Below.setCell ?_ (by first | omega | (simp <;> omega)) _) | (with_reducible refine Below.alloc ?_ (by first | omega | (simp <;> omega)) _)), Blk.of_eq (by repeat' (first | (with_reducible exact hB) | (with_reducible refine Blk.set_ ?_ _ _) | (with_reducible refine Blk.alloc ?_ _))) hstep.out⟩
              case measure => simp [intOf] <;> omega
            · clear hr
              go_wp2
              go_roundw
              case rel => exact ⟨k + 1, by omega, by go_num, by repeat' (first | (with_reducible exact hb) | (with_reducible refine Below.setCell ?_ (by first | omega | (simp <;> omega)) _) | (with_reducible refine Below.alloc ?_ (by first | omega | (simp <;> omega)) _)), Blk.of_eq (by repeat' (first | (with_reducible exact hB) | (with_reducible refine Blk.set_ ?_ _ _) | (with_reducible refine Blk.alloc ?_ _))) hstep.out⟩
              case measure => simp [intOf] <;> omega
          · have t5 : (l[k].ev.kind == 5) = false := by simpa using k5
            have t9 : (l[k].ev.kind == 9) = true := by simp only [beq_iff_eq]; omega
            clear k5 hkd
            by_cases hr1 : 0 ≤ l[k].ev.worker
            · have hr2 : ¬ l[k].ev.worker < c.workers := fun x => hr ⟨hr1, x⟩
              clear hr
              go_wp2
              go_roundw
              case rel => exact ⟨k + 1, by omega, by go_num, by repeat' (first | (with_reducible exact hb) | (with_reducible refine Below.setCell ?_ (by first | omega | (simp <;> omega)) _) | (with_reducible refine Below.alloc ?_ (by first | omega | (simp <;> omega)) _)), Blk.of_eq (by repeat' (first | (with_reducible exact hB) | (with_reducible refine Blk.set_ ?_ _ _) | (with_reducible refine Blk.alloc ?_ _))) hstep.out⟩
              case measure => simp [intOf] <;> omega
            · clear hr
              go_wp2
              go_roundw
              case rel => exact ⟨k + 1, by omega, by go_num, by repeat' (first | (with_reducible exact hb) | (with_reducible refine Below.setCell ?_ (by first | omega | (simp <;> omega)) _) | (with_reducible refine Below.alloc ?_ (by first | omega | (simp <;> omega)) _)), Blk.of_eq (by repeat' (first | (with_reducible exact hB) | (with_reducible refine Blk.set_ ?_ _ _) | (with_reducible refine Blk.alloc ?_ _))) hstep.out⟩
              case measure => simp [intOf] <;> omega
      · have hstep := Lib.hid (shArr_miss (c := c) hlt (fun x => hkd x.1))
        have t5 : (l[k].ev.kind == 5) = false := by simp only [beq_eq_false_iff_ne]; omega
        have t9 : (l[k].ev.kind == 9) = false := by simp only [beq_eq_false_iff_ne]; omega
        clear hkd
        go_wp2
        go_roundw
        case rel => exact ⟨k + 1, by omega, by go_num, by repeat' (first | (with_reducible exact hb) | (with_reducible refine Below.setCell ?_ (by first | omega | (simp <;> omega)) _) | (with_reducible refine Below.alloc ?_ (by first | omega | (simp <;> omega)) _)), Blk.of_eq (by repeat' (first | (with_reducible exact hB) | (with_reducible refine Blk.set_ ?_ _ _) | (with_reducible refine Blk.alloc ?_ _))) hstep.out⟩
        case measure => simp [intOf] <;> omega
    · have e : k = l.length := by omega
      subst e
      go_wp2_with fail
      go_ret2
      exact ⟨⟨g7, rfl, by omega, hB⟩, hb0.trans (hb.mono (by omega))⟩
end Go.Proofs.YtpbkelpokpglaaaGreat
