/- Walks: the check of a configuration (its reference), and whether it is small. -/
import Derived.Test.YtpbkelpokpglaaaGreatCfg2
set_option linter.all false
namespace Go.Proofs.YtpbkelpokpglaaaGreat
open Go.RowKit
set_option maxHeartbeats 2000000 in
theorem refCheck_any (c : Cfg) (l : CfgAt) (w : World) (hc : CfgIn w w.heap.size c l) :
    Calls Tryz.prog 69 #[cfgV c l] w fun e w' => e = .returned (.int .i64 (cfgErr c)) ∧ Below w.heap.size w w' := by
  have hlen := hc.1.1
  have hlen2 := hc.2.1
  by_cases hn : numsOk c = true
  · obtain ⟨_, _, h1, h2, _⟩ := numsOk_spec hn
    by_cases hp : inB (c.progs.length : Int) 1 32 = true
    · have hpa0 : progsAll c = progsErr c.levels c.progs.length c.progs := by simp [progsAll, hp]
      have hfin : cfgErr c = if progsErr c.levels c.progs.length c.progs ≠ 0 then progsErr c.levels c.progs.length c.progs else subsAll c := by simp [cfgErr, hn, hpa0]
      have Hfin := Lib.hid hfin
      clear hfin hpa0
      unfold cfgV
      go_enter Tryz.func69, Tryz.ntmps69
      go_wp2_with fail
      refine (refNumbers_any c l _).mono ?_; rintro e w1 ⟨rfl, hb1⟩
      obtain ⟨hc1, hf1⟩ := bcell hb1
      have hw1 := below_box1 hb1
      go_wp2_with fail
      refine (refIn_any _ _ _ _).mono ?_; rintro e w2 ⟨rfl, rfl⟩
      go_wp2_with fail
      clear hc1 hf1
      have hb1' : Below (w.heap.size + 1) (w.alloc (cfgBox c l)) w1 := by simpa using hb1
      clear hb1
      go_loopw [3] (fun i wr => ∃ k : Nat, k ≤ c.progs.length ∧ i = .int .i64 k ∧ PInv c.levels c.progs.length c.progs k ∧ Below (w.heap.size + 1) (w.alloc (cfgBox c l)) wr) (fun i _ => c.progs.length - (intOf i).toNat)
      case atStart => exact ⟨0, Nat.zero_le _, rfl, rfl, hb1'⟩
      case round =>
        clear hb1' hw1
        obtain ⟨k, hk, rfl, hi, hb⟩ := hrel
        have hB : w.heap.size < wr.heap.size := by have := hb.size; simp at this; omega
        have hbw : Below w.heap.size w wr := ((Below.refl _ _).alloc (Nat.le_refl _) _).trans (hb.mono (by omega))
        obtain ⟨hcs, hfz⟩ := bcell hb
        by_cases hlt : k < c.progs.length
        · obtain ⟨b, o, hpa, hbb, Ai, ci, hcell, hsl⟩ := hc.1.at_ hlt
          have hln := hsl.len
          obtain ⟨pa, pc, sa, sc⟩ := l
          obtain rfl : pa = some ⟨b, o, none⟩ := hpa
          by_cases hlong : 32 < c.progs[k].length
          · have hres := Lib.hid (progsErr_drop_long hlt hi hlong)
            go_wp2
            go_ret
            exact ⟨ret_int (by rw [Hfin.out, hres.out]; simp), hbw⟩
          · go_wp2
            obtain ⟨wo, rfl⟩ : ∃ wo : World, wo = wr := ⟨_, rfl⟩
            clear hcs hfz
            go_loopw [4] (fun i ws => ∃ j : Nat, j ≤ c.progs[k].length ∧ i = .int .i64 j ∧ QInv c.levels c.progs.length c.progs[k] j ∧ Below (w.heap.size + 1) (w.alloc (cfgBox c ⟨some ⟨b, o, none⟩, pc, sa, sc⟩)) ws) (fun i _ => c.progs[k].length - (intOf i).toNat)
            case atStart => exact ⟨0, Nat.zero_le _, rfl, by simp [QInv], hb⟩
            case round =>
              obtain ⟨j, hj, rfl, hq, hb2⟩ := hrel
              have hB2 : w.heap.size < wr.heap.size := by have := hb2.size; simp at this; omega
              obtain ⟨hcs, hfz⟩ := bcell hb2
              by_cases hjt : j < c.progs[k].length
              · obtain ⟨b2, o2, hpa2, hbb2, hcc⟩ := hsl.at_ hjt
                obtain rfl : Ai = some ⟨b2, o2, none⟩ := hpa2
                have c0 : w.cell? ⟨b2, o2 + j * 3, none⟩ = some (.int .i64 c.progs[k][j].op) := hcc j hjt 0 _ rfl
                have c1 : w.cell? ⟨b2, o2 + j * 3 + 1, none⟩ = some (.int .i64 c.progs[k][j].a) := hcc j hjt 1 _ rfl
                have c2 : w.cell? ⟨b2, o2 + j * 3 + 2, none⟩ = some (.int .i64 c.progs[k][j].b) := hcc j hjt 2 _ rfl
                by_cases hok : insOk c.levels c.progs.length c.progs[k][j] = true
                · have hok2 : (!insOk c.levels c.progs.length c.progs[k][j]) = false := by simp [hok]
                  go_wp2
                  clear hcs hfz
                  have hcx := Above.cells (B := w.heap.size + 1) (W := w.alloc (cfgBox c ⟨some ⟨b, o, none⟩, pc, sa, sc⟩))
                  refine wp_region_above (w.heap.size + 1) (w.alloc (cfgBox c ⟨some ⟨b, o, none⟩, pc, sa, sc⟩)) (by kernel_rfl) (by kernel_rfl) hb2 ?_
                  repeat (go_big_quiet_step ((go_at_call 94; exact calm_of (by simp) (refInstr_any c ⟨some ⟨b, o, none⟩, pc, sa, sc⟩ c.progs[k][j] _ h1 h2 hlen))))
                  refine wpQuiet_nil ?_
                  intro wq hbq
                  have hbq' : Below w.heap.size w wq := ((Below.refl _ _).alloc (Nat.le_refl _) _).trans (hbq.mono (by omega))
                  clear hcx
                  go_wp2
                  go_roundw
                  case rel => exact ⟨j + 1, by omega, by go_num, all_take_succ hjt hq hok, hbq⟩
                  case measure => simp [intOf]; omega
                · have hok' : insOk c.levels c.progs.length c.progs[k][j] = false := by simpa using hok
                  clear hok
                  have hres := Lib.hid (progsErr_drop_bad hlt hi (by omega) hjt hok')
                  go_wp2
                  clear hcs hfz
                  have hcx := Above.cells (B := w.heap.size + 1) (W := w.alloc (cfgBox c ⟨some ⟨b, o, none⟩, pc, sa, sc⟩))
                  refine wp_region_above (w.heap.size + 1) (w.alloc (cfgBox c ⟨some ⟨b, o, none⟩, pc, sa, sc⟩)) (by kernel_rfl) (by kernel_rfl) hb2 ?_
                  repeat (go_big_quiet_step ((go_at_call 94; exact calm_of (by simp) (refInstr_any c ⟨some ⟨b, o, none⟩, pc, sa, sc⟩ c.progs[k][j] _ h1 h2 hlen))))
                  refine wpQuiet_nil ?_
                  intro wq hbq
                  have hbq' : Below w.heap.size w wq := ((Below.refl _ _).alloc (Nat.le_refl _) _).trans (hbq.mono (by omega))
                  clear hcx
                  go_wp2
                  go_ret
                  exact ⟨ret_int (by rw [Hfin.out, hres.out]; simp), hbq'⟩
              · go_wp2
                go_roundw
                case rel => exact ⟨k + 1, by omega, by go_num, progsErr_drop_next hlt hi (by omega) (by
                  have e : j = c.progs[k].length := by omega
                  subst e; exact hq), hb2⟩
                case measure => simp [intOf]; omega
        · have hi' : progsErr c.levels c.progs.length (c.progs.drop k) = progsErr c.levels c.progs.length c.progs := hi
          have hpz : progsErr c.levels c.progs.length c.progs = 0 := by rw [← hi', List.drop_eq_nil_of_le (by omega)]; rfl
          have Hf2 : Hid (cfgErr c = subsAll c) := by rw [Hfin.out, hpz]; exact if_neg (by simp)
          clear hi hi' hpz
          by_cases hp : 64 < c.subs.length
          · have hfin : subsAll c = 2 := by simp [subsAll, hp]
            have Hf3 := Lib.hid hfin
            clear hfin
            go_wp2
            go_ret
            exact ⟨ret_int (by rw [Hf2.out, Hf3.out]), hbw⟩
          · have hfin : subsAll c = subsErr c.levels c.progs.length c.subs := by simp [subsAll, hp]
            have Hf3 := Lib.hid hfin
            clear hfin
            go_wp2
            obtain ⟨wo, rfl⟩ : ∃ wo : World, wo = wr := ⟨_, rfl⟩
            clear hcs hfz
            go_loopw [5] (fun i wr => ∃ k : Nat, k ≤ c.subs.length ∧ i = .int .i64 k ∧ SInv c.levels c.progs.length c.subs k ∧ Below (w.heap.size + 1) (w.alloc (cfgBox c l)) wr) (fun i _ => c.subs.length - (intOf i).toNat)
            case atStart => exact ⟨0, Nat.zero_le _, rfl, rfl, hb⟩
            case round =>
              clear hb hB hbw
              obtain ⟨m, hk, rfl, hi, hb⟩ := hrel
              have hB : w.heap.size < wr.heap.size := by have := hb.size; simp at this; omega
              have hbw : Below w.heap.size w wr := ((Below.refl _ _).alloc (Nat.le_refl _) _).trans (hb.mono (by omega))
              obtain ⟨hcs, hfz⟩ := bcell hb
              by_cases hlt : m < c.subs.length
              · obtain ⟨b, o, hpa, hbb, hcc⟩ := hc.2.at_ hlt
                obtain ⟨pa, pc, sa, sc⟩ := l
                obtain rfl : sa = some ⟨b, o, none⟩ := hpa
                have c0 : w.cell? ⟨b, o + m * 3, none⟩ = some (.int .i64 c.subs[m].prog) := hcc m hlt 0 _ rfl
                have c1 : w.cell? ⟨b, o + m * 3 + 1, none⟩ = some (.int .i64 c.subs[m].level) := hcc m hlt 1 _ rfl
                have c2 : w.cell? ⟨b, o + m * 3 + 2, none⟩ = some (.int .i64 c.subs[m].deadline) := hcc m hlt 2 _ rfl
                have hse : subErr c.levels c.progs.length c.subs[m] = if !inB c.subs[m].prog 0 (c.progs.length - 1) then 3 else if !inB c.subs[m].level 0 (c.levels - 1) || !inB c.subs[m].deadline 0 16777215 then 1 else 0 := rfl
                have Hse := Lib.hid hse
                clear hse
                have bad := fun e he hne => Lib.hid (subsErr_drop_bad (e := e) hlt hi he hne)
                by_cases g1 : inB c.subs[m].prog 0 (c.progs.length - 1) = true
                · by_cases g2 : inB c.subs[m].level 0 (c.levels - 1) = true
                  · by_cases g3 : inB c.subs[m].deadline 0 16777215 = true
                    · go_wp2_with (first | (go_at_call 93; refine (refIn_any _ _ _ _).mono ?_; rintro e w' ⟨rfl, rfl⟩))
                      go_roundw
                      case rel => exact ⟨m + 1, by omega, by go_num, subsErr_drop_next hlt hi (by rw [Hse.out]; simp [g1, g2, g3]), hb.alloc (by omega) _⟩
                      case measure => simp [intOf]; omega
                    · go_wp2_with (first | (go_at_call 93; refine (refIn_any _ _ _ _).mono ?_; rintro e w' ⟨rfl, rfl⟩))
                      go_ret
                      exact ⟨ret_int (by rw [Hf2.out, Hf3.out, (bad 1 (by rw [Hse.out]; simp [g1, g2, g3]) (by omega)).out]), hbw.alloc (by omega) _⟩
                  · go_wp2_with (first | (go_at_call 93; refine (refIn_any _ _ _ _).mono ?_; rintro e w' ⟨rfl, rfl⟩))
                    go_ret
                    exact ⟨ret_int (by rw [Hf2.out, Hf3.out, (bad 1 (by rw [Hse.out]; simp [g1, g2]) (by omega)).out]), hbw.alloc (by omega) _⟩
                · go_wp2_with (first | (go_at_call 93; refine (refIn_any _ _ _ _).mono ?_; rintro e w' ⟨rfl, rfl⟩))
                  go_ret
                  exact ⟨ret_int (by rw [Hf2.out, Hf3.out, (bad 3 (by rw [Hse.out]; simp [g1]) (by omega)).out]), hbw.alloc (by omega) _⟩
              · go_wp2
                go_ret
                exact ⟨ret_int (by
                  have hi' : subsErr c.levels c.progs.length (c.subs.drop m) = subsErr c.levels c.progs.length c.subs := hi
                  rw [Hf2.out, Hf3.out, ← hi', List.drop_eq_nil_of_le (by omega)]; rfl), hbw⟩
    · have hfin : cfgErr c = 2 := by simp [cfgErr, hn, progsAll, hp]
      have Hfin := Lib.hid hfin
      clear hfin
      unfold cfgV
      go_enter Tryz.func69, Tryz.ntmps69
      go_wp2_with fail
      refine (refNumbers_any c l _).mono ?_; rintro e w1 ⟨rfl, hb1⟩
      obtain ⟨hc1, hf1⟩ := bcell hb1
      have hw1 := below_box1 hb1
      go_wp2_with fail
      refine (refIn_any _ _ _ _).mono ?_; rintro e w2 ⟨rfl, rfl⟩
      go_wp2_with fail
      go_ret
      exact ⟨ret_int Hfin.out.symm, hw1⟩
  · have hfin : cfgErr c = 1 := by simp [cfgErr, hn]
    have Hfin := Lib.hid hfin
    clear hfin
    unfold cfgV
    go_enter Tryz.func69, Tryz.ntmps69
    go_wp2_with fail
    refine (refNumbers_any c l _).mono ?_; rintro e w1 ⟨rfl, hb1⟩
    have hw1 := below_box1 hb1
    go_wp2_with fail
    go_ret
    exact ⟨ret_int Hfin.out.symm, hw1⟩
end Go.Proofs.YtpbkelpokpglaaaGreat
