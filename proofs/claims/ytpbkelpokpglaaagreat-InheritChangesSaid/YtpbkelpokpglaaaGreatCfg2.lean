/- Walks: the checks of a configuration's programs and submissions (config). -/
import Derived.Test.YtpbkelpokpglaaaGreatCfg1
set_option linter.all false
namespace Go.Proofs.YtpbkelpokpglaaaGreat
open Go.RowKit
theorem progsErr_drop_long {lv np : Int} {ps : List (List Ins)} {k : Nat} (hk : k < ps.length) (h : progsErr lv np (ps.drop k) = progsErr lv np ps) (hl : 32 < ps[k].length) : progsErr lv np ps = 2 := by
  rw [← h, List.drop_eq_getElem_cons hk]; simp [progsErr, hl]
theorem progsErr_drop_bad {lv np : Int} {ps : List (List Ins)} {k j : Nat} (hk : k < ps.length) (h : progsErr lv np (ps.drop k) = progsErr lv np ps) (hl : ps[k].length ≤ 32) (hj : j < ps[k].length) (hb : insOk lv np ps[k][j] = false) : progsErr lv np ps = 1 := by
  rw [← h, List.drop_eq_getElem_cons hk]
  have : ps[k].all (insOk lv np) = false := by
    rw [List.all_eq_false]; exact ⟨_, List.getElem_mem hj, by simp [hb]⟩
  simp [progsErr, Nat.not_lt.2 hl, this]
theorem progsErr_drop_next {lv np : Int} {ps : List (List Ins)} {k : Nat} (hk : k < ps.length) (h : progsErr lv np (ps.drop k) = progsErr lv np ps) (hl : ps[k].length ≤ 32) (ha : (ps[k].take ps[k].length).all (insOk lv np) = true) : progsErr lv np (ps.drop (k + 1)) = progsErr lv np ps := by
  rw [← h, List.drop_eq_getElem_cons hk]
  rw [List.take_length] at ha
  simp [progsErr, Nat.not_lt.2 hl, ha]
theorem all_take_succ {α : Type} {f : α → Bool} {l : List α} {j : Nat} (hj : j < l.length) (h : (l.take j).all f = true) (hf : f l[j] = true) : (l.take (j + 1)).all f = true := by
  rw [List.take_succ_eq_append_getElem hj, List.all_append, h]; simp [hf]
def PInv (lv np : Int) (ps : List (List Ins)) (k : Nat) : Prop := progsErr lv np (ps.drop k) = progsErr lv np ps
def QInv (lv np : Int) (p : List Ins) (k : Nat) : Prop := (p.take k).all (insOk lv np) = true
/-- The box of a configuration. -/
@[reducible] def cfgBox (c : Cfg) (l : CfgAt) : Obj := .cells #[.int .i64 c.workers, .int .i64 c.levels, .int .i64 c.classes, .int .i64 c.tasks, .int .i64 c.deque, .int .i64 c.heap, .int .i64 c.batch, .int .i64 c.age, .int .i64 c.patience, .slice l.pa c.progs.length l.pc, .slice l.sa c.subs.length l.sc] 28
set_option maxHeartbeats 2000000 in
theorem cfgPrograms_any (c : Cfg) (l : CfgAt) (w : World) (h1 : 1 ≤ c.levels) (h2 : c.levels ≤ 64) (hc : CfgIn w w.heap.size c l) :
    Calls Tryz.prog 90 #[cfgV c l] w fun e w' => e = .returned (.int .i64 (progsAll c)) ∧ Below w.heap.size w w' := by
  have hlen := hc.1.1
  by_cases hp : inB (c.progs.length : Int) 1 32 = true
  · have hfin : progsAll c = progsErr c.levels c.progs.length c.progs := by simp [progsAll, hp]
    have Hfin := Lib.hid hfin
    clear hfin
    unfold cfgV
    go_enter Tryz.func90, Tryz.ntmps90
    go_wp2_with (first | (go_at_call 147; refine (cfgIn_any _ _ _ _).mono ?_; rintro e w' ⟨rfl, rfl⟩))
    go_loopw [15] (fun i wr => ∃ k : Nat, k ≤ c.progs.length ∧ i = .int .i64 k ∧ PInv c.levels c.progs.length c.progs k ∧ Below (w.heap.size + 1) (w.alloc (cfgBox c l)) wr) (fun i _ => c.progs.length - (intOf i).toNat)
    case atStart => exact ⟨0, Nat.zero_le _, rfl, rfl, Below.refl _ _⟩
    case round =>
      obtain ⟨k, hk, rfl, hi, hb⟩ := hrel
      have hB : w.heap.size < wr.heap.size := by have := hb.size; simp at this; omega
      have hbw : Below w.heap.size w wr := ((Below.refl _ _).alloc (Nat.le_refl _) _).trans (hb.mono (by omega))
      by_cases hlt : k < c.progs.length
      · obtain ⟨b, o, hpa, hbb, Ai, ci, hcell, hsl⟩ := hc.1.at_ hlt
        have hln := hsl.len
        obtain ⟨hcs, hfz⟩ := bcell hb
        by_cases hlong : 32 < c.progs[k].length
        · have hres := Lib.hid (progsErr_drop_long hlt hi hlong)
          obtain ⟨pa, pc, sa, sc⟩ := l
          obtain rfl : pa = some ⟨b, o, none⟩ := hpa
          go_wp2
          go_ret
          exact ⟨ret_int (by rw [Hfin.out, hres.out]), hbw⟩
        · obtain ⟨pa, pc, sa, sc⟩ := l
          obtain rfl : pa = some ⟨b, o, none⟩ := hpa
          go_wp2
          obtain ⟨wo, rfl⟩ : ∃ wo : World, wo = wr := ⟨_, rfl⟩
          clear hcs hfz
          go_loopw [24] (fun i ws => ∃ j : Nat, j ≤ c.progs[k].length ∧ i = .int .i64 j ∧ QInv c.levels c.progs.length c.progs[k] j ∧ Below (w.heap.size + 1) (w.alloc (cfgBox c ⟨some ⟨b, o, none⟩, pc, sa, sc⟩)) ws) (fun i _ => c.progs[k].length - (intOf i).toNat)
          case atStart => exact ⟨0, Nat.zero_le _, rfl, by simp [QInv], hb⟩
          case round =>
            obtain ⟨j, hj, rfl, hq, hb2⟩ := hrel
            have hB2 : w.heap.size < wr.heap.size := by have := hb2.size; simp at this; omega
            have hbw2 : Below w.heap.size w wr := ((Below.refl _ _).alloc (Nat.le_refl _) _).trans (hb2.mono (by omega))
            by_cases hjt : j < c.progs[k].length
            · obtain ⟨b2, o2, hpa2, hbb2, hcc⟩ := hsl.at_ hjt
              obtain rfl : Ai = some ⟨b2, o2, none⟩ := hpa2
              obtain ⟨hcs, hfz⟩ := bcell hb2
              have c0 : w.cell? ⟨b2, o2 + j * 3, none⟩ = some (.int .i64 c.progs[k][j].op) := hcc j hjt 0 _ rfl
              have c1 : w.cell? ⟨b2, o2 + j * 3 + 1, none⟩ = some (.int .i64 c.progs[k][j].a) := hcc j hjt 1 _ rfl
              have c2 : w.cell? ⟨b2, o2 + j * 3 + 2, none⟩ = some (.int .i64 c.progs[k][j].b) := hcc j hjt 2 _ rfl
              by_cases hok : insOk c.levels c.progs.length c.progs[k][j] = true
              · go_wp2_with (first | (go_at_call 148; refine (cfgValid_any c ⟨some ⟨b, o, none⟩, pc, sa, sc⟩ c.progs[k][j] _ h1 h2 hlen).mono ?_; rintro e w' ⟨rfl, hbv⟩))
                go_roundw
                case rel => exact ⟨j + 1, by omega, by go_num, all_take_succ hjt hq hok, (hb2.alloc (by omega) _).trans (hbv.mono (by simp; omega))⟩
                case measure => simp [intOf]; omega
              · have hok' : insOk c.levels c.progs.length c.progs[k][j] = false := by simpa using hok
                clear hok
                have hres := Lib.hid (progsErr_drop_bad hlt hi (by omega) hjt hok')
                go_wp2_with (first | (go_at_call 148; refine (cfgValid_any c ⟨some ⟨b, o, none⟩, pc, sa, sc⟩ c.progs[k][j] _ h1 h2 hlen).mono ?_; rintro e w' ⟨rfl, hbv⟩))
                go_ret
                exact ⟨ret_int (by rw [Hfin.out, hres.out]), ((Below.refl _ _).alloc (Nat.le_refl _) _).trans (((hb2.alloc (by omega) _).trans (hbv.mono (by simp; omega))).mono (by omega))⟩
            · obtain ⟨hcs, hfz⟩ := bcell hb2
              go_wp2
              go_roundw
              case rel => exact ⟨k + 1, by omega, by go_num, progsErr_drop_next hlt hi (by omega) (by
                have e : j = c.progs[k].length := by omega
                subst e; exact hq), hb2⟩
              case measure => simp [intOf]; omega
      · go_wp2
        go_ret
        exact ⟨ret_int (by
          have hi' : progsErr c.levels c.progs.length (c.progs.drop k) = progsErr c.levels c.progs.length c.progs := hi
          rw [Hfin.out, ← hi', List.drop_eq_nil_of_le (by omega)]; rfl), hbw⟩
  · have hfin : progsAll c = 2 := by simp [progsAll, hp]
    have Hfin := Lib.hid hfin
    clear hfin
    unfold cfgV
    go_enter Tryz.func90, Tryz.ntmps90
    go_wp2_with (first | (go_at_call 147; refine (cfgIn_any _ _ _ _).mono ?_; rintro e w' ⟨rfl, rfl⟩))
    go_ret
    exact ⟨ret_int Hfin.out.symm, (Below.refl _ _).alloc (Nat.le_refl _) _⟩
theorem subsErr_drop_bad {lv np : Int} {ss : List Sub} {k : Nat} (hk : k < ss.length) (h : subsErr lv np (ss.drop k) = subsErr lv np ss) {e : Int} (he : subErr lv np ss[k] = e) (hne : e ≠ 0) : subsErr lv np ss = e := by
  subst he
  rw [← h, List.drop_eq_getElem_cons hk]; simp [subsErr, hne]
theorem subsErr_drop_next {lv np : Int} {ss : List Sub} {k : Nat} (hk : k < ss.length) (h : subsErr lv np (ss.drop k) = subsErr lv np ss) (he : subErr lv np ss[k] = 0) : subsErr lv np (ss.drop (k + 1)) = subsErr lv np ss := by
  rw [← h, List.drop_eq_getElem_cons hk]; simp [subsErr, he]
def SInv (lv np : Int) (ss : List Sub) (k : Nat) : Prop := subsErr lv np (ss.drop k) = subsErr lv np ss
set_option maxHeartbeats 2000000 in
theorem cfgSubs_any (c : Cfg) (l : CfgAt) (w : World) (h1 : 1 ≤ c.levels) (h2 : c.levels ≤ 64) (hc : CfgIn w w.heap.size c l) :
    Calls Tryz.prog 91 #[cfgV c l] w fun e w' => e = .returned (.int .i64 (subsAll c)) ∧ Below w.heap.size w w' := by
  have hlen := hc.1.1
  have hlen2 := hc.2.1
  by_cases hp : 64 < c.subs.length
  · have hfin : subsAll c = 2 := by simp [subsAll, hp]
    have Hfin := Lib.hid hfin
    clear hfin
    unfold cfgV
    go_enter Tryz.func91, Tryz.ntmps91
    go_wp2
    go_ret
    exact ⟨ret_int Hfin.out.symm, (Below.refl _ _).alloc (Nat.le_refl _) _⟩
  · have hfin : subsAll c = subsErr c.levels c.progs.length c.subs := by simp [subsAll, hp]
    have Hfin := Lib.hid hfin
    clear hfin
    unfold cfgV
    go_enter Tryz.func91, Tryz.ntmps91
    go_wp2
    go_loopw [12] (fun i wr => ∃ k : Nat, k ≤ c.subs.length ∧ i = .int .i64 k ∧ SInv c.levels c.progs.length c.subs k ∧ Below (w.heap.size + 1) (w.alloc (cfgBox c l)) wr) (fun i _ => c.subs.length - (intOf i).toNat)
    case atStart => exact ⟨0, Nat.zero_le _, rfl, rfl, Below.refl _ _⟩
    case round =>
      obtain ⟨k, hk, rfl, hi, hb⟩ := hrel
      have hB : w.heap.size < wr.heap.size := by have := hb.size; simp at this; omega
      have hbw : Below w.heap.size w wr := ((Below.refl _ _).alloc (Nat.le_refl _) _).trans (hb.mono (by omega))
      obtain ⟨hcs, hfz⟩ := bcell hb
      by_cases hlt : k < c.subs.length
      · obtain ⟨b, o, hpa, hbb, hcc⟩ := hc.2.at_ hlt
        obtain ⟨pa, pc, sa, sc⟩ := l
        obtain rfl : sa = some ⟨b, o, none⟩ := hpa
        have c0 : w.cell? ⟨b, o + k * 3, none⟩ = some (.int .i64 c.subs[k].prog) := hcc k hlt 0 _ rfl
        have c1 : w.cell? ⟨b, o + k * 3 + 1, none⟩ = some (.int .i64 c.subs[k].level) := hcc k hlt 1 _ rfl
        have c2 : w.cell? ⟨b, o + k * 3 + 2, none⟩ = some (.int .i64 c.subs[k].deadline) := hcc k hlt 2 _ rfl
        have hse : subErr c.levels c.progs.length c.subs[k] = if !inB c.subs[k].prog 0 (c.progs.length - 1) then 3 else if !inB c.subs[k].level 0 (c.levels - 1) || !inB c.subs[k].deadline 0 16777215 then 1 else 0 := rfl
        have Hse := Lib.hid hse
        clear hse
        have bad := fun e he hne => Lib.hid (subsErr_drop_bad (e := e) hlt hi he hne)
        by_cases g1 : inB c.subs[k].prog 0 (c.progs.length - 1) = true
        · by_cases g2 : inB c.subs[k].level 0 (c.levels - 1) = true
          · by_cases g3 : inB c.subs[k].deadline 0 16777215 = true
            · go_wp2_with (first | (go_at_call 147; refine (cfgIn_any _ _ _ _).mono ?_; rintro e w' ⟨rfl, rfl⟩))
              go_roundw
              case rel => exact ⟨k + 1, by omega, by go_num, subsErr_drop_next hlt hi (by rw [Hse.out]; simp [g1, g2, g3]), hb.alloc (by omega) _⟩
              case measure => simp [intOf]; omega
            · go_wp2_with (first | (go_at_call 147; refine (cfgIn_any _ _ _ _).mono ?_; rintro e w' ⟨rfl, rfl⟩))
              go_ret
              exact ⟨ret_int (by rw [Hfin.out, (bad 1 (by rw [Hse.out]; simp [g1, g2, g3]) (by omega)).out]), hbw.alloc (by omega) _⟩
          · go_wp2_with (first | (go_at_call 147; refine (cfgIn_any _ _ _ _).mono ?_; rintro e w' ⟨rfl, rfl⟩))
            go_ret
            exact ⟨ret_int (by rw [Hfin.out, (bad 1 (by rw [Hse.out]; simp [g1, g2]) (by omega)).out]), hbw.alloc (by omega) _⟩
        · go_wp2_with (first | (go_at_call 147; refine (cfgIn_any _ _ _ _).mono ?_; rintro e w' ⟨rfl, rfl⟩))
          go_ret
          exact ⟨ret_int (by rw [Hfin.out, (bad 3 (by rw [Hse.out]; simp [g1]) (by omega)).out]), hbw.alloc (by omega) _⟩
      · go_wp2
        go_ret
        exact ⟨ret_int (by
          have hi' : subsErr c.levels c.progs.length (c.subs.drop k) = subsErr c.levels c.progs.length c.subs := hi
          rw [Hfin.out, ← hi', List.drop_eq_nil_of_le (by omega)]; rfl), hbw⟩
set_option maxHeartbeats 2000000 in
theorem cfgCheck_any (c : Cfg) (l : CfgAt) (w : World) (hc : CfgIn w w.heap.size c l) :
    Calls Tryz.prog 63 #[cfgV c l] w fun e w' => e = .returned (.int .i64 (cfgErr c)) ∧ Below w.heap.size w w' := by
  by_cases hn : numsOk c = true
  · obtain ⟨_, _, h1, h2, _⟩ := numsOk_spec hn
    by_cases hp : progsAll c = 0
    · have hfin : cfgErr c = subsAll c := by simp [cfgErr, hn, hp]
      have Hfin := Lib.hid hfin
      clear hfin
      unfold cfgV
      go_enter Tryz.func63, Tryz.ntmps63
      go_wp2_with fail
      refine (cfgNumbers_any c l _).mono ?_; rintro e w1 ⟨rfl, hb1⟩
      obtain ⟨hc1, hf1⟩ := bcell hb1
      have hw1 := below_box1 hb1
      go_wp2_with fail
      refine (cfgPrograms_any c l _ h1 h2 (hc.up hw1)).mono ?_; rintro e w2 ⟨rfl, hb2⟩
      have hw2 := below_next hw1 hb2
      obtain ⟨hc2, hf2⟩ := bcell (below_next hb1 hb2)
      clear hc1 hf1
      go_wp2_with fail
      refine (cfgSubs_any c l _ h1 h2 (hc.up hw2)).mono ?_; rintro e w3 ⟨rfl, hb3⟩
      go_wp2_with fail
      go_ret
      exact ⟨ret_int Hfin.out.symm, below_next hw2 hb3⟩
    · have hfin : cfgErr c = progsAll c := by simp [cfgErr, hn, hp]
      have Hfin := Lib.hid hfin
      have hp' : (progsAll c == 0) = false := by simpa using hp
      clear hfin hp
      unfold cfgV
      go_enter Tryz.func63, Tryz.ntmps63
      go_wp2_with fail
      refine (cfgNumbers_any c l _).mono ?_; rintro e w1 ⟨rfl, hb1⟩
      obtain ⟨hc1, hf1⟩ := bcell hb1
      have hw1 := below_box1 hb1
      go_wp2_with fail
      refine (cfgPrograms_any c l _ h1 h2 (hc.up hw1)).mono ?_; rintro e w2 ⟨rfl, hb2⟩
      have hw2 := below_next hw1 hb2
      obtain ⟨hc2, hf2⟩ := bcell (below_next hb1 hb2)
      clear hc1 hf1
      go_wp2_with fail
      go_ret
      exact ⟨ret_int Hfin.out.symm, hw2⟩
  · have hfin : cfgErr c = 1 := by simp [cfgErr, hn]
    have Hfin := Lib.hid hfin
    clear hfin
    unfold cfgV
    go_enter Tryz.func63, Tryz.ntmps63
    go_wp2_with fail
    refine (cfgNumbers_any c l _).mono ?_; rintro e w1 ⟨rfl, hb1⟩
    have hw1 := below_box1 hb1
    go_wp2_with fail
    go_ret
    exact ⟨ret_int Hfin.out.symm, hw1⟩
end Go.Proofs.YtpbkelpokpglaaaGreat
