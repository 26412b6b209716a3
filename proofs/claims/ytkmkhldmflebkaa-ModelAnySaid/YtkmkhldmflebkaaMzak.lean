/- Walks: the checks of a configuration (config and its reference), function by function. Walks: the checks of a configuration's programs and submissions (config). The check of a configuration, in the evaluator's words. Walks: the check of a configuration (its reference), and whether it is small. The reference's check of a configuration, in the evaluator's words. What it means that an answer is there; numbers; loops. Configurations in the evaluator's form. The reference of the model in the evaluator's form. -/
import Derived.Test.YtkmkhldmflebkaaRows
import Derived.Test.YtkmkhldmflebkaaMzaa
import Derived.Test.YtkmkhldmflebkaaMzaj
set_option linter.all false
namespace Go.Proofs.Ytkmkhldmflebkaa
section
open Go.RowKit
set_option maxHeartbeats 400000 in
theorem ac7 (a b c : Int) (w : World) :
    Calls Try.prog 49 #[.int .i64 a, .int .i64 b, .int .i64 c] w fun e w' => e = .returned (.bool (inB a b c)) ∧ w = w' := by
  unfold inB
  by_cases h : b ≤ a
  all_goals
    go_enter Try.func49, Try.ntmps49
    go_wp2
    go_ret
    all_goals (simp [*] <;> omega)
set_option maxHeartbeats 400000 in
theorem ac4 (a b c : Int) (w : World) :
    Calls Try.prog 45 #[.int .i64 a, .int .i64 b, .int .i64 c] w fun e w' => e = .returned (.bool (inB a b c)) ∧ w = w' := by
  unfold inB
  by_cases h : b ≤ a
  all_goals
    go_enter Try.func45, Try.ntmps45
    go_wp2
    go_ret
    all_goals (simp [*] <;> omega)
set_option maxHeartbeats 1000000 in
theorem ad8 (c : Cfg) (l : CfgAt) (w : World) :
    Calls Try.prog 24 #[ahe c l] w fun e w' => e = .returned (.bool (afM c)) ∧ Below w.heap.size w w' := by
  unfold ahe afM
  by_cases hl : c.levels < 8
  all_goals
    go_enter Try.func24, Try.ntmps24
    go_wp2_with (first | (go_at_call 49; refine (ac7 _ _ _ _).mono ?_; rintro e w' ⟨rfl, rfl⟩))
    all_goals go_ret
    all_goals simp [*]
    all_goals exact (Below.refl _ _).alloc (Nat.le_refl _) _
set_option maxHeartbeats 1000000 in
theorem agZ (c : Cfg) (l : CfgAt) (x : Ins) (w : World) (h1 : 1 ≤ c.levels) (h2 : c.levels ≤ 64) (hp : c.progs.length ≤ 9223372036854775807) :
    Calls Try.prog 50 #[ahe c l, .agg #[.int .i64 x.op, .int .i64 x.a, .int .i64 x.b]] w fun e w' => e = .returned (.bool (afE c.levels c.progs.length x)) ∧ Below w.heap.size w w' := by
  unfold ahe
  go_enter Try.func50, Try.ntmps50
  go_wp2_with (first | (go_at_call 49; refine (ac7 _ _ _ _).mono ?_; rintro e w' ⟨rfl, rfl⟩))
  all_goals go_ret
  all_goals refine ⟨akR (by unfold afE; simp_all), ?_⟩
  all_goals exact ((Below.refl _ _).alloc (Nat.le_refl _) _).alloc (by simp) _
set_option maxHeartbeats 1000000 in
theorem agV (c : Cfg) (l : CfgAt) (x : Ins) (w : World) (h1 : 1 ≤ c.levels) (h2 : c.levels ≤ 64) (hp : c.progs.length ≤ 9223372036854775807) :
    Calls Try.prog 46 #[ahe c l, .agg #[.int .i64 x.op, .int .i64 x.a, .int .i64 x.b]] w fun e w' => e = .returned (.bool (afE c.levels c.progs.length x)) ∧ Below w.heap.size w w' := by
  unfold ahe
  go_enter Try.func46, Try.ntmps46
  go_wp2_with (first | (go_at_call 45; refine (ac4 _ _ _ _).mono ?_; rintro e w' ⟨rfl, rfl⟩))
  all_goals go_ret
  all_goals refine ⟨akR (by unfold afE; simp_all), ?_⟩
  all_goals exact ((Below.refl _ _).alloc (Nat.le_refl _) _).alloc (by simp) _
set_option maxHeartbeats 1000000 in
theorem ad6 (c : Cfg) (l : CfgAt) (w : World) :
    Calls Try.prog 44 #[ahe c l] w fun e w' => e = .returned (.bool (afM c)) ∧ Below w.heap.size w w' := by
  unfold ahe afM
  by_cases hl : c.levels < 8
  all_goals
    go_enter Try.func44, Try.ntmps44
    go_wp2_with (first | (go_at_call 45; refine (ac4 _ _ _ _).mono ?_; rintro e w' ⟨rfl, rfl⟩))
    all_goals go_ret
    all_goals simp [*]
    all_goals exact (Below.refl _ _).alloc (Nat.le_refl _) _
theorem ad1 {lv np : Int} {ps : List (List Ins)} {k : Nat} (hk : k < ps.length) (h : aaT lv np (ps.drop k) = aaT lv np ps) (hl : 32 < ps[k].length) : aaT lv np ps = 2 := by
  rw [← h, List.drop_eq_getElem_cons hk]; simp [aaT, hl]
theorem aei {lv np : Int} {ps : List (List Ins)} {k j : Nat} (hk : k < ps.length) (h : aaT lv np (ps.drop k) = aaT lv np ps) (hl : ps[k].length ≤ 32) (hj : j < ps[k].length) (hb : afE lv np ps[k][j] = false) : aaT lv np ps = 1 := by
  rw [← h, List.drop_eq_getElem_cons hk]
  have : ps[k].all (afE lv np) = false := by
    rw [List.all_eq_false]; exact ⟨_, List.getElem_mem hj, by simp [hb]⟩
  simp [aaT, Nat.not_lt.2 hl, this]
theorem ad0 {lv np : Int} {ps : List (List Ins)} {k : Nat} (hk : k < ps.length) (h : aaT lv np (ps.drop k) = aaT lv np ps) (hl : ps[k].length ≤ 32) (ha : (ps[k].take ps[k].length).all (afE lv np) = true) : aaT lv np (ps.drop (k + 1)) = aaT lv np ps := by
  rw [← h, List.drop_eq_getElem_cons hk]
  rw [List.take_length] at ha
  simp [aaT, Nat.not_lt.2 hl, ha]
theorem agq {α : Type} {f : α → Bool} {l : List α} {j : Nat} (hj : j < l.length) (h : (l.take j).all f = true) (hf : f l[j] = true) : (l.take (j + 1)).all f = true := by
  rw [List.take_succ_eq_append_getElem hj, List.all_append, h]; simp [hf]
def atM (lv np : Int) (ps : List (List Ins)) (k : Nat) : Prop := aaT lv np (ps.drop k) = aaT lv np ps
def asH (lv np : Int) (p : List Ins) (k : Nat) : Prop := (p.take k).all (afE lv np) = true
@[reducible] def afd (c : Cfg) (l : CfgAt) : Obj := .cells #[.int .i64 c.workers, .int .i64 c.levels, .int .i64 c.classes, .int .i64 c.tasks, .int .i64 c.deque, .int .i64 c.heap, .int .i64 c.batch, .int .i64 c.age, .int .i64 c.patience, .slice l.pa c.progs.length l.pc, .slice l.sa c.subs.length l.sc] 25
set_option maxHeartbeats 2000000 in
theorem afc (c : Cfg) (l : CfgAt) (w : World) (h1 : 1 ≤ c.levels) (h2 : c.levels ≤ 64) (hc : af0 w w.heap.size c l) :
    Calls Try.prog 25 #[ahe c l] w fun e w' => e = .returned (.int .i64 (ab1 c)) ∧ Below w.heap.size w w' := by
  have hlen := hc.1.1
  by_cases hp : inB (c.progs.length : Int) 1 32 = true
  · have hfin : ab1 c = aaT c.levels c.progs.length c.progs := by simp [ab1, hp]
    have Hfin := Lib.hid hfin
    clear hfin
    unfold ahe
    go_enter Try.func25, Try.ntmps25
    go_wp2_with (first | (go_at_call 49; refine (ac7 _ _ _ _).mono ?_; rintro e w' ⟨rfl, rfl⟩))
    go_loopw [15] (fun i wr => ∃ k : Nat, k ≤ c.progs.length ∧ i = .int .i64 k ∧ atM c.levels c.progs.length c.progs k ∧ Below (w.heap.size + 1) (w.alloc (afd c l)) wr) (fun i _ => c.progs.length - (intOf i).toNat)
    case atStart => exact ⟨0, Nat.zero_le _, rfl, rfl, Below.refl _ _⟩
    case round =>
      obtain ⟨k, hk, rfl, hi, hb⟩ := hrel
      have hB : w.heap.size < wr.heap.size := by have := hb.size; simp at this; omega
      have hbw : Below w.heap.size w wr := ((Below.refl _ _).alloc (Nat.le_refl _) _).trans (hb.mono (by omega))
      by_cases hlt : k < c.progs.length
      · obtain ⟨b, o, hpa, hbb, Ai, ci, hcell, hsl⟩ := hc.1.at_ hlt
        have hln := hsl.len
        obtain ⟨hcs, hfz⟩ := agN hb
        by_cases hlong : 32 < c.progs[k].length
        · have hres := Lib.hid (ad1 hlt hi hlong)
          obtain ⟨pa, pc, sa, sc⟩ := l
          obtain rfl : pa = some ⟨b, o, none⟩ := hpa
          go_wp2
          go_ret
          exact ⟨abT (by rw [Hfin.out, hres.out]), hbw⟩
        · obtain ⟨pa, pc, sa, sc⟩ := l
          obtain rfl : pa = some ⟨b, o, none⟩ := hpa
          go_wp2
          obtain ⟨wo, rfl⟩ : ∃ wo : World, wo = wr := ⟨_, rfl⟩
          clear hcs hfz
          go_loopw [24] (fun i ws => ∃ j : Nat, j ≤ c.progs[k].length ∧ i = .int .i64 j ∧ asH c.levels c.progs.length c.progs[k] j ∧ Below (w.heap.size + 1) (w.alloc (afd c ⟨some ⟨b, o, none⟩, pc, sa, sc⟩)) ws) (fun i _ => c.progs[k].length - (intOf i).toNat)
          case atStart => exact ⟨0, Nat.zero_le _, rfl, by simp [asH], hb⟩
          case round =>
            obtain ⟨j, hj, rfl, hq, hb2⟩ := hrel
            have hB2 : w.heap.size < wr.heap.size := by have := hb2.size; simp at this; omega
            have hbw2 : Below w.heap.size w wr := ((Below.refl _ _).alloc (Nat.le_refl _) _).trans (hb2.mono (by omega))
            by_cases hjt : j < c.progs[k].length
            · obtain ⟨b2, o2, hpa2, hbb2, hcc⟩ := hsl.at_ hjt
              obtain rfl : Ai = some ⟨b2, o2, none⟩ := hpa2
              obtain ⟨hcs, hfz⟩ := agN hb2
              have c0 : w.cell? ⟨b2, o2 + j * 3, none⟩ = some (.int .i64 c.progs[k][j].op) := hcc j hjt 0 _ rfl
              have c1 : w.cell? ⟨b2, o2 + j * 3 + 1, none⟩ = some (.int .i64 c.progs[k][j].a) := hcc j hjt 1 _ rfl
              have c2 : w.cell? ⟨b2, o2 + j * 3 + 2, none⟩ = some (.int .i64 c.progs[k][j].b) := hcc j hjt 2 _ rfl
              by_cases hok : afE c.levels c.progs.length c.progs[k][j] = true
              · go_wp2_with (first | (go_at_call 50; refine (agZ c ⟨some ⟨b, o, none⟩, pc, sa, sc⟩ c.progs[k][j] _ h1 h2 hlen).mono ?_; rintro e w' ⟨rfl, hbv⟩))
                go_roundw
                case rel => exact ⟨j + 1, by omega, by go_num, agq hjt hq hok, (hb2.alloc (by omega) _).trans (hbv.mono (by simp; omega))⟩
                case measure => simp [intOf]; omega
              · have hok' : afE c.levels c.progs.length c.progs[k][j] = false := by simpa using hok
                clear hok
                have hres := Lib.hid (aei hlt hi (by omega) hjt hok')
                go_wp2_with (first | (go_at_call 50; refine (agZ c ⟨some ⟨b, o, none⟩, pc, sa, sc⟩ c.progs[k][j] _ h1 h2 hlen).mono ?_; rintro e w' ⟨rfl, hbv⟩))
                go_ret
                exact ⟨abT (by rw [Hfin.out, hres.out]), ((Below.refl _ _).alloc (Nat.le_refl _) _).trans (((hb2.alloc (by omega) _).trans (hbv.mono (by simp; omega))).mono (by omega))⟩
            · obtain ⟨hcs, hfz⟩ := agN hb2
              go_wp2
              go_roundw
              case rel => exact ⟨k + 1, by omega, by go_num, ad0 hlt hi (by omega) (by
                have e : j = c.progs[k].length := by omega
                subst e; exact hq), hb2⟩
              case measure => simp [intOf]; omega
      · go_wp2
        go_ret
        exact ⟨abT (by
          have hi' : aaT c.levels c.progs.length (c.progs.drop k) = aaT c.levels c.progs.length c.progs := hi
          rw [Hfin.out, ← hi', List.drop_eq_nil_of_le (by omega)]; rfl), hbw⟩
  · have hfin : ab1 c = 2 := by simp [ab1, hp]
    have Hfin := Lib.hid hfin
    clear hfin
    unfold ahe
    go_enter Try.func25, Try.ntmps25
    go_wp2_with (first | (go_at_call 49; refine (ac7 _ _ _ _).mono ?_; rintro e w' ⟨rfl, rfl⟩))
    go_ret
    exact ⟨abT Hfin.out.symm, (Below.refl _ _).alloc (Nat.le_refl _) _⟩
theorem aeL {lv np : Int} {ss : List Sub} {k : Nat} (hk : k < ss.length) (h : abS lv np (ss.drop k) = abS lv np ss) {e : Int} (he : agT lv np ss[k] = e) (hne : e ≠ 0) : abS lv np ss = e := by
  subst he
  rw [← h, List.drop_eq_getElem_cons hk]; simp [abS, hne]
theorem aee {lv np : Int} {ss : List Sub} {k : Nat} (hk : k < ss.length) (h : abS lv np (ss.drop k) = abS lv np ss) (he : agT lv np ss[k] = 0) : abS lv np (ss.drop (k + 1)) = abS lv np ss := by
  rw [← h, List.drop_eq_getElem_cons hk]; simp [abS, he]
def atK (lv np : Int) (ss : List Sub) (k : Nat) : Prop := abS lv np (ss.drop k) = abS lv np ss
set_option maxHeartbeats 2000000 in
theorem aku (c : Cfg) (l : CfgAt) (w : World) (h1 : 1 ≤ c.levels) (h2 : c.levels ≤ 64) (hc : af0 w w.heap.size c l) :
    Calls Try.prog 26 #[ahe c l] w fun e w' => e = .returned (.int .i64 (acO c)) ∧ Below w.heap.size w w' := by
  have hlen := hc.1.1
  have hlen2 := hc.2.1
  by_cases hp : 64 < c.subs.length
  · have hfin : acO c = 2 := by simp [acO, hp]
    have Hfin := Lib.hid hfin
    clear hfin
    unfold ahe
    go_enter Try.func26, Try.ntmps26
    go_wp2
    go_ret
    exact ⟨abT Hfin.out.symm, (Below.refl _ _).alloc (Nat.le_refl _) _⟩
  · have hfin : acO c = abS c.levels c.progs.length c.subs := by simp [acO, hp]
    have Hfin := Lib.hid hfin
    clear hfin
    unfold ahe
    go_enter Try.func26, Try.ntmps26
    go_wp2
    go_loopw [12] (fun i wr => ∃ k : Nat, k ≤ c.subs.length ∧ i = .int .i64 k ∧ atK c.levels c.progs.length c.subs k ∧ Below (w.heap.size + 1) (w.alloc (afd c l)) wr) (fun i _ => c.subs.length - (intOf i).toNat)
    case atStart => exact ⟨0, Nat.zero_le _, rfl, rfl, Below.refl _ _⟩
    case round =>
      obtain ⟨k, hk, rfl, hi, hb⟩ := hrel
      have hB : w.heap.size < wr.heap.size := by have := hb.size; simp at this; omega
      have hbw : Below w.heap.size w wr := ((Below.refl _ _).alloc (Nat.le_refl _) _).trans (hb.mono (by omega))
      obtain ⟨hcs, hfz⟩ := agN hb
      by_cases hlt : k < c.subs.length
      · obtain ⟨b, o, hpa, hbb, hcc⟩ := hc.2.at_ hlt
        obtain ⟨pa, pc, sa, sc⟩ := l
        obtain rfl : sa = some ⟨b, o, none⟩ := hpa
        have c0 : w.cell? ⟨b, o + k * 3, none⟩ = some (.int .i64 c.subs[k].prog) := hcc k hlt 0 _ rfl
        have c1 : w.cell? ⟨b, o + k * 3 + 1, none⟩ = some (.int .i64 c.subs[k].level) := hcc k hlt 1 _ rfl
        have c2 : w.cell? ⟨b, o + k * 3 + 2, none⟩ = some (.int .i64 c.subs[k].deadline) := hcc k hlt 2 _ rfl
        have hse : agT c.levels c.progs.length c.subs[k] = if !inB c.subs[k].prog 0 (c.progs.length - 1) then 3 else if !inB c.subs[k].level 0 (c.levels - 1) || !inB c.subs[k].deadline 0 16777215 then 1 else 0 := rfl
        have Hse := Lib.hid hse
        clear hse
        have bad := fun e he hne => Lib.hid (aeL (e := e) hlt hi he hne)
        by_cases g1 : inB c.subs[k].prog 0 (c.progs.length - 1) = true
        · by_cases g2 : inB c.subs[k].level 0 (c.levels - 1) = true
          · by_cases g3 : inB c.subs[k].deadline 0 16777215 = true
            · go_wp2_with (first | (go_at_call 49; refine (ac7 _ _ _ _).mono ?_; rintro e w' ⟨rfl, rfl⟩))
              go_roundw
              case rel => exact ⟨k + 1, by omega, by go_num, aee hlt hi (by rw [Hse.out]; simp [g1, g2, g3]), hb.alloc (by omega) _⟩
              case measure => simp [intOf]; omega
            · go_wp2_with (first | (go_at_call 49; refine (ac7 _ _ _ _).mono ?_; rintro e w' ⟨rfl, rfl⟩))
              go_ret
              exact ⟨abT (by rw [Hfin.out, (bad 1 (by rw [Hse.out]; simp [g1, g2, g3]) (by omega)).out]), hbw.alloc (by omega) _⟩
          · go_wp2_with (first | (go_at_call 49; refine (ac7 _ _ _ _).mono ?_; rintro e w' ⟨rfl, rfl⟩))
            go_ret
            exact ⟨abT (by rw [Hfin.out, (bad 1 (by rw [Hse.out]; simp [g1, g2]) (by omega)).out]), hbw.alloc (by omega) _⟩
        · go_wp2_with (first | (go_at_call 49; refine (ac7 _ _ _ _).mono ?_; rintro e w' ⟨rfl, rfl⟩))
          go_ret
          exact ⟨abT (by rw [Hfin.out, (bad 3 (by rw [Hse.out]; simp [g1]) (by omega)).out]), hbw.alloc (by omega) _⟩
      · go_wp2
        go_ret
        exact ⟨abT (by
          have hi' : abS c.levels c.progs.length (c.subs.drop k) = abS c.levels c.progs.length c.subs := hi
          rw [Hfin.out, ← hi', List.drop_eq_nil_of_le (by omega)]; rfl), hbw⟩
set_option maxHeartbeats 2000000 in
theorem ajM (c : Cfg) (l : CfgAt) (w : World) (hc : af0 w w.heap.size c l) :
    Calls Try.prog 17 #[ahe c l] w fun e w' => e = .returned (.int .i64 (acw c)) ∧ Below w.heap.size w w' := by
  by_cases hn : afM c = true
  · obtain ⟨_, _, h1, h2, _⟩ := afS hn
    by_cases hp : ab1 c = 0
    · have hfin : acw c = acO c := by simp [acw, hn, hp]
      have Hfin := Lib.hid hfin
      clear hfin
      unfold ahe
      go_enter Try.func17, Try.ntmps17
      go_wp2_with fail
      refine (ad8 c l _).mono ?_; rintro e w1 ⟨rfl, hb1⟩
      obtain ⟨hc1, hf1⟩ := agN hb1
      have hw1 := adu hb1
      go_wp2_with fail
      refine (afc c l _ h1 h2 (hc.up hw1)).mono ?_; rintro e w2 ⟨rfl, hb2⟩
      have hw2 := aem hw1 hb2
      obtain ⟨hc2, hf2⟩ := agN (aem hb1 hb2)
      clear hc1 hf1
      go_wp2_with fail
      refine (aku c l _ h1 h2 (hc.up hw2)).mono ?_; rintro e w3 ⟨rfl, hb3⟩
      go_wp2_with fail
      go_ret
      exact ⟨abT Hfin.out.symm, aem hw2 hb3⟩
    · have hfin : acw c = ab1 c := by simp [acw, hn, hp]
      have Hfin := Lib.hid hfin
      have hp' : (ab1 c == 0) = false := by simpa using hp
      clear hfin hp
      unfold ahe
      go_enter Try.func17, Try.ntmps17
      go_wp2_with fail
      refine (ad8 c l _).mono ?_; rintro e w1 ⟨rfl, hb1⟩
      obtain ⟨hc1, hf1⟩ := agN hb1
      have hw1 := adu hb1
      go_wp2_with fail
      refine (afc c l _ h1 h2 (hc.up hw1)).mono ?_; rintro e w2 ⟨rfl, hb2⟩
      have hw2 := aem hw1 hb2
      obtain ⟨hc2, hf2⟩ := agN (aem hb1 hb2)
      clear hc1 hf1
      go_wp2_with fail
      go_ret
      exact ⟨abT Hfin.out.symm, hw2⟩
  · have hfin : acw c = 1 := by simp [acw, hn]
    have Hfin := Lib.hid hfin
    clear hfin
    unfold ahe
    go_enter Try.func17, Try.ntmps17
    go_wp2_with fail
    refine (ad8 c l _).mono ?_; rintro e w1 ⟨rfl, hb1⟩
    have hw1 := adu hb1
    go_wp2_with fail
    go_ret
    exact ⟨abT Hfin.out.symm, hw1⟩
end
section
open Go Go.RowKit
variable [Tb]
theorem ang {f : FuncId} (hf : Nat.blt f aew = true) {r : Cfg → Int} (h : ∀ (c : Cfg) (l : CfgAt) (w : World), af0 w w.heap.size c l → Calls Try.prog f #[ahe c l] w fun e w' => e = .returned (.int .i64 (r c)) ∧ Below w.heap.size w w') :
    CO Try.prog (⟨f, [.val 13], [.sh sI_], fun x => some ((r x.1, ()), ())⟩ : Con SR1) := fun x out hx B W hg vs F w hc => by
  obtain ⟨hb, hB, hs⟩ := hc
  replace hx : (some ((r x.1, ()), ()) : Option ((Int × Unit) × Unit)) = some out := hx
  obtain rfl := Option.some.inj hx
  show aeo Try.prog f _ w _
  rw [ac8 hf]
  rcases vs with _ | ⟨v1, _ | ⟨v2, vs⟩⟩
  · exact aaN hs
  · replace hs : Sat B w (anJ SR1 13 x.1 v1 :: [F]) := hs
    obtain ⟨p, rfl, hp, s1⟩ := apR hs
    exact (h x.1 p w hp).mono fun e w' ⟨he, hb'⟩ => ⟨[.int .i64 (r x.1)], he, hb.trans (hb'.mono hB), Nat.le_trans hB hb'.size, afH (S := SR1) (s1.below hb')⟩
  · replace hs : Sat B w (anJ SR1 13 x.1 v1 :: ([fun _ => False] ++ [F])) := hs
    exact aaN hs.drop
def ahf (c : Cfg) : Option ((Int × Unit) × Unit) := some ((acw c, ()), ())
noncomputable abbrev aig : Con SR1 := ⟨17, [.val 13], [.sh sI_], fun x => ahf x.1⟩
theorem akv : CO Try.prog aig := ang (by kernel_rfl) ajM
end
section
open Go.RowKit
set_option maxHeartbeats 2000000 in
theorem ajm (c : Cfg) (l : CfgAt) (w : World) (hc : af0 w w.heap.size c l) :
    Calls Try.prog 21 #[ahe c l] w fun e w' => e = .returned (.int .i64 (acw c)) ∧ Below w.heap.size w w' := by
  have hlen := hc.1.1
  have hlen2 := hc.2.1
  by_cases hn : afM c = true
  · obtain ⟨_, _, h1, h2, _⟩ := afS hn
    by_cases hp : inB (c.progs.length : Int) 1 32 = true
    · have hpa0 : ab1 c = aaT c.levels c.progs.length c.progs := by simp [ab1, hp]
      have hfin : acw c = if aaT c.levels c.progs.length c.progs ≠ 0 then aaT c.levels c.progs.length c.progs else acO c := by simp [acw, hn, hpa0]
      have Hfin := Lib.hid hfin
      clear hfin hpa0
      unfold ahe
      go_enter Try.func21, Try.ntmps21
      go_wp2_with fail
      refine (ad6 c l _).mono ?_; rintro e w1 ⟨rfl, hb1⟩
      obtain ⟨hc1, hf1⟩ := agN hb1
      have hw1 := adu hb1
      go_wp2_with fail
      refine (ac4 _ _ _ _).mono ?_; rintro e w2 ⟨rfl, rfl⟩
      go_wp2_with fail
      clear hc1 hf1
      have hb1' : Below (w.heap.size + 1) (w.alloc (afd c l)) w1 := by simpa using hb1
      clear hb1
      go_loopw [3] (fun i wr => ∃ k : Nat, k ≤ c.progs.length ∧ i = .int .i64 k ∧ atM c.levels c.progs.length c.progs k ∧ Below (w.heap.size + 1) (w.alloc (afd c l)) wr) (fun i _ => c.progs.length - (intOf i).toNat)
      case atStart => exact ⟨0, Nat.zero_le _, rfl, rfl, hb1'⟩
      case round =>
        clear hb1' hw1
        obtain ⟨k, hk, rfl, hi, hb⟩ := hrel
        have hB : w.heap.size < wr.heap.size := by have := hb.size; simp at this; omega
        have hbw : Below w.heap.size w wr := ((Below.refl _ _).alloc (Nat.le_refl _) _).trans (hb.mono (by omega))
        obtain ⟨hcs, hfz⟩ := agN hb
        by_cases hlt : k < c.progs.length
        · obtain ⟨b, o, hpa, hbb, Ai, ci, hcell, hsl⟩ := hc.1.at_ hlt
          have hln := hsl.len
          obtain ⟨pa, pc, sa, sc⟩ := l
          obtain rfl : pa = some ⟨b, o, none⟩ := hpa
          by_cases hlong : 32 < c.progs[k].length
          · have hres := Lib.hid (ad1 hlt hi hlong)
            go_wp2
            go_ret
            exact ⟨abT (by rw [Hfin.out, hres.out]; simp), hbw⟩
          · go_wp2
            obtain ⟨wo, rfl⟩ : ∃ wo : World, wo = wr := ⟨_, rfl⟩
            clear hcs hfz
            go_loopw [4] (fun i ws => ∃ j : Nat, j ≤ c.progs[k].length ∧ i = .int .i64 j ∧ asH c.levels c.progs.length c.progs[k] j ∧ Below (w.heap.size + 1) (w.alloc (afd c ⟨some ⟨b, o, none⟩, pc, sa, sc⟩)) ws) (fun i _ => c.progs[k].length - (intOf i).toNat)
            case atStart => exact ⟨0, Nat.zero_le _, rfl, by simp [asH], hb⟩
            case round =>
              obtain ⟨j, hj, rfl, hq, hb2⟩ := hrel
              have hB2 : w.heap.size < wr.heap.size := by have := hb2.size; simp at this; omega
              obtain ⟨hcs, hfz⟩ := agN hb2
              by_cases hjt : j < c.progs[k].length
              · obtain ⟨b2, o2, hpa2, hbb2, hcc⟩ := hsl.at_ hjt
                obtain rfl : Ai = some ⟨b2, o2, none⟩ := hpa2
                have c0 : w.cell? ⟨b2, o2 + j * 3, none⟩ = some (.int .i64 c.progs[k][j].op) := hcc j hjt 0 _ rfl
                have c1 : w.cell? ⟨b2, o2 + j * 3 + 1, none⟩ = some (.int .i64 c.progs[k][j].a) := hcc j hjt 1 _ rfl
                have c2 : w.cell? ⟨b2, o2 + j * 3 + 2, none⟩ = some (.int .i64 c.progs[k][j].b) := hcc j hjt 2 _ rfl
                by_cases hok : afE c.levels c.progs.length c.progs[k][j] = true
                · have hok2 : (!afE c.levels c.progs.length c.progs[k][j]) = false := by simp [hok]
                  go_wp2
                  clear hcs hfz
                  have hcx := Above.cells (B := w.heap.size + 1) (W := w.alloc (afd c ⟨some ⟨b, o, none⟩, pc, sa, sc⟩))
                  refine aeZ (w.heap.size + 1) (w.alloc (afd c ⟨some ⟨b, o, none⟩, pc, sa, sc⟩)) (by kernel_rfl) (by kernel_rfl) hb2 ?_
                  repeat (go_big_quiet_step ((go_at_call 46; exact ano (by simp) (agV c ⟨some ⟨b, o, none⟩, pc, sa, sc⟩ c.progs[k][j] _ h1 h2 hlen))))
                  refine wpQuiet_nil ?_
                  intro wq hbq
                  have hbq' : Below w.heap.size w wq := ((Below.refl _ _).alloc (Nat.le_refl _) _).trans (hbq.mono (by omega))
                  clear hcx
                  go_wp2
                  go_roundw
                  case rel => exact ⟨j + 1, by omega, by go_num, agq hjt hq hok, hbq⟩
                  case measure => simp [intOf]; omega
                · have hok' : afE c.levels c.progs.length c.progs[k][j] = false := by simpa using hok
                  clear hok
                  have hres := Lib.hid (aei hlt hi (by omega) hjt hok')
                  go_wp2
                  clear hcs hfz
                  have hcx := Above.cells (B := w.heap.size + 1) (W := w.alloc (afd c ⟨some ⟨b, o, none⟩, pc, sa, sc⟩))
                  refine aeZ (w.heap.size + 1) (w.alloc (afd c ⟨some ⟨b, o, none⟩, pc, sa, sc⟩)) (by kernel_rfl) (by kernel_rfl) hb2 ?_
                  repeat (go_big_quiet_step ((go_at_call 46; exact ano (by simp) (agV c ⟨some ⟨b, o, none⟩, pc, sa, sc⟩ c.progs[k][j] _ h1 h2 hlen))))
                  refine wpQuiet_nil ?_
                  intro wq hbq
                  have hbq' : Below w.heap.size w wq := ((Below.refl _ _).alloc (Nat.le_refl _) _).trans (hbq.mono (by omega))
                  clear hcx
                  go_wp2
                  go_ret
                  exact ⟨abT (by rw [Hfin.out, hres.out]; simp), hbq'⟩
              · go_wp2
                go_roundw
                case rel => exact ⟨k + 1, by omega, by go_num, ad0 hlt hi (by omega) (by
                  have e : j = c.progs[k].length := by omega
                  subst e; exact hq), hb2⟩
                case measure => simp [intOf]; omega
        · have hi' : aaT c.levels c.progs.length (c.progs.drop k) = aaT c.levels c.progs.length c.progs := hi
          have hpz : aaT c.levels c.progs.length c.progs = 0 := by rw [← hi', List.drop_eq_nil_of_le (by omega)]; rfl
          have Hf2 : Hid (acw c = acO c) := by rw [Hfin.out, hpz]; exact if_neg (by simp)
          clear hi hi' hpz
          by_cases hp : 64 < c.subs.length
          · have hfin : acO c = 2 := by simp [acO, hp]
            have Hf3 := Lib.hid hfin
            clear hfin
            go_wp2
            go_ret
            exact ⟨abT (by rw [Hf2.out, Hf3.out]), hbw⟩
          · have hfin : acO c = abS c.levels c.progs.length c.subs := by simp [acO, hp]
            have Hf3 := Lib.hid hfin
            clear hfin
            go_wp2
            obtain ⟨wo, rfl⟩ : ∃ wo : World, wo = wr := ⟨_, rfl⟩
            clear hcs hfz
            go_loopw [5] (fun i wr => ∃ k : Nat, k ≤ c.subs.length ∧ i = .int .i64 k ∧ atK c.levels c.progs.length c.subs k ∧ Below (w.heap.size + 1) (w.alloc (afd c l)) wr) (fun i _ => c.subs.length - (intOf i).toNat)
            case atStart => exact ⟨0, Nat.zero_le _, rfl, rfl, hb⟩
            case round =>
              clear hb hB hbw
              obtain ⟨m, hk, rfl, hi, hb⟩ := hrel
              have hB : w.heap.size < wr.heap.size := by have := hb.size; simp at this; omega
              have hbw : Below w.heap.size w wr := ((Below.refl _ _).alloc (Nat.le_refl _) _).trans (hb.mono (by omega))
              obtain ⟨hcs, hfz⟩ := agN hb
              by_cases hlt : m < c.subs.length
              · obtain ⟨b, o, hpa, hbb, hcc⟩ := hc.2.at_ hlt
                obtain ⟨pa, pc, sa, sc⟩ := l
                obtain rfl : sa = some ⟨b, o, none⟩ := hpa
                have c0 : w.cell? ⟨b, o + m * 3, none⟩ = some (.int .i64 c.subs[m].prog) := hcc m hlt 0 _ rfl
                have c1 : w.cell? ⟨b, o + m * 3 + 1, none⟩ = some (.int .i64 c.subs[m].level) := hcc m hlt 1 _ rfl
                have c2 : w.cell? ⟨b, o + m * 3 + 2, none⟩ = some (.int .i64 c.subs[m].deadline) := hcc m hlt 2 _ rfl
                have hse : agT c.levels c.progs.length c.subs[m] = if !inB c.subs[m].prog 0 (c.progs.length - 1) then 3 else if !inB c.subs[m].level 0 (c.levels - 1) || !inB c.subs[m].deadline 0 16777215 then 1 else 0 := rfl
                have Hse := Lib.hid hse
                clear hse
                have bad := fun e he hne => Lib.hid (aeL (e := e) hlt hi he hne)
                by_cases g1 : inB c.subs[m].prog 0 (c.progs.length - 1) = true
                · by_cases g2 : inB c.subs[m].level 0 (c.levels - 1) = true
                  · by_cases g3 : inB c.subs[m].deadline 0 16777215 = true
                    · go_wp2_with (first | (go_at_call 45; refine (ac4 _ _ _ _).mono ?_; rintro e w' ⟨rfl, rfl⟩))
                      go_roundw
                      case rel => exact ⟨m + 1, by omega, by go_num, aee hlt hi (by rw [Hse.out]; simp [g1, g2, g3]), hb.alloc (by omega) _⟩
                      case measure => simp [intOf]; omega
                    · go_wp2_with (first | (go_at_call 45; refine (ac4 _ _ _ _).mono ?_; rintro e w' ⟨rfl, rfl⟩))
                      go_ret
                      exact ⟨abT (by rw [Hf2.out, Hf3.out, (bad 1 (by rw [Hse.out]; simp [g1, g2, g3]) (by omega)).out]), hbw.alloc (by omega) _⟩
                  · go_wp2_with (first | (go_at_call 45; refine (ac4 _ _ _ _).mono ?_; rintro e w' ⟨rfl, rfl⟩))
                    go_ret
                    exact ⟨abT (by rw [Hf2.out, Hf3.out, (bad 1 (by rw [Hse.out]; simp [g1, g2]) (by omega)).out]), hbw.alloc (by omega) _⟩
                · go_wp2_with (first | (go_at_call 45; refine (ac4 _ _ _ _).mono ?_; rintro e w' ⟨rfl, rfl⟩))
                  go_ret
                  exact ⟨abT (by rw [Hf2.out, Hf3.out, (bad 3 (by rw [Hse.out]; simp [g1]) (by omega)).out]), hbw.alloc (by omega) _⟩
              · go_wp2
                go_ret
                exact ⟨abT (by
                  have hi' : abS c.levels c.progs.length (c.subs.drop m) = abS c.levels c.progs.length c.subs := hi
                  rw [Hf2.out, Hf3.out, ← hi', List.drop_eq_nil_of_le (by omega)]; rfl), hbw⟩
    · have hfin : acw c = 2 := by simp [acw, hn, ab1, hp]
      have Hfin := Lib.hid hfin
      clear hfin
      unfold ahe
      go_enter Try.func21, Try.ntmps21
      go_wp2_with fail
      refine (ad6 c l _).mono ?_; rintro e w1 ⟨rfl, hb1⟩
      obtain ⟨hc1, hf1⟩ := agN hb1
      have hw1 := adu hb1
      go_wp2_with fail
      refine (ac4 _ _ _ _).mono ?_; rintro e w2 ⟨rfl, rfl⟩
      go_wp2_with fail
      go_ret
      exact ⟨abT Hfin.out.symm, hw1⟩
  · have hfin : acw c = 1 := by simp [acw, hn]
    have Hfin := Lib.hid hfin
    clear hfin
    unfold ahe
    go_enter Try.func21, Try.ntmps21
    go_wp2_with fail
    refine (ad6 c l _).mono ?_; rintro e w1 ⟨rfl, hb1⟩
    have hw1 := adu hb1
    go_wp2_with fail
    go_ret
    exact ⟨abT Hfin.out.symm, hw1⟩
end
section
open Go Go.RowKit
variable [Tb]
def ag5 (c : Cfg) : Option ((Int × Unit) × Unit) := some ((acw c, ()), ())
noncomputable abbrev ah0 : Con SR1 := ⟨21, [.val 13], [.sh sI_], fun x => ag5 x.1⟩
theorem aj4 : CO Try.prog ah0 := ang (by kernel_rfl) ajm
end
section
open Go
def aaD {α : Type} (o : Option α) (P : α → Prop) : Prop := ∃ x, o = some x ∧ P x
section
variable {α β : Type} {o : Option α} {P Q : α → Prop} {x : α}
theorem aaD.some_ (h : P x) : aaD (some x) P := ⟨x, rfl, h⟩
theorem aaD.bind {f : α → Option β} {Q : β → Prop} (h : aaD o P) (k : ∀ x, P x → aaD (f x) Q) : aaD (o.bind f) Q := by
  obtain ⟨x, rfl, hx⟩ := h
  exact k x hx
theorem aaD.ite {c : Prop} [Decidable c] {a b : Option α} (h1 : c → aaD a P) (h2 : ¬ c → aaD b P) : aaD (if c then a else b) P := by
  by_cases h : c
  · rw [if_pos h]; exact h1 h
  · rw [if_neg h]; exact h2 h
theorem aaD.guard {c : Prop} [Decidable c] {a b : Option α} (h : c) (k : c → aaD a P) : aaD (if c then a else b) P := by rw [if_pos h]; exact k h
theorem aaD.mono (h : aaD o P) (k : ∀ x, P x → Q x) : aaD o Q := by
  obtain ⟨x, e, hx⟩ := h
  exact ⟨x, e, k x hx⟩
end
def Rg (x : Int) : Prop := -9223372036854775808 ≤ x ∧ x ≤ 9223372036854775807
theorem abR {x : Int} (h : Rg x) : wi x = x := w64 h.1 h.2
theorem aaZ {x : Int} (h : -1000000000000 ≤ x ∧ x ≤ 1000000000000) : Rg x := by unfold Rg; omega
theorem ajY {a b : Int} (h1 : 1 ≤ b) (h2 : 0 ≤ a) : 0 ≤ Int.tmod a b ∧ Int.tmod a b < b := ⟨Int.tmod_nonneg b h2, Int.tmod_lt_of_pos a (by omega)⟩
theorem abU {σ β : Type} {F : (σ → Option β) → σ → Option β} (I : σ → Prop) (μ : σ → Nat) {P : β → Prop} (step : ∀ self x, I x → (∀ y, I y → μ y < μ x → aaD (self y) P) → aaD (F self x) P) : ∀ k x, I x → μ x < k → aaD (lpF F k x) P
  | 0, x, _, h => by omega
  | k + 1, x, hx, h => step (lpF F k) x hx fun y hy hlt => abU I μ step k y hy (by omega)
theorem anw {α : Type} {d : α} {xs : List α} {i : Int} (h : 0 ≤ i ∧ i < (xs.length : Int)) : atL d xs i ∈ xs := List.mem_of_getElem? (abV h)
theorem acS {α β : Type} {G : Prop} [d : Decidable G] (A : Option α) (f : α → Option β) : (A.bind fun r => if G then f r else none) = if G then A.bind f else none := by
  by_cases h : G
  · simp only [if_pos h]
  · simp only [if_neg h]; cases A <;> rfl
end
section
open Go Go.RowKit
set_option maxRecDepth 100000
variable [Tb]
abbrev alL (xs : List VwV) (i : Int) : VwV := atL (dfR 60 : TR 60) xs i
abbrev aaa (xs : List TkV) (i : Int) : TkV := atL (dfR 61 : TR 61) xs i
abbrev aac (xs : List WlV) (i : Int) : WlV := atL (dfR 62 : TR 62) xs i
abbrev aax (xs : List KyV) (i : Int) : KyV := atL (dfR 63 : TR 63) xs i
abbrev alK (xs : List VwV) (i : Int) : VwV := atL (dfR 66 : TR 66) xs i
abbrev ajO (xs : List UseV) (i : Int) : UseV := atL (dfR 67 : TR 67) xs i
abbrev adi (xs : List KyV) (i : Int) : KyV := atL (dfR 68 : TR 68) xs i
abbrev aab (xs : List TkP) (i : Int) : TkP := atL (dfR 70 : TR 70) xs i
abbrev aad (xs : List WkP) (i : Int) : WkP := atL (dfR 71 : TR 71) xs i
noncomputable def abc (r : CodV) (k : Int) : Option ((Int × Unit) × (CodV × Unit)) :=
 if r.at_ < ((r.inn.length : Nat) : Int) then
  if 0 ≤ r.at_ ∧ r.at_ < ((r.inn.length : Nat) : Int) then
   if k ≠ 0 then
   some (((Int.tmod (wi (ao0 r.inn r.at_)) k), ()), (({ r with at_ := wi (r.at_ + 1) } : CodV), ()))
   else none
  else none
 else
 some ((0, ()), (({ r with at_ := wi (r.at_ + 1) } : CodV), ()))
noncomputable abbrev ah1 : Con SR1 := ⟨16, [.ref 19, .sh sI_], [.sh sI_], fun x => abc x.1 x.2.1⟩
theorem aj6 : CO Try.prog ah1 := abC abx Try.func16 [] trivial [] trivial (fun _ => []) [] fun x => by kernel_rfl
noncomputable def ag6 (b : List Int) : Option ((Cfg × Unit) × (Unit)) :=
 (abc (⟨b, [], 0, false⟩ : CodV) 4).bind fun r1 =>
 (abc r1.2.1 4).bind fun r2 =>
 (abc r2.2.1 (if wi (1 + r2.1.1) < 3 then wi (1 + r2.1.1) else 3)).bind fun r3 =>
 (abc r3.2.1 12).bind fun r4 =>
 (abc r4.2.1 4).bind fun r5 =>
 (abc r5.2.1 4).bind fun r6 =>
 (abc r6.2.1 (wi (1 + r5.1.1))).bind fun r7 =>
 (abc r7.2.1 6).bind fun r8 =>
 (abc r8.2.1 8).bind fun r9 =>
 (abc r9.2.1 4).bind fun r10 =>
 (lpF (σ := Int × CodV × Cfg × Unit) (β := Int × CodV × Cfg × Unit) (fun self13 x11 =>
  if x11.1 < (wi (1 + r10.1.1)) then
   (abc x11.2.1 6).bind fun r14 =>
   (lpF (σ := List Ins × Int × CodV × Unit) (β := List Ins × Int × CodV × Unit) (fun self17 x15 =>
   if 0 < x15.2.1 then
   (abc x15.2.2.1 3).bind fun r18 =>
   if r18.1.1 = 0 then
   (abc r18.2.1 4).bind fun r19 =>
   if (((x15.1.length + ([(⟨r18.1.1, wi (1 + r19.1.1), 0⟩ : Ins)] : List Ins).length : Nat)) : Int) < 1000000000000 then
   self17 (x15.1 ++ ([(⟨r18.1.1, wi (1 + r19.1.1), 0⟩ : Ins)]), wi (x15.2.1 - 1), r19.2.1, ())
   else none
   else
   if r18.1.1 = 1 then
   (abc r18.2.1 (wi (1 + r10.1.1))).bind fun r20 =>
   (abc r20.2.1 x11.2.2.1.levels).bind fun r21 =>
   if (((x15.1.length + ([(⟨r18.1.1, r20.1.1, r21.1.1⟩ : Ins)] : List Ins).length : Nat)) : Int) < 1000000000000 then
   self17 (x15.1 ++ ([(⟨r18.1.1, r20.1.1, r21.1.1⟩ : Ins)]), wi (x15.2.1 - 1), r21.2.1, ())
   else none
   else
   (abc r18.2.1 4).bind fun r22 =>
   if (((x15.1.length + ([(⟨r18.1.1, r22.1.1, 0⟩ : Ins)] : List Ins).length : Nat)) : Int) < 1000000000000 then
   self17 (x15.1 ++ ([(⟨r18.1.1, r22.1.1, 0⟩ : Ins)]), wi (x15.2.1 - 1), r22.2.1, ())
   else none
   else
   some (x15.1, x15.2.1, x15.2.2.1, ())
   ) 18446744073709551616 ([], r14.1.1, r14.2.1, ())).bind fun z16 =>
   if (((x11.2.2.1.progs.length + ([z16.1] : List (List Ins)).length : Nat)) : Int) < 100000000000 then
   self13 (wi (x11.1 + 1), z16.2.2.1, ({ x11.2.2.1 with progs := x11.2.2.1.progs ++ ([z16.1]) } : Cfg), ())
   else none
  else
  some (x11.1, x11.2.1, x11.2.2.1, ())
 ) 18446744073709551616 (0, r10.2.1, (⟨wi (1 + r1.1.1), wi (1 + r2.1.1), wi (1 + r3.1.1), wi (1 + r4.1.1), wi (1 + r5.1.1), wi (1 + r6.1.1), wi (1 + r7.1.1), r8.1.1, wi (1 + r9.1.1), [], []⟩ : Cfg), ())).bind fun z12 =>
 (abc z12.2.1 6).bind fun r23 =>
 (lpF (σ := Int × CodV × Cfg × Unit) (β := Int × CodV × Cfg × Unit) (fun self26 x24 =>
  if 0 < x24.1 then
   (abc x24.2.1 (wi (1 + r10.1.1))).bind fun r27 =>
   (abc r27.2.1 x24.2.2.1.levels).bind fun r28 =>
   (abc r28.2.1 16).bind fun r29 =>
   if (((x24.2.2.1.subs.length + ([(⟨r27.1.1, r28.1.1, r29.1.1⟩ : Sub)] : List Sub).length : Nat)) : Int) < 1000000000000 then
   self26 (wi (x24.1 - 1), r29.2.1, ({ x24.2.2.1 with subs := x24.2.2.1.subs ++ ([(⟨r27.1.1, r28.1.1, r29.1.1⟩ : Sub)]) } : Cfg), ())
   else none
  else
  some (x24.1, x24.2.1, x24.2.2.1, ())
 ) 18446744073709551616 (r23.1.1, r23.2.1, z12.2.2.1, ())).bind fun z25 =>
 some ((z25.2.2.1, ()), (()))
noncomputable abbrev ah2 : Con SR1 := ⟨10, [.sh (.ro 17)], [.val 13], fun x => ag6 x.1⟩
theorem aj7 : CO Try.prog ah2 := abC abx Try.func10 [ah1] ⟨aj6, trivial⟩ [] trivial (fun _ => []) [(12, .loop [.rg 6 sI_, .rg 3 (.own 19), .rg 4 (.own 20)] 18446744073709551616 0), (16, .loop [.rg 7 (.row 3), .rg 8 sI_, .rg 3 (.own 19)] 18446744073709551616 2), (29, .loop [.rg 10 sI_, .rg 3 (.own 19), .rg 4 (.own 20)] 18446744073709551616 5)] fun x => by kernel_rfl
noncomputable def aiI (b : List Int) : Option ((Cfg × Unit) × (Unit)) :=
 (ag6 b).bind fun r1 =>
 some ((r1.1.1, ()), (()))
noncomputable abbrev ahA : Con SR1 := ⟨6, [.sh (.ro 17)], [.val 13], fun x => aiI x.1⟩
theorem ah6 : CO Try.prog ahA := abC abx Try.func6 [ah2] ⟨aj7, trivial⟩ [] trivial (fun _ => []) [] fun x => by kernel_rfl
noncomputable def ak6 (b : List Int) (l : List (List Int)) : Option ((Bool × Unit) × (Unit)) :=
 (lpF (σ := Int × Unit) (β := (Int × Unit) ⊕ ((Bool × Unit) × (Unit))) (fun self3 x1 =>
  if x1.1 < ((l.length : Nat) : Int) then
   if 0 ≤ x1.1 ∧ x1.1 < ((l.length : Nat) : Int) then
   if 400 < (((atL [] l x1.1).length : Nat) : Int) then
   Option.map Sum.inr (
   some ((false, ()), (()))
   )
   else
   self3 (wi (x1.1 + 1), ())
   else none
  else
  some (Sum.inl (x1.1, ()))
 ) 18446744073709551616 (0, ())).bind fun z2 => match z2 with
 | .inr o4 => some o4
 | .inl z2 =>
 some ((decide (((b.length : Nat) : Int) ≤ 400), ()), (()))
noncomputable abbrev ak5 : Con SR1 := ⟨5, [.sh (.ro 17), .sh (.rr 1)], [.sh .b], fun x => ak6 x.1 x.2.1⟩
theorem amJ : CO Try.prog ak5 := abC abx Try.func5 [] trivial [] trivial (fun _ => []) [(2, .loopR [.rg 5 sI_] 18446744073709551616 0)] fun x => by kernel_rfl
noncomputable def aaO (y0 : WkP) : Option ((Int × Unit) × (WkP × Unit)) :=
 if ((y0.stack.length : Nat) : Int) = 0 then
  some (((-1), ()), (y0, ()))
 else
 if 0 ≤ wi (((y0.stack.length : Nat) : Int) - 1) ∧ wi (((y0.stack.length : Nat) : Int) - 1) < ((y0.stack.length : Nat) : Int) then
  some ((aaQ y0.stack (wi (((y0.stack.length : Nat) : Int) - 1)), ()), (y0, ()))
 else none
noncomputable abbrev aeN : Con SR1 := ⟨57, [.ref 71], [.sh sI_], fun x => aaO x.1⟩
theorem agE : CO Try.prog aeN := abC abx Try.func57 [] trivial [] trivial (fun _ => []) [] fun x => by kernel_rfl
noncomputable def aaG (y0 : WkP) : Option ((Bool × Unit) × (WkP × Unit)) :=
 if ((y0.stack.length : Nat) : Int) = 0 then
  some (((!y0.walks), ()), (y0, ()))
 else
 some ((false, ()), (y0, ()))
noncomputable abbrev aej : Con SR1 := ⟨59, [.ref 71], [.sh .b], fun x => aaG x.1⟩
theorem aga : CO Try.prog aej := abC abx Try.func59 [] trivial [] trivial (fun _ => []) [] fun x => by kernel_rfl
noncomputable def abZ (y0 : Cfg) : Option ((Bool × Unit) × (Unit)) :=
 if 16 < y0.workers then
  some ((false, ()), (()))
 else
 if 8 < y0.levels then
  some ((false, ()), (()))
 else
 if 16 < y0.tasks then
  some ((false, ()), (()))
 else
 if 8 < y0.deque then
  some ((false, ()), (()))
 else
 if 8 < y0.heap then
  some ((false, ()), (()))
 else
 if 8 < ((y0.progs.length : Nat) : Int) then
  some ((false, ()), (()))
 else
 if 12 < ((y0.subs.length : Nat) : Int) then
  some ((false, ()), (()))
 else
 (lpF (σ := Int × Unit) (β := (Int × Unit) ⊕ ((Bool × Unit) × (Unit))) (fun self3 x1 =>
  if x1.1 < ((y0.progs.length : Nat) : Int) then
   if 0 ≤ x1.1 ∧ x1.1 < ((y0.progs.length : Nat) : Int) then
   if 12 < (((atL [] y0.progs x1.1).length : Nat) : Int) then
   Option.map Sum.inr (
   some ((false, ()), (()))
   )
   else
   self3 (wi (x1.1 + 1), ())
   else none
  else
  some (Sum.inl (x1.1, ()))
 ) 18446744073709551616 (0, ())).bind fun z2 => match z2 with
 | .inr o4 => some o4
 | .inl z2 =>
 some ((true, ()), (()))
noncomputable abbrev acX : Con SR1 := ⟨4, [.val 13], [.sh .b], fun x => abZ x.1⟩
theorem aeQ : CO Try.prog acX := abC abx Try.func4 [] trivial [] trivial (fun _ => []) [(4, .loopR [.rg 3 sI_] 18446744073709551616 0)] fun x => by kernel_rfl
noncomputable def acb (y0 : Int) (y1 : Int) : Option ((Int × Unit) × (Unit)) :=
 if y1 < 1 then
  some ((0, ()), (()))
 else
 if y1 ≠ 0 then
  if (Int.tmod y0 y1) < 0 then
   if y1 ≠ 0 then
   some ((wi ((Int.tmod y0 y1) + y1), ()), (()))
   else none
  else
  if y1 ≠ 0 then
   some (((Int.tmod y0 y1), ()), (()))
  else none
 else none
noncomputable abbrev adk : Con SR1 := ⟨11, [.sh sI_, .sh sI_], [.sh sI_], fun x => acb x.1 x.2.1⟩
theorem ae2 : CO Try.prog adk := abC abx Try.func11 [] trivial [] trivial (fun _ => []) [] fun x => by kernel_rfl
noncomputable def aaU (y0 : List Int) (y1 : Int) (y2 : Int) : Option ((Int × Unit) × (Unit)) :=
 if ((y0.length : Nat) : Int) = 0 then
  some ((0, ()), (()))
 else
 if ((y0.length : Nat) : Int) ≠ 0 then
  if 0 ≤ (Int.tmod y1 ((y0.length : Nat) : Int)) ∧ (Int.tmod y1 ((y0.length : Nat) : Int)) < ((y0.length : Nat) : Int) then
   if ((y0.length : Nat) : Int) ≠ 0 then
   if (wi (1 + (Int.tmod (wi (Int.tdiv y1 ((y0.length : Nat) : Int))) 7))) ≠ 0 then
   (acb (wi (Int.tdiv (aaQ y0 (Int.tmod y1 ((y0.length : Nat) : Int))) (wi (1 + (Int.tmod (wi (Int.tdiv y1 ((y0.length : Nat) : Int))) 7))))) y2).bind fun r1 =>
   some ((r1.1.1, ()), (()))
   else none
   else none
  else none
 else none
noncomputable abbrev ac0 : Con SR1 := ⟨7, [.sh (.ro 1), .sh sI_, .sh sI_], [.sh sI_], fun x => aaU x.1 x.2.1 x.2.2.1⟩
theorem aeU : CO Try.prog ac0 := abC abx Try.func7 [adk] ⟨ae2, trivial⟩ [] trivial (fun _ => []) [] fun x => by kernel_rfl
noncomputable def abI (y0 : QuV) : Option ((Int × Unit) × (QuV × Unit)) :=
 (lpF (σ := Int × Int × QuV × Unit) (β := Int × Int × QuV × Unit) (fun self3 x1 =>
  if x1.2.1 < ((x1.2.2.1.keys.length : Nat) : Int) then
   if 0 ≤ x1.2.1 ∧ x1.2.1 < ((x1.2.2.1.keys.length : Nat) : Int) then
   if 0 ≤ x1.1 ∧ x1.1 < ((x1.2.2.1.keys.length : Nat) : Int) then
   agr (
   if ((aax x1.2.2.1.keys x1.1).deadline) = ((aax x1.2.2.1.keys x1.1).deadline) then
   if ((aax x1.2.2.1.keys x1.1).arrival) = ((aax x1.2.2.1.keys x1.1).arrival) then
   if ((aax x1.2.2.1.keys x1.1).task) = ((aax x1.2.2.1.keys x1.1).task) then
   if ((aax x1.2.2.1.keys x1.2.1).deadline) = ((aax x1.2.2.1.keys x1.2.1).deadline) then
   if ((aax x1.2.2.1.keys x1.2.1).arrival) = ((aax x1.2.2.1.keys x1.2.1).arrival) then
   if ((aax x1.2.2.1.keys x1.2.1).task) = ((aax x1.2.2.1.keys x1.2.1).task) then
   if ((aax x1.2.2.1.keys x1.1).deadline) = ((aax x1.2.2.1.keys x1.1).deadline) then
   if ((aax x1.2.2.1.keys x1.1).arrival) = ((aax x1.2.2.1.keys x1.1).arrival) then
   if ((aax x1.2.2.1.keys x1.1).task) = ((aax x1.2.2.1.keys x1.1).task) then
   if ((aax x1.2.2.1.keys x1.2.1).deadline) = ((aax x1.2.2.1.keys x1.2.1).deadline) then
   if ((aax x1.2.2.1.keys x1.2.1).arrival) = ((aax x1.2.2.1.keys x1.2.1).arrival) then
   if ((aax x1.2.2.1.keys x1.2.1).task) = ((aax x1.2.2.1.keys x1.2.1).task) then
   if ((aax x1.2.2.1.keys x1.1).deadline) = ((aax x1.2.2.1.keys x1.1).deadline) then
   if ((aax x1.2.2.1.keys x1.1).arrival) = ((aax x1.2.2.1.keys x1.1).arrival) then
   if ((aax x1.2.2.1.keys x1.1).task) = ((aax x1.2.2.1.keys x1.1).task) then
   if ((aax x1.2.2.1.keys x1.2.1).deadline) < ((aax x1.2.2.1.keys x1.1).deadline) then
   self3 (x1.2.1, wi (x1.2.1 + 1), x1.2.2.1, ())
   else
   if ((aax x1.2.2.1.keys x1.2.1).deadline) = ((aax x1.2.2.1.keys x1.1).deadline) then
   if ((aax x1.2.2.1.keys x1.2.1).arrival) < ((aax x1.2.2.1.keys x1.1).arrival) then
   self3 (x1.2.1, wi (x1.2.1 + 1), x1.2.2.1, ())
   else
   self3 (x1.1, wi (x1.2.1 + 1), x1.2.2.1, ())
   else
   self3 (x1.1, wi (x1.2.1 + 1), x1.2.2.1, ())
   else none
   else none
   else none
   else none
   else none
   else none
   else none
   else none
   else none
   else none
   else none
   else none
   else none
   else none
   else none
   ) (
   if ((aax x1.2.2.1.keys x1.1).deadline) = ((aax x1.2.2.1.keys x1.1).deadline) then
   if ((aax x1.2.2.1.keys x1.1).arrival) = ((aax x1.2.2.1.keys x1.1).arrival) then
   if ((aax x1.2.2.1.keys x1.1).task) = ((aax x1.2.2.1.keys x1.1).task) then
   if ((aax x1.2.2.1.keys x1.2.1).deadline) = ((aax x1.2.2.1.keys x1.2.1).deadline) then
   if ((aax x1.2.2.1.keys x1.2.1).arrival) = ((aax x1.2.2.1.keys x1.2.1).arrival) then
   if ((aax x1.2.2.1.keys x1.2.1).task) = ((aax x1.2.2.1.keys x1.2.1).task) then
   if ((aax x1.2.2.1.keys x1.1).deadline) = ((aax x1.2.2.1.keys x1.1).deadline) then
   if ((aax x1.2.2.1.keys x1.1).arrival) = ((aax x1.2.2.1.keys x1.1).arrival) then
   if ((aax x1.2.2.1.keys x1.1).task) = ((aax x1.2.2.1.keys x1.1).task) then
   if ((aax x1.2.2.1.keys x1.2.1).deadline) = ((aax x1.2.2.1.keys x1.2.1).deadline) then
   if ((aax x1.2.2.1.keys x1.2.1).arrival) = ((aax x1.2.2.1.keys x1.2.1).arrival) then
   if ((aax x1.2.2.1.keys x1.2.1).task) = ((aax x1.2.2.1.keys x1.2.1).task) then
   if ((aax x1.2.2.1.keys x1.1).deadline) = ((aax x1.2.2.1.keys x1.1).deadline) then
   if ((aax x1.2.2.1.keys x1.1).arrival) = ((aax x1.2.2.1.keys x1.1).arrival) then
   if ((aax x1.2.2.1.keys x1.1).task) = ((aax x1.2.2.1.keys x1.1).task) then
   if ((aax x1.2.2.1.keys x1.2.1).deadline) < ((aax x1.2.2.1.keys x1.1).deadline) then
   self3 (x1.2.1, wi (x1.2.1 + 1), x1.2.2.1, ())
   else
   if ((aax x1.2.2.1.keys x1.2.1).deadline) = ((aax x1.2.2.1.keys x1.1).deadline) then
   if ((aax x1.2.2.1.keys x1.2.1).arrival) < ((aax x1.2.2.1.keys x1.1).arrival) then
   self3 (x1.2.1, wi (x1.2.1 + 1), x1.2.2.1, ())
   else
   self3 (x1.1, wi (x1.2.1 + 1), x1.2.2.1, ())
   else
   self3 (x1.1, wi (x1.2.1 + 1), x1.2.2.1, ())
   else none
   else none
   else none
   else none
   else none
   else none
   else none
   else none
   else none
   else none
   else none
   else none
   else none
   else none
   else none
   )
   else none
   else none
  else
  some (x1.1, x1.2.1, x1.2.2.1, ())
 ) 18446744073709551616 (0, 1, y0, ())).bind fun z2 =>
 some ((z2.1, ()), (z2.2.2.1, ()))
noncomputable abbrev ab9 : Con SR1 := ⟨85, [.ref 65], [.sh sI_], fun x => abI x.1⟩
theorem ade : CO Try.prog ab9 := abC abx Try.func85 [] trivial [] trivial (fun _ => []) [(3, .loop [.rg 3 sI_, .rg 4 sI_, .ob 0 65] 18446744073709551616 0)] fun x => by kernel_rfl
noncomputable def aaL (y0 : QuV) : Option ((Int × Unit) × (QuV × Unit)) :=
 (lpF (σ := Int × Int × QuV × Unit) (β := Int × Int × QuV × Unit) (fun self3 x1 =>
  if x1.2.1 < ((x1.2.2.1.keys.length : Nat) : Int) then
   if 0 ≤ x1.2.1 ∧ x1.2.1 < ((x1.2.2.1.keys.length : Nat) : Int) then
   if 0 ≤ x1.1 ∧ x1.1 < ((x1.2.2.1.keys.length : Nat) : Int) then
   if ((aax x1.2.2.1.keys x1.2.1).deadline) < ((aax x1.2.2.1.keys x1.1).deadline) then
   self3 (x1.2.1, wi (x1.2.1 + 1), x1.2.2.1, ())
   else
   if ((aax x1.2.2.1.keys x1.2.1).deadline) = ((aax x1.2.2.1.keys x1.1).deadline) then
   if ((aax x1.2.2.1.keys x1.2.1).arrival) < ((aax x1.2.2.1.keys x1.1).arrival) then
   self3 (x1.2.1, wi (x1.2.1 + 1), x1.2.2.1, ())
   else
   self3 (x1.1, wi (x1.2.1 + 1), x1.2.2.1, ())
   else
   self3 (x1.1, wi (x1.2.1 + 1), x1.2.2.1, ())
   else none
   else none
  else
  some (x1.1, x1.2.1, x1.2.2.1, ())
 ) 18446744073709551616 (0, 1, y0, ())).bind fun z2 =>
 some ((z2.1, ()), (z2.2.2.1, ()))
noncomputable abbrev acv : Con SR1 := ⟨85, [.ref 65], [.sh sI_], fun x => aaL x.1⟩
theorem adH (y0 : QuV) : abI y0 = aaL y0 := by
  unfold abI aaL
  simp only [if_true, aeK, acS]
  try rfl
theorem adG : CO Try.prog acv := ako ade fun x out hx => (show ab9.spec x = some out from (adH x.1).trans hx)
noncomputable def abK (y0 : QuV) (y1 : Cfg) (y2 : Ev) : Option ((Bool × Unit) × (QuV × Unit)) :=
 if y2.kind = 1 then
  ((
   if y2.other < 0 then
   some (true, y0, ())
   else
   if ((y1.subs.length : Nat) : Int) ≤ y2.other then
   some (true, y0, ())
   else
   some (decide (y1.heap ≤ ((y0.keys.length : Nat) : Int)), y0, ())
  ) : Option (Bool × QuV × Unit)).bind fun z1 =>
  if z1.1 = true then
   some ((false, ()), (z1.2.1, ()))
  else
  if 0 ≤ y2.other ∧ y2.other < ((y1.subs.length : Nat) : Int) then
   agr (
   if y2.task = y2.task then
   if z1.2.1.count = z1.2.1.count then
   if ((acz y1.subs y2.other).deadline) = ((acz y1.subs y2.other).deadline) then
   if y2.other = y2.other then
   agr (
   if (((([] : List KyV).length + z1.2.1.keys.length : Nat)) : Int) < 1000000000000 then
   if y2.task = y2.task then
   if z1.2.1.count = z1.2.1.count then
   if ((acz y1.subs y2.other).deadline) = ((acz y1.subs y2.other).deadline) then
   if y2.other = y2.other then
   if ((((([]) ++ z1.2.1.keys).length + ([(⟨(acz y1.subs y2.other).deadline, z1.2.1.count, y2.task⟩ : KyV)] : List KyV).length : Nat)) : Int) < 1000000000000 then
   some ((true, ()), ((⟨(([]) ++ z1.2.1.keys) ++ ([(⟨(acz y1.subs y2.other).deadline, z1.2.1.count, y2.task⟩ : KyV)]), wi (z1.2.1.count + 1)⟩ : QuV), ()))
   else none
   else none
   else none
   else none
   else none
   else none
   ) (
   if (((([] : List KyV).length + z1.2.1.keys.length : Nat)) : Int) < 1000000000000 then
   if y2.task = y2.task then
   if z1.2.1.count = z1.2.1.count then
   if ((acz y1.subs y2.other).deadline) = ((acz y1.subs y2.other).deadline) then
   if y2.other = y2.other then
   if ((((([]) ++ z1.2.1.keys).length + ([(⟨(acz y1.subs y2.other).deadline, z1.2.1.count, y2.task⟩ : KyV)] : List KyV).length : Nat)) : Int) < 1000000000000 then
   some ((true, ()), ((⟨(([]) ++ z1.2.1.keys) ++ ([(⟨(acz y1.subs y2.other).deadline, z1.2.1.count, y2.task⟩ : KyV)]), wi (z1.2.1.count + 1)⟩ : QuV), ()))
   else none
   else none
   else none
   else none
   else none
   else none
   )
   else none
   else none
   else none
   else none
   ) (
   if y2.task = y2.task then
   if z1.2.1.count = z1.2.1.count then
   if ((acz y1.subs y2.other).deadline) = ((acz y1.subs y2.other).deadline) then
   if y2.other = y2.other then
   if (((([] : List KyV).length + z1.2.1.keys.length : Nat)) : Int) < 1000000000000 then
   if y2.task = y2.task then
   if z1.2.1.count = z1.2.1.count then
   if ((acz y1.subs y2.other).deadline) = ((acz y1.subs y2.other).deadline) then
   if y2.other = y2.other then
   if ((((([]) ++ z1.2.1.keys).length + ([(⟨(acz y1.subs y2.other).deadline, z1.2.1.count, y2.task⟩ : KyV)] : List KyV).length : Nat)) : Int) < 1000000000000 then
   some ((true, ()), ((⟨(([]) ++ z1.2.1.keys) ++ ([(⟨(acz y1.subs y2.other).deadline, z1.2.1.count, y2.task⟩ : KyV)]), wi (z1.2.1.count + 1)⟩ : QuV), ()))
   else none
   else none
   else none
   else none
   else none
   else none
   else none
   else none
   else none
   else none
   )
  else none
 else
 if y2.kind = 13 then
  if ((y0.keys.length : Nat) : Int) = 0 then
   some ((false, ()), (y0, ()))
  else
  (aaL y0).bind fun r2 =>
  if 0 ≤ r2.1.1 ∧ r2.1.1 < ((r2.2.1.keys.length : Nat) : Int) then
   if ((aax r2.2.1.keys r2.1.1).task) ≠ y2.task then
   some ((false, ()), (r2.2.1, ()))
   else
   if 0 ≤ r2.1.1 ∧ r2.1.1 ≤ ((r2.2.1.keys.length : Nat) : Int) then
   if 0 ≤ wi (r2.1.1 + 1) ∧ wi (r2.1.1 + 1) ≤ ((r2.2.1.keys.length : Nat) : Int) then
   if (((([] : List KyV).length + (r2.2.1.keys.take (r2.1.1 : Int).toNat).length : Nat)) : Int) < 1000000000000 then
   if ((((([]) ++ (r2.2.1.keys.take (r2.1.1 : Int).toNat)).length + (r2.2.1.keys.drop (wi (r2.1.1 + 1) : Int).toNat).length : Nat)) : Int) < 1000000000000 then
   some ((true, ()), ((⟨(([]) ++ (r2.2.1.keys.take (r2.1.1 : Int).toNat)) ++ (r2.2.1.keys.drop (wi (r2.1.1 + 1) : Int).toNat), r2.2.1.count⟩ : QuV), ()))
   else none
   else none
   else none
   else none
  else none
 else
 if y2.kind = 2 then
  if y2.level ≠ 1 then
   some ((true, ()), (y0, ()))
  else
  some ((decide (((y0.keys.length : Nat) : Int) = y1.heap), ()), (y0, ()))
 else
 some ((true, ()), (y0, ()))
noncomputable abbrev aca : Con SR1 := ⟨73, [.ref 65, .val 13, .val 2], [.sh .b], fun x => abK x.1 x.2.1 x.2.2.1⟩
theorem adf : CO Try.prog aca := abC abx Try.func73 [acv] ⟨adG, trivial⟩ [] trivial (fun _ => []) [(4, .cut [.rg 32 .b, .ob 0 65] [10, 11, 17, 18])] fun x => by kernel_rfl
noncomputable def aav (y0 : QuV) (y1 : Cfg) (y2 : Ev) : Option ((Bool × Unit) × (QuV × Unit)) :=
 if y2.kind = 1 then
  ((
   if y2.other < 0 then
   some (true, y0, ())
   else
   if ((y1.subs.length : Nat) : Int) ≤ y2.other then
   some (true, y0, ())
   else
   some (decide (y1.heap ≤ ((y0.keys.length : Nat) : Int)), y0, ())
  ) : Option (Bool × QuV × Unit)).bind fun z1 =>
  if z1.1 = true then
   some ((false, ()), (z1.2.1, ()))
  else
  if 0 ≤ y2.other ∧ y2.other < ((y1.subs.length : Nat) : Int) then
   if (((([] : List KyV).length + z1.2.1.keys.length : Nat)) : Int) < 1000000000000 then
   if ((((([]) ++ z1.2.1.keys).length + ([(⟨(acz y1.subs y2.other).deadline, z1.2.1.count, y2.task⟩ : KyV)] : List KyV).length : Nat)) : Int) < 1000000000000 then
   some ((true, ()), ((⟨(([]) ++ z1.2.1.keys) ++ ([(⟨(acz y1.subs y2.other).deadline, z1.2.1.count, y2.task⟩ : KyV)]), wi (z1.2.1.count + 1)⟩ : QuV), ()))
   else none
   else none
  else none
 else
 if y2.kind = 13 then
  if ((y0.keys.length : Nat) : Int) = 0 then
   some ((false, ()), (y0, ()))
  else
  (aaL y0).bind fun r2 =>
  if 0 ≤ r2.1.1 ∧ r2.1.1 < ((r2.2.1.keys.length : Nat) : Int) then
   if ((aax r2.2.1.keys r2.1.1).task) ≠ y2.task then
   some ((false, ()), (r2.2.1, ()))
   else
   if 0 ≤ r2.1.1 ∧ r2.1.1 ≤ ((r2.2.1.keys.length : Nat) : Int) then
   if 0 ≤ wi (r2.1.1 + 1) ∧ wi (r2.1.1 + 1) ≤ ((r2.2.1.keys.length : Nat) : Int) then
   if (((([] : List KyV).length + (r2.2.1.keys.take (r2.1.1 : Int).toNat).length : Nat)) : Int) < 1000000000000 then
   if ((((([]) ++ (r2.2.1.keys.take (r2.1.1 : Int).toNat)).length + (r2.2.1.keys.drop (wi (r2.1.1 + 1) : Int).toNat).length : Nat)) : Int) < 1000000000000 then
   some ((true, ()), ((⟨(([]) ++ (r2.2.1.keys.take (r2.1.1 : Int).toNat)) ++ (r2.2.1.keys.drop (wi (r2.1.1 + 1) : Int).toNat), r2.2.1.count⟩ : QuV), ()))
   else none
   else none
   else none
   else none
  else none
 else
 if y2.kind = 2 then
  if y2.level ≠ 1 then
   some ((true, ()), (y0, ()))
  else
  some ((decide (((y0.keys.length : Nat) : Int) = y1.heap), ()), (y0, ()))
 else
 some ((true, ()), (y0, ()))
noncomputable abbrev abJ : Con SR1 := ⟨73, [.ref 65, .val 13, .val 2], [.sh .b], fun x => aav x.1 x.2.1 x.2.2.1⟩
theorem adI (y0 : QuV) (y1 : Cfg) (y2 : Ev) : abK y0 y1 y2 = aav y0 y1 y2 := by
  unfold abK aav
  simp only [if_true, aeK, acS]
  try rfl
theorem aci : CO Try.prog abJ := ako adf fun x out hx => (show aca.spec x = some out from (adI x.1 x.2.1 x.2.2.1).trans hx)
noncomputable def abW (y0 : Cfg) : Option ((SaV × Unit) × (Unit)) :=
 (lpF (σ := Int × SaV × Unit) (β := Int × SaV × Unit) (fun self3 x1 =>
  if x1.1 < y0.tasks then
   if (((x1.2.1.tasks.length + ([(⟨⟨0, (-1), (-1), (-1), (-1)⟩, 0, 0, []⟩ : TkV)] : List TkV).length : Nat)) : Int) < 100000000000 then
   self3 (wi (x1.1 + 1), ({ x1.2.1 with tasks := x1.2.1.tasks ++ ([(⟨⟨0, (-1), (-1), (-1), (-1)⟩, 0, 0, []⟩ : TkV)]) } : SaV), ())
   else none
  else
  some (x1.1, x1.2.1, ())
 ) 18446744073709551616 (0, (⟨y0, [], [], ⟨[], 0⟩, 0⟩ : SaV), ())).bind fun z2 =>
 (lpF (σ := Int × SaV × Unit) (β := Int × SaV × Unit) (fun self6 x4 =>
  if x4.1 < y0.workers then
   if (((x4.2.1.works.length + ([(⟨[], (-1), 0, 0, false, ⟨0, 0, 0, 0, 0⟩⟩ : WlV)] : List WlV).length : Nat)) : Int) < 100000000000 then
   self6 (wi (x4.1 + 1), ({ x4.2.1 with works := x4.2.1.works ++ ([(⟨[], (-1), 0, 0, false, ⟨0, 0, 0, 0, 0⟩⟩ : WlV)]) } : SaV), ())
   else none
  else
  some (x4.1, x4.2.1, ())
 ) 18446744073709551616 (0, z2.2.1, ())).bind fun z5 =>
 some ((z5.2.1, ()), (()))
noncomputable abbrev adF : Con SR1 := ⟨22, [.val 13], [.sh (.own 64)], fun x => abW x.1⟩
theorem afu : CO Try.prog adF := abC abx Try.func22 [] trivial [] trivial (fun _ => []) [(3, .loop [.rg 4 sI_, .rg 3 (.own 64)] 18446744073709551616 0), (7, .loop [.rg 5 sI_, .rg 3 (.own 64)] 18446744073709551616 2)] fun x => by kernel_rfl
noncomputable def aau (y0 : SaV) : Option ((Int × Unit) × (SaV × Unit)) :=
 (lpF (σ := Int × Int × SaV × Unit) (β := Int × Int × SaV × Unit) (fun self3 x1 =>
  if x1.2.1 < ((x1.2.2.1.tasks.length : Nat) : Int) then
   if 0 ≤ x1.2.1 ∧ x1.2.1 < ((x1.2.2.1.tasks.length : Nat) : Int) then
   if ((aaa x1.2.2.1.tasks x1.2.1).view.phase) ≠ 0 then
   self3 (wi (x1.1 + 1), wi (x1.2.1 + 1), x1.2.2.1, ())
   else
   self3 (x1.1, wi (x1.2.1 + 1), x1.2.2.1, ())
   else none
  else
  some (x1.1, x1.2.1, x1.2.2.1, ())
 ) 18446744073709551616 (0, 0, y0, ())).bind fun z2 =>
 some ((z2.1, ()), (z2.2.2.1, ()))
noncomputable abbrev abF : Con SR1 := ⟨78, [.ref 64], [.sh sI_], fun x => aau x.1⟩
theorem acf : CO Try.prog abF := abC abx Try.func78 [] trivial [] trivial (fun _ => []) [(3, .loop [.rg 3 sI_, .rg 4 sI_, .ob 0 64] 18446744073709551616 0)] fun x => by kernel_rfl
noncomputable def acK (y0 : Int) : Option ((Bool × Bool × Bool × Bool × Unit) × (Unit)) :=
 if y0 = 1 then
  some ((true, true, true, false, ()), (()))
 else
 if y0 = 2 then
  some ((false, true, true, false, ()), (()))
 else
 if y0 = 3 then
  some ((true, true, true, true, ()), (()))
 else
 ((
  if y0 = 6 then
   some (decide (y0 = 6), ())
  else
  some (decide (y0 = 8), ())
 ) : Option (Bool × Unit)).bind fun z1 =>
 if z1.1 = true then
  some ((true, true, false, true, ()), (()))
 else
 ((
  if y0 = 7 then
   some (decide (y0 = 7), ())
  else
  if y0 = 11 then
   some (decide (y0 = 11), ())
  else
  if y0 = 12 then
   some (decide (y0 = 12), ())
  else
  some (decide (y0 = 19), ())
 ) : Option (Bool × Unit)).bind fun z2 =>
 if z2.1 = true then
  some ((true, false, true, false, ()), (()))
 else
 if y0 = 14 then
  some ((true, true, true, false, ()), (()))
 else
 if y0 = 16 then
  some ((false, false, false, false, ()), (()))
 else
 ((
  if y0 = 17 then
   some (decide (y0 = 17), ())
  else
  some (decide (y0 = 18), ())
 ) : Option (Bool × Unit)).bind fun z3 =>
 if z3.1 = true then
  some ((false, true, false, false, ()), (()))
 else
 some ((true, false, false, false, ()), (()))
noncomputable abbrev adj : Con SR1 := ⟨64, [.sh sI_], [.sh .b, .sh .b, .sh .b, .sh .b], fun x => acK x.1⟩
theorem ae1 : CO Try.prog adj := abC abx Try.func64 [] trivial [] trivial (fun _ => []) [(10, .cut [.rg 13 .b] []), (15, .cut [.rg 16 .b] []), (22, .cut [.rg 25 .b] [])] fun x => by kernel_rfl
noncomputable def aaf (y0 : SaV) (y1 : Ev) : Option ((Bool × Unit) × (SaV × Unit)) :=
 if y1.kind < 1 then
  some ((false, ()), (y0, ()))
 else
 if 19 < y1.kind then
  some ((false, ()), (y0, ()))
 else
 (acK y1.kind).bind fun r1 =>
 ((
  if r1.1.1 = true then
   if 0 ≤ y1.task then
   if ¬ (y1.task < ((y0.tasks.length : Nat) : Int)) then
   some (true, y0, ())
   else
   if (!r1.1.1) = true then
   if y1.task ≠ 0 then
   some (true, y0, ())
   else
   if (!r1.1.2.1) = true then
   if y1.other ≠ 0 then
   some (true, y0, ())
   else
   if r1.1.2.2.2.1 = true then
   if 0 ≤ y1.other then
   if ¬ (y1.other < ((y0.tasks.length : Nat) : Int)) then
   some (true, y0, ())
   else
   if (!r1.1.2.2.1) = true then
   some (decide (y1.level ≠ 0), y0, ())
   else
   some (false, y0, ())
   else
   some (true, y0, ())
   else
   if (!r1.1.2.2.1) = true then
   some (decide (y1.level ≠ 0), y0, ())
   else
   some (false, y0, ())
   else
   if r1.1.2.2.2.1 = true then
   if 0 ≤ y1.other then
   if ¬ (y1.other < ((y0.tasks.length : Nat) : Int)) then
   some (true, y0, ())
   else
   if (!r1.1.2.2.1) = true then
   some (decide (y1.level ≠ 0), y0, ())
   else
   some (false, y0, ())
   else
   some (true, y0, ())
   else
   if (!r1.1.2.2.1) = true then
   some (decide (y1.level ≠ 0), y0, ())
   else
   some (false, y0, ())
   else
   if (!r1.1.2.1) = true then
   if y1.other ≠ 0 then
   some (true, y0, ())
   else
   if r1.1.2.2.2.1 = true then
   if 0 ≤ y1.other then
   if ¬ (y1.other < ((y0.tasks.length : Nat) : Int)) then
   some (true, y0, ())
   else
   if (!r1.1.2.2.1) = true then
   some (decide (y1.level ≠ 0), y0, ())
   else
   some (false, y0, ())
   else
   some (true, y0, ())
   else
   if (!r1.1.2.2.1) = true then
   some (decide (y1.level ≠ 0), y0, ())
   else
   some (false, y0, ())
   else
   if r1.1.2.2.2.1 = true then
   if 0 ≤ y1.other then
   if ¬ (y1.other < ((y0.tasks.length : Nat) : Int)) then
   some (true, y0, ())
   else
   if (!r1.1.2.2.1) = true then
   some (decide (y1.level ≠ 0), y0, ())
   else
   some (false, y0, ())
   else
   some (true, y0, ())
   else
   if (!r1.1.2.2.1) = true then
   some (decide (y1.level ≠ 0), y0, ())
   else
   some (false, y0, ())
   else
   some (true, y0, ())
  else
  if (!r1.1.1) = true then
   if y1.task ≠ 0 then
   some (true, y0, ())
   else
   if (!r1.1.2.1) = true then
   if y1.other ≠ 0 then
   some (true, y0, ())
   else
   if r1.1.2.2.2.1 = true then
   if 0 ≤ y1.other then
   if ¬ (y1.other < ((y0.tasks.length : Nat) : Int)) then
   some (true, y0, ())
   else
   if (!r1.1.2.2.1) = true then
   some (decide (y1.level ≠ 0), y0, ())
   else
   some (false, y0, ())
   else
   some (true, y0, ())
   else
   if (!r1.1.2.2.1) = true then
   some (decide (y1.level ≠ 0), y0, ())
   else
   some (false, y0, ())
   else
   if r1.1.2.2.2.1 = true then
   if 0 ≤ y1.other then
   if ¬ (y1.other < ((y0.tasks.length : Nat) : Int)) then
   some (true, y0, ())
   else
   if (!r1.1.2.2.1) = true then
   some (decide (y1.level ≠ 0), y0, ())
   else
   some (false, y0, ())
   else
   some (true, y0, ())
   else
   if (!r1.1.2.2.1) = true then
   some (decide (y1.level ≠ 0), y0, ())
   else
   some (false, y0, ())
  else
  if (!r1.1.2.1) = true then
   if y1.other ≠ 0 then
   some (true, y0, ())
   else
   if r1.1.2.2.2.1 = true then
   if 0 ≤ y1.other then
   if ¬ (y1.other < ((y0.tasks.length : Nat) : Int)) then
   some (true, y0, ())
   else
   if (!r1.1.2.2.1) = true then
   some (decide (y1.level ≠ 0), y0, ())
   else
   some (false, y0, ())
   else
   some (true, y0, ())
   else
   if (!r1.1.2.2.1) = true then
   some (decide (y1.level ≠ 0), y0, ())
   else
   some (false, y0, ())
  else
  if r1.1.2.2.2.1 = true then
   if 0 ≤ y1.other then
   if ¬ (y1.other < ((y0.tasks.length : Nat) : Int)) then
   some (true, y0, ())
   else
   if (!r1.1.2.2.1) = true then
   some (decide (y1.level ≠ 0), y0, ())
   else
   some (false, y0, ())
   else
   some (true, y0, ())
  else
  if (!r1.1.2.2.1) = true then
   some (decide (y1.level ≠ 0), y0, ())
  else
  some (false, y0, ())
 ) : Option (Bool × SaV × Unit)).bind fun z2 =>
 if z2.1 = true then
  some ((false, ()), (z2.2.1, ()))
 else
 ((
  if r1.1.2.2.1 = true then
   if y1.kind ≠ 2 then
   if y1.level < 0 then
   some (true, z2.2.1, ())
   else
   some (decide (z2.2.1.c.levels ≤ y1.level), z2.2.1, ())
   else
   some (false, z2.2.1, ())
  else
  some (false, z2.2.1, ())
 ) : Option (Bool × SaV × Unit)).bind fun z3 =>
 if z3.1 = true then
  some ((false, ()), (z3.2.1, ()))
 else
 if y1.worker = z3.2.1.c.workers then
  if y1.kind = 1 then
   some ((true, ()), (z3.2.1, ()))
  else
  if y1.kind = 2 then
   some ((true, ()), (z3.2.1, ()))
  else
  some ((decide (y1.kind = 18), ()), (z3.2.1, ()))
 else
 if 0 ≤ y1.worker then
  if y1.worker < z3.2.1.c.workers then
   if 0 ≤ y1.worker ∧ y1.worker < ((z3.2.1.works.length : Nat) : Int) then
   some ((decide (((aac z3.2.1.works y1.worker).sleeps) = (decide (y1.kind = 17))), ()), (({ z3.2.1 with works := z3.2.1.works.set y1.worker.toNat (aac z3.2.1.works y1.worker) } : SaV), ()))
   else none
  else
  some ((false, ()), (z3.2.1, ()))
 else
 some ((false, ()), (z3.2.1, ()))
noncomputable abbrev acD : Con SR1 := ⟨47, [.ref 64, .val 2], [.sh .b], fun x => aaf x.1 x.2.1⟩
noncomputable def adW : List (Nat × Func) := [(65, Try.f65)]
theorem adX : CO Try.prog acD := abC abx Try.func47 [adj] ⟨ae1, trivial⟩ adW ⟨Try.func65, trivial⟩ (fun _ => []) [(5, .cut [.rg 69 .b, .ob 0 64] [6]), (7, .cut [.rg 90 .b, .ob 0 64] [6])] fun x => by kernel_rfl
noncomputable def aas (y0 : SaV) (y1 : Int) : Option ((Ins × Bool × Unit) × (SaV × Unit)) :=
 if 0 ≤ y1 ∧ y1 < ((y0.tasks.length : Nat) : Int) then
  if 0 ≤ (aaa y0.tasks y1).prog ∧ (aaa y0.tasks y1).prog < ((y0.c.progs.length : Nat) : Int) then
   (lpF (σ := List TkV × Ins × Unit) (β := (List TkV × Ins × Unit) ⊕ ((Ins × Bool × Unit) × (SaV × Unit))) (fun self3 x1 =>
   if ((aaa x1.1 y1).pc) < (((atL [] y0.c.progs ((aaa y0.tasks y1).prog)).length : Nat) : Int) then
   if 0 ≤ (aaa x1.1 y1).pc ∧ (aaa x1.1 y1).pc < (((atL [] y0.c.progs ((aaa y0.tasks y1).prog)).length : Nat) : Int) then
   if ((adQ (atL [] y0.c.progs ((aaa y0.tasks y1).prog)) ((aaa x1.1 y1).pc)).op) = 1 then
   Option.map Sum.inr (
   some ((adQ (atL [] y0.c.progs ((aaa y0.tasks y1).prog)) ((aaa x1.1 y1).pc), true, ()), (({ y0 with tasks := x1.1 } : SaV), ()))
   )
   else
   if ((adQ (atL [] y0.c.progs ((aaa y0.tasks y1).prog)) ((aaa x1.1 y1).pc)).op) = 2 then
   if ((adQ (atL [] y0.c.progs ((aaa y0.tasks y1).prog)) ((aaa x1.1 y1).pc)).a) < ((((aaa x1.1 y1).kids).length : Nat) : Int) then
   if 0 ≤ (adQ (atL [] y0.c.progs ((aaa y0.tasks y1).prog)) ((aaa x1.1 y1).pc)).a ∧ (adQ (atL [] y0.c.progs ((aaa y0.tasks y1).prog)) ((aaa x1.1 y1).pc)).a < ((((aaa x1.1 y1).kids).length : Nat) : Int) then
   if (aaQ ((aaa x1.1 y1).kids) ((adQ (atL [] y0.c.progs ((aaa y0.tasks y1).prog)) ((aaa x1.1 y1).pc)).a)) ≠ (-1) then
   Option.map Sum.inr (
   some ((adQ (atL [] y0.c.progs ((aaa y0.tasks y1).prog)) ((aaa x1.1 y1).pc), true, ()), (({ y0 with tasks := x1.1.set y1.toNat (aaa x1.1 y1) } : SaV), ()))
   )
   else
   self3 (x1.1.set y1.toNat ({ aaa x1.1 y1 with pc := wi (((aaa x1.1 y1).pc) + 1) } : TkV), x1.2.1, ())
   else none
   else
   self3 (x1.1.set y1.toNat ({ aaa x1.1 y1 with pc := wi (((aaa x1.1 y1).pc) + 1) } : TkV), x1.2.1, ())
   else
   self3 (x1.1.set y1.toNat ({ aaa x1.1 y1 with pc := wi (((aaa x1.1 y1).pc) + 1) } : TkV), x1.2.1, ())
   else none
   else
   some (Sum.inl (x1.1, x1.2.1, ()))
   ) 18446744073709551616 (y0.tasks.set y1.toNat (aaa y0.tasks y1), (⟨0, 0, 0⟩ : Ins), ())).bind fun z2 => match z2 with
   | .inr o4 => some o4
   | .inl z2 =>
   some (((⟨0, 0, 0⟩ : Ins), false, ()), (({ y0 with tasks := z2.1 } : SaV), ()))
  else none
 else none
noncomputable abbrev aa7 : Con SR1 := ⟨81, [.ref 64, .sh sI_], [.val 3, .sh .b], fun x => aas x.1 x.2.1⟩
theorem abo : CO Try.prog aa7 := abC abx Try.func81 [] trivial [] trivial (fun _ => []) [(3, .loopR [.rw 3 61, .ob 1000004 3] 18446744073709551616 0)] fun x => by kernel_rfl
noncomputable def aaB (y0 : SaV) (y1 : Int) (y2 : Int) : Option ((Bool × Unit) × (SaV × Unit)) :=
 if y1 < 0 then
  some ((false, ()), (y0, ()))
 else
 if ((y0.works.length : Nat) : Int) ≤ y1 then
  some ((false, ()), (y0, ()))
 else
 if 0 ≤ y1 ∧ y1 < ((y0.works.length : Nat) : Int) then
  if 0 < ((((aac y0.works y1).stack).length : Nat) : Int) then
   if 0 ≤ wi (((((aac y0.works y1).stack).length : Nat) : Int) - 1) ∧ wi (((((aac y0.works y1).stack).length : Nat) : Int) - 1) < ((((aac y0.works y1).stack).length : Nat) : Int) then
   some ((decide ((aaQ ((aac y0.works y1).stack) (wi (((((aac y0.works y1).stack).length : Nat) : Int) - 1))) = y2), ()), (({ y0 with works := y0.works.set y1.toNat (aac y0.works y1) } : SaV), ()))
   else none
  else
  some ((false, ()), (({ y0 with works := y0.works.set y1.toNat (aac y0.works y1) } : SaV), ()))
 else none
noncomputable abbrev abl : Con SR1 := ⟨80, [.ref 64, .sh sI_, .sh sI_], [.sh .b], fun x => aaB x.1 x.2.1 x.2.2.1⟩
theorem abD : CO Try.prog abl := abC abx Try.func80 [] trivial [] trivial (fun _ => []) [] fun x => by kernel_rfl
noncomputable def aaV (y0 : SaV) (y1 : Int) : Option ((Bool × Unit) × (SaV × Unit)) :=
 if 0 ≤ y1 then
  if y1 < ((y0.works.length : Nat) : Int) then
   if 0 ≤ y1 ∧ y1 < ((y0.works.length : Nat) : Int) then
   if ((((aac y0.works y1).stack).length : Nat) : Int) = 0 then
   if 0 ≤ y1 ∧ y1 < (((y0.works.set y1.toNat (aac y0.works y1)).length : Nat) : Int) then
   some ((decide (((aac (y0.works.set y1.toNat (aac y0.works y1)) y1).walk) = (-1)), ()), (({ y0 with works := y0.works.set y1.toNat (aac y0.works y1) } : SaV), ()))
   else none
   else
   some ((false, ()), (({ y0 with works := y0.works.set y1.toNat (aac y0.works y1) } : SaV), ()))
   else none
  else
  some ((false, ()), (y0, ()))
 else
 some ((false, ()), (y0, ()))
noncomputable abbrev acC : Con SR1 := ⟨72, [.ref 64, .sh sI_], [.sh .b], fun x => aaV x.1 x.2.1⟩
theorem adV : CO Try.prog acC := abC abx Try.func72 [] trivial [] trivial (fun _ => []) [] fun x => by kernel_rfl
noncomputable def aaH (y0 : SaV) (y1 : Int) (y2 : Int) (y3 : Int) (y4 : Int) : Option ((Unit) × (SaV × Unit)) :=
 if 0 ≤ y1 ∧ y1 < ((y0.tasks.length : Nat) : Int) then
  some ((()), (({ y0 with tasks := y0.tasks.set y1.toNat (⟨⟨1, y2, y4, (-1), (-1)⟩, y3, 0, []⟩ : TkV) } : SaV), ()))
 else none
noncomputable abbrev abG : Con SR1 := ⟨79, [.ref 64, .sh sI_, .sh sI_, .sh sI_, .sh sI_], [], fun x => aaH x.1 x.2.1 x.2.2.1 x.2.2.2.1 x.2.2.2.2.1⟩
theorem ach : CO Try.prog abG := abC abx Try.func79 [] trivial [] trivial (fun _ => []) [] fun x => by kernel_rfl
noncomputable def abP (y0 : SaV) (y1 : Int) (y2 : Int) : Option ((Unit) × (SaV × Unit)) :=
 if 0 ≤ y2 ∧ y2 < ((y0.tasks.length : Nat) : Int) then
  if 0 ≤ y2 ∧ y2 < (((y0.tasks.set y2.toNat ({ aaa y0.tasks y2 with view := { (aaa y0.tasks y2).view with phase := 2 } } : TkV)).length : Nat) : Int) then
   if 0 ≤ y2 ∧ y2 < ((((y0.tasks.set y2.toNat ({ aaa y0.tasks y2 with view := { (aaa y0.tasks y2).view with phase := 2 } } : TkV)).set y2.toNat ({ aaa (y0.tasks.set y2.toNat ({ aaa y0.tasks y2 with view := { (aaa y0.tasks y2).view with phase := 2 } } : TkV)) y2 with view := { (aaa (y0.tasks.set y2.toNat ({ aaa y0.tasks y2 with view := { (aaa y0.tasks y2).view with phase := 2 } } : TkV)) y2).view with worker := y1 } } : TkV)).length : Nat) : Int) then
   if 0 ≤ y1 ∧ y1 < ((y0.works.length : Nat) : Int) then
   agr (
   agr (
   if (((([] : List Int).length + ((aac y0.works y1).stack).length : Nat)) : Int) < 1000000000000 then
   if ((((([]) ++ ((aac y0.works y1).stack)).length + ([y2] : List Int).length : Nat)) : Int) < 1000000000000 then
   if 0 ≤ y1 ∧ y1 < (((y0.works.set y1.toNat (aac y0.works y1)).length : Nat) : Int) then
   some ((()), (({ y0 with tasks := ((y0.tasks.set y2.toNat ({ aaa y0.tasks y2 with view := { (aaa y0.tasks y2).view with phase := 2 } } : TkV)).set y2.toNat ({ aaa (y0.tasks.set y2.toNat ({ aaa y0.tasks y2 with view := { (aaa y0.tasks y2).view with phase := 2 } } : TkV)) y2 with view := { (aaa (y0.tasks.set y2.toNat ({ aaa y0.tasks y2 with view := { (aaa y0.tasks y2).view with phase := 2 } } : TkV)) y2).view with worker := y1 } } : TkV)).set y2.toNat ({ aaa ((y0.tasks.set y2.toNat ({ aaa y0.tasks y2 with view := { (aaa y0.tasks y2).view with phase := 2 } } : TkV)).set y2.toNat ({ aaa (y0.tasks.set y2.toNat ({ aaa y0.tasks y2 with view := { (aaa y0.tasks y2).view with phase := 2 } } : TkV)) y2 with view := { (aaa (y0.tasks.set y2.toNat ({ aaa y0.tasks y2 with view := { (aaa y0.tasks y2).view with phase := 2 } } : TkV)) y2).view with worker := y1 } } : TkV)) y2 with view := { (aaa ((y0.tasks.set y2.toNat ({ aaa y0.tasks y2 with view := { (aaa y0.tasks y2).view with phase := 2 } } : TkV)).set y2.toNat ({ aaa (y0.tasks.set y2.toNat ({ aaa y0.tasks y2 with view := { (aaa y0.tasks y2).view with phase := 2 } } : TkV)) y2 with view := { (aaa (y0.tasks.set y2.toNat ({ aaa y0.tasks y2 with view := { (aaa y0.tasks y2).view with phase := 2 } } : TkV)) y2).view with worker := y1 } } : TkV)) y2).view with other := (-1) } } : TkV), works := (y0.works.set y1.toNat (aac y0.works y1)).set y1.toNat ({ aac (y0.works.set y1.toNat (aac y0.works y1)) y1 with stack := (([]) ++ ((aac y0.works y1).stack)) ++ ([y2]) } : WlV) } : SaV), ()))
   else none
   else none
   else none
   ) (
   if (((([] : List Int).length + ((aac y0.works y1).stack).length : Nat)) : Int) < 1000000000000 then
   if ((((([]) ++ ((aac y0.works y1).stack)).length + ([y2] : List Int).length : Nat)) : Int) < 1000000000000 then
   if 0 ≤ y1 ∧ y1 < (((y0.works.set y1.toNat (aac y0.works y1)).length : Nat) : Int) then
   some ((()), (({ y0 with tasks := ((y0.tasks.set y2.toNat ({ aaa y0.tasks y2 with view := { (aaa y0.tasks y2).view with phase := 2 } } : TkV)).set y2.toNat ({ aaa (y0.tasks.set y2.toNat ({ aaa y0.tasks y2 with view := { (aaa y0.tasks y2).view with phase := 2 } } : TkV)) y2 with view := { (aaa (y0.tasks.set y2.toNat ({ aaa y0.tasks y2 with view := { (aaa y0.tasks y2).view with phase := 2 } } : TkV)) y2).view with worker := y1 } } : TkV)).set y2.toNat ({ aaa ((y0.tasks.set y2.toNat ({ aaa y0.tasks y2 with view := { (aaa y0.tasks y2).view with phase := 2 } } : TkV)).set y2.toNat ({ aaa (y0.tasks.set y2.toNat ({ aaa y0.tasks y2 with view := { (aaa y0.tasks y2).view with phase := 2 } } : TkV)) y2 with view := { (aaa (y0.tasks.set y2.toNat ({ aaa y0.tasks y2 with view := { (aaa y0.tasks y2).view with phase := 2 } } : TkV)) y2).view with worker := y1 } } : TkV)) y2 with view := { (aaa ((y0.tasks.set y2.toNat ({ aaa y0.tasks y2 with view := { (aaa y0.tasks y2).view with phase := 2 } } : TkV)).set y2.toNat ({ aaa (y0.tasks.set y2.toNat ({ aaa y0.tasks y2 with view := { (aaa y0.tasks y2).view with phase := 2 } } : TkV)) y2 with view := { (aaa (y0.tasks.set y2.toNat ({ aaa y0.tasks y2 with view := { (aaa y0.tasks y2).view with phase := 2 } } : TkV)) y2).view with worker := y1 } } : TkV)) y2).view with other := (-1) } } : TkV), works := (y0.works.set y1.toNat (aac y0.works y1)).set y1.toNat ({ aac (y0.works.set y1.toNat (aac y0.works y1)) y1 with stack := (([]) ++ ((aac y0.works y1).stack)) ++ ([y2]) } : WlV) } : SaV), ()))
   else none
   else none
   else none
   )
   ) (
   if (((([] : List Int).length + ((aac y0.works y1).stack).length : Nat)) : Int) < 1000000000000 then
   if ((((([]) ++ ((aac y0.works y1).stack)).length + ([y2] : List Int).length : Nat)) : Int) < 1000000000000 then
   if 0 ≤ y1 ∧ y1 < (((y0.works.set y1.toNat (aac y0.works y1)).length : Nat) : Int) then
   some ((()), (({ y0 with tasks := ((y0.tasks.set y2.toNat ({ aaa y0.tasks y2 with view := { (aaa y0.tasks y2).view with phase := 2 } } : TkV)).set y2.toNat ({ aaa (y0.tasks.set y2.toNat ({ aaa y0.tasks y2 with view := { (aaa y0.tasks y2).view with phase := 2 } } : TkV)) y2 with view := { (aaa (y0.tasks.set y2.toNat ({ aaa y0.tasks y2 with view := { (aaa y0.tasks y2).view with phase := 2 } } : TkV)) y2).view with worker := y1 } } : TkV)).set y2.toNat ({ aaa ((y0.tasks.set y2.toNat ({ aaa y0.tasks y2 with view := { (aaa y0.tasks y2).view with phase := 2 } } : TkV)).set y2.toNat ({ aaa (y0.tasks.set y2.toNat ({ aaa y0.tasks y2 with view := { (aaa y0.tasks y2).view with phase := 2 } } : TkV)) y2 with view := { (aaa (y0.tasks.set y2.toNat ({ aaa y0.tasks y2 with view := { (aaa y0.tasks y2).view with phase := 2 } } : TkV)) y2).view with worker := y1 } } : TkV)) y2 with view := { (aaa ((y0.tasks.set y2.toNat ({ aaa y0.tasks y2 with view := { (aaa y0.tasks y2).view with phase := 2 } } : TkV)).set y2.toNat ({ aaa (y0.tasks.set y2.toNat ({ aaa y0.tasks y2 with view := { (aaa y0.tasks y2).view with phase := 2 } } : TkV)) y2 with view := { (aaa (y0.tasks.set y2.toNat ({ aaa y0.tasks y2 with view := { (aaa y0.tasks y2).view with phase := 2 } } : TkV)) y2).view with worker := y1 } } : TkV)) y2).view with other := (-1) } } : TkV), works := (y0.works.set y1.toNat (aac y0.works y1)).set y1.toNat ({ aac (y0.works.set y1.toNat (aac y0.works y1)) y1 with stack := (([]) ++ ((aac y0.works y1).stack)) ++ ([y2]) } : WlV) } : SaV), ()))
   else none
   else none
   else none
   )
   else none
   else none
  else none
 else none
noncomputable abbrev ace : Con SR1 := ⟨83, [.ref 64, .sh sI_, .sh sI_], [], fun x => abP x.1 x.2.1 x.2.2.1⟩
theorem adm : CO Try.prog ace := abC abx Try.func83 [] trivial [] trivial (fun _ => []) [] fun x => by kernel_rfl
noncomputable def aal (y0 : SaV) (y1 : Int) (y2 : Int) : Option ((Unit) × (SaV × Unit)) :=
 if 0 ≤ y2 ∧ y2 < ((y0.tasks.length : Nat) : Int) then
  if 0 ≤ y2 ∧ y2 < (((y0.tasks.set y2.toNat ({ aaa y0.tasks y2 with view := { (aaa y0.tasks y2).view with phase := 2 } } : TkV)).length : Nat) : Int) then
   if 0 ≤ y2 ∧ y2 < ((((y0.tasks.set y2.toNat ({ aaa y0.tasks y2 with view := { (aaa y0.tasks y2).view with phase := 2 } } : TkV)).set y2.toNat ({ aaa (y0.tasks.set y2.toNat ({ aaa y0.tasks y2 with view := { (aaa y0.tasks y2).view with phase := 2 } } : TkV)) y2 with view := { (aaa (y0.tasks.set y2.toNat ({ aaa y0.tasks y2 with view := { (aaa y0.tasks y2).view with phase := 2 } } : TkV)) y2).view with worker := y1 } } : TkV)).length : Nat) : Int) then
   if 0 ≤ y1 ∧ y1 < ((y0.works.length : Nat) : Int) then
   if (((([] : List Int).length + ((aac y0.works y1).stack).length : Nat)) : Int) < 1000000000000 then
   if ((((([]) ++ ((aac y0.works y1).stack)).length + ([y2] : List Int).length : Nat)) : Int) < 1000000000000 then
   if 0 ≤ y1 ∧ y1 < (((y0.works.set y1.toNat (aac y0.works y1)).length : Nat) : Int) then
   some ((()), (({ y0 with tasks := ((y0.tasks.set y2.toNat ({ aaa y0.tasks y2 with view := { (aaa y0.tasks y2).view with phase := 2 } } : TkV)).set y2.toNat ({ aaa (y0.tasks.set y2.toNat ({ aaa y0.tasks y2 with view := { (aaa y0.tasks y2).view with phase := 2 } } : TkV)) y2 with view := { (aaa (y0.tasks.set y2.toNat ({ aaa y0.tasks y2 with view := { (aaa y0.tasks y2).view with phase := 2 } } : TkV)) y2).view with worker := y1 } } : TkV)).set y2.toNat ({ aaa ((y0.tasks.set y2.toNat ({ aaa y0.tasks y2 with view := { (aaa y0.tasks y2).view with phase := 2 } } : TkV)).set y2.toNat ({ aaa (y0.tasks.set y2.toNat ({ aaa y0.tasks y2 with view := { (aaa y0.tasks y2).view with phase := 2 } } : TkV)) y2 with view := { (aaa (y0.tasks.set y2.toNat ({ aaa y0.tasks y2 with view := { (aaa y0.tasks y2).view with phase := 2 } } : TkV)) y2).view with worker := y1 } } : TkV)) y2 with view := { (aaa ((y0.tasks.set y2.toNat ({ aaa y0.tasks y2 with view := { (aaa y0.tasks y2).view with phase := 2 } } : TkV)).set y2.toNat ({ aaa (y0.tasks.set y2.toNat ({ aaa y0.tasks y2 with view := { (aaa y0.tasks y2).view with phase := 2 } } : TkV)) y2 with view := { (aaa (y0.tasks.set y2.toNat ({ aaa y0.tasks y2 with view := { (aaa y0.tasks y2).view with phase := 2 } } : TkV)) y2).view with worker := y1 } } : TkV)) y2).view with other := (-1) } } : TkV), works := (y0.works.set y1.toNat (aac y0.works y1)).set y1.toNat ({ aac (y0.works.set y1.toNat (aac y0.works y1)) y1 with stack := (([]) ++ ((aac y0.works y1).stack)) ++ ([y2]) } : WlV) } : SaV), ()))
   else none
   else none
   else none
   else none
   else none
  else none
 else none
noncomputable abbrev acA : Con SR1 := ⟨83, [.ref 64, .sh sI_, .sh sI_], [], fun x => aal x.1 x.2.1 x.2.2.1⟩
theorem adS (y0 : SaV) (y1 : Int) (y2 : Int) : abP y0 y1 y2 = aal y0 y1 y2 := by
  unfold abP aal
  simp only [if_true, aeK, acS]
  try rfl
theorem adR : CO Try.prog acA := ako adm fun x out hx => (show ace.spec x = some out from (adS x.1 x.2.1 x.2.2.1).trans hx)
noncomputable def aa4 (y0 : SaV) (y1 : Ev) : Option ((Bool × Unit) × (SaV × Unit)) :=
 ((
  if y1.worker ≠ y0.c.workers then
   some (true, y0, ())
  else
  if y1.other ≠ y0.offers then
   some (true, y0, ())
  else
  some (decide (((y0.c.subs.length : Nat) : Int) ≤ y1.other), y0, ())
 ) : Option (Bool × SaV × Unit)).bind fun z1 =>
 if z1.1 = true then
  some ((false, ()), (z1.2.1, ()))
 else
 if y1.kind = 2 then
  if y1.level = 1 then
   if ((z1.2.1.queue.keys.length : Nat) : Int) = z1.2.1.c.heap then
   some ((true, ()), (({ z1.2.1 with offers := wi (z1.2.1.offers + 1) } : SaV), ()))
   else
   if y1.level = 2 then
   if ((z1.2.1.queue.keys.length : Nat) : Int) < z1.2.1.c.heap then
   (aau ({ z1.2.1 with offers := wi (z1.2.1.offers + 1) } : SaV)).bind fun r2 =>
   if z1.2.1.c.workers = r2.2.1.c.workers then
   if z1.2.1.c.tasks = r2.2.1.c.tasks then
   some ((decide ((wi (z1.2.1.c.tasks - z1.2.1.c.workers)) ≤ r2.1.1), ()), (r2.2.1, ()))
   else none
   else none
   else
   some ((false, ()), (({ z1.2.1 with offers := wi (z1.2.1.offers + 1) } : SaV), ()))
   else
   some ((false, ()), (({ z1.2.1 with offers := wi (z1.2.1.offers + 1) } : SaV), ()))
  else
  if y1.level = 2 then
   if ((z1.2.1.queue.keys.length : Nat) : Int) < z1.2.1.c.heap then
   (aau ({ z1.2.1 with offers := wi (z1.2.1.offers + 1) } : SaV)).bind fun r3 =>
   if z1.2.1.c.workers = r3.2.1.c.workers then
   if z1.2.1.c.tasks = r3.2.1.c.tasks then
   some ((decide ((wi (z1.2.1.c.tasks - z1.2.1.c.workers)) ≤ r3.1.1), ()), (r3.2.1, ()))
   else none
   else none
   else
   some ((false, ()), (({ z1.2.1 with offers := wi (z1.2.1.offers + 1) } : SaV), ()))
  else
  some ((false, ()), (({ z1.2.1 with offers := wi (z1.2.1.offers + 1) } : SaV), ()))
 else
 if 0 ≤ y1.other ∧ y1.other < ((z1.2.1.c.subs.length : Nat) : Int) then
  if ((acz z1.2.1.c.subs y1.other).prog) = ((acz z1.2.1.c.subs y1.other).prog) then
   if ((acz z1.2.1.c.subs y1.other).level) = ((acz z1.2.1.c.subs y1.other).level) then
   if ((acz z1.2.1.c.subs y1.other).deadline) = ((acz z1.2.1.c.subs y1.other).deadline) then
   if y1.other = y1.other then
   if y1.level ≠ ((acz z1.2.1.c.subs y1.other).level) then
   some ((false, ()), (({ z1.2.1 with offers := wi (z1.2.1.offers + 1) } : SaV), ()))
   else
   if 0 ≤ y1.task ∧ y1.task < ((z1.2.1.tasks.length : Nat) : Int) then
   if ((aaa z1.2.1.tasks y1.task).view.phase) ≠ 0 then
   some ((false, ()), (({ z1.2.1 with tasks := z1.2.1.tasks.set y1.task.toNat (aaa z1.2.1.tasks y1.task), offers := wi (z1.2.1.offers + 1) } : SaV), ()))
   else
   (aav z1.2.1.queue z1.2.1.c y1).bind fun r4 =>
   if (!r4.1.1) = true then
   some ((false, ()), (({ z1.2.1 with tasks := z1.2.1.tasks.set y1.task.toNat (aaa z1.2.1.tasks y1.task), queue := r4.2.1, offers := wi (z1.2.1.offers + 1) } : SaV), ()))
   else
   (aaH ({ z1.2.1 with tasks := z1.2.1.tasks.set y1.task.toNat (aaa z1.2.1.tasks y1.task), queue := r4.2.1, offers := wi (z1.2.1.offers + 1) } : SaV) y1.task y1.level ((acz z1.2.1.c.subs y1.other).prog) (-1)).bind fun r5 =>
   some ((true, ()), (r5.2.1, ()))
   else none
   else none
   else none
   else none
  else none
 else none
noncomputable abbrev acs : Con SR1 := ⟨66, [.ref 64, .val 2], [.sh .b], fun x => aa4 x.1 x.2.1⟩
theorem adA : CO Try.prog acs := abC abx Try.func66 [abF, abJ, abG] ⟨acf, aci, ach, trivial⟩ [] trivial (fun _ => []) [(2, .cut [.rg 33 .b, .ob 0 64] [6])] fun x => by kernel_rfl
end
end Go.Proofs.Ytkmkhldmflebkaa
