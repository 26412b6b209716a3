/- What the reference's functions answer is what was said plainly, 2. What the reference's functions answer is what was said plainly, 3. What the reference's functions answer is what was said plainly, 4. -/
import Derived.Test.YtpbkelpokpglaaaGreatQr
set_option linter.all false
namespace Go.Proofs.YtpbkelpokpglaaaGreat
section
open Go
theorem at7_set {rs : List RecV} {t : Int} {r : RecV} (h : 0 ≤ t ∧ t < (rs.length : Int)) : atK7 (rs.set t.toNat r) t = r := by
  have : t.toNat < rs.length := by omega
  simp [atK7, atL, this]
  rfl
section
variable {e : EnvV} {f : FrV}
/-- The stack of a Run frame is not empty. -/
structure LOk (f : FrV) : Prop where
  ne : f.l ≠ []
  le : f.l.length ≤ 999999999
theorem LOk.n (h : LOk f) : wi (((f.l.length : Nat) : Int) - 1) = ((f.l.length - 1 : Nat) : Int) := by
  have h1 := List.length_pos_iff.2 h.ne
  have h2 := h.le
  rw [wi_id (rg_lit (by omega))]; omega
theorem LOk.a (h : LOk f) : atK1 f.l ((f.l.length - 1 : Nat) : Int) = topL f.l := by
  have h1 := List.length_pos_iff.2 h.ne
  simp only [atK1, atL, topL, Int.toNat_natCast, List.getLast?_eq_getElem?]
  rfl
theorem LOk.g (h : LOk f) : (0 ≤ ((f.l.length - 1 : Nat) : Int) ∧ ((f.l.length - 1 : Nat) : Int) < ((f.l.length : Nat) : Int)) = True := by
  have h1 := List.length_pos_iff.2 h.ne
  exact eq_true ⟨by omega, by omega⟩
theorem LOk.g2 (h : LOk f) : (0 ≤ ((f.l.length - 1 : Nat) : Int) ∧ ((f.l.length - 1 : Nat) : Int) ≤ ((f.l.length : Nat) : Int)) = True := by
  have h1 := List.length_pos_iff.2 h.ne
  exact eq_true ⟨by omega, by omega⟩
theorem LOk.t (h : LOk f) : f.l.take (((f.l.length - 1 : Nat) : Int)).toNat = f.l.dropLast := by
  rw [List.dropLast_eq_take]; simp
theorem leave_eq (h : LOk f) : r8leave f = some (((leaveM e f).1, ()), ((leaveM e f).2.2, ())) ∧ (leaveM e f).2.1 = e := by
  unfold r8leave leaveM
  have h1 := List.length_pos_iff.2 h.ne
  have h2 := h.le
  simp only [h.n, h.g2, h.t, if_true, List.length_dropLast]
  by_cases hl : f.l.length = 1
  · rw [if_pos (by omega), if_pos hl]; exact ⟨rfl, rfl⟩
  · rw [if_neg (by omega), if_neg hl]; exact ⟨rfl, rfl⟩
theorem leave_eq' (h : LOk f) : r8leave f = some (((leaveM e f).1, ()), ((leaveM e f).2.2, ())) := (leave_eq h).1
theorem leave_env (e : EnvV) (f : FrV) : (leaveM e f).2.1 = e := by unfold leaveM; split <;> rfl
theorem leave_out (h : LOk f) (e : EnvV) : ((r8leave f).bind fun r => some ((r.1.1, ()), (e, r.2.1, ()))) = some (outL (leaveM e f)) := by
  rw [leave_eq' (e := e) h]
  simp only [Option.bind_some, outL]
  rw [leave_env]
theorem finish_eq (h : LOk f) (hE : Fit e) (t : Int) : r8finish e f t = some (outL (finishM e f t)) := by
  unfold r8finish finishM
  have hn : ∀ x, LOk { f with n := x } := fun x => ⟨h.ne, h.le⟩
  simp only [r2acc_eq, r6slot_eq, r6state_eq, r6level_eq, r6join_eq, r6waits_eq, r6since_eq, r6bitmap_eq, r6sleepers_eq, r6epoch_eq, r6queue_eq, r1bit_eq, r1mask_eq, r1pack_eq, r1unpack_eq, r1high_eq, r1low_eq, r1class_eq, r2draw_eq, Option.bind_some, if_true, r8lesser, leave_out h, leave_out (hn _), emit_eq, emit_ac hE, emit_pu hE, EnvV.hit, EnvV.ac, EnvV.rd]
  by_cases h17 : f.line = 17
  · rw [if_pos h17, if_pos h17]; rfl
  rw [if_neg h17, if_neg h17]
  by_cases h18 : f.line = 18
  · rw [if_pos h18, if_pos h18]
    split <;> (rename_i hh; simp only [hh, if_true, if_false, Bool.false_eq_true]; try rfl)
  rw [if_neg h18, if_neg h18]
  by_cases hT : IsTask e (wi (wu ((acc e.m 1 (taskA e.c t 2) 0 0).1.1 - 1)))
  · have t1 := hT.1
    have t2 := hT.2.1
    have t3 := hT.2.2
    simp only [hT, t1, t2, t3, not_true, if_true, if_false]; rfl
  · rw [if_neg hT]
    unfold IsTask at hT
    repeat' split
    all_goals first | rfl | omega
theorem client_eq (hi : 0 ≤ f.i) (hE : Fit e) : r8client e f = some (outL (clientM e f)) := by
  unfold r8client clientM
  by_cases h : (e.c.subs.length : Int) ≤ f.i
  · rw [if_pos h, if_pos h]; rfl
  · rw [if_neg h, if_neg h]
    have hg : (0 ≤ f.i ∧ f.i < (e.c.subs.length : Int)) := ⟨hi, by omega⟩
    simp only [hg, and_self, if_true, r2acc_eq, r6slot_eq, r6state_eq, r6level_eq, r6join_eq, r6waits_eq, r6since_eq, r6bitmap_eq, r6sleepers_eq, r6epoch_eq, r6queue_eq, r1bit_eq, r1mask_eq, r1pack_eq, r1unpack_eq, r1high_eq, r1low_eq, r1class_eq, r2draw_eq, Option.bind_some, if_true, r8lesser, outL, go, fin, EnvV.ac, EnvV.rd, EnvV.hit, EnvV.em, szV, slotA, epochA, sleepA, lesserM, ringA, EnvV.put, EnvV.rc, wakeK, EnvV.sub, emit_eq, emit_ac hE, emit_pu hE]
    repeat' split
    all_goals first | rfl | omega | (simp_all (config := { maxSteps := 400000 }) [w2, w3, w4, w5, w6, w7, w8, w9]; done) | (simp_all (config := { maxSteps := 400000 }) [w2, w3, w4, w5, w6, w7, w8, w9]; omega)
/-- The top of a Run frame is a task. -/
def TopT (e : EnvV) (f : FrV) : Prop := 0 ≤ topL f.l ∧ topL f.l < (e.recs.length : Int)
/-- The next instruction of a task exists. -/
def PcIn (e : EnvV) (t : Int) : Prop := (0 ≤ (e.rc t).prog ∧ (e.rc t).prog < (e.c.progs.length : Int)) ∧ 0 ≤ (e.rc t).pc ∧ (e.rc t).pc < ((e.prog t).length : Int)
theorem PcIn.prog {t : Int} (h : PcIn e t) : e.prog t = atL [] e.c.progs (e.rc t).prog := by
  unfold EnvV.prog
  rw [if_neg (by have := h.1; omega)]
theorem run_eq (h : LOk f) (hT : f.line ≠ 23 → TopT e f) (hE : Fit e) (hp : f.line = 3 → PcIn e (topL f.l)) : r8run e f = some (outL (runM e f)) := by
  unfold r8run runM
  simp only [h.n, h.a, h.g, if_true]
  by_cases h23 : f.line = 23
  · rw [if_pos h23, if_pos h23]; rfl
  rw [if_neg h23, if_neg h23]
  have ht : 0 ≤ topL f.l ∧ topL f.l < (e.recs.length : Int) := hT h23
  simp only [ht, and_self, if_true, r2acc_eq, r6slot_eq, r6state_eq, r6level_eq, r6join_eq, r6waits_eq, r6since_eq, r6bitmap_eq, r6sleepers_eq, r6epoch_eq, r6queue_eq, r1bit_eq, r1mask_eq, r1pack_eq, r1unpack_eq, r1high_eq, r1low_eq, r1class_eq, r2draw_eq, Option.bind_some, if_true, r8lesser, emit_eq, emit_ac hE, emit_pu hE]
  by_cases h3 : f.line = 3
  · obtain ⟨p1, p2⟩ := hp h3
    rw [(hp h3).prog] at p2
    have hi : e.ins (topL f.l) = atK3 (atL [] e.c.progs (e.rc (topL f.l)).prog) (e.rc (topL f.l)).pc := by unfold EnvV.ins; rw [(hp h3).prog]
    simp only [EnvV.rc] at p1 p2 hi
    have q1 : ¬ (atK7 e.recs (topL f.l)).prog < 0 := by omega
    have q2 : ¬ ((e.c.progs.length : Nat) : Int) ≤ (atK7 e.recs (topL f.l)).prog := by omega
    simp only [h3, show ¬ ((3 : Int) = 2) by decide, if_false, if_true, at7_set ht, List.set_set, q1, q2, p1, p2, and_self, hi, outL, go, fin, EnvV.ac, EnvV.rd, EnvV.hit, EnvV.em, szV, slotA, epochA, sleepA, lesserM, ringA, EnvV.put, EnvV.rc, wakeK, EnvV.sub, compR]
    repeat' split
    all_goals first | rfl | (simp_all; done) | omega
  by_cases h2 : f.line = 2
  · simp only [h2, if_true]; rfl
  by_cases h4 : f.line = 4
  · simp only [h4, show ¬ ((4 : Int) = 2) by decide, show ¬ ((4 : Int) = 3) by decide, if_true, if_false]; rfl
  by_cases h10 : f.line = 10
  · simp only [h10, show ¬ ((10 : Int) = 2) by decide, show ¬ ((10 : Int) = 3) by decide, show ¬ ((10 : Int) = 4) by decide, if_true, if_false, at7_set ht, List.set_set]; rfl
  simp only [if_neg h2, if_neg h3, if_neg h4, if_neg h10]
  by_cases h11 : f.line = 11
  · simp only [h11, if_true]; rfl
  by_cases h12 : f.line = 12
  · simp only [h12, show ¬ ((12 : Int) = 11) by decide, if_true, if_false]
    simp only [outL, go, fin, EnvV.ac, EnvV.rd, EnvV.hit, EnvV.em, szV, slotA, epochA, sleepA, lesserM, ringA, EnvV.put, EnvV.rc, wakeK, EnvV.sub]
    split <;> (rename_i hh; simp only [hh, if_true, if_false, Bool.false_eq_true])
  by_cases h13 : f.line = 13
  · simp only [h13, show ¬ ((13 : Int) = 11) by decide, show ¬ ((13 : Int) = 12) by decide, if_true, if_false]; rfl
  by_cases h15 : f.line = 15
  · simp only [h15, show ¬ ((15 : Int) = 11) by decide, show ¬ ((15 : Int) = 12) by decide, show ¬ ((15 : Int) = 13) by decide, if_true, if_false]; rfl
  by_cases h16 : f.line = 16
  · simp only [h16, show ¬ ((16 : Int) = 11) by decide, show ¬ ((16 : Int) = 12) by decide, show ¬ ((16 : Int) = 13) by decide, show ¬ ((16 : Int) = 15) by decide, if_true, if_false]; rfl
  simp only [if_neg h11, if_neg h12, if_neg h13, if_neg h15, if_neg h16, finish_eq h hE, Option.bind_some]; try rfl
/-- Whenever the next instruction is a Join, its number is none below 0. -/
theorem ins_a (hc : CfgOk e.c) {t : Int} (h1 : PcIn e t) (h2 : (e.ins t).op ≠ 0) (h3 : (e.ins t).op ≠ 1) : 0 ≤ (e.ins t).a := by
  obtain ⟨p1, p2⟩ := h1
  have hp := PcIn.prog ⟨p1, p2⟩
  have m1 : e.prog t ∈ e.c.progs := by rw [hp]; exact List.mem_of_getElem? (atL_get p1)
  have m2 : e.ins t ∈ e.prog t := List.mem_of_getElem? (atL_get (d := dfR 3) p2)
  exact (hc.ins _ m1 _ m2).2.2 h2 h3
theorem choose_eq (h : LOk f) (hr : (e.recs.length : Int) = e.c.tasks) (hc : CfgOk e.c) : r8choose e f = some ((()), (e, chooseM e f, ())) := by
  unfold r8choose chooseM
  by_cases h1 : f.line ≠ 1
  · rw [if_pos h1, if_pos h1]
  have h1 : f.line = 1 := by simpa using h1
  simp only [h1, ne_eq, not_true, if_false, h.n, h.a, h.g, if_true]
  by_cases hT : ¬ IsTask e (topL f.l)
  · rw [if_pos hT]
    unfold IsTask at hT
    by_cases a1 : 0 ≤ topL f.l
    · by_cases a2 : topL f.l < e.c.tasks
      · rw [if_pos a1, if_pos a2, if_pos (fun a3 => hT ⟨a1, a2, a3⟩)]
      · rw [if_pos a1, if_neg a2]
    · rw [if_neg a1]
  have hT : IsTask e (topL f.l) := by simpa using hT
  have t1 := hT.1
  have t2 := hT.2.1
  have t3 := hT.2.2
  simp only [hT, t1, t2, t3, not_true, if_true, if_false, and_self]
  by_cases hp : (atK7 e.recs (topL f.l)).prog < 0
  · have e0 : e.prog (topL f.l) = [] := by unfold EnvV.prog EnvV.rc; rw [if_pos (.inl hp)]
    simp only [hp, if_true, e0, EnvV.rc, List.length_nil]
    repeat' split
    all_goals first | rfl | omega | (simp_all; omega)
  by_cases hp2 : ((e.c.progs.length : Nat) : Int) ≤ (atK7 e.recs (topL f.l)).prog
  · have e0 : e.prog (topL f.l) = [] := by unfold EnvV.prog EnvV.rc; rw [if_pos (.inr hp2)]
    simp only [hp, hp2, if_true, if_false, e0, EnvV.rc, List.length_nil]
    repeat' split
    all_goals first | rfl | omega | (simp_all; omega)
  have e0 : e.prog (topL f.l) = atL [] e.c.progs (atK7 e.recs (topL f.l)).prog := by unfold EnvV.prog EnvV.rc; rw [if_neg (by omega)]
  have hp3 : 0 ≤ (atK7 e.recs (topL f.l)).prog ∧ (atK7 e.recs (topL f.l)).prog < (e.c.progs.length : Int) := by omega
  have ha := ins_a (t := topL f.l) hc
  unfold PcIn at ha
  simp only [EnvV.ins, e0, EnvV.rc] at ha
  simp only [hp, hp2, hp3, if_true, if_false, and_self, EnvV.ins, e0, EnvV.rc]
  by_cases hw : (atK7 e.recs (topL f.l)).waiting ≠ -1
  · rw [if_pos hw, if_pos hw]
  have hw : (atK7 e.recs (topL f.l)).waiting = -1 := by simpa using hw
  simp only [hw, not_true, if_false]
  by_cases hpc : (atK7 e.recs (topL f.l)).pc < 0 ∨ (((atL [] e.c.progs (atK7 e.recs (topL f.l)).prog).length : Nat) : Int) ≤ (atK7 e.recs (topL f.l)).pc
  · rw [if_pos hpc]
    by_cases a1 : (atK7 e.recs (topL f.l)).pc < 0
    · rw [if_pos a1]
    · rw [if_neg a1, if_pos (by omega)]
  have hpc2 : 0 ≤ (atK7 e.recs (topL f.l)).pc ∧ (atK7 e.recs (topL f.l)).pc < (((atL [] e.c.progs (atK7 e.recs (topL f.l)).prog).length : Nat) : Int) := by omega
  have hpc3 : ¬ (atK7 e.recs (topL f.l)).pc < 0 := by omega
  have hpc4 : ¬ (((atL [] e.c.progs (atK7 e.recs (topL f.l)).prog).length : Nat) : Int) ≤ (atK7 e.recs (topL f.l)).pc := by omega
  rw [if_neg hpc]
  simp only [hpc2, hpc3, hpc4, if_true, if_false, and_self]
  by_cases o0 : (atK3 (atL [] e.c.progs (atK7 e.recs (topL f.l)).prog) (atK7 e.recs (topL f.l)).pc).op = 0
  · rw [if_pos o0, if_pos o0]
  by_cases o1 : (atK3 (atL [] e.c.progs (atK7 e.recs (topL f.l)).prog) (atK7 e.recs (topL f.l)).pc).op = 1
  · rw [if_neg o0, if_neg o0, if_pos o1, if_pos o1]
  have ha1 := ha ⟨hp3, hpc2⟩ o0 o1
  rw [if_neg o0, if_neg o0, if_neg o1, if_neg o1]
  repeat' split
  all_goals first | rfl | omega | (simp_all; done) | (simp_all; omega)
theorem enterrun_eq (h : LOk f) (hr : (e.recs.length : Int) = e.c.tasks) (hc : CfgOk e.c) : r8enterrun e f = some ((((runE (chooseM e f)).getD (frK 0), (runE (chooseM e f)).isSome, ())), (e, chooseM e f, ())) := by
  unfold r8enterrun
  rw [choose_eq h hr hc]
  simp only [Option.bind_some]
  generalize chooseM e f = g
  unfold runE
  repeat' split
  all_goals first | rfl | omega | (simp_all; done) | (simp_all; omega)
theorem enterdrain_eq : r8enterdrain f = some ((((drainE f).getD (frK 0), (drainE f).isSome, ())), (f, ())) := by
  unfold r8enterdrain drainE
  repeat' split
  all_goals rfl
theorem enterworker_eq : r8enterworker e f = some (((workerE e (workerB e f), true, ())), (e, workerB e f, ())) := by
  unfold r8enterworker workerB workerE
  simp only [r2acc_eq, r6slot_eq, r6state_eq, r6level_eq, r6join_eq, r6waits_eq, r6since_eq, r6bitmap_eq, r6sleepers_eq, r6epoch_eq, r6queue_eq, r1bit_eq, r1mask_eq, r1pack_eq, r1unpack_eq, r1high_eq, r1low_eq, r1class_eq, r2draw_eq, Option.bind_some, if_true, r8lesser, r8runframe]
  by_cases h1 : f.line = 1
  · by_cases ha : e.c.age = 0
    · simp only [h1, ha, and_self, if_true]; rfl
    · simp only [h1, ha, and_false, if_false, if_true]; rfl
  · simp only [h1, false_and, if_false]
    repeat' split
    all_goals first | rfl | omega
theorem enterclient_eq (hi : 0 ≤ f.i) : r8enterclient e f = some ((((clientE e f).getD (frK 0), (clientE e f).isSome, ())), (e, f, ())) := by
  unfold r8enterclient clientE
  by_cases h : (e.c.subs.length : Int) ≤ f.i
  · rw [if_pos h, if_pos h]; rfl
  · have hg : (0 ≤ f.i ∧ f.i < (e.c.subs.length : Int)) := ⟨hi, by omega⟩
    rw [if_neg h, if_neg h]
    simp only [hg, and_self, if_true, EnvV.sub]
    repeat' split
    all_goals rfl
end
end
section
open Go
theorem cnt_loop {w a : Int} {F : (Int × Int × Unit → Option (Int × Int × Unit)) → Int × Int × Unit → Option (Int × Int × Unit)}
    (hF : F = fun self x => if x.2.1 < w then (if x.2.1 ≠ a then self (wi (x.1 + 1), wi (x.2.1 + 1), ()) else self (x.1, wi (x.2.1 + 1), ())) else some (x.1, x.2.1, ())) (hw : w ≤ 64) :
    ∀ (k i : Nat), (i : Int) ≤ w → w - i < k → 0 ≤ cntO a i ∧ cntO a i ≤ i → lpF F k (cntO a i, (i : Int), ()) = some (cntO a w.toNat, w, ())
  | 0, i, h1, h2, _ => by omega
  | k + 1, i, h1, h2, h3 => by
    rw [lpF_succ, congrFun (congrFun hF _) _]
    by_cases h : (i : Int) < w
    · have e1 : wi ((i : Int) + 1) = ((i + 1 : Nat) : Int) := by rw [wi_id (rg_lit (by omega))]; omega
      have e2 : wi (cntO a i + 1) = cntO a i + 1 := wi_id (rg_lit (by omega))
      simp only [h, if_true, e1, e2]
      have ih := cnt_loop hF hw k (i + 1) (by omega) (by omega)
      by_cases hv : (i : Int) ≠ a
      · rw [if_pos hv]
        have e3 : cntO a (i + 1) = cntO a i + 1 := by simp only [cntO]; rw [if_pos hv]
        rw [← e3]; exact ih (by rw [e3]; omega)
      · rw [if_neg hv]
        have e3 : cntO a (i + 1) = cntO a i := by simp only [cntO]; rw [if_neg hv]
        rw [← e3]; exact ih (by rw [e3]; omega)
    · simp only [h, if_false]
      rw [show w.toNat = i by omega, show w = (i : Int) by omega]
theorem left_loop {w a t : Int} {F : (Bool × Int × Unit → Option (Bool × Int × Unit)) → Bool × Int × Unit → Option (Bool × Int × Unit)}
    (hF : F = fun self x => if x.2.1 < w then (if x.1 = true then self (true, wi (x.2.1 + 1), ()) else self (decide (¬ Int.tmod (wi (t + x.2.1)) w = a), wi (x.2.1 + 1), ())) else some (x.1, x.2.1, ())) (h0 : 1 ≤ w) (hw : w ≤ 64) :
    ∀ (n k : Nat) (b : Bool) (i : Int), 0 ≤ i → i ≤ 100 → (w - i).toNat = n → n < k → ∃ j, lpF F k (b, i, ()) = some (b || leftL w a t n i, j, ())
  | 0, k + 1, b, i, _, _, hn, _ => by
    refine ⟨i, ?_⟩
    rw [lpF_succ, congrFun (congrFun hF _) _]
    simp only [show ¬ i < w by omega, if_false, leftL, Bool.or_false]
  | n + 1, k + 1, b, i, hi, hi2, hn, hk => by
    have e1 : wi (i + 1) = i + 1 := wi_id (rg_lit (by omega))
    cases b with
    | true =>
      obtain ⟨j, hj⟩ := left_loop hF h0 hw n k true (i + 1) (by omega) (by omega) (by omega) (by omega)
      refine ⟨j, ?_⟩
      rw [lpF_succ, congrFun (congrFun hF _) _]
      simp only [show i < w by omega, if_true, e1, hj, Bool.true_or]
    | false =>
      obtain ⟨j, hj⟩ := left_loop hF h0 hw n k (decide (Int.tmod (wi (t + i)) w ≠ a)) (i + 1) (by omega) (by omega) (by omega) (by omega)
      refine ⟨j, ?_⟩
      rw [lpF_succ, congrFun (congrFun hF _) _]
      simp only [show i < w by omega, if_true, e1, Bool.false_eq_true, if_false]
      simp only [ne_eq] at hj
      rw [hj]
      simp only [leftL, Bool.false_or, ne_eq]
section
variable {e : EnvV} {f : FrV}
theorem left_use {w a t i : Int} {β : Type} {F : (Bool × Int × Unit → Option (Bool × Int × Unit)) → Bool × Int × Unit → Option (Bool × Int × Unit)}
    (hF : F = fun self x => if x.2.1 < w then (if x.1 = true then self (true, wi (x.2.1 + 1), ()) else self (decide (¬ Int.tmod (wi (t + x.2.1)) w = a), wi (x.2.1 + 1), ())) else some (x.1, x.2.1, ())) (h0 : 1 ≤ w) (hw : w ≤ 64) (hi : 0 ≤ i) (hi2 : i ≤ 100) (A B : Option β) :
    ((lpF F 18446744073709551616 (false, i, ())).bind fun z => if z.1 = true then A else B) = if leftB w a t i = true then A else B := by
  obtain ⟨j, hj⟩ := left_loop hF h0 hw (w - i).toNat 18446744073709551616 false i hi hi2 rfl (by omega)
  rw [hj]
  simp only [Option.bind_some, Bool.false_or]
  rfl
theorem cnt_use {w a : Int} {β : Type} {F : (Int × Int × Unit → Option (Int × Int × Unit)) → Int × Int × Unit → Option (Int × Int × Unit)}
    (hF : F = fun self x => if x.2.1 < w then (if x.2.1 ≠ a then self (wi (x.1 + 1), wi (x.2.1 + 1), ()) else self (x.1, wi (x.2.1 + 1), ())) else some (x.1, x.2.1, ())) (h0 : 0 ≤ w) (hw : w ≤ 64) (A B : Option β) :
    ((lpF F 18446744073709551616 (0, 0, ())).bind fun z => if z.1 = 0 then A else B) = if cntO a w.toNat = 0 then A else B := by
  have := cnt_loop hF hw 18446744073709551616 0 (by omega) (by omega) ⟨by simp [cntO], by simp [cntO]⟩
  simp only [cntO] at this
  rw [show ((0 : Nat) : Int) = 0 from rfl] at this
  rw [this]
  rfl
theorem probe_eq (hc : CfgOk e.c) (hi : 0 ≤ f.i ∧ f.i ≤ e.c.workers) : r8probe e f = some (outL (probeM e f)) := by
  have w1 := hc.w1
  have w2 := hc.w2
  have hn : e.c.workers ≠ 0 := by omega
  have e1 : wi (f.i + 1) = f.i + 1 := wi_id (rg_lit (by omega))
  have e2 : wi (f.i + 1 + 1) = f.i + 1 + 1 := wi_id (rg_lit (by omega))
  have lu : ∀ (t i : Int) (A B : Option ((ResV × Unit) × (EnvV × FrV × Unit))), 0 ≤ i → i ≤ 100 → _ := fun t i A B h1 h2 => left_use (w := e.c.workers) (a := f.a) (t := t) rfl w1 w2 h1 h2 A B
  have cu : ∀ (A B : Option ((ResV × Unit) × (EnvV × FrV × Unit))), _ := fun A B => cnt_use (w := e.c.workers) (a := f.a) rfl (by omega) w2 A B
  have i1 : 0 ≤ f.i + 1 ∧ f.i + 1 ≤ 100 := by omega
  have i2 : 0 ≤ f.i + 1 + 1 ∧ f.i + 1 + 1 ≤ 100 := by omega
  unfold r8probe probeM
  simp only [r2acc_eq, r6slot_eq, r6state_eq, r6level_eq, r6join_eq, r6waits_eq, r6since_eq, r6bitmap_eq, r6sleepers_eq, r6epoch_eq, r6queue_eq, r1bit_eq, r1mask_eq, r1pack_eq, r1unpack_eq, r1high_eq, r1low_eq, r1class_eq, r2draw_eq, Option.bind_some, if_true, r8lesser, hn, ne_eq, not_false_iff, e1, e2]
  by_cases h1 : f.line = 1
  · rw [if_pos h1]
    have hb : probeB e f = { f with line := 2, j := -1, n := -1, t := drawV e.draw e.c.workers } := by unfold probeB; rw [if_pos h1]
    rw [hb]
    refine (cu _ _).trans ?_
    unfold probeX
    by_cases hk : cntO f.a e.c.workers.toNat = 0
    · simp only [hk, if_true]; rfl
    simp only [hk, if_false]
    by_cases hv : Int.tmod (wi (drawV e.draw e.c.workers + f.i)) e.c.workers = f.a
    · have hI : probeI e { f with line := 2, j := -1, n := -1, t := drawV e.draw e.c.workers } = f.i + 1 := by unfold probeI; rw [if_pos hv, e1]
      simp only [hv, if_true]
      by_cases hh : -1 < highV (acc e.m 1 (bitmapA e.c (Int.tmod (wi (drawV e.draw e.c.workers + (f.i + 1))) e.c.workers)) 0 0).1.1
      · rw [if_pos hh]
        refine (lu _ _ _ _ i2.1 i2.2).trans ?_
        have hF : probeF e { f with line := 2, j := -1, n := -1, t := drawV e.draw e.c.workers } = { ({ f with line := 2, j := -1, n := -1, t := drawV e.draw e.c.workers } : FrV) with i := wi (f.i + 1 + 1), j := Int.tmod (wi (drawV e.draw e.c.workers + (f.i + 1))) e.c.workers, n := highV (e.ld (bitmapA e.c (Int.tmod (wi (drawV e.draw e.c.workers + (f.i + 1))) e.c.workers))) } := by unfold probeF probeH probeV; rw [hI]; exact if_pos hh
        rw [hF]
        unfold probeV
        rw [hI]
        simp only [e2]
        repeat' split
        all_goals rfl
      · rw [if_neg hh]
        refine (lu _ _ _ _ i2.1 i2.2).trans ?_
        have hF : probeF e { f with line := 2, j := -1, n := -1, t := drawV e.draw e.c.workers } = { ({ f with line := 2, j := -1, n := -1, t := drawV e.draw e.c.workers } : FrV) with i := wi (f.i + 1 + 1) } := by unfold probeF probeH probeV; rw [hI]; exact if_neg hh
        rw [hF]
        unfold probeV
        rw [hI]
        simp only [e2]
        repeat' split
        all_goals first | rfl | (exfalso; omega)
    · have hI : probeI e { f with line := 2, j := -1, n := -1, t := drawV e.draw e.c.workers } = f.i := by unfold probeI; rw [if_neg hv]
      simp only [hv, if_false]
      by_cases hh : -1 < highV (acc e.m 1 (bitmapA e.c (Int.tmod (wi (drawV e.draw e.c.workers + f.i)) e.c.workers)) 0 0).1.1
      · rw [if_pos hh]
        refine (lu _ _ _ _ i1.1 i1.2).trans ?_
        have hF : probeF e { f with line := 2, j := -1, n := -1, t := drawV e.draw e.c.workers } = { ({ f with line := 2, j := -1, n := -1, t := drawV e.draw e.c.workers } : FrV) with i := wi (f.i + 1), j := Int.tmod (wi (drawV e.draw e.c.workers + f.i)) e.c.workers, n := highV (e.ld (bitmapA e.c (Int.tmod (wi (drawV e.draw e.c.workers + f.i)) e.c.workers))) } := by unfold probeF probeH probeV; rw [hI]; exact if_pos hh
        rw [hF]
        unfold probeV
        rw [hI]
        simp only [e1]
        repeat' split
        all_goals rfl
      · rw [if_neg hh]
        refine (lu _ _ _ _ i1.1 i1.2).trans ?_
        have hF : probeF e { f with line := 2, j := -1, n := -1, t := drawV e.draw e.c.workers } = { ({ f with line := 2, j := -1, n := -1, t := drawV e.draw e.c.workers } : FrV) with i := wi (f.i + 1) } := by unfold probeF probeH probeV; rw [hI]; exact if_neg hh
        rw [hF]
        unfold probeV
        rw [hI]
        simp only [e1]
        repeat' split
        all_goals first | rfl | (exfalso; omega)
  · rw [if_neg h1]
    have hb : probeB e f = f := by unfold probeB; rw [if_neg h1]
    rw [hb]
    refine (cu _ _).trans ?_
    unfold probeX
    by_cases hk : cntO f.a e.c.workers.toNat = 0
    · simp only [hk, if_true]; rfl
    simp only [hk, if_false]
    by_cases hv : Int.tmod (wi (f.t + f.i)) e.c.workers = f.a
    · have hI : probeI e f = f.i + 1 := by unfold probeI; rw [if_pos hv, e1]
      simp only [hv, if_true]
      by_cases hh : f.n < highV (acc e.m 1 (bitmapA e.c (Int.tmod (wi (f.t + (f.i + 1))) e.c.workers)) 0 0).1.1
      · rw [if_pos hh]
        refine (lu _ _ _ _ i2.1 i2.2).trans ?_
        have hF : probeF e f = { f with i := wi (f.i + 1 + 1), j := Int.tmod (wi (f.t + (f.i + 1))) e.c.workers, n := highV (e.ld (bitmapA e.c (Int.tmod (wi (f.t + (f.i + 1))) e.c.workers))) } := by unfold probeF probeH probeV; rw [hI]; exact if_pos hh
        rw [hF]
        unfold probeV
        rw [hI]
        simp only [e2]
        repeat' split
        all_goals rfl
      · rw [if_neg hh]
        refine (lu _ _ _ _ i2.1 i2.2).trans ?_
        have hF : probeF e f = { f with i := wi (f.i + 1 + 1) } := by unfold probeF probeH probeV; rw [hI]; exact if_neg hh
        rw [hF]
        unfold probeV
        rw [hI]
        simp only [e2]
        repeat' split
        all_goals rfl
    · have hI : probeI e f = f.i := by unfold probeI; rw [if_neg hv]
      simp only [hv, if_false]
      by_cases hh : f.n < highV (acc e.m 1 (bitmapA e.c (Int.tmod (wi (f.t + f.i)) e.c.workers)) 0 0).1.1
      · rw [if_pos hh]
        refine (lu _ _ _ _ i1.1 i1.2).trans ?_
        have hF : probeF e f = { f with i := wi (f.i + 1), j := Int.tmod (wi (f.t + f.i)) e.c.workers, n := highV (e.ld (bitmapA e.c (Int.tmod (wi (f.t + f.i)) e.c.workers))) } := by unfold probeF probeH probeV; rw [hI]; exact if_pos hh
        rw [hF]
        unfold probeV
        rw [hI]
        simp only [e1]
        repeat' split
        all_goals rfl
      · rw [if_neg hh]
        refine (lu _ _ _ _ i1.1 i1.2).trans ?_
        have hF : probeF e f = { f with i := wi (f.i + 1) } := by unfold probeF probeH probeV; rw [hI]; exact if_neg hh
        rw [hF]
        unfold probeV
        rw [hI]
        simp only [e1]
        repeat' split
        all_goals rfl
end
end
section
open Go
/-- What must hold of the topmost frame, for its line to be performed. -/
structure LeafC (e : EnvV) (f : FrV) : Prop where
  cf : CfgOk e.c
  fit : Fit e
  rc : (e.recs.length : Int) = e.c.tasks
  cap : f.q.cap ≤ 9223372036854775807
  run : f.kind = 24 → LOk f ∧ (f.line ≠ 23 → TopT e f) ∧ (f.line = 3 → PcIn e (topL f.l))
  cl : f.kind = 26 → 0 ≤ f.i
  pr : f.kind = 21 → 0 ≤ f.i ∧ f.i ≤ e.c.workers
section
variable {e : EnvV} {f : FrV}
theorem leaf_eq (p : LeafC e f) : r8leaf e f = some (outL (leafM e f)) := by
  unfold r8leaf leafM
  by_cases hk : f.kind = 0
  · simp only [push_eq p.cap, Option.bind_some, Int.reduceEq, hk, if_true, if_false]
    try rfl
  have n0 := hk; clear hk
  by_cases hk : f.kind = 1
  · simp only [pop_eq p.cap, Option.bind_some, Int.reduceEq, hk, if_true, if_false]
    try rfl
  have n1 := hk; clear hk
  by_cases hk : f.kind = 2
  · simp only [steal_eq p.cap, Option.bind_some, Int.reduceEq, hk, if_true, if_false]
    try rfl
  have n2 := hk; clear hk
  by_cases hk : f.kind = 3
  · simp only [r1mask_eq, r2acc_eq, r6bitmap_eq, r1high_eq, Option.bind_some, Int.reduceEq, hk, if_true, if_false]
    try rfl
  have n3 := hk; clear hk
  by_cases hk : f.kind = 4
  · simp only [clearbit_eq, Option.bind_some, Int.reduceEq, hk, if_true, if_false]
    try rfl
  have n4 := hk; clear hk
  by_cases hk : f.kind = 6
  · simp only [hk, if_true, if_false, r1mask_eq, r2acc_eq, r6bitmap_eq, r1high_eq, Option.bind_some, Int.reduceEq, EnvV.rd, EnvV.hit]
    split <;> first | rfl | (rename_i hh; simp only [hh, if_true, if_false, Bool.false_eq_true]; try rfl)
  have n6 := hk; clear hk
  by_cases hk : f.kind = 7
  · simp only [hk, if_true, if_false, r1mask_eq, r2acc_eq, r6bitmap_eq, r1high_eq, Option.bind_some, Int.reduceEq, EnvV.rd, EnvV.hit]
    split <;> first | rfl | (rename_i hh; simp only [hh, if_true, if_false, Bool.false_eq_true]; try rfl)
  have n7 := hk; clear hk
  by_cases hk : f.kind = 8
  · simp only [hk, if_true, if_false, r1mask_eq, r2acc_eq, r6bitmap_eq, r1high_eq, Option.bind_some, Int.reduceEq, EnvV.rd, EnvV.hit]
    split <;> first | rfl | (rename_i hh; simp only [hh, if_true, if_false, Bool.false_eq_true]; try rfl)
  have n8 := hk; clear hk
  by_cases hk : f.kind = 9
  · simp only [r1mask_eq, r2acc_eq, r6bitmap_eq, r1high_eq, Option.bind_some, Int.reduceEq, hk, if_true, if_false]
    try rfl
  have n9 := hk; clear hk
  by_cases hk : f.kind = 10
  · simp only [insert_eq, Option.bind_some, Int.reduceEq, hk, if_true, if_false]
    try rfl
  have n10 := hk; clear hk
  by_cases hk : f.kind = 11
  · simp only [remove_eq p.fit, Option.bind_some, Int.reduceEq, hk, if_true, if_false]
    try rfl
  have n11 := hk; clear hk
  by_cases hk : f.kind = 12
  · simp only [table_alloc hk, Option.bind_some, Int.reduceEq, hk, if_true, if_false]
    try rfl
  have n12 := hk; clear hk
  by_cases hk : f.kind = 13
  · simp only [table_publish hk, Option.bind_some, Int.reduceEq, hk, if_true, if_false]
    try rfl
  have n13 := hk; clear hk
  by_cases hk : f.kind = 14
  · simp only [table_claim hk p.fit p.rc, Option.bind_some, Int.reduceEq, hk, if_true, if_false]
    try rfl
  have n14 := hk; clear hk
  by_cases hk : f.kind = 15
  · simp only [table_enter hk, Option.bind_some, Int.reduceEq, hk, if_true, if_false]
    try rfl
  have n15 := hk; clear hk
  by_cases hk : f.kind = 16
  · simp only [boost_raise hk p.fit, Option.bind_some, Int.reduceEq, hk, if_true, if_false]
    try rfl
  have n16 := hk; clear hk
  by_cases hk : f.kind = 17
  · simp only [boost_walk hk, Option.bind_some, Int.reduceEq, hk, if_true, if_false]
    try rfl
  have n17 := hk; clear hk
  by_cases hk : f.kind = 18
  · simp only [sweep_eq p.fit, Option.bind_some, Int.reduceEq, hk, if_true, if_false]
    try rfl
  have n18 := hk; clear hk
  by_cases hk : f.kind = 19
  · simp only [sleep_eq p.fit, Option.bind_some, Int.reduceEq, hk, if_true, if_false]
    try rfl
  have n19 := hk; clear hk
  by_cases hk : f.kind = 20
  · simp only [wake_eq p.fit, Option.bind_some, Int.reduceEq, hk, if_true, if_false]
    try rfl
  have n20 := hk; clear hk
  by_cases hk : f.kind = 21
  · simp only [probe_eq p.cf (p.pr hk), Option.bind_some, Int.reduceEq, hk, if_true, if_false]
    try rfl
  have n21 := hk; clear hk
  by_cases hk : f.kind = 22
  · simp only [drain_eq, Option.bind_some, Int.reduceEq, hk, if_true, if_false]
    try rfl
  have n22 := hk; clear hk
  by_cases hk : f.kind = 24
  · simp only [run_eq (p.run hk).1 (p.run hk).2.1 p.fit (p.run hk).2.2, Option.bind_some, Int.reduceEq, hk, if_true, if_false]
    try rfl
  have n24 := hk; clear hk
  by_cases hk : f.kind = 26
  · simp only [client_eq (p.cl hk) p.fit, Option.bind_some, Int.reduceEq, hk, if_true, if_false]
    try rfl
  have n26 := hk; clear hk
  simp only [n0, n1, n2, n3, n4, n6, n7, n8, n9, n10, n11, n12, n13, n14, n15, n16, n17, n18, n19, n20, n21, n22, n24, n26, if_false]
  rfl
/-- What must hold of a frame whose machine has ended. -/
structure BackC (e : EnvV) (f : FrV) (code value : Int) : Prop where
  cf : CfgOk e.c
  fit : Fit e
  run : f.kind = 24 → (LOk f ∧ TopT e f) ∧ (f.line = 5 → PcIn e (topL f.l) ∧ (e.rc (topL f.l)).kids.length < 999999999 ∧ (code ≠ 3 → 0 ≤ value ∧ value < (e.recs.length : Int)))
  cl : f.kind = 26 → (0 ≤ f.i ∧ f.i < (e.c.subs.length : Int)) ∧ (f.line = 3 → code ≠ 3 → 0 ≤ value ∧ value < (e.recs.length : Int))
theorem backwalk_eq (hE : Fit e) (code : Int) : r8backwalk e f code = some (outL (walkB e f code)) := by
  unfold r8backwalk walkB
  simp only [emit_eq hE, Option.bind_some]
  repeat' split
  all_goals rfl
theorem backdrain_eq (code value : Int) : r8backdrain e f code value = some (outL (drainB e f code value)) := by
  unfold r8backdrain drainB
  repeat' split
  all_goals first | rfl | omega
theorem backtake_eq (code value : Int) : ((r8backtake f code value).bind fun r => some ((r.1.1, ()), (e, r.2.1, ()))) = some (outL (takeBk e f code value)) := by
  unfold r8backtake takeBk
  repeat' split
  all_goals rfl
theorem backworker_eq (hc : CfgOk e.c) (hE : Fit e) (code value : Int) : ((r8backworker e f code value).bind fun r => some (((⟨false, 0, 0⟩ : ResV), ()), (r.2.1, r.2.2.1, ()))) = some (outL (workerBk e f code value)) := by
  unfold r8backworker workerBk
  have ht := hc.t1
  have hm : (if 1 < e.c.tasks then e.c.tasks else 1) ≠ 0 := by split <;> omega
  simp only [emit_eq hE, Option.bind_some, hm, ne_eq, not_false_iff, if_true]
  repeat' split
  all_goals rfl
theorem following_eq : r8following e f = some (outL (followM e f)) := by
  unfold r8following followM
  split <;> rfl
theorem backclient_eq (hE : Fit e) {code value : Int} (hi : 0 ≤ f.i ∧ f.i < (e.c.subs.length : Int)) (hv : f.line = 3 → code ≠ 3 → 0 ≤ value ∧ value < (e.recs.length : Int)) : r8backclient e f code value = some (outL (clientB e f code value)) := by
  unfold r8backclient clientB
  simp only [hi, and_self, if_true, emit_eq hE, following_eq, r8fresh, Option.bind_some]
  by_cases h1 : f.line = 1
  · simp only [h1, if_true]; rfl
  by_cases h3 : f.line = 3
  · simp only [h3, if_true, if_false, Int.reduceEq]
    by_cases hcode : code = 3
    · simp only [hcode, if_true]; rfl
    · have := hv h3 hcode
      simp only [hcode, this, and_self, if_true, if_false]; rfl
  simp only [if_neg h1, if_neg h3]
  repeat' split
  all_goals rfl
theorem LOk.dl (h : LOk f) : f.l.length = f.l.dropLast.length + 1 := by
  have := List.length_pos_iff.2 h.ne
  rw [List.length_dropLast]; omega
theorem emit_rs {rs : List RecV} (h : Fit e) (k w t o l : Int) : r8env_emit { e with recs := rs } k w t o l = some ((()), (({ e with recs := rs } : EnvV).em k w t o l, ())) := emit_eq (e := { e with recs := rs }) h k w t o l
theorem backrun_eq (hE : Fit e) {code value : Int} (h : LOk f) (ht : TopT e f) (h5 : f.line = 5 → PcIn e (topL f.l) ∧ (e.rc (topL f.l)).kids.length < 999999999 ∧ (code ≠ 3 → 0 ≤ value ∧ value < (e.recs.length : Int))) : r8backrun e f code value = some (outL (runB e f code value)) := by
  unfold r8backrun runB
  have ht2 : 0 ≤ topL f.l ∧ topL f.l < (e.recs.length : Int) := ht
  have hle := h.le
  have hdl := h.dl
  have g1 : ∀ n : Nat, n < 999999999 → (((n : Nat) : Int) < 1000000000000) = True := fun n hn => eq_true (by omega)
  simp only [h.n, h.a, h.g, h.g2, h.t, if_true, ht2, and_self]
  by_cases l5 : f.line = 5
  · obtain ⟨⟨p1, p2⟩, p3, p4⟩ := h5 l5
    rw [PcIn.prog ⟨p1, p2⟩] at p2
    have hi : e.ins (topL f.l) = atK3 (atL [] e.c.progs (e.rc (topL f.l)).prog) (e.rc (topL f.l)).pc := by unfold EnvV.ins; rw [(h5 l5).1.prog]
    simp only [EnvV.rc] at p1 p2 p3 hi
    have q1 : ¬ (atK7 e.recs (topL f.l)).prog < 0 := by omega
    have q2 : ¬ ((e.c.progs.length : Nat) : Int) ≤ (atK7 e.recs (topL f.l)).prog := by omega
    have q3 : ((([] : List Int).length + (atK7 e.recs (topL f.l)).kids.length : Nat) : Int) < 1000000000000 := by simp; omega
    have q4 : ∀ k : Int, (((atK7 e.recs (topL f.l)).kids.length + ([k] : List Int).length : Nat) : Int) < 1000000000000 := fun k => by simp; omega
    simp only [if_pos l5, agr_self, q1, q2, p1, p2, if_false, if_true, and_self, at7_set ht2, List.set_set, q3, q4, r8fresh, Option.bind_some, emit_rs hE, List.length_set, hi, List.nil_append]
    by_cases hcode : code = 3
    · simp only [hcode, if_true]; rfl
    · have := p4 hcode
      simp only [hcode, if_false, this, and_self, if_true]; rfl
  simp only [if_neg l5, emit_eq hE, Option.bind_some]
  by_cases l6 : f.line = 6
  · simp only [l6, if_true]; rfl
  by_cases l7 : f.line = 7
  · simp only [l7, if_true, if_false, Int.reduceEq]; split <;> rfl
  by_cases l8 : f.line = 8
  · simp only [l8, if_true, if_false, Int.reduceEq]; rfl
  by_cases l9 : f.line = 9
  · have q1 : ((([] : List Int).length + f.l.length : Nat) : Int) < 1000000000000 := by simp; omega
    have q2 : ((f.l.length + ([f.n] : List Int).length : Nat) : Int) < 1000000000000 := by simp; omega
    simp only [l9, if_true, if_false, Int.reduceEq, q1, q2, List.nil_append, agr_self]; split <;> rfl
  by_cases l14 : f.line = 14
  · simp only [l14, if_true, if_false, Int.reduceEq, leave_out h]
  by_cases l20 : f.line = 20
  · simp only [l20, if_true, if_false, Int.reduceEq]; split <;> rfl
  by_cases l21 : f.line = 21
  · simp only [l21, if_true, if_false, Int.reduceEq, leave_out h]
  by_cases l22 : f.line = 22
  · have q1 : ((([] : List Int).length + f.l.dropLast.length : Nat) : Int) < 1000000000000 := by simp; omega
    have q2 : ((f.l.dropLast.length + ([f.n] : List Int).length : Nat) : Int) < 1000000000000 := by simp; omega
    simp only [l22, if_true, if_false, Int.reduceEq, q1, q2, List.nil_append, leave_out h, agr_self]
    by_cases hcode : code = 1
    · simp only [hcode, ne_eq, not_true, if_false, if_true]; try rfl
    · simp only [hcode, ne_eq, not_false_iff, if_false, if_true]
  simp only [l6, l7, l8, l9, l14, l20, l21, l22, if_false]; rfl
theorem back_eq {code value : Int} (p : BackC e f code value) : r8back e f code value = some (outL (backM e f code value)) := by
  unfold r8back backM
  by_cases k5 : f.kind = 5
  · simp only [k5, if_true]
    repeat' split
    all_goals first | rfl | omega
  by_cases k6 : f.kind = 6
  · simp only [k6, if_true, if_false, Int.reduceEq]
    repeat' split
    all_goals first | rfl | omega
  by_cases k15 : f.kind = 15
  · simp only [k15, if_true, if_false, Int.reduceEq]; rfl
  by_cases k17 : f.kind = 17
  · simp only [k17, if_true, if_false, Int.reduceEq, backwalk_eq p.fit, Option.bind_some]; try rfl
  by_cases k18 : f.kind = 18
  · simp only [k18, if_true, if_false, Int.reduceEq, emit_eq p.fit, Option.bind_some]
    split <;> rfl
  by_cases k22 : f.kind = 22
  · simp only [k22, if_true, if_false, Int.reduceEq, backdrain_eq, Option.bind_some]; try rfl
  by_cases k23 : f.kind = 23
  · simp only [k23, if_true, if_false, Int.reduceEq, backtake_eq]
  by_cases k24 : f.kind = 24
  · have hr := p.run k24
    simp only [k24, if_true, if_false, Int.reduceEq, backrun_eq p.fit hr.1.1 hr.1.2 hr.2, Option.bind_some]; try rfl
  by_cases k25 : f.kind = 25
  · simp only [k25, if_true, if_false, Int.reduceEq, backworker_eq p.cf p.fit]
  by_cases k26 : f.kind = 26
  · have hr := p.cl k26
    simp only [k26, if_true, if_false, Int.reduceEq, backclient_eq p.fit hr.1 hr.2, Option.bind_some]; try rfl
  simp only [k5, k6, k15, k17, k18, k22, k23, k24, k25, k26, if_false]; rfl
/-- What must hold of a frame that is to enter another machine. -/
structure EntC (e : EnvV) (f : FrV) : Prop where
  cf : CfgOk e.c
  rc : (e.recs.length : Int) = e.c.tasks
  run : f.kind = 24 → LOk f
  cl : f.kind = 26 → 0 ≤ f.i
def outE (e : EnvV) (o : Option FrV × FrV) : (FrV × Bool × Unit) × (EnvV × FrV × Unit) := ((o.1.getD (frK 0), o.1.isSome, ()), (e, o.2, ()))
theorem enter_eq (p : EntC e f) : r8enter e f = some (outE e (enterM e f)) := by
  unfold r8enter enterM
  by_cases k5 : f.kind = 5
  · simp only [k5, if_true, r6queue_eq, r6bitmap_eq, Option.bind_some]
    split <;> rfl
  by_cases k6 : f.kind = 6
  · simp only [k6, if_true, if_false, Int.reduceEq, r6queue_eq, r6bitmap_eq, Option.bind_some]
    repeat' split
    all_goals rfl
  by_cases k15 : f.kind = 15
  · simp only [k15, if_true, if_false, Int.reduceEq]
    split <;> rfl
  by_cases k17 : f.kind = 17
  · simp only [k17, if_true, if_false, Int.reduceEq]
    by_cases l1 : f.line = 1
    · simp only [l1, if_true, if_false, Int.reduceEq, IsTask]
      by_cases a1 : 0 ≤ f.b
      · by_cases a2 : f.b < e.c.tasks
        · by_cases a3 : f.b < (e.recs.length : Int)
          · by_cases a4 : 0 ≤ f.d
            · by_cases a5 : f.d < e.c.levels
              · simp only [a1, a2, a3, a4, a5, if_true, and_self]; rfl
              · simp only [a1, a2, a3, a4, a5, if_true, if_false, and_self, and_false]; rfl
            · simp only [a1, a2, a3, a4, if_true, if_false, and_self, and_false, false_and]; rfl
          · simp only [a1, a2, a3, if_true, if_false, and_self, and_false, false_and]; rfl
        · simp only [a1, a2, if_true, if_false, and_self, and_false, false_and]; rfl
      · simp only [a1, if_false, false_and]; rfl
    · simp only [l1, if_false]
      split <;> rfl
  by_cases k18 : f.kind = 18
  · simp only [k18, if_true, if_false, Int.reduceEq]
    split <;> rfl
  by_cases k22 : f.kind = 22
  · simp only [k22, if_true, if_false, Int.reduceEq, enterdrain_eq, Option.bind_some]; rfl
  by_cases k23 : f.kind = 23
  · simp only [k23, if_true, if_false, Int.reduceEq]
    split <;> rfl
  by_cases k24 : f.kind = 24
  · simp only [k24, if_true, if_false, Int.reduceEq, enterrun_eq (p.run k24) p.rc p.cf, Option.bind_some]; rfl
  by_cases k25 : f.kind = 25
  · simp only [k25, if_true, if_false, Int.reduceEq, enterworker_eq, Option.bind_some]; rfl
  by_cases k26 : f.kind = 26
  · simp only [k26, if_true, if_false, Int.reduceEq, enterclient_eq (p.cl k26), Option.bind_some]; rfl
  simp only [k5, k6, k15, k17, k18, k22, k23, k24, k25, k26, if_false]; rfl
end
end
end Go.Proofs.YtpbkelpokpglaaaGreat
