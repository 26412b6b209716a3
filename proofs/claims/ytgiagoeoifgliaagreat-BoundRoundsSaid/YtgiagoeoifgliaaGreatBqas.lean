/- The program's machines do what was said plainly, 8: workers. The program's machines do what was said plainly, 9: the client; what workers and the client leave. What is decoded is valid. The program's environment made anew, at a valid configuration. What is decoded is valid, also with other numbers of tasks and places. An engine: what holds between the entries of a script. -/
import Derived.Test.YtgiagoeoifgliaaGreatBqar
import Derived.Test.YtgiagoeoifgliaaGreatBqap
import Derived.Test.YtgiagoeoifgliaaGreatBqaj
set_option linter.all false
namespace Go.Proofs.YtgiagoeoifgliaaGreat
section
open Go Go.RowKit
set_option maxRecDepth 100000
@[reducible] def workCC (l : LayV) (w vi lv x : Int) : WorkC → Int × MV
  | .top => (0, .nil)
  | .t1 t s => (1, .sweep (sweepC l w t s))
  | .t2 s => (2, .take (takeC l w s))
  | .t3 s => (3, .drain (drainC l w s))
  | .t4 s => (4, .probe (probeC w s))
  | .t5 s => (5, .steal (stealC (queueP l vi lv) s))
  | .t6 => (6, .claim ⟨o0, w, x⟩)
  | .t7 s => (7, .run (runC l w s))
  | .t8 s => (8, .sleep (sleepC w s))
  | .t9 s => (9, .reset (resetC (bitmapP l vi) lv (queueP l vi lv) s))
@[reducible] def workC (l : LayV) (w : Int) (k : WorkS) : WorkerV MV :=
  ⟨w, k.cursor, (workCC l w k.victim k.level k.x k.c).1, (workCC l w k.victim k.level k.x k.c).2, k.victim, k.level, k.x⟩
def RunOk (K : Nat) (r : RunS) : Prop := r.stack ≠ [] ∧ r.stack.length ≤ K
def WorkOk (K : Nat) (n : Int) (k : WorkS) : Prop := match k.c with
  | .t3 s => DrainOk s
  | .t4 s => ProbeOk n s
  | .t7 s => RunOk K s
  | _ => True
section
variable [Tb] {K : Nat} {e : EnvP} {w : Int}
theorem leave_nx {j : Nat} {e' : EnvP} {r : RunS} (h : Stp j e e') : Stp j e (leaveS r e').2 := h
theorem pt_pr {a v t : Int} {r : RecP} (hr : ∀ K, (∀ r ∈ e.recs, r.kids.length ≤ K) → r.kids.length ≤ K + 1) : Stp 0 e ((e.pt 2 a v).pr t r) := Stp.pr (Stp.pt (by decide)) hr
theorem comp_kids {x : RecP} {i : Ins} : (compP x i).kids = x.kids := by
  unfold compP
  repeat' split
  all_goals rfl
theorem run_nx (hK : EOk K e) (r : RunS) : Stp 2 e (runS w e r).2 := by
  obtain ⟨st, id, ch, lv, wt, c⟩ := r
  unfold runS
  by_cases hT : IsT e (topP st)
  · have hR : 0 ≤ topP st ∧ topP st < (e.recs.length : Int) := ⟨hT.1, by have := hT.2; have := hK.ct; omega⟩
    have hkid : ∀ K, (∀ r ∈ e.recs, r.kids.length ≤ K) → (e.rc (topP st)).kids.length ≤ K + 1 := fun K h => Nat.le_succ_of_le (rc_kids hR K h)
    have hkid1 : ∀ v : Int, ∀ K, (∀ r ∈ e.recs, r.kids.length ≤ K) → ((e.rc (topP st)).kids ++ [v]).length ≤ K + 1 := fun v K h => by
      have := rc_kids hR K h
      rw [List.length_append, List.length_singleton]; omega
    rw [if_neg (fun h => h hT)]
    cases c with
    | next =>
      simp only [runG, nextS]
      split
      · exact Stp.le (pt_pr hkid) (Nat.zero_le _)
      split
      · exact Stp.le (.pt (by decide)) (by decide)
      split
      · exact Stp.le (Stp.pr Stp.refl fun K h => by rw [comp_kids]; exact hkid K h) (Nat.zero_le _)
      split
      · split
        · exact Stp.le (Stp.pr (Stp.pr alloc_nx (hkid1 _)) fun K h => Nat.zero_le _) (Nat.zero_le _)
        · exact Stp.le (Stp.em (Stp.pr alloc_nx (hkid1 _))) (Nat.le_succ 1)
      split
      · exact Stp.le (Stp.pr Stp.refl hkid) (Nat.zero_le _)
      · exact Stp.le (pt_pr hkid) (Nat.zero_le _)
    | s2 s =>
      have h := publish_nx (e := e) (t := id) (v := lv) s
      revert h
      simp only [runG]
      rcases publishS id lv e s with ⟨r | ⟨c, y⟩, e'⟩ <;> intro h
      · exact h.le (by decide)
      · exact h.em.le (by decide)
    | s3 s =>
      have h := lpush_nx (e := e) (w := w) (v := lv) (x := id) s
      revert h
      simp only [runG]
      rcases lpushS w lv id e s with ⟨r | ⟨c, y⟩, e'⟩ <;> intro h <;> exact h.le (by decide)
    | s4 s =>
      have h := wake_nx (e := e) (w := w) (v := lv) s
      revert h
      simp only [runG]
      rcases wakeS w lv e s with ⟨r | ⟨c, y⟩, e'⟩ <;> intro h <;> exact h.le (by decide)
    | s5 => exact (claim_nx (w := w) (t := id) hK.st).le (by decide)
    | j2 => exact Stp.le (.pt (by decide)) (by decide)
    | j3 =>
      simp only [runG]
      split
      · exact Stp.cas.em.le (by decide)
      · exact Stp.cas.le (by decide)
    | j4 => exact Stp.lk.le (by decide)
    | j5 s =>
      have h := walk_nx (e := e) (w := w) (v := lv) s
      revert h
      simp only [runG]
      rcases walkS w lv e s with ⟨r | ⟨c, y⟩, e'⟩ <;> intro h
      · exact h.le (by decide)
      · exact leave_nx h.em
    | j6 => exact Stp.le (.pt (by decide)) (by decide)
    | j7 => exact Stp.le (Stp.em (pt_pr hkid)) (Nat.le_succ 1)
    | f2 =>
      simp only [runG]
      split
      · exact leave_nx (Stp.cas.em.le (by decide))
      · exact Stp.cas.em.le (by decide)
    | f3 =>
      simp only [runG]
      split
      · exact Stp.lk.le (by decide)
      · exact leave_nx (Stp.lk.le (by decide))
    | f4 s =>
      have h := enter_nx (e := e) (w := w) (t := wt) s
      revert h
      simp only [runG]
      rcases enterS w wt e s with ⟨r | ⟨c, y⟩, e'⟩ <;> intro h <;> exact h.le (by decide)
    | f5 v s =>
      have h := wake_nx (e := e) (w := w) (v := v) s
      revert h
      simp only [runG]
      rcases wakeS w v e s with ⟨r | ⟨c, y⟩, e'⟩ <;> intro h
      · exact h.le (by decide)
      · exact leave_nx (h.le (by decide))
    | f6 =>
      simp only [runG]
      split
      · exact (claim_nx (w := w) (t := wt) hK.st).le (by decide)
      · exact leave_nx ((claim_nx (w := w) (t := wt) hK.st).le (by decide))
  · rw [if_pos hT]; exact Stp.refl.le (by decide)
theorem leave_ok {r r' : RunS} {e e' : EnvP} (hr : r.stack ≠ []) (h : leaveS r e = (.go r', e')) : r'.stack ≠ [] ∧ r'.stack.length ≤ r.stack.length + 1 := by
  have h1 := List.length_pos_iff.2 hr
  unfold leaveS at h
  split at h
  · cases h
  · cases h
    refine ⟨List.length_pos_iff.1 ?_, ?_⟩ <;> simp only [List.length_dropLast] <;> omega
theorem run_ok {r r' : RunS} {e' : EnvP} (hr : r.stack ≠ []) (h : runS w e r = (.go r', e')) : r'.stack ≠ [] ∧ r'.stack.length ≤ r.stack.length + 1 := by
  obtain ⟨st, id, ch, lv, wt, c⟩ := r
  have hr : st ≠ [] := hr
  have hz : st ≠ [] ∧ st.length ≤ st.length + 1 := ⟨hr, Nat.le_succ _⟩
  unfold runS at h
  split at h
  · cases h
  cases c with
  | next =>
    simp only [runG, nextS] at h
    repeat' split at h
    all_goals cases h; exact hz
  | s2 s =>
    simp only [runG] at h
    split at h <;> cases h <;> exact hz
  | s3 s =>
    simp only [runG] at h
    split at h <;> cases h <;> exact hz
  | s4 s =>
    simp only [runG] at h
    split at h <;> cases h <;> exact hz
  | s5 =>
    simp only [runG] at h
    cases h
    split
    · refine ⟨by simp, ?_⟩
      simp only [List.length_append, List.length_singleton]; omega
    · exact hz
  | j2 => cases h; exact hz
  | j3 =>
    simp only [runG] at h
    split at h <;> cases h <;> exact hz
  | j4 => cases h; exact hz
  | j5 s =>
    simp only [runG] at h
    split at h
    · cases h; exact hz
    · exact leave_ok hr h
  | j6 => cases h; exact hz
  | j7 => cases h; exact hz
  | f2 =>
    simp only [runG] at h
    split at h
    · exact leave_ok hr h
    · cases h; exact hz
  | f3 =>
    simp only [runG] at h
    split at h
    · cases h; exact hz
    · exact leave_ok (r := ⟨st, id, ch, lv, wi (wi (e.gt (joinP e.l (topP st))) - 1), .f3⟩) hr h
  | f4 s =>
    simp only [runG] at h
    split at h <;> cases h <;> exact hz
  | f5 v s =>
    simp only [runG] at h
    split at h
    · cases h; exact hz
    · exact leave_ok hr h
  | f6 =>
    simp only [runG] at h
    split at h
    · cases h
      refine ⟨by simp, ?_⟩
      simp only [List.length_append, List.length_singleton, List.length_dropLast]; omega
    · exact leave_ok hr h
theorem start_eq {cur vi lv x : Int} : workerWorkerStep ⟨w, cur, 0, .nil, vi, lv, x⟩ e = workerWorkerStep (workC e.l w ⟨cur, vi, lv, x, workB w e ⟨cur, vi, lv, x, .top⟩⟩) e := by
  unfold workB
  by_cases ha : e.c.age = 0
  · simp only [ha, if_true, workerWorkerStep, workerWorkerStart, workerWorkerTo, takeTake, levelsPop, bnd, if_false, Int.reduceEq, take0, Int.reduceLE, o0]
  · simp only [ha, if_false, workerWorkerStep, workerWorkerStart, workerWorkerTo, agingSweep, pMod_eq, bnd, if_true, Int.reduceEq, Int.reduceLE, o0]
/-- What a worker's step is: no end, the state said plainly. -/
def WSim (l : LayV) (w : Int) (res : Option ((Bool × Unit) × (WorkerV MV × EnvP × Unit))) (r : WorkS × EnvP) : Prop := res = some ((false, ()), (workC l w r.1, r.2, ()))
theorem WSim.ite {l : LayV} {c : Prop} [Decidable c] {a b : Option ((Bool × Unit) × (WorkerV MV × EnvP × Unit))} {r s : WorkS × EnvP} (h1 : c → WSim l w a r) (h2 : ¬ c → WSim l w b s) : WSim l w (if c then a else b) (if c then r else s) := by
  by_cases h : c
  · rw [if_pos h, if_pos h]; exact h1 h
  · rw [if_neg h, if_neg h]; exact h2 h
theorem wpair_ite {c : Prop} [Decidable c] {x y : WorkS} {e : EnvP} : ((if c then x else y), e) = if c then (x, e) else (y, e) := by split <;> rfl
theorem work_line (hK : EOk K e) (hk : K ≤ 100000000) (k : WorkS) (hc : k.c ≠ .top) (hW : WorkOk K (manyP e) k) : WSim e.l w (workerWorkerStep (workC e.l w k) e) (workS w e k) := by
  have hl : e.evs.length ≤ 999999999 := by have := hK.ev; omega
  obtain ⟨cur, vi, lv, x, c⟩ := k
  cases c with
  | top => exact absurd rfl hc
  | t1 t s =>
    have h := sweep_sim (w := w) (t := t) hK hk s
    revert h
    simp only [workS, workB, workerWorkerStep, stepD3, bnd, Int.reduceEq, if_false]
    rcases sweepS w t e s with ⟨r | ⟨c, y⟩, e'⟩ <;> intro h
    · simp only [SimR] at h
      simp only [h, bnd, Bool.not_false, if_true]
      rfl
    · simp only [SimR] at h
      obtain ⟨x', h, ho⟩ := h
      simp only [h, ho, resultD3, workerWorkerFound, workerWorkerTo, takeTake, levelsPop, bnd, Bool.not_true, Bool.false_eq_true, if_true, if_false, Int.reduceEq, Int.reduceLE]
      rfl
  | t2 s =>
    have h := take_sim (w := w) hK hk s
    revert h
    simp only [workS, workB, workerWorkerStep, stepD3, bnd, Int.reduceEq, if_false]
    rcases takeS w e s with ⟨r | ⟨c, y⟩, e'⟩ <;> intro h
    · simp only [SimR] at h
      simp only [h, bnd, Bool.not_false, if_true]
      rfl
    · simp only [SimR] at h
      obtain ⟨x', h, ho⟩ := h
      simp only [h, ho, resultD3, workerWorkerFound, workerWorkerRun, workerWorkerTo, runnerRun, drainDrain, bnd, Bool.not_true, Bool.false_eq_true, if_true, if_false, Int.reduceEq, Int.reduceLE, bind_ite, wpair_ite]
      exact WSim.ite (fun _ => rfl) fun _ => rfl
  | t3 s =>
    have h := drain_sim (w := w) hK hk s hW
    revert h
    simp only [workS, workB, workerWorkerStep, stepD3, bnd, Int.reduceEq, if_false]
    rcases drainS w e s with ⟨r | ⟨c, y⟩, e'⟩ <;> intro h
    · simp only [SimR] at h
      simp only [h, bnd, Bool.not_false, if_true]
      rfl
    · simp only [SimR] at h
      obtain ⟨x', h, ho⟩ := h
      simp only [h, ho, resultD3, workerWorkerFound, workerWorkerClaim, workerWorkerIdle, tableClaim, takeTake, levelsPop, parkSleep, probeProbe, workerWorkerTo, bnd, Bool.not_true, Bool.false_eq_true, if_true, if_false, Int.reduceEq, Int.reduceLE, bind_ite, wpair_ite]
      refine WSim.ite (fun _ => rfl) fun _ => WSim.ite (fun _ => rfl) fun _ => ?_
      unfold idleC
      by_cases h1 : e'.c.workers = 1
      · rw [if_pos h1, if_pos h1]; rfl
      · rw [if_neg h1, if_neg h1]; rfl
  | t4 s =>
    have h := probe_sim (w := w) hK.wk s hW
    have hn := probe_nx (e := e) (w := w) s
    revert h hn
    simp only [workS, workB, workerWorkerStep, stepD3, bnd, Int.reduceEq, if_false]
    rcases probeS w e s with ⟨r | ⟨c, y⟩, e'⟩ <;> intro h hn
    · simp only [SimR] at h
      simp only [h, bnd, Bool.not_false, if_true]
      rfl
    · simp only [SimR] at h
      obtain ⟨x', h, ho⟩ := h
      have hnl : e'.l = e.l := hn.l
      simp only [h, ho, resultD3, workerWorkerFound, thiefSteal, parkSleep, pQueue_eq, workerWorkerTo, bnd, Bool.not_true, Bool.false_eq_true, if_true, if_false, Int.reduceEq, Int.reduceLE, bind_ite, wpair_ite, hnl]
      exact WSim.ite (fun _ => rfl) fun _ => rfl
  | t5 s =>
    have h := steal_sim (e := e) (hK.q vi lv) s
    have hn := steal_nx (e := e) (q := queueP e.l vi lv) s
    revert h hn
    simp only [workS, workB, workerWorkerStep, stepD3, bnd, Int.reduceEq, if_false]
    rcases stealS (queueP e.l vi lv) e s with ⟨r | ⟨c, y⟩, e'⟩ <;> intro h hn
    · simp only [SimR] at h
      simp only [h, bnd, Bool.not_false, if_true]
      rfl
    · simp only [SimR] at h
      obtain ⟨x', h, ho⟩ := h
      have hnl : e'.l = e.l := hn.l
      have hl' : e'.evs.length ≤ 999999999 := by have h1 : e'.evs.length ≤ e.evs.length + 0 := hn.ev; have := hK.ev; omega
      simp only [h, ho, resultD3, workerWorkerStolen, workerWorkerClaim, workerWorkerLoop, tableClaim, bitmapClear, pBitmap_eq, pQueue_eq, pEmit_eq hl', workerWorkerTo, bnd, Bool.not_true, Bool.false_eq_true, if_true, if_false, Int.reduceEq, Int.reduceLE, bind_ite, hnl]
      exact WSim.ite (fun _ => by simp only [WSim, EnvP.em, hnl]) fun _ => WSim.ite (fun _ => rfl) fun _ => rfl
  | t6 =>
    obtain ⟨x', h, ho⟩ := claim_sim (w := w) (t := x) hl hK.st
    simp only [workS, workB, workerWorkerStep, stepD3, h, resultD3, workerWorkerRun, workerWorkerLoop, workerWorkerTo, runnerRun, bnd, Bool.not_true, Bool.false_eq_true, if_true, if_false, Int.reduceEq, Int.reduceLE]
    rcases Bool.eq_false_or_eq_true (claimB x e) with hc | hc
    · simp only [hc, if_true] at ho ⊢
      simp only [ho, if_true]
      rfl
    · simp only [hc, Bool.false_eq_true, if_false] at ho ⊢
      simp only [ho, Int.reduceEq, if_false]
      rfl
  | t7 s =>
    have h := run_sim (w := w) hK hk s ⟨hW.1, by have := hW.2; omega⟩
    revert h
    simp only [workS, workB, workerWorkerStep, stepD3, bnd, Int.reduceEq, if_false]
    rcases runS w e s with ⟨r | ⟨c, y⟩, e'⟩ <;> intro h
    · simp only [SimR] at h
      simp only [h, bnd, Bool.not_false, if_true]
      rfl
    · simp only [SimR] at h
      obtain ⟨x', h, ho⟩ := h
      simp only [h, ho, resultD3, workerWorkerLoop, bnd, Bool.not_true, Bool.false_eq_true, if_true, if_false, Int.reduceEq, Int.reduceLE]
      rfl
  | t8 s =>
    have h := sleep_sim (w := w) hl s
    revert h
    simp only [workS, workB, workerWorkerStep, stepD3, bnd, Int.reduceEq, if_false]
    rcases sleepS w e s with ⟨r | ⟨c, y⟩, e'⟩ <;> intro h
    · simp only [SimR] at h
      simp only [h, bnd, Bool.not_false, if_true]
      rfl
    · simp only [SimR] at h
      obtain ⟨x', h, ho⟩ := h
      simp only [h, ho, resultD3, workerWorkerLoop, bnd, Bool.not_true, Bool.false_eq_true, if_true, if_false, Int.reduceEq, Int.reduceLE]
      rfl
  | t9 s =>
    have h := reset_sim (e := e) (a := bitmapP e.l vi) (b := lv) (q := queueP e.l vi lv) s
    revert h
    simp only [workS, workB, workerWorkerStep, stepD3, bnd, Int.reduceEq, if_false]
    rcases resetS (bitmapP e.l vi) lv (queueP e.l vi lv) e s with ⟨r | ⟨c, y⟩, e'⟩ <;> intro h
    · simp only [SimR] at h
      simp only [h, bnd, Bool.not_false, if_true]
      rfl
    · simp only [SimR] at h
      obtain ⟨x', h, ho⟩ := h
      simp only [h, ho, resultD3, workerWorkerLoop, bnd, Bool.not_true, Bool.false_eq_true, if_true, if_false, Int.reduceEq, Int.reduceLE]
      rfl
theorem workB_top {k : WorkS} : workB w e k ≠ .top := by
  unfold workB
  split
  · split <;> intro h <;> cases h
  · rename_i h
    intro h2
    exact h h2
theorem work_sim (hK : EOk K e) (hk : K ≤ 100000000) (k : WorkS) (hW : WorkOk K (manyP e) k) : WSim e.l w (workerWorkerStep (workC e.l w k) e) (workS w e k) := by
  obtain ⟨cur, vi, lv, x, c⟩ := k
  cases c with
  | top =>
    have h1 := work_line (w := w) hK hk ⟨cur, vi, lv, x, workB w e ⟨cur, vi, lv, x, .top⟩⟩ (show workB w e ⟨cur, vi, lv, x, .top⟩ ≠ .top from workB_top) (by
      unfold workB
      simp only
      split <;> trivial)
    have h2 : workS w e ⟨cur, vi, lv, x, workB w e ⟨cur, vi, lv, x, .top⟩⟩ = workS w e ⟨cur, vi, lv, x, .top⟩ := by
      unfold workB
      simp only
      by_cases ha : e.c.age = 0
      · simp only [workS, workB, ha, if_true]
      · simp only [workS, workB, ha, if_false]
    rw [h2] at h1
    unfold WSim at h1 ⊢
    rw [← h1]
    exact start_eq
  | _ => exact work_line hK hk _ (fun h => by cases h) hW
end
end
section
open Go Go.RowKit
set_option maxRecDepth 100000
@[reducible] def clieCC (me id : Int) (s : Sub) : ClieC → Int × MV × Bool
  | .n1 => (1, .nil, true)
  | .a1 => (1, .attempt ⟨o0, me, false⟩, false)
  | .n2 => (2, .nil, true)
  | .n3 => (3, .nil, true)
  | .n4 => (4, .nil, true)
  | .n5 => (5, .nil, true)
  | .n6 => (6, .nil, true)
  | .a6 t => (6, .insert (insertC s.deadline id t), false)
  | .n7 => (7, .nil, true)
  | .n8 => (8, .nil, true)
  | .n9 => (9, .nil, true)
  | .a9 t => (9, .wake (wakeC me s.level t), false)
@[reducible] def clieC (subs : List Sub) (me : Int) (k : ClieS) : ClientV MV :=
  ⟨subs, me, k.i, (clieCC me k.id (atK4 subs k.i) k.c).1, (clieCC me k.id (atK4 subs k.i) k.c).2.1, (clieCC me k.id (atK4 subs k.i) k.c).2.2, k.id, k.acc⟩
def CSim (subs : List Sub) (me : Int) (res : Option ((Bool × Unit) × (ClientV MV × EnvP × Unit))) (r : Bool × ClieS × EnvP) : Prop := res = some ((r.1, ()), (clieC subs me r.2.1, r.2.2, ()))
def machP (subs : List Sub) (me i id ln : Int) : MV :=
  if ln = 1 then .attempt ⟨o0, me, false⟩ else if ln = 3 then .alloc ⟨o0⟩ else if ln = 6 then .insert ⟨o0, (atK4 subs i).deadline, id, 1, 0, 0, 0, 0⟩ else if ln = 8 then .release ⟨o0⟩ else if ln = 9 then .wake ⟨o0, me, (atK4 subs i).level, 1, 0, 0⟩ else .nil
section
variable [Tb] {K : Nat} {e : EnvP} {w : Int} {subs : List Sub} {me i id ln : Int} {m : MV} {f acc : Bool}
theorem mach_eq (hi : 0 ≤ i ∧ i < (subs.length : Int)) (h : 1 ≤ ln ∧ ln ≤ 9) : clientClientMachines ⟨subs, me, i, ln, m, f, id, acc⟩ = some ((machP subs me i id ln, ()), (⟨subs, me, i, ln, m, f, id, acc⟩, ())) := by
  unfold clientClientMachines
  simp only [hi, and_self, if_true, lockAcquire, tableAllocate, injectorInsert, lockRelease, parkWake, bnd]
  rw [wi_id (rg_lit (show _ ∧ _ by omega)), if_pos (by simp only [List.length_cons, List.length_nil]; omega)]
  have hv : ln = 1 ∨ ln = 2 ∨ ln = 3 ∨ ln = 4 ∨ ln = 5 ∨ ln = 6 ∨ ln = 7 ∨ ln = 8 ∨ ln = 9 := by omega
  rcases hv with rfl | rfl | rfl | rfl | rfl | rfl | rfl | rfl | rfl <;> rfl
theorem spl_att (x : AttemptV) : (SR1.spl (MV.attempt x)).isNone = false := rfl
theorem spl_all (x : AllocV) : (SR1.spl (MV.alloc x)).isNone = false := rfl
theorem spl_ins (x : InsertV) : (SR1.spl (MV.insert x)).isNone = false := rfl
theorem spl_rel (x : ReleaseV) : (SR1.spl (MV.release x)).isNone = false := rfl
theorem spl_wak (x : WakeV) : (SR1.spl (MV.wake x)).isNone = false := rfl
theorem CSim.ite {c : Prop} [Decidable c] {a b : Option ((Bool × Unit) × (ClientV MV × EnvP × Unit))} {r s : Bool × ClieS × EnvP} (h1 : c → CSim subs me a r) (h2 : ¬ c → CSim subs me b s) : CSim subs me (if c then a else b) (if c then r else s) := by
  by_cases h : c
  · rw [if_pos h, if_pos h]; exact h1 h
  · rw [if_neg h, if_neg h]; exact h2 h
theorem clie_sim (hK : EOk K e) (hk : K ≤ 100000000) (k : ClieS) (hi0 : 0 ≤ k.i) : CSim subs me (clientClientStep (clieC subs me k) e) (clieS subs me e k) := by
  have hl : e.evs.length ≤ 999999999 := by have := hK.ev; omega
  obtain ⟨i, id, acc, c⟩ := k
  have hi0 : 0 ≤ i := hi0
  unfold clieS
  by_cases hov : (subs.length : Int) ≤ i
  · rw [if_pos hov]
    simp only [clientClientStep, clientClientOver, hov, decide_true, bnd, if_true]
    rfl
  rw [if_neg hov]
  have hi : 0 ≤ i ∧ i < (subs.length : Int) := by omega
  have hm : ∀ m v, pEmit { e with m := m } v = some ((), ({ e with m := m, evs := e.evs ++ [v] }, ())) := fun m v => pEmit_eq (e := { e with m := m }) hl
  cases c with
  | n1 =>
    obtain ⟨dn, x', h, ho, hd, hx⟩ := lock_sim (e := e) (w := me) (b := false)
    rw [Bool.or_false] at hd
    simp only [o0] at h hx
    simp only [clieG, clientClientStep, clientClientOver, hov, decide_false, bnd, Bool.not_true, Bool.not_false, Bool.false_eq_true, if_true, if_false, Int.reduceEq, mach_eq hi (show (1 : Int) ≤ 1 ∧ (1 : Int) ≤ 9 by decide), machP, spl_att, stepD3, resultD3, h]
    rcases Bool.eq_false_or_eq_true (e.hit 1 0) with hh | hh
    · rw [hh] at hd
      subst hd
      have ho := ho rfl
      simp only [hh, if_true] at ho ⊢
      simp only [ho, hi, and_self, clientClientAfter, clientClientTo, bnd, Bool.not_true, Bool.not_false, Bool.false_eq_true, if_true, if_false, Int.reduceEq]
      rfl
    · rw [hh] at hd
      subst hd
      have hx := hx rfl
      simp only [hh, hx, bnd, Bool.not_true, Bool.not_false, Bool.false_eq_true, if_true, if_false, Int.reduceEq]
      rfl
  | a1 =>
    obtain ⟨dn, x', h, ho, hd, hx⟩ := lock_sim (e := e) (w := me) (b := false)
    rw [Bool.or_false] at hd
    simp only [o0] at h hx
    simp only [clieG, clientClientStep, clientClientOver, hov, decide_false, bnd, Bool.not_true, Bool.not_false, Bool.false_eq_true, if_true, if_false, Int.reduceEq, spl_att, stepD3, resultD3, h, o0]
    rcases Bool.eq_false_or_eq_true (e.hit 1 0) with hh | hh
    · rw [hh] at hd
      subst hd
      have ho := ho rfl
      simp only [hh, if_true] at ho ⊢
      simp only [ho, hi, and_self, clientClientAfter, clientClientTo, bnd, Bool.not_true, Bool.not_false, Bool.false_eq_true, if_true, if_false, Int.reduceEq]
      rfl
    · rw [hh] at hd
      subst hd
      have hx := hx rfl
      simp only [hh, hx, bnd, Bool.not_true, Bool.not_false, Bool.false_eq_true, if_true, if_false, Int.reduceEq]
      rfl
  | n2 =>
    simp only [clieG, clientClientStep, clientClientOver, hov, decide_false, bnd, Bool.not_true, Bool.not_false, Bool.false_eq_true, if_true, if_false, Int.reduceEq, mach_eq hi (show (1 : Int) ≤ 2 ∧ (2 : Int) ≤ 9 by decide), machP, spl_nil, clientClientAccess, hi, and_self, pLSize, pLoad_eq, clientClientReject, clientClientTo, hm]
    rw [bind_ite]
    exact CSim.ite (fun _ => rfl) fun _ => rfl
  | n3 =>
    obtain ⟨x', h, ho⟩ := alloc_sim (e := e)
    simp only [clieG, clientClientStep, clientClientOver, hov, decide_false, bnd, Bool.not_true, Bool.not_false, Bool.false_eq_true, if_true, if_false, Int.reduceEq, mach_eq hi (show (1 : Int) ≤ 3 ∧ (3 : Int) ≤ 9 by decide), machP, spl_all, stepD3, resultD3, h, clientClientAfter, clientClientReject, clientClientTo, hi, and_self]
    by_cases ci : IsT e (wi (e.gt 0))
    · rw [if_pos ci] at ho ⊢
      have hv : 0 ≤ wi (e.gt 0) ∧ wi (e.gt 0) < ((allocE e).recs.length : Int) := ⟨ci.1, by have := ci.2; have := hK.ct; show _ < (e.recs.length : Int); omega⟩
      simp only [ho, Int.reduceEq, if_false, hv, and_self, if_true]
      rfl
    · rw [if_neg ci] at ho ⊢
      simp only [ho, if_true, pEmit_eq (e := allocE e) hl, bnd]
      rfl
  | n4 =>
    simp only [clieG, clientClientStep, clientClientOver, hov, decide_false, bnd, Bool.not_true, Bool.not_false, Bool.false_eq_true, if_true, if_false, Int.reduceEq, mach_eq hi (show (1 : Int) ≤ 4 ∧ (4 : Int) ≤ 9 by decide), machP, spl_nil, clientClientAccess, hi, and_self, pLevel_eq, pStore_eq, clientClientTo]
    rfl
  | n5 =>
    simp only [clieG, clientClientStep, clientClientOver, hov, decide_false, bnd, Bool.not_true, Bool.not_false, Bool.false_eq_true, if_true, if_false, Int.reduceEq, mach_eq hi (show (1 : Int) ≤ 5 ∧ (5 : Int) ≤ 9 by decide), machP, spl_nil, clientClientAccess, hi, and_self, pSince_eq, pNow, pStore_eq, clientClientTo]
    rfl
  | n6 =>
    have h := insert_sim (e := e) (d := (atK4 subs i).deadline) (t := id) .l1
    have hn := insert_nx (e := e) (d := (atK4 subs i).deadline) (t := id) .l1
    revert h hn
    simp only [clieG, clientClientStep, clientClientOver, hov, decide_false, bnd, Bool.not_true, Bool.not_false, Bool.false_eq_true, if_true, if_false, Int.reduceEq, mach_eq hi (show (1 : Int) ≤ 6 ∧ (6 : Int) ≤ 9 by decide), machP, spl_ins, stepD3, resultD3, o0]
    rcases insertS (atK4 subs i).deadline id e .l1 with ⟨r | ⟨c, y⟩, e'⟩ <;> intro h hn
    · simp only [SimR, o0] at h
      simp only [h, bnd, Bool.not_false, if_true]
      rfl
    · simp only [SimR, o0] at h
      obtain ⟨x', h, ho⟩ := h
      have hl' : e'.evs.length ≤ 999999999 := by have h1 : e'.evs.length ≤ e.evs.length + 0 := hn.ev; have := hK.ev; omega
      simp only [h, ho, clientClientAfter, clientClientTo, hi, and_self, pEmit_eq hl', bnd, Bool.not_true, Bool.not_false, Bool.false_eq_true, if_true, if_false, Int.reduceEq, ne_eq]
      by_cases hc : c = 0
      · simp only [hc, not_true, if_true, if_false]; rfl
      · simp only [hc, not_false_eq_true, if_true, if_false]; rfl
  | a6 t =>
    have h := insert_sim (e := e) (d := (atK4 subs i).deadline) (t := id) t
    have hn := insert_nx (e := e) (d := (atK4 subs i).deadline) (t := id) t
    revert h hn
    simp only [clieG, clientClientStep, clientClientOver, hov, decide_false, bnd, Bool.not_true, Bool.not_false, Bool.false_eq_true, if_true, if_false, Int.reduceEq, spl_ins, stepD3, resultD3]
    rcases insertS (atK4 subs i).deadline id e t with ⟨r | ⟨c, y⟩, e'⟩ <;> intro h hn
    · simp only [SimR] at h
      simp only [h, bnd, Bool.not_false, if_true]
      rfl
    · simp only [SimR] at h
      obtain ⟨x', h, ho⟩ := h
      have hl' : e'.evs.length ≤ 999999999 := by have h1 : e'.evs.length ≤ e.evs.length + 0 := hn.ev; have := hK.ev; omega
      simp only [h, ho, clientClientAfter, clientClientTo, hi, and_self, pEmit_eq hl', bnd, Bool.not_true, Bool.not_false, Bool.false_eq_true, if_true, if_false, Int.reduceEq, ne_eq]
      by_cases hc : c = 0
      · simp only [hc, not_true, if_true, if_false]; rfl
      · simp only [hc, not_false_eq_true, if_true, if_false]; rfl
  | n7 =>
    simp only [clieG, clientClientStep, clientClientOver, hov, decide_false, bnd, Bool.not_true, Bool.not_false, Bool.false_eq_true, if_true, if_false, Int.reduceEq, mach_eq hi (show (1 : Int) ≤ 7 ∧ (7 : Int) ≤ 9 by decide), machP, spl_nil, clientClientAccess, hi, and_self, pState_eq, pStore_eq, clientClientTo]
    rfl
  | n8 =>
    obtain ⟨x', h, ho⟩ := free_sim (e := e)
    simp only [clieG, clientClientStep, clientClientOver, hov, decide_false, bnd, Bool.not_true, Bool.not_false, Bool.false_eq_true, if_true, if_false, Int.reduceEq, mach_eq hi (show (1 : Int) ≤ 8 ∧ (8 : Int) ≤ 9 by decide), machP, spl_rel, stepD3, resultD3, h, clientClientAfter, clientClientNext, clientClientOver, clientClientTo, hi, and_self]
    cases acc <;> rfl
  | n9 =>
    have h := wake_sim (e := e) (w := me) (v := (atK4 subs i).level) hl (.l1 0)
    revert h
    simp only [clieG, clientClientStep, clientClientOver, hov, decide_false, bnd, Bool.not_true, Bool.not_false, Bool.false_eq_true, if_true, if_false, Int.reduceEq, mach_eq hi (show (1 : Int) ≤ 9 ∧ (9 : Int) ≤ 9 by decide), machP, spl_wak, stepD3, resultD3, o0]
    rcases wakeS me (atK4 subs i).level e (.l1 0) with ⟨r | ⟨c, y⟩, e'⟩ <;> intro h
    · simp only [SimR, o0] at h
      simp only [h, bnd, Bool.not_false, if_true]
      rfl
    · simp only [SimR, o0] at h
      obtain ⟨x', h, ho⟩ := h
      simp only [h, ho, clientClientAfter, clientClientNext, clientClientOver, clientClientTo, hi, and_self, bnd, Bool.not_true, Bool.not_false, Bool.false_eq_true, if_true, if_false, Int.reduceEq]
      rfl
  | a9 t =>
    have h := wake_sim (e := e) (w := me) (v := (atK4 subs i).level) hl t
    revert h
    simp only [clieG, clientClientStep, clientClientOver, hov, decide_false, bnd, Bool.not_true, Bool.not_false, Bool.false_eq_true, if_true, if_false, Int.reduceEq, spl_wak, stepD3, resultD3]
    rcases wakeS me (atK4 subs i).level e t with ⟨r | ⟨c, y⟩, e'⟩ <;> intro h
    · simp only [SimR] at h
      simp only [h, bnd, Bool.not_false, if_true]
      rfl
    · simp only [SimR] at h
      obtain ⟨x', h, ho⟩ := h
      simp only [h, ho, clientClientAfter, clientClientNext, clientClientOver, clientClientTo, hi, and_self, bnd, Bool.not_true, Bool.not_false, Bool.false_eq_true, if_true, if_false, Int.reduceEq]
      rfl
theorem work_line_nx (hK : EOk K e) (k : WorkS) (hc : k.c ≠ .top) : Stp 2 e (workS w e k).2 := by
  obtain ⟨cur, vi, lv, x, c⟩ := k
  cases c with
  | top => exact absurd rfl hc
  | t1 t s =>
    have h := sweep_nx (e := e) (w := w) (t := t) s
    revert h
    simp only [workS, workB]
    rcases sweepS w t e s with ⟨r | ⟨c, y⟩, e'⟩ <;> intro h
    · exact h.le (by decide)
    · exact h.le (by decide)
  | t2 s =>
    have h := take_nx (w := w) (fun t => hK.st) s
    revert h
    simp only [workS, workB]
    rcases takeS w e s with ⟨r | ⟨c, y⟩, e'⟩ <;> intro h
    · exact h.le (by decide)
    · exact h.le (by decide)
  | t3 s =>
    have h := drain_nx (e := e) (w := w) s
    revert h
    simp only [workS, workB]
    rcases drainS w e s with ⟨r | ⟨c, y⟩, e'⟩ <;> intro h
    · exact h.le (by decide)
    · exact h.le (by decide)
  | t4 s =>
    have h := probe_nx (e := e) (w := w) s
    revert h
    simp only [workS, workB]
    rcases probeS w e s with ⟨r | ⟨c, y⟩, e'⟩ <;> intro h
    · exact h.le (by decide)
    · exact h.le (by decide)
  | t5 s =>
    have h := steal_nx (e := e) (q := queueP e.l vi lv) s
    revert h
    simp only [workS, workB]
    rcases stealS (queueP e.l vi lv) e s with ⟨r | ⟨c, y⟩, e'⟩ <;> intro h
    · exact h.le (by decide)
    · simp only
      split
      · exact Stp.le (Stp.em h) (by decide)
      · split <;> exact Stp.le h (by decide)
  | t6 => exact (claim_nx (w := w) (t := x) hK.st).le (by decide)
  | t7 s =>
    have h := run_nx (w := w) hK s
    revert h
    simp only [workS, workB]
    rcases runS w e s with ⟨r | ⟨c, y⟩, e'⟩ <;> intro h
    · exact h.le (by decide)
    · exact h.le (by decide)
  | t8 s =>
    have h := sleep_nx (e := e) (w := w) s
    revert h
    simp only [workS, workB]
    rcases sleepS w e s with ⟨r | ⟨c, y⟩, e'⟩ <;> intro h
    · exact h.le (by decide)
    · exact h.le (by decide)
  | t9 s =>
    have h := reset_nx (e := e) (a := bitmapP e.l vi) (b := lv) (q := queueP e.l vi lv) s
    revert h
    simp only [workS, workB]
    rcases resetS (bitmapP e.l vi) lv (queueP e.l vi lv) e s with ⟨r | ⟨c, y⟩, e'⟩ <;> intro h
    · exact h.le (by decide)
    · exact h.le (by decide)
theorem workS_top {cur vi lv x : Int} : workS w e ⟨cur, vi, lv, x, workB w e ⟨cur, vi, lv, x, .top⟩⟩ = workS w e ⟨cur, vi, lv, x, .top⟩ := by
  unfold workB
  simp only
  by_cases ha : e.c.age = 0
  · simp only [workS, workB, ha, if_true]
  · simp only [workS, workB, ha, if_false]
theorem work_nx (hK : EOk K e) (k : WorkS) : Stp 2 e (workS w e k).2 := by
  obtain ⟨cur, vi, lv, x, c⟩ := k
  cases c with
  | top =>
    rw [← workS_top]
    exact work_line_nx hK _ (show workB w e ⟨cur, vi, lv, x, .top⟩ ≠ .top from workB_top)
  | _ => exact work_line_nx hK _ (fun h => by cases h)
theorem work_line_ok (hK : EOk K e) (k : WorkS) (hc : k.c ≠ .top) (hW : WorkOk K (manyP e) k) (hK1 : 1 ≤ K) : WorkOk (K + 1) (manyP e) (workS w e k).1 := by
  obtain ⟨cur, vi, lv, x, c⟩ := k
  have hr0 : ∀ t, RunOk (K + 1) (run0 t) := fun t => ⟨by simp [run0], by simp [run0]⟩
  cases c with
  | top => exact absurd rfl hc
  | t1 t s =>
    simp only [workS, workB]
    split <;> trivial
  | t2 s =>
    simp only [workS, workB]
    split
    · trivial
    · simp only
      split
      · exact hr0 _
      · exact (rfl : drain0.direct = false)
  | t3 s =>
    simp only [workS, workB]
    split
    · rename_i h; exact drain_ok hW h
    · simp only
      split
      · trivial
      · split
        · trivial
        · unfold WorkOk idleC
          simp only
          split <;> first | trivial | (rename_i h; split at h <;> cases h; trivial) | (rename_i h; split at h <;> cases h)
  | t4 s =>
    simp only [workS, workB]
    split
    · rename_i h; exact probe_ok hK.wk hW h
    · simp only
      split <;> trivial
  | t5 s =>
    simp only [workS, workB]
    split
    · trivial
    · split
      · trivial
      · split <;> trivial
  | t6 =>
    simp only [workS, workB]
    split
    · exact hr0 _
    · trivial
  | t7 s =>
    simp only [workS, workB]
    split
    · rename_i h
      have h1 := run_ok hW.1 h
      exact ⟨h1.1, by have := hW.2; omega⟩
    · trivial
  | t8 s =>
    simp only [workS, workB]
    split <;> trivial
  | t9 s =>
    simp only [workS, workB]
    split <;> trivial
theorem work_ok (hK : EOk K e) (k : WorkS) (hW : WorkOk K (manyP e) k) (hK1 : 1 ≤ K) : WorkOk (K + 1) (manyP e) (workS w e k).1 := by
  obtain ⟨cur, vi, lv, x, c⟩ := k
  cases c with
  | top =>
    rw [← workS_top]
    refine work_line_ok hK _ (show workB w e ⟨cur, vi, lv, x, .top⟩ ≠ .top from workB_top) ?_ hK1
    unfold workB
    simp only
    split <;> trivial
  | _ => exact work_line_ok hK _ (fun h => by cases h) hW hK1
theorem clie_nx (hK : EOk K e) (k : ClieS) : Stp 2 e (clieS subs me e k).2.2 := by
  obtain ⟨i, id, acc, c⟩ := k
  unfold clieS
  split
  · exact Stp.refl.le (by decide)
  cases c with
  | n1 => exact Stp.le lock_nx (by decide)
  | a1 => exact Stp.le lock_nx (by decide)
  | n2 =>
    simp only [clieG]
    split
    · exact Stp.le (Stp.em Stp.lk) (by decide)
    · exact Stp.le Stp.lk (by decide)
  | n3 =>
    simp only [clieG]
    split
    · exact Stp.le (Stp.pr alloc_nx fun K h => Nat.zero_le _) (by decide)
    · exact Stp.le (Stp.em alloc_nx) (by decide)
  | n4 => exact Stp.le (Stp.pt (by decide)) (Nat.zero_le _)
  | n5 => exact Stp.le (Stp.pt (by decide)) (Nat.zero_le _)
  | n6 =>
    have h := insert_nx (e := e) (d := (atK4 subs i).deadline) (t := id) .l1
    revert h
    simp only [clieG]
    rcases insertS (atK4 subs i).deadline id e .l1 with ⟨r | ⟨c, y⟩, e'⟩ <;> intro h
    · exact Stp.le h (by decide)
    · simp only
      split
      · exact Stp.le (Stp.em h) (by decide)
      · exact Stp.le h (by decide)
  | a6 t =>
    have h := insert_nx (e := e) (d := (atK4 subs i).deadline) (t := id) t
    revert h
    simp only [clieG]
    rcases insertS (atK4 subs i).deadline id e t with ⟨r | ⟨c, y⟩, e'⟩ <;> intro h
    · exact Stp.le h (by decide)
    · simp only
      split
      · exact Stp.le (Stp.em h) (by decide)
      · exact Stp.le h (by decide)
  | n7 => exact Stp.le (Stp.pt (by decide)) (Nat.zero_le _)
  | n8 =>
    simp only [clieG]
    split
    · exact Stp.le free_nx (by decide)
    · exact Stp.le (show Stp 0 e (clieN subs _ (freeE e)).2.2 from free_nx) (by decide)
  | n9 =>
    have h := wake_nx (e := e) (w := me) (v := (atK4 subs i).level) (.l1 0)
    revert h
    simp only [clieG]
    rcases wakeS me (atK4 subs i).level e (.l1 0) with ⟨r | ⟨c, y⟩, e'⟩ <;> intro h <;> exact Stp.le h (by decide)
  | a9 t =>
    have h := wake_nx (e := e) (w := me) (v := (atK4 subs i).level) t
    revert h
    simp only [clieG]
    rcases wakeS me (atK4 subs i).level e t with ⟨r | ⟨c, y⟩, e'⟩ <;> intro h <;> exact Stp.le h (by decide)
theorem clie_i (hs : subs.length ≤ 1000000) (k : ClieS) (hi : 0 ≤ k.i) : 0 ≤ (clieS subs me e k).2.1.i := by
  obtain ⟨i, id, acc, c⟩ := k
  have hi : 0 ≤ i := hi
  unfold clieS
  split
  · exact hi
  rename_i hov
  have hov : ¬ (subs.length : Int) ≤ i := hov
  have hw : 0 ≤ wi (i + 1) := by rw [wi_id (rg_lit (by omega))]; omega
  cases c <;> simp only [clieG, clieN] <;> (repeat' split) <;> first | exact hi | exact hw
end
end
section
open Go
variable [Tb]
theorem short_good (b : List Int) (l : List (List Int)) (hl : l.length ≤ 1000000) : Good (kshort b l) fun o => o.1.1 = true → b.length ≤ 400 ∧ ∀ x ∈ l, x.length ≤ 400 := by
  unfold kshort
  refine Good.bind (P := fun z => (∀ o, z = .inr o → o.1.1 = false) ∧ (∀ y, z = .inl y → ∀ x ∈ l, x.length ≤ 400)) (lp_good (fun x => 0 ≤ x.1 ∧ x.1 ≤ (l.length : Int) ∧ ∀ i : Nat, (i : Int) < x.1 → ∀ y, l[i]? = some y → y.length ≤ 400) (fun x => ((l.length : Int) - x.1).toNat) (fun self x ⟨q0, q1, q2⟩ ih => ?_) _ _ ⟨Int.le_refl 0, by show (0 : Int) ≤ (l.length : Int); omega, fun i hi => by omega⟩ (by show ((l.length : Int) - 0).toNat < _; omega)) fun z hz => ?_
  rotate_left
  · have e2 : wi (x.1 + 1) = x.1 + 1 := wi_id (rg_lit (by omega))
    rw [e2]
    refine Good.ite (fun hlt => .guard ⟨q0, hlt⟩ fun _ => Good.ite (fun _ => .some_ ⟨fun o e => (by cases e; rfl), fun y e => (by cases e)⟩) fun h4 => ih _ ⟨by show 0 ≤ x.1 + 1; omega, by show x.1 + 1 ≤ (l.length : Int); omega, fun i hi y hy => ?_⟩ (by show ((l.length : Int) - (x.1 + 1)).toNat < ((l.length : Int) - x.1).toNat; omega)) fun hlt => .some_ ⟨fun o e => (by cases e), fun y e x' hx' => ?_⟩
    · by_cases hi2 : (i : Int) < x.1
      · exact q2 i hi2 y hy
      · have hi3 : i = x.1.toNat := by have : (i : Int) < x.1 + 1 := hi; omega
        have h5 := atL_get (d := ([] : List Int)) (xs := l) (i := x.1) ⟨q0, hlt⟩
        rw [hi3, h5] at hy
        cases hy
        omega
    · obtain ⟨i, hi, rfl⟩ := List.getElem_of_mem hx'
      exact q2 i (by omega) _ (List.getElem?_eq_getElem hi)
  · rcases z with y | o
    · refine .some_ fun e => ⟨?_, hz.2 y rfl⟩
      have : ((b.length : Nat) : Int) ≤ 400 := of_decide_eq_true e
      omega
    · exact .some_ fun e => by rw [hz.1 o rfl] at e; cases e
structure DecOk (c : Cfg) : Prop where
  w : 1 ≤ c.workers ∧ c.workers ≤ 4
  l : 1 ≤ c.levels ∧ c.levels ≤ 4
  k : 1 ≤ c.classes ∧ c.classes ≤ 3 ∧ c.classes ≤ c.levels
  t : 1 ≤ c.tasks ∧ c.tasks ≤ 12
  q : 1 ≤ c.deque ∧ c.deque ≤ 4
  h : 1 ≤ c.heap ∧ c.heap ≤ 4
  b : 1 ≤ c.batch ∧ c.batch ≤ c.deque
  a : 0 ≤ c.age ∧ c.age ≤ 5
  p : 1 ≤ c.patience ∧ c.patience ≤ 8
  pn : 1 ≤ c.progs.length ∧ c.progs.length ≤ 4
  pl : ∀ x ∈ c.progs, x.length ≤ 5
  ps : ∀ x ∈ c.progs, ∀ i ∈ x, (i.op = 0 ∧ 1 ≤ i.a ∧ i.a ≤ 4 ∧ i.b = 0) ∨ (i.op = 1 ∧ 0 ≤ i.a ∧ i.a < (c.progs.length : Int) ∧ 0 ≤ i.b ∧ i.b < c.levels) ∨ (i.op = 2 ∧ 0 ≤ i.a ∧ i.a ≤ 3 ∧ i.b = 0)
  sn : c.subs.length ≤ 5
  ss : ∀ s ∈ c.subs, (0 ≤ s.prog ∧ s.prog < (c.progs.length : Int)) ∧ (0 ≤ s.level ∧ s.level < c.levels) ∧ 0 ≤ s.deadline ∧ s.deadline ≤ 15
/-- The bytes of a coder are bytes, its place is near. -/
structure CodOk (N : Int) (r : CodV) : Prop where
  by_ : ∀ x ∈ r.inn, 0 ≤ x ∧ x ≤ 255
  ln : r.inn.length ≤ 1000000
  at_ : 0 ≤ r.at_ ∧ r.at_ ≤ N
theorem num_good {N : Int} {r : CodV} {k : Int} (h : CodOk N r) (hN : N ≤ 1000000) (h1 : 1 ≤ k) (h2 : k ≤ 1000) : Good (r5number r k) fun o => (0 ≤ o.1.1 ∧ o.1.1 < k) ∧ CodOk (N + 1) o.2.1 := by
  have ha := h.at_
  have e1 : wi (r.at_ + 1) = r.at_ + 1 := wi_id (rg_lit (by omega))
  unfold r5number
  rw [e1]
  refine Good.ite (fun hlt => .guard ⟨ha.1, hlt⟩ fun _ => .guard (by omega) fun _ => .some_ ⟨?_, h.by_, h.ln, by show 0 ≤ r.at_ + 1; omega, by show r.at_ + 1 ≤ N + 1; omega⟩) fun _ => .some_ ⟨⟨Int.le_refl 0, by show (0 : Int) < k; omega⟩, h.by_, h.ln, by show 0 ≤ r.at_ + 1; omega, by show r.at_ + 1 ≤ N + 1; omega⟩
  have hb := h.by_ _ (at_in (d := dfR 17) (xs := r.inn) (i := r.at_) ⟨ha.1, hlt⟩)
  have e2 : wi (atK17 r.inn r.at_) = atK17 r.inn r.at_ := wi_id (rg_lit (x := atK17 r.inn r.at_) ⟨by have := hb.1; exact Int.le_trans (by decide) this, by have := hb.2; exact Int.le_trans this (by decide)⟩)
  rw [e2]
  exact tmod_lt h1 hb.1
theorem CodOk.up {N M : Int} {r : CodV} (h : CodOk N r) (hl : N ≤ M) : CodOk M r := ⟨h.by_, h.ln, h.at_.1, by have := h.at_; omega⟩
def InsOk (n lv : Int) (i : Ins) : Prop := (i.op = 0 ∧ 1 ≤ i.a ∧ i.a ≤ 4 ∧ i.b = 0) ∨ (i.op = 1 ∧ 0 ≤ i.a ∧ i.a < n ∧ 0 ≤ i.b ∧ i.b < lv) ∨ (i.op = 2 ∧ 0 ≤ i.a ∧ i.a ≤ 3 ∧ i.b = 0)
def SubOk (n lv : Int) (s : Sub) : Prop := (0 ≤ s.prog ∧ s.prog < n) ∧ (0 ≤ s.level ∧ s.level < lv) ∧ 0 ≤ s.deadline ∧ s.deadline ≤ 15
/-- The numbers of a configuration under construction. -/
structure NumOk (c : Cfg) : Prop where
  w : 1 ≤ c.workers ∧ c.workers ≤ 4
  l : 1 ≤ c.levels ∧ c.levels ≤ 4
  k : 1 ≤ c.classes ∧ c.classes ≤ 3 ∧ c.classes ≤ c.levels
  t : 1 ≤ c.tasks ∧ c.tasks ≤ 12
  q : 1 ≤ c.deque ∧ c.deque ≤ 4
  h : 1 ≤ c.heap ∧ c.heap ≤ 4
  b : 1 ≤ c.batch ∧ c.batch ≤ c.deque
  a : 0 ≤ c.age ∧ c.age ≤ 5
  p : 1 ≤ c.patience ∧ c.patience ≤ 8
theorem w1p {x : Int} (h : 0 ≤ x) (h2 : x ≤ 1000000) : wi (1 + x) = 1 + x := wi_id (rg_lit (by omega))
theorem decode_good {b : List Int} (hb : ∀ x ∈ b, 0 ≤ x ∧ x ≤ 255) (hl : b.length ≤ 1000000) : Good (r5decode b) fun o => DecOk o.1.1 := by
  unfold r5decode
  refine (num_good (N := 0) (k := 4) ⟨hb, hl, Int.le_refl 0, Int.le_refl 0⟩ (by decide) (by decide) (by decide)).bind fun r1 h1 => ?_
  refine (num_good (k := 4) h1.2 (by decide) (by decide) (by decide)).bind fun r2 h2 => ?_
  have w1 := w1p h1.1.1 (by omega)
  have w2 := w1p h2.1.1 (by omega)
  rw [w1, w2]
  refine (num_good h2.2 (by decide) (by split <;> omega) (by split <;> omega)).bind fun r3 h3 => ?_
  refine (num_good (k := 12) h3.2 (by decide) (by decide) (by decide)).bind fun r4 h4 => ?_
  refine (num_good (k := 4) h4.2 (by decide) (by decide) (by decide)).bind fun r5 h5 => ?_
  refine (num_good (k := 4) h5.2 (by decide) (by decide) (by decide)).bind fun r6 h6 => ?_
  have h3' : r3.1.1 < 3 ∧ r3.1.1 < 1 + r2.1.1 := by
    have := h3.1.2
    split at this <;> omega
  have w3 := w1p h3.1.1 (by omega)
  have w4 := w1p h4.1.1 (by omega)
  have w5 := w1p h5.1.1 (by omega)
  have w6 := w1p h6.1.1 (by omega)
  rw [w3, w4, w5, w6]
  refine (num_good h6.2 (by decide) (by omega) (by omega)).bind fun r7 h7 => ?_
  refine (num_good (k := 6) h7.2 (by decide) (by decide) (by decide)).bind fun r8 h8 => ?_
  refine (num_good (k := 8) h8.2 (by decide) (by decide) (by decide)).bind fun r9 h9 => ?_
  refine (num_good (k := 4) h9.2 (by decide) (by decide) (by decide)).bind fun r10 h10 => ?_
  have w7 := w1p h7.1.1 (by omega)
  have w9 := w1p h9.1.1 (by omega)
  have w10 := w1p h10.1.1 (by omega)
  rw [w7, w9, w10]
  refine Good.bind (P := fun z => CodOk 1000 z.2.1 ∧ NumOk z.2.2.1 ∧ z.2.2.1.levels = 1 + r2.1.1 ∧ (z.2.2.1.progs.length : Int) = 1 + r10.1.1 ∧ (∀ p ∈ z.2.2.1.progs, p.length ≤ 5 ∧ ∀ i ∈ p, InsOk (1 + r10.1.1) (1 + r2.1.1) i) ∧ z.2.2.1.subs = [])
    (lp_good (fun x => 0 ≤ x.1 ∧ x.1 ≤ 1 + r10.1.1 ∧ CodOk (10 + 30 * x.1) x.2.1 ∧ NumOk x.2.2.1 ∧ x.2.2.1.levels = 1 + r2.1.1 ∧ (x.2.2.1.progs.length : Int) = x.1 ∧ (∀ p ∈ x.2.2.1.progs, p.length ≤ 5 ∧ ∀ i ∈ p, InsOk (1 + r10.1.1) (1 + r2.1.1) i) ∧ x.2.2.1.subs = [])
      (fun x => (1 + r10.1.1 - x.1).toNat) (fun self x ⟨q0, q1, q2, q3, q4, q5, q6, q7⟩ ih => ?step) _ _ ⟨Int.le_refl 0, by show (0 : Int) ≤ 1 + r10.1.1; omega, h10.2, ?num, rfl, rfl, fun p hp => (by cases hp), rfl⟩ (by show (1 + r10.1.1 - 0).toNat < _; omega)) fun z hz => ?cont
  case step =>
    have f1 : wi (x.1 + 1) = x.1 + 1 := wi_id (rg_lit (by omega))
    refine Good.ite (fun hlt => ?_) fun hlt => .some_ ⟨q2.up (by omega), q3, q4, by show (x.2.2.1.progs.length : Int) = _; omega, q6, q7⟩
    have hlen : (x.2.2.1.progs.length : Int) < 10 := by omega
    rw [f1]
    refine (num_good (k := 6) q2 (by omega) (by decide) (by decide)).bind fun r14 h14 => ?_
    refine Good.bind (P := fun z => z.1.length ≤ 5 ∧ (∀ i ∈ z.1, InsOk (1 + r10.1.1) (1 + r2.1.1) i) ∧ CodOk (10 + 30 * x.1 + 26) z.2.2.1)
      (lp_good (fun y => 0 ≤ y.2.1 ∧ (y.1.length : Int) + y.2.1 = r14.1.1 ∧ CodOk (10 + 30 * x.1 + 1 + 5 * (r14.1.1 - y.2.1)) y.2.2.1 ∧ ∀ i ∈ y.1, InsOk (1 + r10.1.1) (1 + r2.1.1) i)
        (fun y => y.2.1.toNat) (fun self y ⟨p0, p1, p2, p3⟩ ih => ?_) _ _ ⟨h14.1.1, by show ((0 : Nat) : Int) + r14.1.1 = _; omega, h14.2.up (by show 10 + 30 * x.1 + 1 ≤ 10 + 30 * x.1 + 1 + 5 * (r14.1.1 - r14.1.1); omega), fun i hi => (by cases hi)⟩ (by show r14.1.1.toNat < _; omega)) fun z hz => ?_
    · refine .guard (by show (((x.2.2.1.progs.length + 1 : Nat)) : Int) < _; omega) fun _ => ih _ ⟨by show 0 ≤ x.1 + 1; omega, by show x.1 + 1 ≤ _; omega, hz.2.2.up (by show 10 + 30 * x.1 + 26 ≤ 10 + 30 * (x.1 + 1); omega), ⟨q3.w, q3.l, q3.k, q3.t, q3.q, q3.h, q3.b, q3.a, q3.p⟩, q4, ?_, ?_, q7⟩ ?_
      · show (((x.2.2.1.progs ++ [z.1]).length : Nat) : Int) = x.1 + 1
        rw [List.length_append, List.length_singleton]; omega
      · intro p hp
        rcases List.mem_append.1 hp with hp | hp
        · exact q6 p hp
        · rw [List.mem_singleton] at hp; subst hp; exact ⟨hz.1, hz.2.1⟩
      · show (1 + r10.1.1 - (x.1 + 1)).toNat < (1 + r10.1.1 - x.1).toNat
        omega
    · have f2 : wi (y.2.1 - 1) = y.2.1 - 1 := wi_id (rg_lit (by omega))
      have hyl : y.1.length ≤ 5 := by omega
      refine Good.ite (fun hlt2 => ?_) fun hlt2 => .some_ ⟨hyl, p3, p2.up (by omega)⟩
      rw [f2, q4]
      have nx : ∀ (u : Ins) (r : CodV), InsOk (1 + r10.1.1) (1 + r2.1.1) u → CodOk (10 + 30 * x.1 + 1 + 5 * (r14.1.1 - (y.2.1 - 1))) r → Good (if (((y.1.length + ([u] : List Ins).length : Nat)) : Int) < 1000000000000 then self (y.1 ++ [u], y.2.1 - 1, r, ()) else none) fun z => z.1.length ≤ 5 ∧ (∀ i ∈ z.1, InsOk (1 + r10.1.1) (1 + r2.1.1) i) ∧ CodOk (10 + 30 * x.1 + 26) z.2.2.1 := fun u r hu hr =>
        .guard (by show (((y.1.length + 1 : Nat)) : Int) < _; omega) fun _ => ih _ ⟨by show 0 ≤ y.2.1 - 1; omega, by
          show (((y.1 ++ [u]).length : Nat) : Int) + (y.2.1 - 1) = _
          rw [List.length_append, List.length_singleton]; omega, hr, fun i hi => by
          rcases List.mem_append.1 hi with hi | hi
          · exact p3 i hi
          · rw [List.mem_singleton] at hi; subst hi; exact hu⟩ (by show (y.2.1 - 1).toNat < y.2.1.toNat; omega)
      refine (num_good (k := 3) p2 (by omega) (by decide) (by decide)).bind fun r18 h18 => ?_
      refine Good.ite (fun e0 => ?_) fun e0 => Good.ite (fun e1 => ?_) fun e1 => ?_
      · refine (num_good (k := 4) h18.2 (by omega) (by decide) (by decide)).bind fun r19 h19 => ?_
        rw [w1p h19.1.1 (by omega)]
        exact nx _ _ (.inl ⟨e0, by show 1 ≤ 1 + r19.1.1; omega, by show 1 + r19.1.1 ≤ 4; omega, rfl⟩) (h19.2.up (by omega))
      · refine (num_good (k := 1 + r10.1.1) h18.2 (by omega) (by omega) (by omega)).bind fun r20 h20 => ?_
        refine (num_good (k := 1 + r2.1.1) h20.2 (by omega) (by omega) (by omega)).bind fun r21 h21 => ?_
        exact nx _ _ (.inr (.inl ⟨e1, h20.1.1, h20.1.2, h21.1.1, h21.1.2⟩)) (h21.2.up (by omega))
      · refine (num_good (k := 4) h18.2 (by omega) (by decide) (by decide)).bind fun r22 h22 => ?_
        exact nx _ _ (.inr (.inr ⟨by show r18.1.1 = 2; omega, h22.1.1, by show r22.1.1 ≤ 3; omega, rfl⟩)) (h22.2.up (by omega))
  case num =>
    refine ⟨?_, ?_, ?_, ?_, ?_, ?_, ?_, ?_, ?_⟩
    · exact ⟨by show 1 ≤ 1 + r1.1.1; omega, by show 1 + r1.1.1 ≤ 4; omega⟩
    · exact ⟨by show 1 ≤ 1 + r2.1.1; omega, by show 1 + r2.1.1 ≤ 4; omega⟩
    · exact ⟨by show 1 ≤ 1 + r3.1.1; omega, by show 1 + r3.1.1 ≤ 3; omega, by show 1 + r3.1.1 ≤ 1 + r2.1.1; omega⟩
    · exact ⟨by show 1 ≤ 1 + r4.1.1; omega, by show 1 + r4.1.1 ≤ 12; omega⟩
    · exact ⟨by show 1 ≤ 1 + r5.1.1; omega, by show 1 + r5.1.1 ≤ 4; omega⟩
    · exact ⟨by show 1 ≤ 1 + r6.1.1; omega, by show 1 + r6.1.1 ≤ 4; omega⟩
    · exact ⟨by show 1 ≤ 1 + r7.1.1; omega, by show 1 + r7.1.1 ≤ 1 + r5.1.1; omega⟩
    · exact ⟨h8.1.1, by show r8.1.1 ≤ 5; omega⟩
    · exact ⟨by show 1 ≤ 1 + r9.1.1; omega, by show 1 + r9.1.1 ≤ 8; omega⟩
  case cont =>
    obtain ⟨g1, g2, g3, g4, g5, g6⟩ := hz
    refine (num_good (k := 6) g1 (by decide) (by decide) (by decide)).bind fun r23 h23 => ?_
    refine Good.bind (P := fun y => DecOk y.2.2.1)
      (lp_good (fun y => 0 ≤ y.1 ∧ (y.2.2.1.subs.length : Int) + y.1 = r23.1.1 ∧ CodOk (1001 + 5 * (r23.1.1 - y.1)) y.2.1 ∧ NumOk y.2.2.1 ∧ y.2.2.1.levels = 1 + r2.1.1 ∧ (y.2.2.1.progs.length : Int) = 1 + r10.1.1 ∧ (∀ p ∈ y.2.2.1.progs, p.length ≤ 5 ∧ ∀ i ∈ p, InsOk (1 + r10.1.1) (1 + r2.1.1) i) ∧ ∀ s ∈ y.2.2.1.subs, SubOk (1 + r10.1.1) (1 + r2.1.1) s)
        (fun y => y.1.toNat) (fun self y ⟨p0, p1, p2, p3, p4, p5, p6, p7⟩ ih => ?_) _ _ ⟨h23.1.1, by show ((z.2.2.1.subs.length : Nat) : Int) + r23.1.1 = r23.1.1; rw [g6]; show ((0 : Nat) : Int) + r23.1.1 = r23.1.1; omega, h23.2.up (by show (1001 : Int) ≤ 1001 + 5 * (r23.1.1 - r23.1.1); omega), g2, g3, g4, g5, fun s hs => by
          have hs2 : s ∈ z.2.2.1.subs := hs
          rw [g6] at hs2; cases hs2⟩ (by show r23.1.1.toNat < _; omega)) fun y hy => .some_ hy
    have f2 : wi (y.1 - 1) = y.1 - 1 := wi_id (rg_lit (by omega))
    have hyl : y.2.2.1.subs.length ≤ 5 := by omega
    refine Good.ite (fun hlt => ?_) fun hlt => .some_ ⟨p3.w, p3.l, p3.k, p3.t, p3.q, p3.h, p3.b, p3.a, p3.p, by show 1 ≤ y.2.2.1.progs.length ∧ y.2.2.1.progs.length ≤ 4; omega, fun x hx => (p6 x hx).1, fun x hx i hi => by
      have := (p6 x hx).2 i hi
      rw [p5, p4]; exact this, hyl, fun s hs => by
      have := p7 s hs
      rw [p5, p4]; exact this⟩
    rw [f2, p4]
    refine (num_good (k := 1 + r10.1.1) p2 (by omega) (by omega) (by omega)).bind fun r27 h27 => ?_
    refine (num_good (k := 1 + r2.1.1) h27.2 (by omega) (by omega) (by omega)).bind fun r28 h28 => ?_
    refine (num_good (k := 16) h28.2 (by omega) (by omega) (by omega)).bind fun r29 h29 => ?_
    refine .guard (by show (((y.2.2.1.subs.length + 1 : Nat)) : Int) < _; omega) fun _ => ih _ ⟨by show 0 ≤ y.1 - 1; omega, ?_, h29.2.up (by show 1001 + 5 * (r23.1.1 - y.1) + 1 + 1 + 1 ≤ 1001 + 5 * (r23.1.1 - (y.1 - 1)); omega), ⟨p3.w, p3.l, p3.k, p3.t, p3.q, p3.h, p3.b, p3.a, p3.p⟩, p4, p5, p6, ?_⟩ (by show (y.1 - 1).toNat < y.1.toNat; omega)
    · show (((y.2.2.1.subs ++ [_]).length : Nat) : Int) + (y.1 - 1) = _
      rw [List.length_append, List.length_singleton]; omega
    · intro s hs
      rcases List.mem_append.1 hs with hs | hs
      · exact p7 s hs
      · rw [List.mem_singleton] at hs; subst hs
        exact ⟨h27.1, h28.1, h29.1.1, by show r29.1.1 ≤ 15; omega⟩
end
section
open Go Go.RowKit
set_option maxRecDepth 100000
variable [Tb]
theorem obind {α β : Type} (a : α) (f : α → Option β) : (some a).bind f = f a := rfl
/-- The lengths of a configuration's lists are plain. -/
structure LenOk (c : Cfg) : Prop where
  ps : c.progs.length ≤ 1000000
  pl : ∀ p ∈ c.progs, p.length ≤ 1000000
  ss : c.subs.length ≤ 1000000
theorem progs_len {lv np : Int} : ∀ {ps : List (List Ins)}, progsErr lv np ps = 0 → ∀ p ∈ ps, p.length ≤ 32
  | [], _, p, h => by cases h
  | q :: ps, h, p, hm => by
    unfold progsErr at h
    split at h
    · omega
    · split at h
      · rcases List.mem_cons.1 hm with e | e
        · subst e; omega
        · exact progs_len h p e
      · omega
theorem valid_len {c : Cfg} (h : cfgErr c = 0) : numsOk c = true ∧ c.progs.length ≤ 32 ∧ (∀ p ∈ c.progs, p.length ≤ 32) ∧ c.subs.length ≤ 64 := by
  unfold cfgErr at h
  split at h
  · omega
  · rename_i hn
    split at h
    · omega
    · rename_i hp
      have hp0 : progsAll c = 0 := by omega
      unfold progsAll at hp0
      split at hp0
      · omega
      · rename_i hl
        simp only [inB, Bool.not_eq_true', Bool.and_eq_false_iff, decide_eq_false_iff_not, not_or, Classical.not_not, Bool.not_eq_false, Bool.and_eq_true, decide_eq_true_eq] at hl
        refine ⟨by simpa using hn, by omega, progs_len hp0, ?_⟩
        unfold subsAll at h
        split at h
        · omega
        · omega
theorem LenOk.of {c : Cfg} (h : cfgErr c = 0) : LenOk c := by
  obtain ⟨_, h1, h2, h3⟩ := valid_len h
  exact ⟨by omega, fun p hp => by have := h2 p hp; omega, by omega⟩
abbrev ClS := Int × Int × Int × Int × Int × Int × Int × Int × Int × List (List Ins) × List Sub × Unit
def clS (c : Cfg) : ClS := (c.workers, c.levels, c.classes, c.tasks, c.deque, c.heap, c.batch, c.age, c.patience, c.progs, c.subs, ())
theorem set_sameP {α : Type} {xs : List α} {i : Nat} {x : α} (h : xs[i]? = some x) : xs.set i x = xs := by
  obtain ⟨hlt, rfl⟩ := List.getElem?_eq_some_iff.1 h
  simp
theorem clone_eq {c : Cfg} (h : LenOk c) : configClone c = some ((c, ()), ()) := by
  have hg : Good (configClone c) fun o => o.1.1 = c := by
    unfold configClone
    have e0 : cloneRows c.progs = some ((c.progs, ()), ()) := by unfold cloneRows; rw [if_pos h.ps]
    rw [e0, obind]
    refine Good.bind (P := fun z => z.2.1 = clS c) (lp_good (fun x => x.2.1 = clS c ∧ 0 ≤ x.1 ∧ x.1 ≤ (c.progs.length : Int)) (fun x => ((c.progs.length : Int) - x.1).toNat) (fun self x ⟨q0, q1, q2⟩ ih => ?_) _ _ ⟨rfl, Int.le_refl 0, by show (0 : Int) ≤ _; omega⟩ (by show ((c.progs.length : Int) - 0).toNat < _; have := h.ps; omega)) fun z hz => ?_
    rotate_left
    · obtain ⟨i, s, u⟩ := x
      simp only at q0 q1 q2
      subst q0
      refine Good.ite (fun hlt => ?_) fun _ => .some_ rfl
      have hin : 0 ≤ i ∧ i < ((c.progs.length : Nat) : Int) := ⟨q1, hlt⟩
      refine Good.guard (show 0 ≤ i ∧ i < (((clS c).2.2.2.2.2.2.2.2.2.1.length : Nat) : Int) from hin) fun _ => ?_
      have hm := h.pl _ (at_in (d := (dfR 18 : List Ins)) hin)
      have e1 : cloneIns (atK18 (clS c).2.2.2.2.2.2.2.2.2.1 i) = some ((atK18 c.progs i, ()), ()) := by
        unfold cloneIns; exact if_pos hm
      rw [e1, obind]
      refine Good.guard (show 0 ≤ i ∧ i < (((clS c).2.2.2.2.2.2.2.2.2.1.length : Nat) : Int) from hin) fun _ => ?_
      have e2 : wi (i + 1) = i + 1 := wi_id (rg_lit (by have := h.ps; omega))
      have e3 : c.progs.set i.toNat (atK18 c.progs i) = c.progs := set_sameP (atL_get hin)
      rw [e2]
      refine ih _ ⟨?_, by show 0 ≤ i + 1; omega, by show i + 1 ≤ _; omega⟩ (by show ((c.progs.length : Int) - (i + 1)).toNat < ((c.progs.length : Int) - i).toNat; omega)
      show (c.workers, c.levels, c.classes, c.tasks, c.deque, c.heap, c.batch, c.age, c.patience, c.progs.set i.toNat (atK18 c.progs i), c.subs, ()) = clS c
      rw [e3]; rfl
    · rw [hz]
      have e4 : cloneSubs (clS c).2.2.2.2.2.2.2.2.2.2.1 = some ((c.subs, ()), ()) := by unfold cloneSubs; exact if_pos h.ss
      rw [e4, obind]
      exact .some_ rfl
  obtain ⟨o, e, ho⟩ := hg
  rw [e]
  obtain ⟨⟨o1, ⟨⟩⟩, ⟨⟩⟩ := o
  simp only at ho
  rw [ho]
/-- The layout of a configuration. -/
def layV (c : Cfg) : LayV := { workers := c.workers, levels := c.levels, classes := c.classes, tasks := c.tasks, deque := c.deque, heap := c.heap, sleepers := 4 + c.heap, epochs := 4 + c.heap + c.classes, bitmaps := 4 + c.heap + c.classes + c.workers, queues := 4 + c.heap + c.classes + c.workers + c.workers, table := 4 + c.heap + c.classes + c.workers + c.workers + c.workers * c.levels * (2 + c.deque) }
def cellsN (c : Cfg) : Int := (layV c).table + 5 * c.tasks
theorem mulb {a b A B : Int} (ha : 0 ≤ a) (hA : a ≤ A) (hb : 0 ≤ b) (hB : b ≤ B) : 0 ≤ a * b ∧ a * b ≤ A * B :=
  ⟨Int.mul_nonneg ha hb, Int.le_trans (Int.mul_le_mul_of_nonneg_right hA hb) (Int.mul_le_mul_of_nonneg_left hB (Int.le_trans ha hA))⟩
theorem table_rg {c : Cfg} (h : numsOk c = true) : (0 ≤ c.workers * c.levels ∧ c.workers * c.levels ≤ 1024) ∧ (0 ≤ c.workers * c.levels * (2 + c.deque) ∧ c.workers * c.levels * (2 + c.deque) ≤ 67584) := by
  have hs := numsOk_spec h
  have h1 := mulb (a := c.workers) (b := c.levels) (A := 16) (B := 64) (by omega) (by omega) (by omega) (by omega)
  have h2 := mulb (a := c.workers * c.levels) (b := 2 + c.deque) (A := 1024) (B := 66) h1.1 (by omega) (by omega) (by omega)
  omega
theorem layout_eq {c : Cfg} (h : cfgErr c = 0) : layoutNew c = some ((layV c, 0, ()), ()) := by
  have hn := (valid_len h).1
  have hs := numsOk_spec hn
  have ht := table_rg hn
  unfold layoutNew cfgCheck
  rw [obind]
  have e0 : ¬ cfgErr c ≠ 0 := by omega
  simp only [if_neg e0]
  have e1 : wi (4 + c.heap) = 4 + c.heap := wi_id (rg_lit (by omega))
  have e2 : wi (4 + c.heap + c.classes) = 4 + c.heap + c.classes := wi_id (rg_lit (by omega))
  have e3 : wi (4 + c.heap + c.classes + c.workers) = 4 + c.heap + c.classes + c.workers := wi_id (rg_lit (by omega))
  have e4 : wi (4 + c.heap + c.classes + c.workers + c.workers) = 4 + c.heap + c.classes + c.workers + c.workers := wi_id (rg_lit (by omega))
  have e5 : wi (c.workers * c.levels) = c.workers * c.levels := wi_id (rg_lit (by omega))
  have e6 : wi (2 + c.deque) = 2 + c.deque := wi_id (rg_lit (by omega))
  have e7 : wi (c.workers * c.levels * (2 + c.deque)) = c.workers * c.levels * (2 + c.deque) := wi_id (rg_lit (by omega))
  have e8 : wi (4 + c.heap + c.classes + c.workers + c.workers + c.workers * c.levels * (2 + c.deque)) = 4 + c.heap + c.classes + c.workers + c.workers + c.workers * c.levels * (2 + c.deque) := wi_id (rg_lit (by omega))
  simp only [e1, e2, e3, e4, e5, e6, e7, e8]
  rfl
def rec0 : RecP := ⟨0, -1, 0, 0, -1, [], false⟩
/-- The environment behind New. -/
def envV (c : Cfg) : EnvP := ⟨c, layV c, ⟨List.replicate (cellsN c).toNat 0, ⟨0, 0, 0, 0⟩, 0⟩, ⟨0, 0⟩, List.replicate c.tasks.toNat rec0, []⟩
theorem new_eq {c : Cfg} (h : cfgErr c = 0) : machineNew c = some ((envV c, 0, ()), ()) := by
  have hn := (valid_len h).1
  have hs := numsOk_spec hn
  have ht := table_rg hn
  have hg : Good (machineNew c) fun o => o.1.1 = envV c ∧ o.1.2.1 = 0 := by
    unfold machineNew
    rw [layout_eq h, obind]
    refine Good.ite (fun e => absurd rfl e) fun _ => ?_
    have c1 : wi (5 * c.tasks) = 5 * c.tasks := wi_id (rg_lit (by omega))
    have c2 : wi ((layV c).table + 5 * c.tasks) = cellsN c := wi_id (rg_lit (by unfold layV; simp only; omega))
    have e1 : pCells (layV c) = some ((cellsN c, ()), ()) := by
      unfold pCells
      have : wi (5 * (layV c).tasks) = 5 * c.tasks := c1
      rw [this, c2]
    rw [e1, obind]
    have hc : 0 ≤ cellsN c ∧ cellsN c ≤ 131072 := by unfold cellsN layV; simp only; omega
    have e2 : machineBare (cellsN c) = some ((⟨⟨0, 0, 0, 0, 0, 0, 0, 0, 0, [], []⟩, ⟨0, 0, 0, 0, 0, 0, 0, 0, 0, 0, 0⟩, ⟨List.replicate (cellsN c).toNat 0, ⟨0, 0, 0, 0⟩, 0⟩, ⟨0, 0⟩, [], []⟩, ()), ()) := by
      unfold machineBare memoryNew clockNew
      have i1 : (if cellsN c < 0 then (0 : Int) else cellsN c) = cellsN c := if_neg (by omega)
      have i2 : (if 131072 < cellsN c then (131072 : Int) else cellsN c) = cellsN c := if_neg (by omega)
      have i3 : 0 ≤ cellsN c ∧ cellsN c ≤ 1099511627776 := by omega
      simp only [i1, i2, if_true, if_pos i3, obind]
    rw [e2, obind, clone_eq (.of h), obind]
    simp only [if_true]
    refine Good.bind (P := fun z => z.2.1 = envV c) (lp_good (fun x => 0 ≤ x.1 ∧ x.1 ≤ c.tasks ∧ x.2.1 = { envV c with recs := List.replicate x.1.toNat rec0 }) (fun x => (c.tasks - x.1).toNat) (fun self x ⟨q0, q1, q2⟩ ih => ?_) _ _ ⟨Int.le_refl 0, by show (0 : Int) ≤ _; omega, rfl⟩ (by show (c.tasks - 0).toNat < _; omega)) fun z hz => .some_ ⟨hz, rfl⟩
    obtain ⟨i, e, u⟩ := x
    simp only at q0 q1 q2
    subst q2
    refine Good.ite (fun hlt => ?_) fun hge => .some_ ?_
    · have hl : (List.replicate i.toNat rec0).length = i.toNat := List.length_replicate
      refine Good.guard ?_ fun _ => ?_
      · show (((List.replicate i.toNat rec0).length + 1 : Nat) : Int) < 100000000000
        rw [hl]
        have hlt' : i < c.tasks := hlt
        omega
      · have hlt' : i < c.tasks := hlt
        have e2 : wi (i + 1) = i + 1 := wi_id (rg_lit (by omega))
        rw [e2]
        refine ih _ ⟨by show 0 ≤ i + 1; omega, by show i + 1 ≤ _; omega, ?_⟩ (by show (c.tasks - (i + 1)).toNat < (c.tasks - i).toNat; omega)
        show ({ envV c with recs := List.replicate i.toNat rec0 ++ [rec0] } : EnvP) = { envV c with recs := List.replicate (i + 1).toNat rec0 }
        have e3 : (i + 1).toNat = i.toNat + 1 := by omega
        rw [e3, List.replicate_succ']
    · show ({ envV c with recs := List.replicate i.toNat rec0 } : EnvP) = envV c
      have : i = c.tasks := by have hge' : ¬ i < c.tasks := hge; omega
      rw [this]; rfl
  obtain ⟨o, e, ho1, ho2⟩ := hg
  rw [e]
  obtain ⟨⟨o1, o2, ⟨⟩⟩, ⟨⟩⟩ := o
  simp only at ho1 ho2
  rw [ho1, ho2]
end
section
open Go
variable [Tb]
theorem valid_of {c : Cfg} (h : DecOk c) {t hp' : Int} (ht : 1 ≤ t ∧ t ≤ 12) (hh : 1 ≤ hp' ∧ hp' ≤ 8) : cfgErr { c with tasks := t, heap := hp' } = 0 := by
  have hp : ∀ ps : List (List Ins), (∀ x ∈ ps, x ∈ c.progs) → progsErr c.levels c.progs.length ps = 0 := fun ps => by
    induction ps with
    | nil => intro _; rfl
    | cons p ps ih =>
      intro hm
      have h1 := h.pl p (hm p (List.mem_cons_self ..))
      unfold progsErr
      rw [if_neg (by omega), if_pos]
      · exact ih fun x hx => hm x (List.mem_cons_of_mem _ hx)
      · refine List.all_eq_true.2 fun i hi => ?_
        have h2 := h.ps p (hm p (List.mem_cons_self ..)) i hi
        unfold insOk
        rcases h2 with ⟨a, b, d, e⟩ | ⟨a, b, d, e, f⟩ | ⟨a, b, d, e⟩
        · rw [if_pos a]; simp only [inB, e, Bool.and_eq_true, decide_eq_true_eq, beq_self_eq_true, and_true]; omega
        · rw [if_neg (by omega), if_pos a]; simp only [inB, Bool.and_eq_true, decide_eq_true_eq]; omega
        · rw [if_neg (by omega), if_neg (by omega), if_pos a]; simp only [inB, e, Bool.and_eq_true, decide_eq_true_eq, beq_self_eq_true, and_true]; omega
  have hs : ∀ ss : List Sub, (∀ x ∈ ss, x ∈ c.subs) → subsErr c.levels c.progs.length ss = 0 := fun ss => by
    induction ss with
    | nil => intro _; rfl
    | cons s ss ih =>
      intro hm
      have h1 := h.ss s (hm s (List.mem_cons_self ..))
      have e : subErr c.levels c.progs.length s = 0 := by
        unfold subErr
        have e1 : inB s.prog 0 ((c.progs.length : Int) - 1) = true := by simp only [inB, Bool.and_eq_true, decide_eq_true_eq]; omega
        have e2 : inB s.level 0 (c.levels - 1) = true := by simp only [inB, Bool.and_eq_true, decide_eq_true_eq]; omega
        have e3 : inB s.deadline 0 16777215 = true := by simp only [inB, Bool.and_eq_true, decide_eq_true_eq]; omega
        rw [e1, e2, e3]; rfl
      unfold subsErr
      rw [if_pos e]
      exact ih fun x hx => hm x (List.mem_cons_of_mem _ hx)
  have hn : numsOk { c with tasks := t, heap := hp' } = true := by
    have := h.w; have := h.l; have := h.k; have := h.t; have := h.q; have := h.h; have := h.b; have := h.a; have := h.p
    simp only [numsOk, inB, Bool.and_eq_true, decide_eq_true_eq]
    have e : (if c.levels < 8 then c.levels else 8) = c.levels := if_pos (by omega)
    rw [e]
    omega
  have hpa : progsAll { c with tasks := t, heap := hp' } = 0 := by
    have := h.pn
    unfold progsAll
    have e : inB (c.progs.length : Int) 1 32 = true := by simp only [inB, Bool.and_eq_true, decide_eq_true_eq]; omega
    rw [e]
    exact hp c.progs fun _ hx => hx
  have hsa : subsAll { c with tasks := t, heap := hp' } = 0 := by
    have := h.sn
    unfold subsAll
    rw [if_neg (show ¬ 64 < c.subs.length by omega)]
    exact hs c.subs fun _ hx => hx
  unfold cfgErr
  rw [hn, hpa]
  exact hsa
theorem dec_valid {c : Cfg} (h : DecOk c) : cfgErr c = 0 := by
  have := h.h
  exact valid_of h (t := c.tasks) (hp' := c.heap) h.t (by omega)
theorem config_good {b : List Int} (hb : ∀ x ∈ b, 0 ≤ x ∧ x ≤ 255) (hl : b.length ≤ 1000000) : Good (kconfig b) fun o => DecOk o.1.1 := by
  have := decode_good hb hl
  unfold kconfig
  refine this.bind fun o ho => .some_ ?_
  exact ho
end
section
open Go Go.RowKit
set_option maxRecDepth 100000
variable [Tb]
theorem count_eq (m : MemV) : memoryMemoryCount m = some ((m.count, ()), (m, ())) := id rfl
theorem last_eq (m : MemV) : memoryMemoryLast m = some ((m.last, ()), (m, ())) := id rfl
/-- The environment behind K steps. -/
structure EI (c : Cfg) (K : Nat) (e : EnvP) : Prop where
  ok : EOk K e
  l : e.l = layV c
  c : e.c = c
  ct : 0 ≤ e.m.count ∧ e.m.count ≤ K
  cl : e.m.cells.length ≤ 1000000
def mnC (c : Cfg) : Int := if 16 < c.workers then 16 else c.workers
def WI (c : Cfg) (K : Nat) (j : Int) (w : WorkerV MV) : Prop := ∃ k, w = workC (layV c) j k ∧ WorkOk K (mnC c) k
def CI (c : Cfg) (l : ClientV MV) : Prop := ∃ k, l = clieC c.subs c.workers k ∧ 0 ≤ k.i
section
variable {c : Cfg} {K : Nat} {e : EnvP} {j : Int} {w : WorkerV MV} {l : ClientV MV}
theorem EI.many (h : EI c K e) : manyP e = mnC c := by unfold manyP mnC; rw [h.c]
theorem one_ct {m m' : MemV} (h : One m m') {K : Nat} (hc : 0 ≤ m.count ∧ m.count ≤ K) (hK : K ≤ 1000000) : (0 ≤ m'.count ∧ m'.count ≤ ((K + 3 : Nat) : Int)) ∧ m'.cells.length = m.cells.length := by
  cases h with
  | no => exact ⟨by omega, rfl⟩
  | yes k a v h hk =>
    refine ⟨?_, by simp⟩
    show 0 ≤ wi (m.count + 1) ∧ wi (m.count + 1) ≤ _
    rw [wi_id (rg_lit (by omega))]
    omega
theorem EI.stp (h : EI c K e) (hK : K ≤ 1000000) {e' : EnvP} (s : Stp 2 e e') : EI c (K + 3) e' :=
  have h1 := one_ct s.m h.ct hK
  ⟨h.ok.step s, by rw [s.l]; exact h.l, by rw [s.c]; exact h.c, h1.1, by rw [h1.2]; exact h.cl⟩
theorem WorkOk.up {K L : Nat} (h : K ≤ L) {n : Int} {k : WorkS} (hw : WorkOk K n k) : WorkOk L n k := by
  obtain ⟨a, b, d, f, g⟩ := k
  cases g with
  | t7 s => exact ⟨hw.1, Nat.le_trans hw.2 h⟩
  | t3 s => exact hw
  | t4 s => exact hw
  | _ => trivial
theorem WI.up {K L : Nat} (h : K ≤ L) (hw : WI c K j w) : WI c L j w := by
  obtain ⟨k, h1, h2⟩ := hw
  exact ⟨k, h1, h2.up h⟩
theorem wi_step (h : EI c K e) (hK : 1 ≤ K ∧ K ≤ 1000000) (hw : WI c K j w) : Good (workerWorkerStep w e) fun o => One e.m o.2.2.1.m ∧ EI c (K + 3) o.2.2.1 ∧ WI c (K + 3) j o.2.1 := by
  obtain ⟨k, rfl, hk⟩ := hw
  rw [← h.many] at hk
  have h1 := work_sim (w := j) h.ok (by omega) k hk
  have h2 := work_nx (w := j) h.ok k
  have h3 := work_ok (w := j) h.ok k hk hK.1
  rw [h.many] at h3
  rw [h.l] at h1
  exact ⟨_, h1, h2.m, h.stp hK.2 h2, _, rfl, h3.up (by omega)⟩
theorem ci_step (h : EI c K e) (hK : 1 ≤ K ∧ K ≤ 1000000) (hs : c.subs.length ≤ 1000000) (hc : CI c l) : Good (clientClientStep l e) fun o => One e.m o.2.2.1.m ∧ EI c (K + 3) o.2.2.1 ∧ CI c o.2.1 := by
  obtain ⟨k, rfl, hk⟩ := hc
  have h1 := clie_sim (subs := c.subs) (me := c.workers) h.ok (by omega) k hk
  have h2 := clie_nx (subs := c.subs) (me := c.workers) h.ok k
  have h3 := clie_i (e := e) (subs := c.subs) (me := c.workers) hs k hk
  exact ⟨_, h1, h2.m, h.stp hK.2 h2, _, rfl, h3⟩
theorem EI.up {L : Nat} (h : K ≤ L) (he : EI c K e) : EI c L e := ⟨⟨he.ok.dq, he.ok.tk, he.ok.ct, he.ok.wk, by have := he.ok.ev; omega, fun r hr => by have := he.ok.kd r hr; omega⟩, he.l, he.c, by have := he.ct; omega, he.cl⟩
theorem EI.clk {k : ClkV} (he : EI c K e) : EI c K { e with k := k } := ⟨⟨he.ok.dq, he.ok.tk, he.ok.ct, he.ok.wk, he.ok.ev, he.ok.kd⟩, he.l, he.c, he.ct, he.cl⟩
theorem mach_good {x : EntV} {n : Int} (hn : 1 ≤ n ∧ n ≤ 1000) (h : x.kind = 0) : Good (scriptMachine x n) fun o => 0 ≤ o.1.1 ∧ o.1.1 < n := by
  have h1 : Int.tmod x.value n < n ∧ -n < Int.tmod x.value n := by
    constructor
    · exact Int.tmod_lt_of_pos _ (by omega)
    · have h2 : Int.tmod (-x.value) n < n := Int.tmod_lt_of_pos _ (by omega)
      rw [Int.neg_tmod] at h2
      omega
  unfold scriptMachine
  rw [if_neg (fun h' => h' h), if_neg (by omega), if_pos (by omega)]
  refine Good.ite (fun hl => ?_) fun hl => .some_ ⟨by show 0 ≤ Int.tmod x.value n; omega, h1.1⟩
  rw [wi_id (rg_lit (by omega))]
  exact .some_ ⟨by show 0 ≤ Int.tmod x.value n + n; omega, by show Int.tmod x.value n + n < n; omega⟩
end
theorem ei_new {c : Cfg} (h : DecOk c) : EI c 1 (envV c) := by
  have hn := (valid_len (dec_valid h)).1
  have ht := table_rg hn
  have h1 := h.w
  have h2 := h.l
  have h3 := h.k
  have h4 := h.t
  have h5 := h.q
  have h6 := h.h
  refine ⟨⟨?_, ?_, ?_, ?_, Nat.zero_le _, fun r hr => ?_⟩, rfl, rfl, ⟨Int.le_refl 0, by show (0 : Int) ≤ 1; omega⟩, ?_⟩
  · show 0 ≤ c.deque ∧ c.deque ≤ 65535; omega
  · show c.tasks = ((List.replicate c.tasks.toNat rec0).length : Int)
    rw [List.length_replicate]; omega
  · show c.tasks = ((List.replicate c.tasks.toNat rec0).length : Int)
    rw [List.length_replicate]; omega
  · show 1 ≤ c.workers; omega
  · have := List.eq_of_mem_replicate hr
    rw [this]
    exact Nat.zero_le _
  · show (List.replicate (cellsN c).toNat 0).length ≤ _
    rw [List.length_replicate]
    unfold cellsN layV
    simp only
    omega
theorem ci_new {c : Cfg} (h : DecOk c) : clientNew c = some ((clieC c.subs c.workers ⟨0, 0, false, .n1⟩, ()), ()) := by
  unfold clientNew
  rw [clone_eq (.of (dec_valid h)), bnd, if_pos rfl]
theorem wk_new {l : LayV} {j : Int} : workerNew j = some ((workC l j ⟨0, 0, 0, 0, .top⟩, ()), ()) := rfl
theorem wi_new {c : Cfg} {j : Int} : WI c 1 j (workC (layV c) j ⟨0, 0, 0, 0, .top⟩) := ⟨_, rfl, trivial⟩
theorem ci_ok {c : Cfg} : CI c (clieC c.subs c.workers ⟨0, 0, false, .n1⟩) := ⟨_, rfl, Int.le_refl 0⟩
end
end Go.Proofs.YtgiagoeoifgliaaGreat
