/- The program's machines do what was said plainly, 9: the client; what workers and the client leave. What is decoded is valid. The program's environment made anew, at a valid configuration. What is decoded is valid, also with other numbers of tasks and places. An engine: what holds between the entries of a script. The law EngineRepeats: an engine's entries one by one; what it shows at the end. EngineRepeats in the evaluator's form. EngineRepeats in the evaluator's form. -/
import Derived.Test.YtgiagoeoifgliaaGreatRqar
import Derived.Test.YtgiagoeoifgliaaGreatRqap
import Derived.Test.YtgiagoeoifgliaaGreatRqaj
import Derived.Test.YtgiagoeoifgliaaGreatRqaq
set_option linter.all false
namespace Go.Proofs.YtgiagoeoifgliaaGreat
section
open Go Go.RowKit
set_option maxRecDepth 100000
@[reducible] def clieCC (me id : Int) (s : Sub) : ClieC → Int × MV × Bool
  | .n1 => (1, .nil, true)
  | .a1 => (1, .attempt ⟨o0, me, false⟩, false)
  | .n2 => (2, .nil, true)
  | .n3 => (3, .nil, true)
  | .n4 => (4, .nil, true)
  | .n5 => (5, .nil, true)
  | .n6 => (6, .nil, true)
  | .a6 t => (6, .insert (insertC s.deadline id t), false)
  | .n7 => (7, .nil, true)
  | .n8 => (8, .nil, true)
  | .n9 => (9, .nil, true)
  | .a9 t => (9, .wake (wakeC me s.level t), false)
@[reducible] def clieC (subs : List Sub) (me : Int) (k : ClieS) : ClientV MV :=
  ⟨subs, me, k.i, (clieCC me k.id (atK4 subs k.i) k.c).1, (clieCC me k.id (atK4 subs k.i) k.c).2.1, (clieCC me k.id (atK4 subs k.i) k.c).2.2, k.id, k.acc⟩
def CSim (subs : List Sub) (me : Int) (res : Option ((Bool × Unit) × (ClientV MV × EnvP × Unit))) (r : Bool × ClieS × EnvP) : Prop := res = some ((r.1, ()), (clieC subs me r.2.1, r.2.2, ()))
def machP (subs : List Sub) (me i id ln : Int) : MV :=
  if ln = 1 then .attempt ⟨o0, me, false⟩ else if ln = 3 then .alloc ⟨o0⟩ else if ln = 6 then .insert ⟨o0, (atK4 subs i).deadline, id, 1, 0, 0, 0, 0⟩ else if ln = 8 then .release ⟨o0⟩ else if ln = 9 then .wake ⟨o0, me, (atK4 subs i).level, 1, 0, 0⟩ else .nil
section
variable [Tb] {K : Nat} {e : EnvP} {w : Int} {subs : List Sub} {me i id ln : Int} {m : MV} {f acc : Bool}
theorem mach_eq (hi : 0 ≤ i ∧ i < (subs.length : Int)) (h : 1 ≤ ln ∧ ln ≤ 9) : clientClientMachines ⟨subs, me, i, ln, m, f, id, acc⟩ = some ((machP subs me i id ln, ()), (⟨subs, me, i, ln, m, f, id, acc⟩, ())) := by
  unfold clientClientMachines
  simp only [hi, and_self, if_true, lockAcquire, tableAllocate, injectorInsert, lockRelease, parkWake, bnd]
  rw [wi_id (rg_lit (show _ ∧ _ by omega)), if_pos (by simp only [List.length_cons, List.length_nil]; omega)]
  have hv : ln = 1 ∨ ln = 2 ∨ ln = 3 ∨ ln = 4 ∨ ln = 5 ∨ ln = 6 ∨ ln = 7 ∨ ln = 8 ∨ ln = 9 := by omega
  rcases hv with rfl | rfl | rfl | rfl | rfl | rfl | rfl | rfl | rfl <;> rfl
theorem spl_att (x : AttemptV) : (SR1.spl (MV.attempt x)).isNone = false := rfl
theorem spl_all (x : AllocV) : (SR1.spl (MV.alloc x)).isNone = false := rfl
theorem spl_ins (x : InsertV) : (SR1.spl (MV.insert x)).isNone = false := rfl
theorem spl_rel (x : ReleaseV) : (SR1.spl (MV.release x)).isNone = false := rfl
theorem spl_wak (x : WakeV) : (SR1.spl (MV.wake x)).isNone = false := rfl
theorem CSim.ite {c : Prop} [Decidable c] {a b : Option ((Bool × Unit) × (ClientV MV × EnvP × Unit))} {r s : Bool × ClieS × EnvP} (h1 : c → CSim subs me a r) (h2 : ¬ c → CSim subs me b s) : CSim subs me (if c then a else b) (if c then r else s) := by
  by_cases h : c
  · rw [if_pos h, if_pos h]; exact h1 h
  · rw [if_neg h, if_neg h]; exact h2 h
theorem clie_sim (hK : EOk K e) (hk : K ≤ 100000000) (k : ClieS) (hi0 : 0 ≤ k.i) : CSim subs me (clientClientStep (clieC subs me k) e) (clieS subs me e k) := by
  have hl : e.evs.length ≤ 999999999 := by have := hK.ev; omega
  obtain ⟨i, id, acc, c⟩ := k
  have hi0 : 0 ≤ i := hi0
  unfold clieS
  by_cases hov : (subs.length : Int) ≤ i
  · rw [if_pos hov]
    simp only [clientClientStep, clientClientOver, hov, decide_true, bnd, if_true]
    rfl
  rw [if_neg hov]
  have hi : 0 ≤ i ∧ i < (subs.length : Int) := by omega
  have hm : ∀ m v, pEmit { e with m := m } v = some ((), ({ e with m := m, evs := e.evs ++ [v] }, ())) := fun m v => pEmit_eq (e := { e with m := m }) hl
  cases c with
  | n1 =>
    obtain ⟨dn, x', h, ho, hd, hx⟩ := lock_sim (e := e) (w := me) (b := false)
    rw [Bool.or_false] at hd
    simp only [o0] at h hx
    simp only [clieG, clientClientStep, clientClientOver, hov, decide_false, bnd, Bool.not_true, Bool.not_false, Bool.false_eq_true, if_true, if_false, Int.reduceEq, mach_eq hi (show (1 : Int) ≤ 1 ∧ (1 : Int) ≤ 9 by decide), machP, spl_att, stepD3, resultD3, h]
    rcases Bool.eq_false_or_eq_true (e.hit 1 0) with hh | hh
    · rw [hh] at hd
      subst hd
      have ho := ho rfl
      simp only [hh, if_true] at ho ⊢
      simp only [ho, hi, and_self, clientClientAfter, clientClientTo, bnd, Bool.not_true, Bool.not_false, Bool.false_eq_true, if_true, if_false, Int.reduceEq]
      rfl
    · rw [hh] at hd
      subst hd
      have hx := hx rfl
      simp only [hh, hx, bnd, Bool.not_true, Bool.not_false, Bool.false_eq_true, if_true, if_false, Int.reduceEq]
      rfl
  | a1 =>
    obtain ⟨dn, x', h, ho, hd, hx⟩ := lock_sim (e := e) (w := me) (b := false)
    rw [Bool.or_false] at hd
    simp only [o0] at h hx
    simp only [clieG, clientClientStep, clientClientOver, hov, decide_false, bnd, Bool.not_true, Bool.not_false, Bool.false_eq_true, if_true, if_false, Int.reduceEq, spl_att, stepD3, resultD3, h, o0]
    rcases Bool.eq_false_or_eq_true (e.hit 1 0) with hh | hh
    · rw [hh] at hd
      subst hd
      have ho := ho rfl
      simp only [hh, if_true] at ho ⊢
      simp only [ho, hi, and_self, clientClientAfter, clientClientTo, bnd, Bool.not_true, Bool.not_false, Bool.false_eq_true, if_true, if_false, Int.reduceEq]
      rfl
    · rw [hh] at hd
      subst hd
      have hx := hx rfl
      simp only [hh, hx, bnd, Bool.not_true, Bool.not_false, Bool.false_eq_true, if_true, if_false, Int.reduceEq]
      rfl
  | n2 =>
    simp only [clieG, clientClientStep, clientClientOver, hov, decide_false, bnd, Bool.not_true, Bool.not_false, Bool.false_eq_true, if_true, if_false, Int.reduceEq, mach_eq hi (show (1 : Int) ≤ 2 ∧ (2 : Int) ≤ 9 by decide), machP, spl_nil, clientClientAccess, hi, and_self, pLSize, pLoad_eq, clientClientReject, clientClientTo, hm]
    rw [bind_ite]
    exact CSim.ite (fun _ => rfl) fun _ => rfl
  | n3 =>
    obtain ⟨x', h, ho⟩ := alloc_sim (e := e)
    simp only [clieG, clientClientStep, clientClientOver, hov, decide_false, bnd, Bool.not_true, Bool.not_false, Bool.false_eq_true, if_true, if_false, Int.reduceEq, mach_eq hi (show (1 : Int) ≤ 3 ∧ (3 : Int) ≤ 9 by decide), machP, spl_all, stepD3, resultD3, h, clientClientAfter, clientClientReject, clientClientTo, hi, and_self]
    by_cases ci : IsT e (wi (e.gt 0))
    · rw [if_pos ci] at ho ⊢
      have hv : 0 ≤ wi (e.gt 0) ∧ wi (e.gt 0) < ((allocE e).recs.length : Int) := ⟨ci.1, by have := ci.2; have := hK.ct; show _ < (e.recs.length : Int); omega⟩
      simp only [ho, Int.reduceEq, if_false, hv, and_self, if_true]
      rfl
    · rw [if_neg ci] at ho ⊢
      simp only [ho, if_true, pEmit_eq (e := allocE e) hl, bnd]
      rfl
  | n4 =>
    simp only [clieG, clientClientStep, clientClientOver, hov, decide_false, bnd, Bool.not_true, Bool.not_false, Bool.false_eq_true, if_true, if_false, Int.reduceEq, mach_eq hi (show (1 : Int) ≤ 4 ∧ (4 : Int) ≤ 9 by decide), machP, spl_nil, clientClientAccess, hi, and_self, pLevel_eq, pStore_eq, clientClientTo]
    rfl
  | n5 =>
    simp only [clieG, clientClientStep, clientClientOver, hov, decide_false, bnd, Bool.not_true, Bool.not_false, Bool.false_eq_true, if_true, if_false, Int.reduceEq, mach_eq hi (show (1 : Int) ≤ 5 ∧ (5 : Int) ≤ 9 by decide), machP, spl_nil, clientClientAccess, hi, and_self, pSince_eq, pNow, pStore_eq, clientClientTo]
    rfl
  | n6 =>
    have h := insert_sim (e := e) (d := (atK4 subs i).deadline) (t := id) .l1
    have hn := insert_nx (e := e) (d := (atK4 subs i).deadline) (t := id) .l1
    revert h hn
    simp only [clieG, clientClientStep, clientClientOver, hov, decide_false, bnd, Bool.not_true, Bool.not_false, Bool.false_eq_true, if_true, if_false, Int.reduceEq, mach_eq hi (show (1 : Int) ≤ 6 ∧ (6 : Int) ≤ 9 by decide), machP, spl_ins, stepD3, resultD3, o0]
    rcases insertS (atK4 subs i).deadline id e .l1 with ⟨r | ⟨c, y⟩, e'⟩ <;> intro h hn
    · simp only [SimR, o0] at h
      simp only [h, bnd, Bool.not_false, if_true]
      rfl
    · simp only [SimR, o0] at h
      obtain ⟨x', h, ho⟩ := h
      have hl' : e'.evs.length ≤ 999999999 := by have h1 : e'.evs.length ≤ e.evs.length + 0 := hn.ev; have := hK.ev; omega
      simp only [h, ho, clientClientAfter, clientClientTo, hi, and_self, pEmit_eq hl', bnd, Bool.not_true, Bool.not_false, Bool.false_eq_true, if_true, if_false, Int.reduceEq, ne_eq]
      by_cases hc : c = 0
      · simp only [hc, not_true, if_true, if_false]; rfl
      · simp only [hc, not_false_eq_true, if_true, if_false]; rfl
  | a6 t =>
    have h := insert_sim (e := e) (d := (atK4 subs i).deadline) (t := id) t
    have hn := insert_nx (e := e) (d := (atK4 subs i).deadline) (t := id) t
    revert h hn
    simp only [clieG, clientClientStep, clientClientOver, hov, decide_false, bnd, Bool.not_true, Bool.not_false, Bool.false_eq_true, if_true, if_false, Int.reduceEq, spl_ins, stepD3, resultD3]
    rcases insertS (atK4 subs i).deadline id e t with ⟨r | ⟨c, y⟩, e'⟩ <;> intro h hn
    · simp only [SimR] at h
      simp only [h, bnd, Bool.not_false, if_true]
      rfl
    · simp only [SimR] at h
      obtain ⟨x', h, ho⟩ := h
      have hl' : e'.evs.length ≤ 999999999 := by have h1 : e'.evs.length ≤ e.evs.length + 0 := hn.ev; have := hK.ev; omega
      simp only [h, ho, clientClientAfter, clientClientTo, hi, and_self, pEmit_eq hl', bnd, Bool.not_true, Bool.not_false, Bool.false_eq_true, if_true, if_false, Int.reduceEq, ne_eq]
      by_cases hc : c = 0
      · simp only [hc, not_true, if_true, if_false]; rfl
      · simp only [hc, not_false_eq_true, if_true, if_false]; rfl
  | n7 =>
    simp only [clieG, clientClientStep, clientClientOver, hov, decide_false, bnd, Bool.not_true, Bool.not_false, Bool.false_eq_true, if_true, if_false, Int.reduceEq, mach_eq hi (show (1 : Int) ≤ 7 ∧ (7 : Int) ≤ 9 by decide), machP, spl_nil, clientClientAccess, hi, and_self, pState_eq, pStore_eq, clientClientTo]
    rfl
  | n8 =>
    obtain ⟨x', h, ho⟩ := free_sim (e := e)
    simp only [clieG, clientClientStep, clientClientOver, hov, decide_false, bnd, Bool.not_true, Bool.not_false, Bool.false_eq_true, if_true, if_false, Int.reduceEq, mach_eq hi (show (1 : Int) ≤ 8 ∧ (8 : Int) ≤ 9 by decide), machP, spl_rel, stepD3, resultD3, h, clientClientAfter, clientClientNext, clientClientOver, clientClientTo, hi, and_self]
    cases acc <;> rfl
  | n9 =>
    have h := wake_sim (e := e) (w := me) (v := (atK4 subs i).level) hl (.l1 0)
    revert h
    simp only [clieG, clientClientStep, clientClientOver, hov, decide_false, bnd, Bool.not_true, Bool.not_false, Bool.false_eq_true, if_true, if_false, Int.reduceEq, mach_eq hi (show (1 : Int) ≤ 9 ∧ (9 : Int) ≤ 9 by decide), machP, spl_wak, stepD3, resultD3, o0]
    rcases wakeS me (atK4 subs i).level e (.l1 0) with ⟨r | ⟨c, y⟩, e'⟩ <;> intro h
    · simp only [SimR, o0] at h
      simp only [h, bnd, Bool.not_false, if_true]
      rfl
    · simp only [SimR, o0] at h
      obtain ⟨x', h, ho⟩ := h
      simp only [h, ho, clientClientAfter, clientClientNext, clientClientOver, clientClientTo, hi, and_self, bnd, Bool.not_true, Bool.not_false, Bool.false_eq_true, if_true, if_false, Int.reduceEq]
      rfl
  | a9 t =>
    have h := wake_sim (e := e) (w := me) (v := (atK4 subs i).level) hl t
    revert h
    simp only [clieG, clientClientStep, clientClientOver, hov, decide_false, bnd, Bool.not_true, Bool.not_false, Bool.false_eq_true, if_true, if_false, Int.reduceEq, spl_wak, stepD3, resultD3]
    rcases wakeS me (atK4 subs i).level e t with ⟨r | ⟨c, y⟩, e'⟩ <;> intro h
    · simp only [SimR] at h
      simp only [h, bnd, Bool.not_false, if_true]
      rfl
    · simp only [SimR] at h
      obtain ⟨x', h, ho⟩ := h
      simp only [h, ho, clientClientAfter, clientClientNext, clientClientOver, clientClientTo, hi, and_self, bnd, Bool.not_true, Bool.not_false, Bool.false_eq_true, if_true, if_false, Int.reduceEq]
      rfl
theorem work_line_nx (hK : EOk K e) (k : WorkS) (hc : k.c ≠ .top) : Stp 2 e (workS w e k).2 := by
  obtain ⟨cur, vi, lv, x, c⟩ := k
  cases c with
  | top => exact absurd rfl hc
  | t1 t s =>
    have h := sweep_nx (e := e) (w := w) (t := t) s
    revert h
    simp only [workS, workB]
    rcases sweepS w t e s with ⟨r | ⟨c, y⟩, e'⟩ <;> intro h
    · exact h.le (by decide)
    · exact h.le (by decide)
  | t2 s =>
    have h := take_nx (w := w) (fun t => hK.st) s
    revert h
    simp only [workS, workB]
    rcases takeS w e s with ⟨r | ⟨c, y⟩, e'⟩ <;> intro h
    · exact h.le (by decide)
    · exact h.le (by decide)
  | t3 s =>
    have h := drain_nx (e := e) (w := w) s
    revert h
    simp only [workS, workB]
    rcases drainS w e s with ⟨r | ⟨c, y⟩, e'⟩ <;> intro h
    · exact h.le (by decide)
    · exact h.le (by decide)
  | t4 s =>
    have h := probe_nx (e := e) (w := w) s
    revert h
    simp only [workS, workB]
    rcases probeS w e s with ⟨r | ⟨c, y⟩, e'⟩ <;> intro h
    · exact h.le (by decide)
    · exact h.le (by decide)
  | t5 s =>
    have h := steal_nx (e := e) (q := queueP e.l vi lv) s
    revert h
    simp only [workS, workB]
    rcases stealS (queueP e.l vi lv) e s with ⟨r | ⟨c, y⟩, e'⟩ <;> intro h
    · exact h.le (by decide)
    · simp only
      split
      · exact Stp.le (Stp.em h) (by decide)
      · split <;> exact Stp.le h (by decide)
  | t6 => exact (claim_nx (w := w) (t := x) hK.st).le (by decide)
  | t7 s =>
    have h := run_nx (w := w) hK s
    revert h
    simp only [workS, workB]
    rcases runS w e s with ⟨r | ⟨c, y⟩, e'⟩ <;> intro h
    · exact h.le (by decide)
    · exact h.le (by decide)
  | t8 s =>
    have h := sleep_nx (e := e) (w := w) s
    revert h
    simp only [workS, workB]
    rcases sleepS w e s with ⟨r | ⟨c, y⟩, e'⟩ <;> intro h
    · exact h.le (by decide)
    · exact h.le (by decide)
  | t9 s =>
    have h := reset_nx (e := e) (a := bitmapP e.l vi) (b := lv) (q := queueP e.l vi lv) s
    revert h
    simp only [workS, workB]
    rcases resetS (bitmapP e.l vi) lv (queueP e.l vi lv) e s with ⟨r | ⟨c, y⟩, e'⟩ <;> intro h
    · exact h.le (by decide)
    · exact h.le (by decide)
theorem workS_top {cur vi lv x : Int} : workS w e ⟨cur, vi, lv, x, workB w e ⟨cur, vi, lv, x, .top⟩⟩ = workS w e ⟨cur, vi, lv, x, .top⟩ := by
  unfold workB
  simp only
  by_cases ha : e.c.age = 0
  · simp only [workS, workB, ha, if_true]
  · simp only [workS, workB, ha, if_false]
theorem work_nx (hK : EOk K e) (k : WorkS) : Stp 2 e (workS w e k).2 := by
  obtain ⟨cur, vi, lv, x, c⟩ := k
  cases c with
  | top =>
    rw [← workS_top]
    exact work_line_nx hK _ (show workB w e ⟨cur, vi, lv, x, .top⟩ ≠ .top from workB_top)
  | _ => exact work_line_nx hK _ (fun h => by cases h)
theorem work_line_ok (hK : EOk K e) (k : WorkS) (hc : k.c ≠ .top) (hW : WorkOk K (manyP e) k) (hK1 : 1 ≤ K) : WorkOk (K + 1) (manyP e) (workS w e k).1 := by
  obtain ⟨cur, vi, lv, x, c⟩ := k
  have hr0 : ∀ t, RunOk (K + 1) (run0 t) := fun t => ⟨by simp [run0], by simp [run0]⟩
  cases c with
  | top => exact absurd rfl hc
  | t1 t s =>
    simp only [workS, workB]
    split <;> trivial
  | t2 s =>
    simp only [workS, workB]
    split
    · trivial
    · simp only
      split
      · exact hr0 _
      · exact (rfl : drain0.direct = false)
  | t3 s =>
    simp only [workS, workB]
    split
    · rename_i h; exact drain_ok hW h
    · simp only
      split
      · trivial
      · split
        · trivial
        · unfold WorkOk idleC
          simp only
          split <;> first | trivial | (rename_i h; split at h <;> cases h; trivial) | (rename_i h; split at h <;> cases h)
  | t4 s =>
    simp only [workS, workB]
    split
    · rename_i h; exact probe_ok hK.wk hW h
    · simp only
      split <;> trivial
  | t5 s =>
    simp only [workS, workB]
    split
    · trivial
    · split
      · trivial
      · split <;> trivial
  | t6 =>
    simp only [workS, workB]
    split
    · exact hr0 _
    · trivial
  | t7 s =>
    simp only [workS, workB]
    split
    · rename_i h
      have h1 := run_ok hW.1 h
      exact ⟨h1.1, by have := hW.2; omega⟩
    · trivial
  | t8 s =>
    simp only [workS, workB]
    split <;> trivial
  | t9 s =>
    simp only [workS, workB]
    split <;> trivial
theorem work_ok (hK : EOk K e) (k : WorkS) (hW : WorkOk K (manyP e) k) (hK1 : 1 ≤ K) : WorkOk (K + 1) (manyP e) (workS w e k).1 := by
  obtain ⟨cur, vi, lv, x, c⟩ := k
  cases c with
  | top =>
    rw [← workS_top]
    refine work_line_ok hK _ (show workB w e ⟨cur, vi, lv, x, .top⟩ ≠ .top from workB_top) ?_ hK1
    unfold workB
    simp only
    split <;> trivial
  | _ => exact work_line_ok hK _ (fun h => by cases h) hW hK1
theorem clie_nx (hK : EOk K e) (k : ClieS) : Stp 2 e (clieS subs me e k).2.2 := by
  obtain ⟨i, id, acc, c⟩ := k
  unfold clieS
  split
  · exact Stp.refl.le (by decide)
  cases c with
  | n1 => exact Stp.le lock_nx (by decide)
  | a1 => exact Stp.le lock_nx (by decide)
  | n2 =>
    simp only [clieG]
    split
    · exact Stp.le (Stp.em Stp.lk) (by decide)
    · exact Stp.le Stp.lk (by decide)
  | n3 =>
    simp only [clieG]
    split
    · exact Stp.le (Stp.pr alloc_nx fun K h => Nat.zero_le _) (by decide)
    · exact Stp.le (Stp.em alloc_nx) (by decide)
  | n4 => exact Stp.le (Stp.pt (by decide)) (Nat.zero_le _)
  | n5 => exact Stp.le (Stp.pt (by decide)) (Nat.zero_le _)
  | n6 =>
    have h := insert_nx (e := e) (d := (atK4 subs i).deadline) (t := id) .l1
    revert h
    simp only [clieG]
    rcases insertS (atK4 subs i).deadline id e .l1 with ⟨r | ⟨c, y⟩, e'⟩ <;> intro h
    · exact Stp.le h (by decide)
    · simp only
      split
      · exact Stp.le (Stp.em h) (by decide)
      · exact Stp.le h (by decide)
  | a6 t =>
    have h := insert_nx (e := e) (d := (atK4 subs i).deadline) (t := id) t
    revert h
    simp only [clieG]
    rcases insertS (atK4 subs i).deadline id e t with ⟨r | ⟨c, y⟩, e'⟩ <;> intro h
    · exact Stp.le h (by decide)
    · simp only
      split
      · exact Stp.le (Stp.em h) (by decide)
      · exact Stp.le h (by decide)
  | n7 => exact Stp.le (Stp.pt (by decide)) (Nat.zero_le _)
  | n8 =>
    simp only [clieG]
    split
    · exact Stp.le free_nx (by decide)
    · exact Stp.le (show Stp 0 e (clieN subs _ (freeE e)).2.2 from free_nx) (by decide)
  | n9 =>
    have h := wake_nx (e := e) (w := me) (v := (atK4 subs i).level) (.l1 0)
    revert h
    simp only [clieG]
    rcases wakeS me (atK4 subs i).level e (.l1 0) with ⟨r | ⟨c, y⟩, e'⟩ <;> intro h <;> exact Stp.le h (by decide)
  | a9 t =>
    have h := wake_nx (e := e) (w := me) (v := (atK4 subs i).level) t
    revert h
    simp only [clieG]
    rcases wakeS me (atK4 subs i).level e t with ⟨r | ⟨c, y⟩, e'⟩ <;> intro h <;> exact Stp.le h (by decide)
theorem clie_i (hs : subs.length ≤ 1000000) (k : ClieS) (hi : 0 ≤ k.i) : 0 ≤ (clieS subs me e k).2.1.i := by
  obtain ⟨i, id, acc, c⟩ := k
  have hi : 0 ≤ i := hi
  unfold clieS
  split
  · exact hi
  rename_i hov
  have hov : ¬ (subs.length : Int) ≤ i := hov
  have hw : 0 ≤ wi (i + 1) := by rw [wi_id (rg_lit (by omega))]; omega
  cases c <;> simp only [clieG, clieN] <;> (repeat' split) <;> first | exact hi | exact hw
end
end
section
open Go
variable [Tb]
theorem short_good (b : List Int) (l : List (List Int)) (hl : l.length ≤ 1000000) : Good (kshort b l) fun o => o.1.1 = true → b.length ≤ 400 ∧ ∀ x ∈ l, x.length ≤ 400 := by
  unfold kshort
  refine Good.bind (P := fun z => (∀ o, z = .inr o → o.1.1 = false) ∧ (∀ y, z = .inl y → ∀ x ∈ l, x.length ≤ 400)) (lp_good (fun x => 0 ≤ x.1 ∧ x.1 ≤ (l.length : Int) ∧ ∀ i : Nat, (i : Int) < x.1 → ∀ y, l[i]? = some y → y.length ≤ 400) (fun x => ((l.length : Int) - x.1).toNat) (fun self x ⟨q0, q1, q2⟩ ih => ?_) _ _ ⟨Int.le_refl 0, by show (0 : Int) ≤ (l.length : Int); omega, fun i hi => by omega⟩ (by show ((l.length : Int) - 0).toNat < _; omega)) fun z hz => ?_
  rotate_left
  · have e2 : wi (x.1 + 1) = x.1 + 1 := wi_id (rg_lit (by omega))
    rw [e2]
    refine Good.ite (fun hlt => .guard ⟨q0, hlt⟩ fun _ => Good.ite (fun _ => .some_ ⟨fun o e => (by cases e; rfl), fun y e => (by cases e)⟩) fun h4 => ih _ ⟨by show 0 ≤ x.1 + 1; omega, by show x.1 + 1 ≤ (l.length : Int); omega, fun i hi y hy => ?_⟩ (by show ((l.length : Int) - (x.1 + 1)).toNat < ((l.length : Int) - x.1).toNat; omega)) fun hlt => .some_ ⟨fun o e => (by cases e), fun y e x' hx' => ?_⟩
    · by_cases hi2 : (i : Int) < x.1
      · exact q2 i hi2 y hy
      · have hi3 : i = x.1.toNat := by have : (i : Int) < x.1 + 1 := hi; omega
        have h5 := atL_get (d := ([] : List Int)) (xs := l) (i := x.1) ⟨q0, hlt⟩
        rw [hi3, h5] at hy
        cases hy
        omega
    · obtain ⟨i, hi, rfl⟩ := List.getElem_of_mem hx'
      exact q2 i (by omega) _ (List.getElem?_eq_getElem hi)
  · rcases z with y | o
    · refine .some_ fun e => ⟨?_, hz.2 y rfl⟩
      have : ((b.length : Nat) : Int) ≤ 400 := of_decide_eq_true e
      omega
    · exact .some_ fun e => by rw [hz.1 o rfl] at e; cases e
structure DecOk (c : Cfg) : Prop where
  w : 1 ≤ c.workers ∧ c.workers ≤ 4
  l : 1 ≤ c.levels ∧ c.levels ≤ 4
  k : 1 ≤ c.classes ∧ c.classes ≤ 3 ∧ c.classes ≤ c.levels
  t : 1 ≤ c.tasks ∧ c.tasks ≤ 12
  q : 1 ≤ c.deque ∧ c.deque ≤ 4
  h : 1 ≤ c.heap ∧ c.heap ≤ 4
  b : 1 ≤ c.batch ∧ c.batch ≤ c.deque
  a : 0 ≤ c.age ∧ c.age ≤ 5
  p : 1 ≤ c.patience ∧ c.patience ≤ 8
  pn : 1 ≤ c.progs.length ∧ c.progs.length ≤ 4
  pl : ∀ x ∈ c.progs, x.length ≤ 5
  ps : ∀ x ∈ c.progs, ∀ i ∈ x, (i.op = 0 ∧ 1 ≤ i.a ∧ i.a ≤ 4 ∧ i.b = 0) ∨ (i.op = 1 ∧ 0 ≤ i.a ∧ i.a < (c.progs.length : Int) ∧ 0 ≤ i.b ∧ i.b < c.levels) ∨ (i.op = 2 ∧ 0 ≤ i.a ∧ i.a ≤ 3 ∧ i.b = 0)
  sn : c.subs.length ≤ 5
  ss : ∀ s ∈ c.subs, (0 ≤ s.prog ∧ s.prog < (c.progs.length : Int)) ∧ (0 ≤ s.level ∧ s.level < c.levels) ∧ 0 ≤ s.deadline ∧ s.deadline ≤ 15
/-- The bytes of a coder are bytes, its place is near. -/
structure CodOk (N : Int) (r : CodV) : Prop where
  by_ : ∀ x ∈ r.inn, 0 ≤ x ∧ x ≤ 255
  ln : r.inn.length ≤ 1000000
  at_ : 0 ≤ r.at_ ∧ r.at_ ≤ N
theorem num_good {N : Int} {r : CodV} {k : Int} (h : CodOk N r) (hN : N ≤ 1000000) (h1 : 1 ≤ k) (h2 : k ≤ 1000) : Good (r5number r k) fun o => (0 ≤ o.1.1 ∧ o.1.1 < k) ∧ CodOk (N + 1) o.2.1 := by
  have ha := h.at_
  have e1 : wi (r.at_ + 1) = r.at_ + 1 := wi_id (rg_lit (by omega))
  unfold r5number
  rw [e1]
  refine Good.ite (fun hlt => .guard ⟨ha.1, hlt⟩ fun _ => .guard (by omega) fun _ => .some_ ⟨?_, h.by_, h.ln, by show 0 ≤ r.at_ + 1; omega, by show r.at_ + 1 ≤ N + 1; omega⟩) fun _ => .some_ ⟨⟨Int.le_refl 0, by show (0 : Int) < k; omega⟩, h.by_, h.ln, by show 0 ≤ r.at_ + 1; omega, by show r.at_ + 1 ≤ N + 1; omega⟩
  have hb := h.by_ _ (at_in (d := dfR 17) (xs := r.inn) (i := r.at_) ⟨ha.1, hlt⟩)
  have e2 : wi (atK17 r.inn r.at_) = atK17 r.inn r.at_ := wi_id (rg_lit (x := atK17 r.inn r.at_) ⟨by have := hb.1; exact Int.le_trans (by decide) this, by have := hb.2; exact Int.le_trans this (by decide)⟩)
  rw [e2]
  exact tmod_lt h1 hb.1
theorem CodOk.up {N M : Int} {r : CodV} (h : CodOk N r) (hl : N ≤ M) : CodOk M r := ⟨h.by_, h.ln, h.at_.1, by have := h.at_; omega⟩
def InsOk (n lv : Int) (i : Ins) : Prop := (i.op = 0 ∧ 1 ≤ i.a ∧ i.a ≤ 4 ∧ i.b = 0) ∨ (i.op = 1 ∧ 0 ≤ i.a ∧ i.a < n ∧ 0 ≤ i.b ∧ i.b < lv) ∨ (i.op = 2 ∧ 0 ≤ i.a ∧ i.a ≤ 3 ∧ i.b = 0)
def SubOk (n lv : Int) (s : Sub) : Prop := (0 ≤ s.prog ∧ s.prog < n) ∧ (0 ≤ s.level ∧ s.level < lv) ∧ 0 ≤ s.deadline ∧ s.deadline ≤ 15
/-- The numbers of a configuration under construction. -/
structure NumOk (c : Cfg) : Prop where
  w : 1 ≤ c.workers ∧ c.workers ≤ 4
  l : 1 ≤ c.levels ∧ c.levels ≤ 4
  k : 1 ≤ c.classes ∧ c.classes ≤ 3 ∧ c.classes ≤ c.levels
  t : 1 ≤ c.tasks ∧ c.tasks ≤ 12
  q : 1 ≤ c.deque ∧ c.deque ≤ 4
  h : 1 ≤ c.heap ∧ c.heap ≤ 4
  b : 1 ≤ c.batch ∧ c.batch ≤ c.deque
  a : 0 ≤ c.age ∧ c.age ≤ 5
  p : 1 ≤ c.patience ∧ c.patience ≤ 8
theorem w1p {x : Int} (h : 0 ≤ x) (h2 : x ≤ 1000000) : wi (1 + x) = 1 + x := wi_id (rg_lit (by omega))
theorem decode_good {b : List Int} (hb : ∀ x ∈ b, 0 ≤ x ∧ x ≤ 255) (hl : b.length ≤ 1000000) : Good (r5decode b) fun o => DecOk o.1.1 := by
  unfold r5decode
  refine (num_good (N := 0) (k := 4) ⟨hb, hl, Int.le_refl 0, Int.le_refl 0⟩ (by decide) (by decide) (by decide)).bind fun r1 h1 => ?_
  refine (num_good (k := 4) h1.2 (by decide) (by decide) (by decide)).bind fun r2 h2 => ?_
  have w1 := w1p h1.1.1 (by omega)
  have w2 := w1p h2.1.1 (by omega)
  rw [w1, w2]
  refine (num_good h2.2 (by decide) (by split <;> omega) (by split <;> omega)).bind fun r3 h3 => ?_
  refine (num_good (k := 12) h3.2 (by decide) (by decide) (by decide)).bind fun r4 h4 => ?_
  refine (num_good (k := 4) h4.2 (by decide) (by decide) (by decide)).bind fun r5 h5 => ?_
  refine (num_good (k := 4) h5.2 (by decide) (by decide) (by decide)).bind fun r6 h6 => ?_
  have h3' : r3.1.1 < 3 ∧ r3.1.1 < 1 + r2.1.1 := by
    have := h3.1.2
    split at this <;> omega
  have w3 := w1p h3.1.1 (by omega)
  have w4 := w1p h4.1.1 (by omega)
  have w5 := w1p h5.1.1 (by omega)
  have w6 := w1p h6.1.1 (by omega)
  rw [w3, w4, w5, w6]
  refine (num_good h6.2 (by decide) (by omega) (by omega)).bind fun r7 h7 => ?_
  refine (num_good (k := 6) h7.2 (by decide) (by decide) (by decide)).bind fun r8 h8 => ?_
  refine (num_good (k := 8) h8.2 (by decide) (by decide) (by decide)).bind fun r9 h9 => ?_
  refine (num_good (k := 4) h9.2 (by decide) (by decide) (by decide)).bind fun r10 h10 => ?_
  have w7 := w1p h7.1.1 (by omega)
  have w9 := w1p h9.1.1 (by omega)
  have w10 := w1p h10.1.1 (by omega)
  rw [w7, w9, w10]
  refine Good.bind (P := fun z => CodOk 1000 z.2.1 ∧ NumOk z.2.2.1 ∧ z.2.2.1.levels = 1 + r2.1.1 ∧ (z.2.2.1.progs.length : Int) = 1 + r10.1.1 ∧ (∀ p ∈ z.2.2.1.progs, p.length ≤ 5 ∧ ∀ i ∈ p, InsOk (1 + r10.1.1) (1 + r2.1.1) i) ∧ z.2.2.1.subs = [])
    (lp_good (fun x => 0 ≤ x.1 ∧ x.1 ≤ 1 + r10.1.1 ∧ CodOk (10 + 30 * x.1) x.2.1 ∧ NumOk x.2.2.1 ∧ x.2.2.1.levels = 1 + r2.1.1 ∧ (x.2.2.1.progs.length : Int) = x.1 ∧ (∀ p ∈ x.2.2.1.progs, p.length ≤ 5 ∧ ∀ i ∈ p, InsOk (1 + r10.1.1) (1 + r2.1.1) i) ∧ x.2.2.1.subs = [])
      (fun x => (1 + r10.1.1 - x.1).toNat) (fun self x ⟨q0, q1, q2, q3, q4, q5, q6, q7⟩ ih => ?step) _ _ ⟨Int.le_refl 0, by show (0 : Int) ≤ 1 + r10.1.1; omega, h10.2, ?num, rfl, rfl, fun p hp => (by cases hp), rfl⟩ (by show (1 + r10.1.1 - 0).toNat < _; omega)) fun z hz => ?cont
  case step =>
    have f1 : wi (x.1 + 1) = x.1 + 1 := wi_id (rg_lit (by omega))
    refine Good.ite (fun hlt => ?_) fun hlt => .some_ ⟨q2.up (by omega), q3, q4, by show (x.2.2.1.progs.length : Int) = _; omega, q6, q7⟩
    have hlen : (x.2.2.1.progs.length : Int) < 10 := by omega
    rw [f1]
    refine (num_good (k := 6) q2 (by omega) (by decide) (by decide)).bind fun r14 h14 => ?_
    refine Good.bind (P := fun z => z.1.length ≤ 5 ∧ (∀ i ∈ z.1, InsOk (1 + r10.1.1) (1 + r2.1.1) i) ∧ CodOk (10 + 30 * x.1 + 26) z.2.2.1)
      (lp_good (fun y => 0 ≤ y.2.1 ∧ (y.1.length : Int) + y.2.1 = r14.1.1 ∧ CodOk (10 + 30 * x.1 + 1 + 5 * (r14.1.1 - y.2.1)) y.2.2.1 ∧ ∀ i ∈ y.1, InsOk (1 + r10.1.1) (1 + r2.1.1) i)
        (fun y => y.2.1.toNat) (fun self y ⟨p0, p1, p2, p3⟩ ih => ?_) _ _ ⟨h14.1.1, by show ((0 : Nat) : Int) + r14.1.1 = _; omega, h14.2.up (by show 10 + 30 * x.1 + 1 ≤ 10 + 30 * x.1 + 1 + 5 * (r14.1.1 - r14.1.1); omega), fun i hi => (by cases hi)⟩ (by show r14.1.1.toNat < _; omega)) fun z hz => ?_
    · refine .guard (by show (((x.2.2.1.progs.length + 1 : Nat)) : Int) < _; omega) fun _ => ih _ ⟨by show 0 ≤ x.1 + 1; omega, by show x.1 + 1 ≤ _; omega, hz.2.2.up (by show 10 + 30 * x.1 + 26 ≤ 10 + 30 * (x.1 + 1); omega), ⟨q3.w, q3.l, q3.k, q3.t, q3.q, q3.h, q3.b, q3.a, q3.p⟩, q4, ?_, ?_, q7⟩ ?_
      · show (((x.2.2.1.progs ++ [z.1]).length : Nat) : Int) = x.1 + 1
        rw [List.length_append, List.length_singleton]; omega
      · intro p hp
        rcases List.mem_append.1 hp with hp | hp
        · exact q6 p hp
        · rw [List.mem_singleton] at hp; subst hp; exact ⟨hz.1, hz.2.1⟩
      · show (1 + r10.1.1 - (x.1 + 1)).toNat < (1 + r10.1.1 - x.1).toNat
        omega
    · have f2 : wi (y.2.1 - 1) = y.2.1 - 1 := wi_id (rg_lit (by omega))
      have hyl : y.1.length ≤ 5 := by omega
      refine Good.ite (fun hlt2 => ?_) fun hlt2 => .some_ ⟨hyl, p3, p2.up (by omega)⟩
      rw [f2, q4]
      have nx : ∀ (u : Ins) (r : CodV), InsOk (1 + r10.1.1) (1 + r2.1.1) u → CodOk (10 + 30 * x.1 + 1 + 5 * (r14.1.1 - (y.2.1 - 1))) r → Good (if (((y.1.length + ([u] : List Ins).length : Nat)) : Int) < 1000000000000 then self (y.1 ++ [u], y.2.1 - 1, r, ()) else none) fun z => z.1.length ≤ 5 ∧ (∀ i ∈ z.1, InsOk (1 + r10.1.1) (1 + r2.1.1) i) ∧ CodOk (10 + 30 * x.1 + 26) z.2.2.1 := fun u r hu hr =>
        .guard (by show (((y.1.length + 1 : Nat)) : Int) < _; omega) fun _ => ih _ ⟨by show 0 ≤ y.2.1 - 1; omega, by
          show (((y.1 ++ [u]).length : Nat) : Int) + (y.2.1 - 1) = _
          rw [List.length_append, List.length_singleton]; omega, hr, fun i hi => by
          rcases List.mem_append.1 hi with hi | hi
          · exact p3 i hi
          · rw [List.mem_singleton] at hi; subst hi; exact hu⟩ (by show (y.2.1 - 1).toNat < y.2.1.toNat; omega)
      refine (num_good (k := 3) p2 (by omega) (by decide) (by decide)).bind fun r18 h18 => ?_
      refine Good.ite (fun e0 => ?_) fun e0 => Good.ite (fun e1 => ?_) fun e1 => ?_
      · refine (num_good (k := 4) h18.2 (by omega) (by decide) (by decide)).bind fun r19 h19 => ?_
        rw [w1p h19.1.1 (by omega)]
        exact nx _ _ (.inl ⟨e0, by show 1 ≤ 1 + r19.1.1; omega, by show 1 + r19.1.1 ≤ 4; omega, rfl⟩) (h19.2.up (by omega))
      · refine (num_good (k := 1 + r10.1.1) h18.2 (by omega) (by omega) (by omega)).bind fun r20 h20 => ?_
        refine (num_good (k := 1 + r2.1.1) h20.2 (by omega) (by omega) (by omega)).bind fun r21 h21 => ?_
        exact nx _ _ (.inr (.inl ⟨e1, h20.1.1, h20.1.2, h21.1.1, h21.1.2⟩)) (h21.2.up (by omega))
      · refine (num_good (k := 4) h18.2 (by omega) (by decide) (by decide)).bind fun r22 h22 => ?_
        exact nx _ _ (.inr (.inr ⟨by show r18.1.1 = 2; omega, h22.1.1, by show r22.1.1 ≤ 3; omega, rfl⟩)) (h22.2.up (by omega))
  case num =>
    refine ⟨?_, ?_, ?_, ?_, ?_, ?_, ?_, ?_, ?_⟩
    · exact ⟨by show 1 ≤ 1 + r1.1.1; omega, by show 1 + r1.1.1 ≤ 4; omega⟩
    · exact ⟨by show 1 ≤ 1 + r2.1.1; omega, by show 1 + r2.1.1 ≤ 4; omega⟩
    · exact ⟨by show 1 ≤ 1 + r3.1.1; omega, by show 1 + r3.1.1 ≤ 3; omega, by show 1 + r3.1.1 ≤ 1 + r2.1.1; omega⟩
    · exact ⟨by show 1 ≤ 1 + r4.1.1; omega, by show 1 + r4.1.1 ≤ 12; omega⟩
    · exact ⟨by show 1 ≤ 1 + r5.1.1; omega, by show 1 + r5.1.1 ≤ 4; omega⟩
    · exact ⟨by show 1 ≤ 1 + r6.1.1; omega, by show 1 + r6.1.1 ≤ 4; omega⟩
    · exact ⟨by show 1 ≤ 1 + r7.1.1; omega, by show 1 + r7.1.1 ≤ 1 + r5.1.1; omega⟩
    · exact ⟨h8.1.1, by show r8.1.1 ≤ 5; omega⟩
    · exact ⟨by show 1 ≤ 1 + r9.1.1; omega, by show 1 + r9.1.1 ≤ 8; omega⟩
  case cont =>
    obtain ⟨g1, g2, g3, g4, g5, g6⟩ := hz
    refine (num_good (k := 6) g1 (by decide) (by decide) (by decide)).bind fun r23 h23 => ?_
    refine Good.bind (P := fun y => DecOk y.2.2.1)
      (lp_good (fun y => 0 ≤ y.1 ∧ (y.2.2.1.subs.length : Int) + y.1 = r23.1.1 ∧ CodOk (1001 + 5 * (r23.1.1 - y.1)) y.2.1 ∧ NumOk y.2.2.1 ∧ y.2.2.1.levels = 1 + r2.1.1 ∧ (y.2.2.1.progs.length : Int) = 1 + r10.1.1 ∧ (∀ p ∈ y.2.2.1.progs, p.length ≤ 5 ∧ ∀ i ∈ p, InsOk (1 + r10.1.1) (1 + r2.1.1) i) ∧ ∀ s ∈ y.2.2.1.subs, SubOk (1 + r10.1.1) (1 + r2.1.1) s)
        (fun y => y.1.toNat) (fun self y ⟨p0, p1, p2, p3, p4, p5, p6, p7⟩ ih => ?_) _ _ ⟨h23.1.1, by show ((z.2.2.1.subs.length : Nat) : Int) + r23.1.1 = r23.1.1; rw [g6]; show ((0 : Nat) : Int) + r23.1.1 = r23.1.1; omega, h23.2.up (by show (1001 : Int) ≤ 1001 + 5 * (r23.1.1 - r23.1.1); omega), g2, g3, g4, g5, fun s hs => by
          have hs2 : s ∈ z.2.2.1.subs := hs
          rw [g6] at hs2; cases hs2⟩ (by show r23.1.1.toNat < _; omega)) fun y hy => .some_ hy
    have f2 : wi (y.1 - 1) = y.1 - 1 := wi_id (rg_lit (by omega))
    have hyl : y.2.2.1.subs.length ≤ 5 := by omega
    refine Good.ite (fun hlt => ?_) fun hlt => .some_ ⟨p3.w, p3.l, p3.k, p3.t, p3.q, p3.h, p3.b, p3.a, p3.p, by show 1 ≤ y.2.2.1.progs.length ∧ y.2.2.1.progs.length ≤ 4; omega, fun x hx => (p6 x hx).1, fun x hx i hi => by
      have := (p6 x hx).2 i hi
      rw [p5, p4]; exact this, hyl, fun s hs => by
      have := p7 s hs
      rw [p5, p4]; exact this⟩
    rw [f2, p4]
    refine (num_good (k := 1 + r10.1.1) p2 (by omega) (by omega) (by omega)).bind fun r27 h27 => ?_
    refine (num_good (k := 1 + r2.1.1) h27.2 (by omega) (by omega) (by omega)).bind fun r28 h28 => ?_
    refine (num_good (k := 16) h28.2 (by omega) (by omega) (by omega)).bind fun r29 h29 => ?_
    refine .guard (by show (((y.2.2.1.subs.length + 1 : Nat)) : Int) < _; omega) fun _ => ih _ ⟨by show 0 ≤ y.1 - 1; omega, ?_, h29.2.up (by show 1001 + 5 * (r23.1.1 - y.1) + 1 + 1 + 1 ≤ 1001 + 5 * (r23.1.1 - (y.1 - 1)); omega), ⟨p3.w, p3.l, p3.k, p3.t, p3.q, p3.h, p3.b, p3.a, p3.p⟩, p4, p5, p6, ?_⟩ (by show (y.1 - 1).toNat < y.1.toNat; omega)
    · show (((y.2.2.1.subs ++ [_]).length : Nat) : Int) + (y.1 - 1) = _
      rw [List.length_append, List.length_singleton]; omega
    · intro s hs
      rcases List.mem_append.1 hs with hs | hs
      · exact p7 s hs
      · rw [List.mem_singleton] at hs; subst hs
        exact ⟨h27.1, h28.1, h29.1.1, by show r29.1.1 ≤ 15; omega⟩
end
section
open Go Go.RowKit
set_option maxRecDepth 100000
variable [Tb]
theorem obind {α β : Type} (a : α) (f : α → Option β) : (some a).bind f = f a := rfl
/-- The lengths of a configuration's lists are plain. -/
structure LenOk (c : Cfg) : Prop where
  ps : c.progs.length ≤ 1000000
  pl : ∀ p ∈ c.progs, p.length ≤ 1000000
  ss : c.subs.length ≤ 1000000
theorem progs_len {lv np : Int} : ∀ {ps : List (List Ins)}, progsErr lv np ps = 0 → ∀ p ∈ ps, p.length ≤ 32
  | [], _, p, h => by cases h
  | q :: ps, h, p, hm => by
    unfold progsErr at h
    split at h
    · omega
    · split at h
      · rcases List.mem_cons.1 hm with e | e
        · subst e; omega
        · exact progs_len h p e
      · omega
theorem valid_len {c : Cfg} (h : cfgErr c = 0) : numsOk c = true ∧ c.progs.length ≤ 32 ∧ (∀ p ∈ c.progs, p.length ≤ 32) ∧ c.subs.length ≤ 64 := by
  unfold cfgErr at h
  split at h
  · omega
  · rename_i hn
    split at h
    · omega
    · rename_i hp
      have hp0 : progsAll c = 0 := by omega
      unfold progsAll at hp0
      split at hp0
      · omega
      · rename_i hl
        simp only [inB, Bool.not_eq_true', Bool.and_eq_false_iff, decide_eq_false_iff_not, not_or, Classical.not_not, Bool.not_eq_false, Bool.and_eq_true, decide_eq_true_eq] at hl
        refine ⟨by simpa using hn, by omega, progs_len hp0, ?_⟩
        unfold subsAll at h
        split at h
        · omega
        · omega
theorem LenOk.of {c : Cfg} (h : cfgErr c = 0) : LenOk c := by
  obtain ⟨_, h1, h2, h3⟩ := valid_len h
  exact ⟨by omega, fun p hp => by have := h2 p hp; omega, by omega⟩
abbrev ClS := Int × Int × Int × Int × Int × Int × Int × Int × Int × List (List Ins) × List Sub × Unit
def clS (c : Cfg) : ClS := (c.workers, c.levels, c.classes, c.tasks, c.deque, c.heap, c.batch, c.age, c.patience, c.progs, c.subs, ())
theorem set_sameP {α : Type} {xs : List α} {i : Nat} {x : α} (h : xs[i]? = some x) : xs.set i x = xs := by
  obtain ⟨hlt, rfl⟩ := List.getElem?_eq_some_iff.1 h
  simp
theorem clone_eq {c : Cfg} (h : LenOk c) : configClone c = some ((c, ()), ()) := by
  have hg : Good (configClone c) fun o => o.1.1 = c := by
    unfold configClone
    have e0 : cloneRows c.progs = some ((c.progs, ()), ()) := by unfold cloneRows; rw [if_pos h.ps]
    rw [e0, obind]
    refine Good.bind (P := fun z => z.2.1 = clS c) (lp_good (fun x => x.2.1 = clS c ∧ 0 ≤ x.1 ∧ x.1 ≤ (c.progs.length : Int)) (fun x => ((c.progs.length : Int) - x.1).toNat) (fun self x ⟨q0, q1, q2⟩ ih => ?_) _ _ ⟨rfl, Int.le_refl 0, by show (0 : Int) ≤ _; omega⟩ (by show ((c.progs.length : Int) - 0).toNat < _; have := h.ps; omega)) fun z hz => ?_
    rotate_left
    · obtain ⟨i, s, u⟩ := x
      simp only at q0 q1 q2
      subst q0
      refine Good.ite (fun hlt => ?_) fun _ => .some_ rfl
      have hin : 0 ≤ i ∧ i < ((c.progs.length : Nat) : Int) := ⟨q1, hlt⟩
      refine Good.guard (show 0 ≤ i ∧ i < (((clS c).2.2.2.2.2.2.2.2.2.1.length : Nat) : Int) from hin) fun _ => ?_
      have hm := h.pl _ (at_in (d := (dfR 18 : List Ins)) hin)
      have e1 : cloneIns (atK18 (clS c).2.2.2.2.2.2.2.2.2.1 i) = some ((atK18 c.progs i, ()), ()) := by
        unfold cloneIns; exact if_pos hm
      rw [e1, obind]
      refine Good.guard (show 0 ≤ i ∧ i < (((clS c).2.2.2.2.2.2.2.2.2.1.length : Nat) : Int) from hin) fun _ => ?_
      have e2 : wi (i + 1) = i + 1 := wi_id (rg_lit (by have := h.ps; omega))
      have e3 : c.progs.set i.toNat (atK18 c.progs i) = c.progs := set_sameP (atL_get hin)
      rw [e2]
      refine ih _ ⟨?_, by show 0 ≤ i + 1; omega, by show i + 1 ≤ _; omega⟩ (by show ((c.progs.length : Int) - (i + 1)).toNat < ((c.progs.length : Int) - i).toNat; omega)
      show (c.workers, c.levels, c.classes, c.tasks, c.deque, c.heap, c.batch, c.age, c.patience, c.progs.set i.toNat (atK18 c.progs i), c.subs, ()) = clS c
      rw [e3]; rfl
    · rw [hz]
      have e4 : cloneSubs (clS c).2.2.2.2.2.2.2.2.2.2.1 = some ((c.subs, ()), ()) := by unfold cloneSubs; exact if_pos h.ss
      rw [e4, obind]
      exact .some_ rfl
  obtain ⟨o, e, ho⟩ := hg
  rw [e]
  obtain ⟨⟨o1, ⟨⟩⟩, ⟨⟩⟩ := o
  simp only at ho
  rw [ho]
/-- The layout of a configuration. -/
def layV (c : Cfg) : LayV := { workers := c.workers, levels := c.levels, classes := c.classes, tasks := c.tasks, deque := c.deque, heap := c.heap, sleepers := 4 + c.heap, epochs := 4 + c.heap + c.classes, bitmaps := 4 + c.heap + c.classes + c.workers, queues := 4 + c.heap + c.classes + c.workers + c.workers, table := 4 + c.heap + c.classes + c.workers + c.workers + c.workers * c.levels * (2 + c.deque) }
def cellsN (c : Cfg) : Int := (layV c).table + 5 * c.tasks
theorem mulb {a b A B : Int} (ha : 0 ≤ a) (hA : a ≤ A) (hb : 0 ≤ b) (hB : b ≤ B) : 0 ≤ a * b ∧ a * b ≤ A * B :=
  ⟨Int.mul_nonneg ha hb, Int.le_trans (Int.mul_le_mul_of_nonneg_right hA hb) (Int.mul_le_mul_of_nonneg_left hB (Int.le_trans ha hA))⟩
theorem table_rg {c : Cfg} (h : numsOk c = true) : (0 ≤ c.workers * c.levels ∧ c.workers * c.levels ≤ 1024) ∧ (0 ≤ c.workers * c.levels * (2 + c.deque) ∧ c.workers * c.levels * (2 + c.deque) ≤ 67584) := by
  have hs := numsOk_spec h
  have h1 := mulb (a := c.workers) (b := c.levels) (A := 16) (B := 64) (by omega) (by omega) (by omega) (by omega)
  have h2 := mulb (a := c.workers * c.levels) (b := 2 + c.deque) (A := 1024) (B := 66) h1.1 (by omega) (by omega) (by omega)
  omega
theorem layout_eq {c : Cfg} (h : cfgErr c = 0) : layoutNew c = some ((layV c, 0, ()), ()) := by
  have hn := (valid_len h).1
  have hs := numsOk_spec hn
  have ht := table_rg hn
  unfold layoutNew cfgCheck
  rw [obind]
  have e0 : ¬ cfgErr c ≠ 0 := by omega
  simp only [if_neg e0]
  have e1 : wi (4 + c.heap) = 4 + c.heap := wi_id (rg_lit (by omega))
  have e2 : wi (4 + c.heap + c.classes) = 4 + c.heap + c.classes := wi_id (rg_lit (by omega))
  have e3 : wi (4 + c.heap + c.classes + c.workers) = 4 + c.heap + c.classes + c.workers := wi_id (rg_lit (by omega))
  have e4 : wi (4 + c.heap + c.classes + c.workers + c.workers) = 4 + c.heap + c.classes + c.workers + c.workers := wi_id (rg_lit (by omega))
  have e5 : wi (c.workers * c.levels) = c.workers * c.levels := wi_id (rg_lit (by omega))
  have e6 : wi (2 + c.deque) = 2 + c.deque := wi_id (rg_lit (by omega))
  have e7 : wi (c.workers * c.levels * (2 + c.deque)) = c.workers * c.levels * (2 + c.deque) := wi_id (rg_lit (by omega))
  have e8 : wi (4 + c.heap + c.classes + c.workers + c.workers + c.workers * c.levels * (2 + c.deque)) = 4 + c.heap + c.classes + c.workers + c.workers + c.workers * c.levels * (2 + c.deque) := wi_id (rg_lit (by omega))
  simp only [e1, e2, e3, e4, e5, e6, e7, e8]
  rfl
def rec0 : RecP := ⟨0, -1, 0, 0, -1, [], false⟩
/-- The environment behind New. -/
def envV (c : Cfg) : EnvP := ⟨c, layV c, ⟨List.replicate (cellsN c).toNat 0, ⟨0, 0, 0, 0⟩, 0⟩, ⟨0, 0⟩, List.replicate c.tasks.toNat rec0, []⟩
theorem new_eq {c : Cfg} (h : cfgErr c = 0) : machineNew c = some ((envV c, 0, ()), ()) := by
  have hn := (valid_len h).1
  have hs := numsOk_spec hn
  have ht := table_rg hn
  have hg : Good (machineNew c) fun o => o.1.1 = envV c ∧ o.1.2.1 = 0 := by
    unfold machineNew
    rw [layout_eq h, obind]
    refine Good.ite (fun e => absurd rfl e) fun _ => ?_
    have c1 : wi (5 * c.tasks) = 5 * c.tasks := wi_id (rg_lit (by omega))
    have c2 : wi ((layV c).table + 5 * c.tasks) = cellsN c := wi_id (rg_lit (by unfold layV; simp only; omega))
    have e1 : pCells (layV c) = some ((cellsN c, ()), ()) := by
      unfold pCells
      have : wi (5 * (layV c).tasks) = 5 * c.tasks := c1
      rw [this, c2]
    rw [e1, obind]
    have hc : 0 ≤ cellsN c ∧ cellsN c ≤ 131072 := by unfold cellsN layV; simp only; omega
    have e2 : machineBare (cellsN c) = some ((⟨⟨0, 0, 0, 0, 0, 0, 0, 0, 0, [], []⟩, ⟨0, 0, 0, 0, 0, 0, 0, 0, 0, 0, 0⟩, ⟨List.replicate (cellsN c).toNat 0, ⟨0, 0, 0, 0⟩, 0⟩, ⟨0, 0⟩, [], []⟩, ()), ()) := by
      unfold machineBare memoryNew clockNew
      have i1 : (if cellsN c < 0 then (0 : Int) else cellsN c) = cellsN c := if_neg (by omega)
      have i2 : (if 131072 < cellsN c then (131072 : Int) else cellsN c) = cellsN c := if_neg (by omega)
      have i3 : 0 ≤ cellsN c ∧ cellsN c ≤ 1099511627776 := by omega
      simp only [i1, i2, if_true, if_pos i3, obind]
    rw [e2, obind, clone_eq (.of h), obind]
    simp only [if_true]
    refine Good.bind (P := fun z => z.2.1 = envV c) (lp_good (fun x => 0 ≤ x.1 ∧ x.1 ≤ c.tasks ∧ x.2.1 = { envV c with recs := List.replicate x.1.toNat rec0 }) (fun x => (c.tasks - x.1).toNat) (fun self x ⟨q0, q1, q2⟩ ih => ?_) _ _ ⟨Int.le_refl 0, by show (0 : Int) ≤ _; omega, rfl⟩ (by show (c.tasks - 0).toNat < _; omega)) fun z hz => .some_ ⟨hz, rfl⟩
    obtain ⟨i, e, u⟩ := x
    simp only at q0 q1 q2
    subst q2
    refine Good.ite (fun hlt => ?_) fun hge => .some_ ?_
    · have hl : (List.replicate i.toNat rec0).length = i.toNat := List.length_replicate
      refine Good.guard ?_ fun _ => ?_
      · show (((List.replicate i.toNat rec0).length + 1 : Nat) : Int) < 100000000000
        rw [hl]
        have hlt' : i < c.tasks := hlt
        omega
      · have hlt' : i < c.tasks := hlt
        have e2 : wi (i + 1) = i + 1 := wi_id (rg_lit (by omega))
        rw [e2]
        refine ih _ ⟨by show 0 ≤ i + 1; omega, by show i + 1 ≤ _; omega, ?_⟩ (by show (c.tasks - (i + 1)).toNat < (c.tasks - i).toNat; omega)
        show ({ envV c with recs := List.replicate i.toNat rec0 ++ [rec0] } : EnvP) = { envV c with recs := List.replicate (i + 1).toNat rec0 }
        have e3 : (i + 1).toNat = i.toNat + 1 := by omega
        rw [e3, List.replicate_succ']
    · show ({ envV c with recs := List.replicate i.toNat rec0 } : EnvP) = envV c
      have : i = c.tasks := by have hge' : ¬ i < c.tasks := hge; omega
      rw [this]; rfl
  obtain ⟨o, e, ho1, ho2⟩ := hg
  rw [e]
  obtain ⟨⟨o1, o2, ⟨⟩⟩, ⟨⟩⟩ := o
  simp only at ho1 ho2
  rw [ho1, ho2]
end
section
open Go
variable [Tb]
theorem valid_of {c : Cfg} (h : DecOk c) {t hp' : Int} (ht : 1 ≤ t ∧ t ≤ 12) (hh : 1 ≤ hp' ∧ hp' ≤ 8) : cfgErr { c with tasks := t, heap := hp' } = 0 := by
  have hp : ∀ ps : List (List Ins), (∀ x ∈ ps, x ∈ c.progs) → progsErr c.levels c.progs.length ps = 0 := fun ps => by
    induction ps with
    | nil => intro _; rfl
    | cons p ps ih =>
      intro hm
      have h1 := h.pl p (hm p (List.mem_cons_self ..))
      unfold progsErr
      rw [if_neg (by omega), if_pos]
      · exact ih fun x hx => hm x (List.mem_cons_of_mem _ hx)
      · refine List.all_eq_true.2 fun i hi => ?_
        have h2 := h.ps p (hm p (List.mem_cons_self ..)) i hi
        unfold insOk
        rcases h2 with ⟨a, b, d, e⟩ | ⟨a, b, d, e, f⟩ | ⟨a, b, d, e⟩
        · rw [if_pos a]; simp only [inB, e, Bool.and_eq_true, decide_eq_true_eq, beq_self_eq_true, and_true]; omega
        · rw [if_neg (by omega), if_pos a]; simp only [inB, Bool.and_eq_true, decide_eq_true_eq]; omega
        · rw [if_neg (by omega), if_neg (by omega), if_pos a]; simp only [inB, e, Bool.and_eq_true, decide_eq_true_eq, beq_self_eq_true, and_true]; omega
  have hs : ∀ ss : List Sub, (∀ x ∈ ss, x ∈ c.subs) → subsErr c.levels c.progs.length ss = 0 := fun ss => by
    induction ss with
    | nil => intro _; rfl
    | cons s ss ih =>
      intro hm
      have h1 := h.ss s (hm s (List.mem_cons_self ..))
      have e : subErr c.levels c.progs.length s = 0 := by
        unfold subErr
        have e1 : inB s.prog 0 ((c.progs.length : Int) - 1) = true := by simp only [inB, Bool.and_eq_true, decide_eq_true_eq]; omega
        have e2 : inB s.level 0 (c.levels - 1) = true := by simp only [inB, Bool.and_eq_true, decide_eq_true_eq]; omega
        have e3 : inB s.deadline 0 16777215 = true := by simp only [inB, Bool.and_eq_true, decide_eq_true_eq]; omega
        rw [e1, e2, e3]; rfl
      unfold subsErr
      rw [if_pos e]
      exact ih fun x hx => hm x (List.mem_cons_of_mem _ hx)
  have hn : numsOk { c with tasks := t, heap := hp' } = true := by
    have := h.w; have := h.l; have := h.k; have := h.t; have := h.q; have := h.h; have := h.b; have := h.a; have := h.p
    simp only [numsOk, inB, Bool.and_eq_true, decide_eq_true_eq]
    have e : (if c.levels < 8 then c.levels else 8) = c.levels := if_pos (by omega)
    rw [e]
    omega
  have hpa : progsAll { c with tasks := t, heap := hp' } = 0 := by
    have := h.pn
    unfold progsAll
    have e : inB (c.progs.length : Int) 1 32 = true := by simp only [inB, Bool.and_eq_true, decide_eq_true_eq]; omega
    rw [e]
    exact hp c.progs fun _ hx => hx
  have hsa : subsAll { c with tasks := t, heap := hp' } = 0 := by
    have := h.sn
    unfold subsAll
    rw [if_neg (show ¬ 64 < c.subs.length by omega)]
    exact hs c.subs fun _ hx => hx
  unfold cfgErr
  rw [hn, hpa]
  exact hsa
theorem dec_valid {c : Cfg} (h : DecOk c) : cfgErr c = 0 := by
  have := h.h
  exact valid_of h (t := c.tasks) (hp' := c.heap) h.t (by omega)
theorem config_good {b : List Int} (hb : ∀ x ∈ b, 0 ≤ x ∧ x ≤ 255) (hl : b.length ≤ 1000000) : Good (kconfig b) fun o => DecOk o.1.1 := by
  have := decode_good hb hl
  unfold kconfig
  refine this.bind fun o ho => .some_ ?_
  exact ho
end
section
open Go Go.RowKit
set_option maxRecDepth 100000
variable [Tb]
theorem count_eq (m : MemV) : memoryMemoryCount m = some ((m.count, ()), (m, ())) := id rfl
theorem last_eq (m : MemV) : memoryMemoryLast m = some ((m.last, ()), (m, ())) := id rfl
theorem cells_eq (m : MemV) (h : m.cells.length ≤ 1000000) : memoryMemoryCells m = some ((m.cells, ()), (m, ())) := by
  unfold memoryMemoryCells cloneU64
  rw [if_pos h]
  rfl
/-- The environment behind K steps. -/
structure EI (c : Cfg) (K : Nat) (e : EnvP) : Prop where
  ok : EOk K e
  l : e.l = layV c
  c : e.c = c
  ct : 0 ≤ e.m.count ∧ e.m.count ≤ K
  cl : e.m.cells.length ≤ 1000000
def mnC (c : Cfg) : Int := if 16 < c.workers then 16 else c.workers
def WI (c : Cfg) (K : Nat) (j : Int) (w : WorkerV MV) : Prop := ∃ k, w = workC (layV c) j k ∧ WorkOk K (mnC c) k
def CI (c : Cfg) (l : ClientV MV) : Prop := ∃ k, l = clieC c.subs c.workers k ∧ 0 ≤ k.i
section
variable {c : Cfg} {K : Nat} {e : EnvP} {j : Int} {w : WorkerV MV} {l : ClientV MV}
theorem EI.many (h : EI c K e) : manyP e = mnC c := by unfold manyP mnC; rw [h.c]
theorem one_ct {m m' : MemV} (h : One m m') {K : Nat} (hc : 0 ≤ m.count ∧ m.count ≤ K) (hK : K ≤ 1000000) : (0 ≤ m'.count ∧ m'.count ≤ ((K + 3 : Nat) : Int)) ∧ m'.cells.length = m.cells.length := by
  cases h with
  | no => exact ⟨by omega, rfl⟩
  | yes k a v h hk =>
    refine ⟨?_, by simp⟩
    show 0 ≤ wi (m.count + 1) ∧ wi (m.count + 1) ≤ _
    rw [wi_id (rg_lit (by omega))]
    omega
theorem EI.stp (h : EI c K e) (hK : K ≤ 1000000) {e' : EnvP} (s : Stp 2 e e') : EI c (K + 3) e' :=
  have h1 := one_ct s.m h.ct hK
  ⟨h.ok.step s, by rw [s.l]; exact h.l, by rw [s.c]; exact h.c, h1.1, by rw [h1.2]; exact h.cl⟩
theorem WorkOk.up {K L : Nat} (h : K ≤ L) {n : Int} {k : WorkS} (hw : WorkOk K n k) : WorkOk L n k := by
  obtain ⟨a, b, d, f, g⟩ := k
  cases g with
  | t7 s => exact ⟨hw.1, Nat.le_trans hw.2 h⟩
  | t3 s => exact hw
  | t4 s => exact hw
  | _ => trivial
theorem WI.up {K L : Nat} (h : K ≤ L) (hw : WI c K j w) : WI c L j w := by
  obtain ⟨k, h1, h2⟩ := hw
  exact ⟨k, h1, h2.up h⟩
theorem wi_step (h : EI c K e) (hK : 1 ≤ K ∧ K ≤ 1000000) (hw : WI c K j w) : Good (workerWorkerStep w e) fun o => One e.m o.2.2.1.m ∧ EI c (K + 3) o.2.2.1 ∧ WI c (K + 3) j o.2.1 := by
  obtain ⟨k, rfl, hk⟩ := hw
  rw [← h.many] at hk
  have h1 := work_sim (w := j) h.ok (by omega) k hk
  have h2 := work_nx (w := j) h.ok k
  have h3 := work_ok (w := j) h.ok k hk hK.1
  rw [h.many] at h3
  rw [h.l] at h1
  exact ⟨_, h1, h2.m, h.stp hK.2 h2, _, rfl, h3.up (by omega)⟩
theorem ci_step (h : EI c K e) (hK : 1 ≤ K ∧ K ≤ 1000000) (hs : c.subs.length ≤ 1000000) (hc : CI c l) : Good (clientClientStep l e) fun o => One e.m o.2.2.1.m ∧ EI c (K + 3) o.2.2.1 ∧ CI c o.2.1 := by
  obtain ⟨k, rfl, hk⟩ := hc
  have h1 := clie_sim (subs := c.subs) (me := c.workers) h.ok (by omega) k hk
  have h2 := clie_nx (subs := c.subs) (me := c.workers) h.ok k
  have h3 := clie_i (e := e) (subs := c.subs) (me := c.workers) hs k hk
  exact ⟨_, h1, h2.m, h.stp hK.2 h2, _, rfl, h3⟩
theorem EI.up {L : Nat} (h : K ≤ L) (he : EI c K e) : EI c L e := ⟨⟨he.ok.dq, he.ok.tk, he.ok.ct, he.ok.wk, by have := he.ok.ev; omega, fun r hr => by have := he.ok.kd r hr; omega⟩, he.l, he.c, by have := he.ct; omega, he.cl⟩
theorem EI.clk {k : ClkV} (he : EI c K e) : EI c K { e with k := k } := ⟨⟨he.ok.dq, he.ok.tk, he.ok.ct, he.ok.wk, he.ok.ev, he.ok.kd⟩, he.l, he.c, he.ct, he.cl⟩
theorem mach_good {x : EntV} {n : Int} (hn : 1 ≤ n ∧ n ≤ 1000) (h : x.kind = 0) : Good (scriptMachine x n) fun o => 0 ≤ o.1.1 ∧ o.1.1 < n := by
  have h1 : Int.tmod x.value n < n ∧ -n < Int.tmod x.value n := by
    constructor
    · exact Int.tmod_lt_of_pos _ (by omega)
    · have h2 : Int.tmod (-x.value) n < n := Int.tmod_lt_of_pos _ (by omega)
      rw [Int.neg_tmod] at h2
      omega
  unfold scriptMachine
  rw [if_neg (fun h' => h' h), if_neg (by omega), if_pos (by omega)]
  refine Good.ite (fun hl => ?_) fun hl => .some_ ⟨by show 0 ≤ Int.tmod x.value n; omega, h1.1⟩
  rw [wi_id (rg_lit (by omega))]
  exact .some_ ⟨by show 0 ≤ Int.tmod x.value n + n; omega, by show Int.tmod x.value n + n < n; omega⟩
end
theorem ei_new {c : Cfg} (h : DecOk c) : EI c 1 (envV c) := by
  have hn := (valid_len (dec_valid h)).1
  have ht := table_rg hn
  have h1 := h.w
  have h2 := h.l
  have h3 := h.k
  have h4 := h.t
  have h5 := h.q
  have h6 := h.h
  refine ⟨⟨?_, ?_, ?_, ?_, Nat.zero_le _, fun r hr => ?_⟩, rfl, rfl, ⟨Int.le_refl 0, by show (0 : Int) ≤ 1; omega⟩, ?_⟩
  · show 0 ≤ c.deque ∧ c.deque ≤ 65535; omega
  · show c.tasks = ((List.replicate c.tasks.toNat rec0).length : Int)
    rw [List.length_replicate]; omega
  · show c.tasks = ((List.replicate c.tasks.toNat rec0).length : Int)
    rw [List.length_replicate]; omega
  · show 1 ≤ c.workers; omega
  · have := List.eq_of_mem_replicate hr
    rw [this]
    exact Nat.zero_le _
  · show (List.replicate (cellsN c).toNat 0).length ≤ _
    rw [List.length_replicate]
    unfold cellsN layV
    simp only
    omega
theorem ci_new {c : Cfg} (h : DecOk c) : clientNew c = some ((clieC c.subs c.workers ⟨0, 0, false, .n1⟩, ()), ()) := by
  unfold clientNew
  rw [clone_eq (.of (dec_valid h)), bnd, if_pos rfl]
theorem wk_new {l : LayV} {j : Int} : workerNew j = some ((workC l j ⟨0, 0, 0, 0, .top⟩, ()), ()) := rfl
theorem wi_new {c : Cfg} {j : Int} : WI c 1 j (workC (layV c) j ⟨0, 0, 0, 0, .top⟩) := ⟨_, rfl, trivial⟩
theorem ci_ok {c : Cfg} : CI c (clieC c.subs c.workers ⟨0, 0, false, .n1⟩) := ⟨_, rfl, Int.le_refl 0⟩
end
section
open Go Go.RowKit
set_option maxRecDepth 100000
variable [Tb]
theorem stamp_good2 {N : Nat} {env : EnvP} {eng : EngT} (F : (EnvP × EngT × Unit → Option (EnvP × EngT × Unit)) → EnvP × EngT × Unit → Option (EnvP × EngT × Unit))
    (hF : ∀ self x, F self x = if ((x.2.1.2.1.length : Nat) : Int) < ((x.1.evs.length : Nat) : Int) then
        if (((x.2.1.2.1.length + ([x.2.1.1] : List Int).length : Nat)) : Int) < 1000000000000 then self (x.1, (x.2.1.1, x.2.1.2.1 ++ ([x.2.1.1]), x.2.1.2.2.1, x.2.1.2.2.2.1, x.2.1.2.2.2.2.1, x.2.1.2.2.2.2.2.1, ()), ()) else none
      else some (x.1, (x.2.1.1, x.2.1.2.1, x.2.1.2.2.1, x.2.1.2.2.2.1, x.2.1.2.2.2.2.1, x.2.1.2.2.2.2.2.1, ()), ()))
    (h : eng.2.1.length ≤ N) (he : env.evs.length ≤ N) (hN : N ≤ 999999999) :
    Good (lpF F 18446744073709551616 (env, eng, ())) fun z => z.1 = env ∧ z.2.1.2.1.length ≤ N ∧ env.evs.length ≤ z.2.1.2.1.length := by
  refine lp_good (fun x => x.1 = env ∧ x.2.1.2.1.length ≤ N) (fun x => env.evs.length - x.2.1.2.1.length) (fun self x hx ih => ?_) _ _ ⟨rfl, h⟩ (by show env.evs.length - _ < _; omega)
  obtain ⟨e, ⟨n, st, a, b, c, d, ⟨⟩⟩, ⟨⟩⟩ := x
  obtain ⟨h1, h2⟩ := hx
  simp only at h1 h2
  subst h1
  rw [hF]
  refine Good.ite (fun hlt => ?_) fun hge => ?_
  · have hlt : ((st.length : Nat) : Int) < ((e.evs.length : Nat) : Int) := hlt
    refine Good.guard (by simp only [List.length_singleton]; omega) fun _ => ?_
    refine ih _ ⟨rfl, ?_⟩ ?_
    · show (st ++ [n]).length ≤ _
      rw [List.length_append, List.length_singleton]
      omega
    · show e.evs.length - (st ++ [n]).length < e.evs.length - st.length
      rw [List.length_append, List.length_singleton]
      omega
  · have hge : ¬ ((st.length : Nat) : Int) < ((e.evs.length : Nat) : Int) := hge
    exact .some_ ⟨rfl, h2, by show e.evs.length ≤ st.length; omega⟩
theorem ttail_good {σ : Type} {N : Nat} {c0 : Int} {env : EnvP} {eng : EngT} {self : EnvP → EngT → Option σ} {P : σ → Prop}
    (hev : env.evs.length ≤ N) (hst : eng.2.1.length ≤ N) (hN : N ≤ 999999999)
    (hs : ∀ eng' : EngT, eng'.2.1.length ≤ N → env.evs.length ≤ eng'.2.1.length → Good (self env eng') P) : Good (travTail c0 env eng self) P := by
  unfold travTail
  rw [count_eq, bnd]
  refine Good.ite (fun _ => ?_) fun _ => ?_
  · rw [last_eq, bnd]
    refine Good.bind (stamp_good2 _ (fun _ _ => rfl) (by exact hst) (by exact hev) hN) fun z hz => ?_
    obtain ⟨z1, z2, z3⟩ := hz
    rw [z1]
    exact hs _ z2 z3
  · refine Good.bind (stamp_good2 _ (fun _ _ => rfl) (by exact hst) (by exact hev) hN) fun z hz => ?_
    obtain ⟨z1, z2, z3⟩ := hz
    rw [z1]
    exact hs _ z2 z3
theorem travTail_bind {σ τ : Type} {c0 : Int} {env : EnvP} {eng : EngT} {f : EnvP → EngT → Option σ} {g : σ → Option τ} : (travTail c0 env eng f).bind g = travTail c0 env eng fun e q => (f e q).bind g := by
  unfold travTail
  rw [count_eq, bnd, bnd]
  by_cases h : c0 < env.m.count
  · rw [if_pos h, if_pos h]
    simp only [Option.bind_assoc]
  · rw [if_neg h, if_neg h]
    simp only [Option.bind_assoc]
/-- Entry by entry. -/
def runF {α σ : Type} (step : α → σ → Option σ) : List α → σ → Option σ
  | [], s => some s
  | x :: l, s => (step x s).bind fun s' => runF step l s'
theorem runF_append {α σ : Type} {step : α → σ → Option σ} : ∀ {l m : List α} {s : σ}, runF step (l ++ m) s = (runF step l s).bind fun s' => runF step m s'
  | [], m, s => rfl
  | x :: l, m, s => by
    show (step x s).bind (fun s' => runF step (l ++ m) s') = ((step x s).bind fun s' => runF step l s').bind _
    rw [Option.bind_assoc]
    congr 1
    funext s'
    exact runF_append
theorem drop_cons {α : Type} {l : List α} {i : Int} (d : α) (h : 0 ≤ i ∧ i < (l.length : Int)) : l.drop i.toNat = atL d l i :: l.drop (i + 1).toNat := by
  have hi : i.toNat < l.length := by omega
  rw [List.drop_eq_getElem_cons hi]
  have e1 : (i + 1).toNat = i.toNat + 1 := by omega
  have e2 := atL_get (d := d) h
  rw [List.getElem?_eq_getElem hi] at e2
  rw [e1, Option.some.inj e2]
theorem run_lp {σ : Type} {step : EntV → σ → Option σ} {F : List EntV → (Int × σ → Option (Int × σ)) → Int × σ → Option (Int × σ)}
    (hF : ∀ l self i s, l.length ≤ 1000000 → 0 ≤ i → i ≤ (l.length : Int) → F l self (i, s) = if i < (l.length : Int) then (step (atK5 l i) s).bind fun s' => self (i + 1, s') else some (i, s)) {l : List EntV} (hl : l.length ≤ 1000000) :
    ∀ (k : Nat) (i : Int) (s : σ), 0 ≤ i → i ≤ (l.length : Int) → (l.length : Int) - i < (k : Int) → lpF (F l) k (i, s) = (runF step (l.drop i.toNat) s).bind fun s' => some ((l.length : Int), s')
  | 0, i, s, h0, h1, hk => by omega
  | k + 1, i, s, h0, h1, hk => by
    show F l (lpF (F l) k) (i, s) = _
    rw [hF l _ i s hl h0 h1]
    by_cases hlt : i < (l.length : Int)
    · have hd : l.drop i.toNat = atK5 l i :: l.drop (i + 1).toNat := drop_cons (α := EntV) (dfR 5 : TR 5) ⟨h0, hlt⟩
      rw [if_pos hlt, hd]
      show _ = ((step (atK5 l i) s).bind fun s' => runF step (l.drop (i + 1).toNat) s').bind _
      rw [Option.bind_assoc]
      congr 1
      funext s'
      exact run_lp hF hl k (i + 1) s' (by omega) (by omega) (by omega)
    · rw [if_neg hlt, List.drop_eq_nil_of_le (by omega)]
      have : i = (l.length : Int) := by omega
      rw [this]
      rfl
theorem run_split {σ : Type} {step : EntV → σ → Option σ} {F : List EntV → (Int × σ → Option (Int × σ)) → Int × σ → Option (Int × σ)}
    (hF : ∀ l self i s, l.length ≤ 1000000 → 0 ≤ i → i ≤ (l.length : Int) → F l self (i, s) = if i < (l.length : Int) then (step (atK5 l i) s).bind fun s' => self (i + 1, s') else some (i, s)) {l : List EntV} (hl : l.length ≤ 1000000) {m : Nat} {s : σ} {z z' : Int × σ}
    (h : lpF (F l) 18446744073709551616 (0, s) = some z) (h' : lpF (F (l.take m)) 18446744073709551616 (0, s) = some z') :
    ∃ z'', lpF (F (l.drop m)) 18446744073709551616 (0, z'.2) = some z'' ∧ z''.2 = z.2 := by
  have hl1 : (l.take m).length ≤ 1000000 := by rw [List.length_take]; omega
  have hl2 : (l.drop m).length ≤ 1000000 := by rw [List.length_drop]; omega
  rw [run_lp hF hl _ 0 s (Int.le_refl 0) (by omega) (by omega)] at h
  rw [run_lp hF hl1 _ 0 s (Int.le_refl 0) (by omega) (by omega)] at h'
  rw [run_lp hF hl2 _ 0 z'.2 (Int.le_refl 0) (by omega) (by omega)]
  have h : (runF step l s).bind (fun s' => some ((l.length : Int), s')) = some z := h
  have h' : (runF step (l.take m) s).bind (fun s' => some (((l.take m).length : Int), s')) = some z' := h'
  show ∃ z'', (runF step (l.drop m) z'.2).bind (fun s' => some (((l.drop m).length : Int), s')) = some z'' ∧ _
  have e := runF_append (step := step) (l := l.take m) (m := l.drop m) (s := s)
  rw [List.take_append_drop] at e
  rcases h1 : runF step (l.take m) s with _ | s1
  · rw [h1] at h'; cases h'
  rw [h1] at h' e
  cases h'
  rw [e] at h
  have h : (runF step (l.drop m) s1).bind (fun s' => some ((l.length : Int), s')) = some z := h
  rcases h2 : runF step (l.drop m) s1 with _ | s2
  · rw [h2] at h; cases h
  rw [h2] at h
  cases h
  exact ⟨_, rfl, rfl⟩
/-! ### Guards -/
theorem gC_eq {α : Type} {c : Cfg} {k : Option α} : gC c k = k := by
  unfold gC; simp only [if_true]
theorem gR_eq {α : Type} {c : RecP} {k : Option α} : gR c k = k := by
  unfold gR; simp only [if_true]
theorem gL_eq {α : Type} {c : LayV} {k : Option α} : gL c k = k := by
  unfold gL; simp only [if_true]
/-! ### What is compared with itself -/
theorem loop_same {β : Type} {n : Nat} (hn : n ≤ 1000000) (C : Int → Prop) [∀ i, Decidable (C i)] (hC : ∀ i, ¬ C i) (R : Option ((Int × Unit) ⊕ β)) (F : (Int × Unit → Option ((Int × Unit) ⊕ β)) → Int × Unit → Option ((Int × Unit) ⊕ β))
    (hF : ∀ self x, F self x = if x.1 < ((n : Nat) : Int) then
      if 0 ≤ x.1 ∧ x.1 < ((n : Nat) : Int) then
       if 0 ≤ x.1 ∧ x.1 < ((n : Nat) : Int) then
        if C x.1 then R else self (wi (x.1 + 1), ())
       else none
      else none
     else some (Sum.inl (x.1, ()))) :
    Good (lpF F 18446744073709551616 (0, ())) fun z => ∃ y, z = Sum.inl y := by
  refine lp_good (fun x => 0 ≤ x.1 ∧ x.1 ≤ (n : Int)) (fun x => ((n : Int) - x.1).toNat) (fun self x ⟨q0, q1⟩ ih => ?_) _ _ ⟨Int.le_refl 0, by show (0 : Int) ≤ _; omega⟩ (by show (_ - 0 : Int).toNat < _; omega)
  have e1 : wi (x.1 + 1) = x.1 + 1 := wi_id (rg_lit (by omega))
  rw [hF, e1]
  refine Good.ite (fun h1 => ?_) fun _ => .some_ ⟨_, rfl⟩
  refine .guard ⟨q0, h1⟩ fun _ => .guard ⟨q0, h1⟩ fun _ => ?_
  rw [if_neg (hC _)]
  exact ih _ ⟨by show 0 ≤ x.1 + 1; omega, by show x.1 + 1 ≤ _; omega⟩ (by show (_ - (x.1 + 1) : Int).toNat < (_ - x.1 : Int).toNat; omega)
theorem cells_same {a : List Int} (ha : a.length ≤ 1000000) : workstealref02Same a a = some ((true, ()), ()) := by
  have : Good (workstealref02Same a a) fun o => o = ((true, ()), ()) := by
    unfold workstealref02Same
    rw [if_neg (fun h => h rfl)]
    refine Good.bind (loop_same ha (fun i => atK0 a i ≠ atK0 a i) (fun _ h => h rfl) _ _ fun _ _ => rfl) fun z hz => ?_
    obtain ⟨y, rfl⟩ := hz
    exact .some_ rfl
  obtain ⟨_, e, rfl⟩ := this
  exact e
theorem ints_same {a : List Int} (ha : a.length ≤ 1000000) : workstealref28Ints a a = some ((true, ()), ()) := by
  have : Good (workstealref28Ints a a) fun o => o = ((true, ()), ()) := by
    unfold workstealref28Ints
    rw [if_neg (fun h => h rfl)]
    refine Good.bind (loop_same ha (fun i => atK1 a i ≠ atK1 a i) (fun _ h => h rfl) _ _ fun _ _ => rfl) fun z hz => ?_
    obtain ⟨y, rfl⟩ := hz
    exact .some_ rfl
  obtain ⟨_, e, rfl⟩ := this
  exact e
theorem stamped_same {a : List St} (ha : a.length ≤ 1000000) : workstealref28SameStamped a a = some ((true, ()), ()) := by
  have : Good (workstealref28SameStamped a a) fun o => o = ((true, ()), ()) := by
    unfold workstealref28SameStamped
    rw [if_neg (fun h => h rfl)]
    refine Good.bind (loop_same ha (fun i => ¬ (((atK6 a i).at_) = ((atK6 a i).at_) ∧ (((atK6 a i).ev.kind) = ((atK6 a i).ev.kind) ∧ ((atK6 a i).ev.worker) = ((atK6 a i).ev.worker) ∧ ((atK6 a i).ev.task) = ((atK6 a i).ev.task) ∧ ((atK6 a i).ev.other) = ((atK6 a i).ev.other) ∧ ((atK6 a i).ev.level) = ((atK6 a i).ev.level) ∧ True) ∧ True)) (fun _ h => h (by simp only [and_self, and_true])) _ _ fun _ _ => rfl) fun z hz => ?_
    obtain ⟨y, rfl⟩ := hz
    exact .some_ rfl
  obtain ⟨_, e, rfl⟩ := this
  exact e
theorem ev_good {evs : List Ev} {eng : EngT} (h : evs.length ≤ eng.2.1.length) (hl : evs.length ≤ 1000000) : Good (lpF (travEv evs) 18446744073709551616 (0, [], eng, ())) fun z => z.2.1.length ≤ 1000000 := by
  refine lp_good (fun x => 0 ≤ x.1 ∧ x.1 ≤ (evs.length : Int) ∧ (x.2.1.length : Int) ≤ x.1 ∧ x.2.2.1.2.1 = eng.2.1) (fun x => ((evs.length : Int) - x.1).toNat) (fun self x ⟨q0, q1, q2, q3⟩ ih => ?_) _ _ ⟨Int.le_refl 0, by show (0 : Int) ≤ _; omega, by show ((0 : Nat) : Int) ≤ 0; omega, rfl⟩ (by show (_ - 0 : Int).toNat < _; omega)
  have e1 : wi (x.1 + 1) = x.1 + 1 := wi_id (rg_lit (by omega))
  unfold travEv
  rw [e1]
  refine Good.ite (fun h1 => ?_) fun _ => .some_ (by show x.2.1.length ≤ _; omega)
  refine .guard ⟨q0, h1⟩ fun _ => .guard ⟨q0, by rw [q3]; omega⟩ fun _ => .guard (by show (((x.2.1.length + 1 : Nat)) : Int) < _; omega) fun _ => ih _ ⟨by show 0 ≤ x.1 + 1; omega, by show x.1 + 1 ≤ _; omega, ?_, q3⟩ (by show (_ - (x.1 + 1) : Int).toNat < (_ - x.1 : Int).toNat; omega)
  show ((x.2.1 ++ [_]).length : Int) ≤ x.1 + 1
  rw [List.length_append, List.length_singleton]; omega
theorem at61_set {xs : List RecP} {i : Int} (h : 0 ≤ i ∧ i < (xs.length : Int)) : xs.set i.toNat (atK61 xs i) = xs := set_sameP (atL_get (d := (dfR 61 : TR 61)) h)
theorem recs_good {xs : List RecP} (hl : xs.length ≤ 1000000) (hk : ∀ r ∈ xs, r.kids.length ≤ 1000000) : Good (lpF repRec 18446744073709551616 (xs, xs, 0, ())) fun z => ∃ y, z = Sum.inl y := by
  refine lp_good (fun x => x.1 = xs ∧ x.2.1 = xs ∧ 0 ≤ x.2.2.1 ∧ x.2.2.1 ≤ (xs.length : Int)) (fun x => ((xs.length : Int) - x.2.2.1).toNat) (fun self x hx ih => ?_) _ _ ⟨rfl, rfl, Int.le_refl 0, by show (0 : Int) ≤ _; omega⟩ (by show (_ - 0 : Int).toNat < _; omega)
  obtain ⟨a, b, i, ⟨⟩⟩ := x
  obtain ⟨h1, h2, q0, q1⟩ := hx
  simp only at h1 h2 q0 q1
  subst h1 h2
  have e1 : wi (i + 1) = i + 1 := wi_id (rg_lit (by omega))
  unfold repRec
  refine Good.ite (fun hlt => ?_) fun _ => .some_ ⟨_, rfl⟩
  have hlt : i < (b.length : Int) := hlt
  have hin : 0 ≤ i ∧ i < (b.length : Int) := ⟨q0, hlt⟩
  have hkl : (atK61 b i).kids.length ≤ 1000000 := hk _ (at_in (α := RecP) (d := (dfR 61 : TR 61)) hin)
  refine .guard hin fun _ => .guard hin fun _ => ?_
  simp only [gR_eq, ints_same hkl, Option.bind_some, at61_set hin, agr_self, e1, ne_eq, not_true_eq_false, if_false, Bool.not_true, Bool.false_eq_true]
  exact ih _ ⟨rfl, rfl, by show 0 ≤ i + 1; omega, by show i + 1 ≤ _; omega⟩ (by show (_ - (i + 1) : Int).toNat < (_ - i : Int).toNat; omega)
theorem envCopy_eq {c : Cfg} {K : Nat} {e : EnvP} (h : EI c K e) (hK : K ≤ 1000000) (hc : LenOk c) (hr : e.recs.length ≤ 1000000) : Good (machineEnvCopy e) fun o => o.1.1 = e := by
  have hcl : LenOk e.c := by rw [h.c]; exact hc
  unfold machineEnvCopy
  simp only [gL_eq]
  rw [clone_eq hcl, bnd]
  have e2 : memoryMemoryCopy e.m = some ((e.m, ()), (e.m, ())) := by
    unfold memoryMemoryCopy
    rw [cells_eq _ h.cl, bnd]
  have e3 : clockClockCopy e.k = some ((e.k, ()), (e.k, ())) := rfl
  have e4 : cloneRecsR e.recs = some ((e.recs, ()), (e.recs, ())) := by unfold cloneRecsR; rw [if_pos hr]
  have e5 : cloneEvs e.evs = some ((e.evs, ()), (e.evs, ())) := by unfold cloneEvs; rw [if_pos (by have := h.ok.ev; omega)]
  rw [e2, bnd, e3, bnd, e4, bnd, e5, bnd]
  refine Good.bind (P := fun z => z.2.1 = e) (lp_good (fun x => x.2.1 = e ∧ 0 ≤ x.1 ∧ x.1 ≤ (e.recs.length : Int)) (fun x => ((e.recs.length : Int) - x.1).toNat) (fun self x hx ih => ?istep) _ _ ⟨rfl, Int.le_refl 0, by show (0 : Int) ≤ _; omega⟩ (by show (_ - 0 : Int).toNat < _; omega)) fun z hz => .some_ hz
  case istep =>
    obtain ⟨i, f, ⟨⟩⟩ := x
    obtain ⟨h1, q0, q1⟩ := hx
    simp only at h1 q0 q1
    subst h1
    have e1 : wi (i + 1) = i + 1 := wi_id (rg_lit (by omega))
    refine Good.ite (fun hlt => ?_) fun _ => .some_ rfl
    have hlt : i < (f.recs.length : Int) := hlt
    have hin : 0 ≤ i ∧ i < (f.recs.length : Int) := ⟨q0, hlt⟩
    have hkl : (atK61 f.recs i).kids.length ≤ 1000000 := by
      have h7 : (atK61 f.recs i).kids.length ≤ K := h.ok.kd _ (at_in (α := RecP) (d := (dfR 61 : TR 61)) hin)
      omega
    refine .guard hin fun _ => ?_
    have e6 : cloneInts (atK61 f.recs i).kids = some (((atK61 f.recs i).kids, ()), ()) := by unfold cloneInts; rw [if_pos hkl]
    simp only [e6, Option.bind_some, at61_set hin, e1]
    rw [if_pos hin]
    exact ih _ ⟨rfl, by show 0 ≤ i + 1; omega, by show i + 1 ≤ _; omega⟩ (by show (_ - (i + 1) : Int).toNat < (_ - i : Int).toNat; omega)
theorem repEnd_good {c : Cfg} {e : EnvP} {g : EngT} (h : EI c 10000 e) (hc : LenOk c) (hr : e.recs.length ≤ 1000000) (hg : e.evs.length ≤ g.2.1.length) : repEnd e g e g = some ((true, ()), ()) := by
  have : Good (repEnd e g e g) fun o => o = ((true, ()), ()) := by
    unfold repEnd
    rw [cells_eq _ h.cl, bnd, bnd, cells_same h.cl, bnd, if_pos rfl]
    obtain ⟨v, ev, hv⟩ := ev_good (evs := e.evs) (eng := g) hg (by have := h.ok.ev; omega)
    rw [ev, bnd, bnd, stamped_same hv, bnd, if_pos rfl]
    obtain ⟨⟨⟨f, ⟨⟩⟩, o⟩, e1, he⟩ := envCopy_eq h (by decide) hc hr
    have he : f = e := he
    subst he
    have e2 : envCopyC f = some ((f, ()), ()) := by unfold envCopyC; rw [e1]; rfl
    have e3 : envCopyC ({ f with m := f.m } : EnvP) = some ((f, ()), ()) := e2
    rw [e3, bnd, bnd, if_neg (fun h => h rfl)]
    refine Good.bind (recs_good hr fun r hr => by have := h.ok.kd r hr; omega) fun z hz => ?_
    obtain ⟨y, rfl⟩ := hz
    refine .some_ ?_
    show ((decide (v.2.2.1.1 = v.2.2.1.1), ()), ()) = _
    rw [decide_eq_true rfl]
  obtain ⟨_, e1, rfl⟩ := this
  exact e1
theorem r4_len {b : List Int} (hb : b.length ≤ 1000000) : Good (r4decode b) fun o => o.1.1.length ≤ 65536 := by
  unfold r4decode
  refine Good.bind (P := fun z => z.1.length ≤ 65536) (lp_good (fun x => 0 ≤ x.2.1 ∧ x.2.1 ≤ (b.length : Int) + 2 ∧ x.1.length ≤ 65536) (fun x => ((b.length : Int) + 2 - x.2.1).toNat) (fun self x ⟨q0, q1, q2⟩ ih => ?_) _ _ ⟨Int.le_refl 0, by show (0 : Int) ≤ (b.length : Int) + 2; omega, Nat.zero_le _⟩ (by show ((b.length : Int) + 2 - 0).toNat < _; omega)) fun z hz => .some_ hz
  have e1 : wi (x.2.1 + 1) = x.2.1 + 1 := wi_id (rg_lit (by omega))
  have e2 : wi (x.2.1 + 2) = x.2.1 + 2 := wi_id (rg_lit (by omega))
  rw [e1, e2]
  refine Good.ite (fun h1 => Good.ite (fun h2 => .guard (by omega) fun _ => .guard (by omega) fun _ => .guard rfl fun _ => .guard rfl fun _ => ?_) fun _ => .some_ q2) fun _ => .some_ q2
  have nx : ∀ u : EntV, Good (self (x.1 ++ [u], x.2.1 + 2, ())) fun z => z.1.length ≤ 65536 := fun u => ih _ ⟨by show 0 ≤ x.2.1 + 2; omega, by show x.2.1 + 2 ≤ (b.length : Int) + 2; omega, by simp; omega⟩ (by show ((b.length : Int) + 2 - (x.2.1 + 2)).toNat < ((b.length : Int) + 2 - x.2.1).toNat; omega)
  refine Good.ite (fun _ => .guard (by simp; omega) fun _ => nx _) fun _ => Good.ite (fun _ => .guard (by simp; omega) fun _ => nx _) fun _ => .guard (by simp; omega) fun _ => nx _
theorem scriptR_len {b : List Int} {n : Int} (hb : b.length ≤ 1000000) (hn : 0 ≤ n) : Good (kscriptR b n) fun o => o.1.1.length ≤ n.toNat := by
  unfold kscriptR
  refine (r4_len hb).bind fun r hr => Good.ite (fun h => .guard (by omega) fun _ => .some_ (by show (r.1.1.take n.toNat).length ≤ n.toNat; simp; omega)) fun h => .some_ (by show r.1.1.length ≤ n.toNat; omega)
theorem draw_good {x k : Int} (hk : 1 ≤ k ∧ k ≤ 1000000) : Good (workstealref02Draw x k) fun o => 0 ≤ o.1.1 ∧ o.1.1 < k := by
  have h1 : Int.tmod x k < k ∧ -k < Int.tmod x k := by
    constructor
    · exact Int.tmod_lt_of_pos _ (by omega)
    · have h2 : Int.tmod (-x) k < k := Int.tmod_lt_of_pos _ (by omega)
      rw [Int.neg_tmod] at h2
      omega
  unfold workstealref02Draw
  rw [if_neg (by omega), if_pos (by omega)]
  refine Good.ite (fun hl => ?_) fun hl => ?_
  · rw [if_pos (by omega), wi_id (rg_lit (by omega))]
    exact .some_ ⟨by show 0 ≤ Int.tmod x k + k; omega, by show Int.tmod x k + k < k; omega⟩
  · rw [if_pos (by omega)]
    exact .some_ ⟨by show 0 ≤ Int.tmod x k; omega, h1.1⟩
theorem number_good {y k : Int} (hk : 1 ≤ k ∧ k ≤ 1000000) : Good (workstealkeepNumber [y] 0 k) fun o => 0 ≤ o.1.1 ∧ o.1.1 < k := by
  unfold workstealkeepNumber
  refine Good.ite (fun h => absurd (show ((1 : Nat) : Int) = 0 from h) (by decide)) fun _ => ?_
  refine .guard (show ((1 : Nat) : Int) ≠ 0 by decide) fun _ => .guard (show 0 ≤ Int.tmod 0 ((1 : Nat) : Int) ∧ Int.tmod 0 ((1 : Nat) : Int) < ((1 : Nat) : Int) by decide) fun _ => .guard (show ((1 : Nat) : Int) ≠ 0 by decide) fun _ => .guard (show wi (1 + Int.tmod (wi (Int.tdiv 0 ((1 : Nat) : Int))) 7) ≠ 0 by decide) fun _ => ?_
  exact (draw_good hk).bind fun r hr => .some_ hr
end
section
open Go Go.RowKit
set_option maxRecDepth 100000
variable [Tb]
noncomputable def worksteallaw28EngineRepeats1_a (y0 : List Int) (y1 : List Int) (y2 : Int) : Option ((Bool × Unit) × (Unit)) :=
 (kshort y0 ([])).bind fun r1 =>
 if (!r1.1.1) = true then
  some ((true, ()), (()))
 else
 if 800 < ((y1.length : Nat) : Int) then
  some ((true, ()), (()))
 else
 (kconfig y0).bind fun r2 =>
 (kscriptR y1 400).bind fun r3 =>
 (workstealkeepNumber ([y2]) 0 (wi (((r3.1.1.length : Nat) : Int) + 1))).bind fun r4 =>
 if 0 ≤ r4.1.1 ∧ r4.1.1 ≤ ((r3.1.1.length : Nat) : Int) then
  (machineNew r2.1.1).bind fun r5 =>
  if r5.1.2.1 ≠ 0 then
   if r5.1.2.1 ≠ 0 then
   gC r2.1.1 (
   (machineNew r2.1.1).bind fun r6 =>
   if r6.1.2.1 ≠ 0 then
   if r6.1.2.1 ≠ 0 then
   (worksteallaw28Awake).bind fun r7 =>
   if (!r7.1.1) = true then
   some ((false, ()), (()))
   else
   some ((false, ()), (()))
   else
   (worksteallaw28Awake).bind fun r8 =>
   if (!r8.1.1) = true then
   some ((false, ()), (()))
   else
   some ((false, ()), (()))
   else
   (clientNew r2.1.1).bind fun r9 =>
   if r2.1.1.workers = ((1 : Nat) : Int) then
   (workerNew 0).bind fun r10 =>
   (lpF (travBody1 (r3.1.1.take (r4.1.1 : Int).toNat)) 18446744073709551616 (0, r6.1.1, r10.1.1, r9.1.1, (0, [], 0, 0, 0, 0, ()), ())).bind fun z12 =>
   (worksteallaw28Awake).bind fun r29 =>
   if (!r29.1.1) = true then
   some ((false, ()), (()))
   else
   some ((false, ()), (()))
   else
   none
   )
   else
   gC r2.1.1 (
   (machineNew r2.1.1).bind fun r30 =>
   if r30.1.2.1 ≠ 0 then
   if r30.1.2.1 ≠ 0 then
   (worksteallaw28Awake).bind fun r31 =>
   if (!r31.1.1) = true then
   some ((false, ()), (()))
   else
   some ((false, ()), (()))
   else
   (worksteallaw28Awake).bind fun r32 =>
   if (!r32.1.1) = true then
   some ((false, ()), (()))
   else
   some ((false, ()), (()))
   else
   (clientNew r2.1.1).bind fun r33 =>
   if r2.1.1.workers = ((1 : Nat) : Int) then
   (workerNew 0).bind fun r34 =>
   (lpF (travBody1 (r3.1.1.take (r4.1.1 : Int).toNat)) 18446744073709551616 (0, r30.1.1, r34.1.1, r33.1.1, (0, [], 0, 0, 0, 0, ()), ())).bind fun z36 =>
   (worksteallaw28Awake).bind fun r53 =>
   if (!r53.1.1) = true then
   some ((false, ()), (()))
   else
   some ((false, ()), (()))
   else
   none
   )
  else
  (clientNew r2.1.1).bind fun r54 =>
  if r2.1.1.workers = ((1 : Nat) : Int) then
   (workerNew 0).bind fun r55 =>
   (lpF (travBody1 r3.1.1) 18446744073709551616 (0, r5.1.1, r55.1.1, r54.1.1, (0, [], 0, 0, 0, 0, ()), ())).bind fun z57 =>
   gC r2.1.1 (
   (machineNew r2.1.1).bind fun r74 =>
   if r74.1.2.1 ≠ 0 then
   if r74.1.2.1 ≠ 0 then
   (worksteallaw28Awake).bind fun r75 =>
   if (!r75.1.1) = true then
   some ((false, ()), (()))
   else
   some ((false, ()), (()))
   else
   (worksteallaw28Awake).bind fun r76 =>
   if (!r76.1.1) = true then
   some ((false, ()), (()))
   else
   some ((false, ()), (()))
   else
   (clientNew r2.1.1).bind fun r77 =>
   if r2.1.1.workers = ((1 : Nat) : Int) then
   (workerNew 0).bind fun r78 =>
   (lpF (travBody1 (r3.1.1.take (r4.1.1 : Int).toNat)) 18446744073709551616 (0, r74.1.1, r78.1.1, r77.1.1, (0, [], 0, 0, 0, 0, ()), ())).bind fun z80 =>
   (worksteallaw28Awake).bind fun r97 =>
   if (!r97.1.1) = true then
   some ((false, ()), (()))
   else
   if 0 ≤ r4.1.1 ∧ r4.1.1 ≤ ((r3.1.1.length : Nat) : Int) then
   (lpF (travBody1 (r3.1.1.drop (r4.1.1 : Int).toNat)) 18446744073709551616 (0, z80.2.1, z80.2.2.1, z80.2.2.2.1, z80.2.2.2.2.1, ())).bind fun z99 =>
   repEnd z57.2.1 z57.2.2.2.2.1 z99.2.1 z99.2.2.2.2.1
   else none
   else
   none
   )
  else
  none
 else none
noncomputable abbrev worksteallaw28EngineRepeats1_a_k : Con SR1 := ⟨9, [.sh (.ro 17), .sh (.ro 17), .sh sI_], [.sh .b], fun x => worksteallaw28EngineRepeats1_a x.1 x.2.1 x.2.2.1⟩
noncomputable def worksteallaw28EngineRepeats1_a_tb : List (Nat × Func) := [(21, Tryz.f21), (68, Tryz.f68), (114, Tryz.f114), (47, Tryz.f47), (44, Tryz.f44), (25, Tryz.f25), (26, Tryz.f26), (51, Tryz.f51), (50, Tryz.f50), (52, Tryz.f52)]
theorem worksteallaw28EngineRepeats1_a_ok : CO Tryz.prog worksteallaw28EngineRepeats1_a_k := co_fn mixed Tryz.func9 [kshort_k, kconfig_k, kscriptR_k, workstealkeepNumber_k, machineNew_k, clientNew_k, workerNew_k, memoryMemoryCount_k, scriptMachine_k, clientClientStep_k, workerWorkerStep_k, clockClockTick_k, clockClockSet_k, memoryMemoryLast_k, worksteallaw28Awake_k, memoryMemoryCells_k, workstealref02Same_k, workstealref28SameStamped_k, envCopyC_k, workstealref28Ints_k] ⟨kshort_ok, kconfig_ok, kscriptR_ok, workstealkeepNumber_ok, machineNew_ok, clientNew_ok, workerNew_ok, memoryMemoryCount_ok, scriptMachine_ok, clientClientStep_ok, workerWorkerStep_ok, clockClockTick_ok, clockClockSet_ok, memoryMemoryLast_ok, worksteallaw28Awake_ok, memoryMemoryCells_ok, workstealref02Same_ok, workstealref28SameStamped_ok, envCopyC_ok, workstealref28Ints_ok, trivial⟩ worksteallaw28EngineRepeats1_a_tb ⟨Tryz.func21, Tryz.func68, Tryz.func114, Tryz.func47, Tryz.func44, Tryz.func25, Tryz.func26, Tryz.func51, Tryz.func50, Tryz.func52, trivial⟩ (fun f => (get [(68, [(6, .spl 22 [1] 2)]), (114, [(2, .unroll 2)]), (47, [(1, .loop [.rg 8 sI_, .ob 48 27, .ob 62 31, .ob 50 30, .cx 51 [.inr (.ptr 48 0), .inr (.sl 64), .inr (.ptr 50 0), .inr (.sl 90), .inl sI_, .inl (.row 1), .inl sI_, .inl sI_, .inl sU_, .inl sU_]] 18446744073709551616 0), (1, .loop [.rg 8 sI_, .ob 44 27, .ob 58 31, .ob 46 30, .cx 47 [.inr (.ptr 44 0), .inr (.sl 60), .inr (.ptr 46 0), .inr (.sl 86), .inl sI_, .inl (.row 1), .inl sI_, .inl sI_, .inl sU_, .inl sU_]] 18446744073709551616 0), (1, .loop [.rg 8 sI_, .ob 91 27, .ob 105 31, .ob 93 30, .cx 94 [.inr (.ptr 91 0), .inr (.sl 107), .inr (.ptr 93 0), .inr (.sl 133), .inl sI_, .inl (.row 1), .inl sI_, .inl sI_, .inl sU_, .inl sU_]] 18446744073709551616 0)]), (44, [(9, .cut [.ob 48 27, .ob 62 31, .ob 50 30, .cx 51 [.inr (.ptr 48 0), .inr (.sl 64), .inr (.ptr 50 0), .inr (.sl 90), .inl sI_, .inl (.row 1), .inl sI_, .inl sI_, .inl sU_, .inl sU_]] [0, 1, 13, 14, 16, 17, 19, 93, 94, 95]), (9, .cut [.ob 44 27, .ob 58 31, .ob 46 30, .cx 47 [.inr (.ptr 44 0), .inr (.sl 60), .inr (.ptr 46 0), .inr (.sl 86), .inl sI_, .inl (.row 1), .inl sI_, .inl sI_, .inl sU_, .inl sU_]] [0, 1, 13, 14, 16, 17, 19, 89, 90, 91]), (9, .cut [.ob 91 27, .ob 105 31, .ob 93 30, .cx 94 [.inr (.ptr 91 0), .inr (.sl 107), .inr (.ptr 93 0), .inr (.sl 133), .inl sI_, .inl (.row 1), .inl sI_, .inl sI_, .inl sU_, .inl sU_]] [0, 1, 13, 14, 16, 17, 19, 136, 137, 138]), (9, .cut [.ob 91 27, .ob 105 31, .ob 93 30, .cx 94 [.inr (.ptr 91 0), .inr (.sl 107), .inr (.ptr 93 0), .inr (.sl 133), .inl sI_, .inl (.row 1), .inl sI_, .inl sI_, .inl sU_, .inl sU_]] [0, 1, 13, 14, 16, 17, 19, 137, 139, 140, 141]), (12, .loop [.ob 48 27, .cx 51 [.inr (.ptr 48 0), .inr (.sl 64), .inr (.ptr 50 0), .inr (.sl 90), .inl sI_, .inl (.row 1), .inl sI_, .inl sI_, .inl sU_, .inl sU_]] 18446744073709551616 1), (12, .loop [.ob 44 27, .cx 47 [.inr (.ptr 44 0), .inr (.sl 60), .inr (.ptr 46 0), .inr (.sl 86), .inl sI_, .inl (.row 1), .inl sI_, .inl sI_, .inl sU_, .inl sU_]] 18446744073709551616 1), (12, .loop [.ob 91 27, .cx 94 [.inr (.ptr 91 0), .inr (.sl 107), .inr (.ptr 93 0), .inr (.sl 133), .inl sI_, .inl (.row 1), .inl sI_, .inl sI_, .inl sU_, .inl sU_]] 18446744073709551616 1)]), (26, [(3, .loop [.rg 14 sI_, .rg 3 (.row 6), .cx 47 [.inr (.ptr 44 0), .inr (.sl 60), .inr (.ptr 46 0), .inr (.sl 86), .inl sI_, .inl (.row 1), .inl sI_, .inl sI_, .inl sU_, .inl sU_]] 18446744073709551616 0), (3, .loop [.rg 14 sI_, .rg 3 (.row 6), .cx 94 [.inr (.ptr 91 0), .inr (.sl 107), .inr (.ptr 93 0), .inr (.sl 133), .inl sI_, .inl (.row 1), .inl sI_, .inl sI_, .inl sU_, .inl sU_]] 18446744073709551616 0)]), (50, [(4, .loopR [.rg 0 (.row 61), .rg 1 (.row 61), .rg 5 sI_] 18446744073709551616 0)])] f).getD []) [] fun x => by kernel_rfl
end
section
open Go Go.RowKit
set_option maxRecDepth 100000
variable [Tb]
noncomputable def worksteallaw28EngineRepeats2_a (y0 : List Int) (y1 : List Int) (y2 : Int) : Option ((Bool × Unit) × (Unit)) :=
 (kshort y0 ([])).bind fun r1 =>
 if (!r1.1.1) = true then
  some ((true, ()), (()))
 else
 if 800 < ((y1.length : Nat) : Int) then
  some ((true, ()), (()))
 else
 (kconfig y0).bind fun r2 =>
 (kscriptR y1 400).bind fun r3 =>
 (workstealkeepNumber ([y2]) 0 (wi (((r3.1.1.length : Nat) : Int) + 1))).bind fun r4 =>
 if 0 ≤ r4.1.1 ∧ r4.1.1 ≤ ((r3.1.1.length : Nat) : Int) then
  (machineNew r2.1.1).bind fun r5 =>
  if r5.1.2.1 ≠ 0 then
   if r5.1.2.1 ≠ 0 then
   gC r2.1.1 (
   (machineNew r2.1.1).bind fun r6 =>
   if r6.1.2.1 ≠ 0 then
   if r6.1.2.1 ≠ 0 then
   (worksteallaw28Awake).bind fun r7 =>
   if (!r7.1.1) = true then
   some ((false, ()), (()))
   else
   some ((false, ()), (()))
   else
   (worksteallaw28Awake).bind fun r8 =>
   if (!r8.1.1) = true then
   some ((false, ()), (()))
   else
   some ((false, ()), (()))
   else
   (clientNew r2.1.1).bind fun r9 =>
   if r2.1.1.workers = ((2 : Nat) : Int) then
   (workerNew 0).bind fun r10 =>
   (workerNew 1).bind fun r11 =>
   (lpF (travBody2 (r3.1.1.take (r4.1.1 : Int).toNat)) 18446744073709551616 (0, r6.1.1, r10.1.1, r11.1.1, r9.1.1, (0, [], 0, 0, 0, 0, ()), ())).bind fun z13 =>
   (worksteallaw28Awake).bind fun r31 =>
   if (!r31.1.1) = true then
   some ((false, ()), (()))
   else
   some ((false, ()), (()))
   else
   none
   )
   else
   gC r2.1.1 (
   (machineNew r2.1.1).bind fun r32 =>
   if r32.1.2.1 ≠ 0 then
   if r32.1.2.1 ≠ 0 then
   (worksteallaw28Awake).bind fun r33 =>
   if (!r33.1.1) = true then
   some ((false, ()), (()))
   else
   some ((false, ()), (()))
   else
   (worksteallaw28Awake).bind fun r34 =>
   if (!r34.1.1) = true then
   some ((false, ()), (()))
   else
   some ((false, ()), (()))
   else
   (clientNew r2.1.1).bind fun r35 =>
   if r2.1.1.workers = ((2 : Nat) : Int) then
   (workerNew 0).bind fun r36 =>
   (workerNew 1).bind fun r37 =>
   (lpF (travBody2 (r3.1.1.take (r4.1.1 : Int).toNat)) 18446744073709551616 (0, r32.1.1, r36.1.1, r37.1.1, r35.1.1, (0, [], 0, 0, 0, 0, ()), ())).bind fun z39 =>
   (worksteallaw28Awake).bind fun r57 =>
   if (!r57.1.1) = true then
   some ((false, ()), (()))
   else
   some ((false, ()), (()))
   else
   none
   )
  else
  (clientNew r2.1.1).bind fun r58 =>
  if r2.1.1.workers = ((2 : Nat) : Int) then
   (workerNew 0).bind fun r59 =>
   (workerNew 1).bind fun r60 =>
   (lpF (travBody2 r3.1.1) 18446744073709551616 (0, r5.1.1, r59.1.1, r60.1.1, r58.1.1, (0, [], 0, 0, 0, 0, ()), ())).bind fun z62 =>
   gC r2.1.1 (
   (machineNew r2.1.1).bind fun r80 =>
   if r80.1.2.1 ≠ 0 then
   if r80.1.2.1 ≠ 0 then
   (worksteallaw28Awake).bind fun r81 =>
   if (!r81.1.1) = true then
   some ((false, ()), (()))
   else
   some ((false, ()), (()))
   else
   (worksteallaw28Awake).bind fun r82 =>
   if (!r82.1.1) = true then
   some ((false, ()), (()))
   else
   some ((false, ()), (()))
   else
   (clientNew r2.1.1).bind fun r83 =>
   if r2.1.1.workers = ((2 : Nat) : Int) then
   (workerNew 0).bind fun r84 =>
   (workerNew 1).bind fun r85 =>
   (lpF (travBody2 (r3.1.1.take (r4.1.1 : Int).toNat)) 18446744073709551616 (0, r80.1.1, r84.1.1, r85.1.1, r83.1.1, (0, [], 0, 0, 0, 0, ()), ())).bind fun z87 =>
   (worksteallaw28Awake).bind fun r105 =>
   if (!r105.1.1) = true then
   some ((false, ()), (()))
   else
   if 0 ≤ r4.1.1 ∧ r4.1.1 ≤ ((r3.1.1.length : Nat) : Int) then
   (lpF (travBody2 (r3.1.1.drop (r4.1.1 : Int).toNat)) 18446744073709551616 (0, z87.2.1, z87.2.2.1, z87.2.2.2.1, z87.2.2.2.2.1, z87.2.2.2.2.2.1, ())).bind fun z107 =>
   repEnd z62.2.1 z62.2.2.2.2.2.1 z107.2.1 z107.2.2.2.2.2.1
   else none
   else
   none
   )
  else
  none
 else none
noncomputable abbrev worksteallaw28EngineRepeats2_a_k : Con SR1 := ⟨9, [.sh (.ro 17), .sh (.ro 17), .sh sI_], [.sh .b], fun x => worksteallaw28EngineRepeats2_a x.1 x.2.1 x.2.2.1⟩
noncomputable def worksteallaw28EngineRepeats2_a_tb : List (Nat × Func) := [(21, Tryz.f21), (68, Tryz.f68), (114, Tryz.f114), (47, Tryz.f47), (44, Tryz.f44), (25, Tryz.f25), (26, Tryz.f26), (51, Tryz.f51), (50, Tryz.f50), (52, Tryz.f52)]
theorem worksteallaw28EngineRepeats2_a_ok : CO Tryz.prog worksteallaw28EngineRepeats2_a_k := co_fn mixed Tryz.func9 [kshort_k, kconfig_k, kscriptR_k, workstealkeepNumber_k, machineNew_k, clientNew_k, workerNew_k, memoryMemoryCount_k, scriptMachine_k, clientClientStep_k, workerWorkerStep_k, clockClockTick_k, clockClockSet_k, memoryMemoryLast_k, worksteallaw28Awake_k, memoryMemoryCells_k, workstealref02Same_k, workstealref28SameStamped_k, envCopyC_k, workstealref28Ints_k] ⟨kshort_ok, kconfig_ok, kscriptR_ok, workstealkeepNumber_ok, machineNew_ok, clientNew_ok, workerNew_ok, memoryMemoryCount_ok, scriptMachine_ok, clientClientStep_ok, workerWorkerStep_ok, clockClockTick_ok, clockClockSet_ok, memoryMemoryLast_ok, worksteallaw28Awake_ok, memoryMemoryCells_ok, workstealref02Same_ok, workstealref28SameStamped_ok, envCopyC_ok, workstealref28Ints_ok, trivial⟩ worksteallaw28EngineRepeats2_a_tb ⟨Tryz.func21, Tryz.func68, Tryz.func114, Tryz.func47, Tryz.func44, Tryz.func25, Tryz.func26, Tryz.func51, Tryz.func50, Tryz.func52, trivial⟩ (fun f => (get [(68, [(6, .spl 22 [2] 3)]), (114, [(2, .unroll 3)]), (47, [(1, .loop [.rg 8 sI_, .ob 48 27, .ob 62 31, .ob 76 31, .ob 50 30, .cx 51 [.inr (.ptr 48 0), .inr (.sl 78), .inr (.ptr 50 0), .inr (.sl 107), .inl sI_, .inl (.row 1), .inl sI_, .inl sI_, .inl sU_, .inl sU_]] 18446744073709551616 0), (1, .loop [.rg 8 sI_, .ob 44 27, .ob 58 31, .ob 72 31, .ob 46 30, .cx 47 [.inr (.ptr 44 0), .inr (.sl 74), .inr (.ptr 46 0), .inr (.sl 103), .inl sI_, .inl (.row 1), .inl sI_, .inl sI_, .inl sU_, .inl sU_]] 18446744073709551616 0), (1, .loop [.rg 8 sI_, .ob 108 27, .ob 122 31, .ob 136 31, .ob 110 30, .cx 111 [.inr (.ptr 108 0), .inr (.sl 138), .inr (.ptr 110 0), .inr (.sl 167), .inl sI_, .inl (.row 1), .inl sI_, .inl sI_, .inl sU_, .inl sU_]] 18446744073709551616 0)]), (44, [(9, .cut [.ob 48 27, .ob 62 31, .ob 76 31, .ob 50 30, .cx 51 [.inr (.ptr 48 0), .inr (.sl 78), .inr (.ptr 50 0), .inr (.sl 107), .inl sI_, .inl (.row 1), .inl sI_, .inl sI_, .inl sU_, .inl sU_]] [0, 1, 13, 14, 16, 17, 19, 110, 111, 112]), (9, .cut [.ob 44 27, .ob 58 31, .ob 72 31, .ob 46 30, .cx 47 [.inr (.ptr 44 0), .inr (.sl 74), .inr (.ptr 46 0), .inr (.sl 103), .inl sI_, .inl (.row 1), .inl sI_, .inl sI_, .inl sU_, .inl sU_]] [0, 1, 13, 14, 16, 17, 19, 106, 107, 108]), (9, .cut [.ob 108 27, .ob 122 31, .ob 136 31, .ob 110 30, .cx 111 [.inr (.ptr 108 0), .inr (.sl 138), .inr (.ptr 110 0), .inr (.sl 167), .inl sI_, .inl (.row 1), .inl sI_, .inl sI_, .inl sU_, .inl sU_]] [0, 1, 13, 14, 16, 17, 19, 170, 171, 172]), (9, .cut [.ob 108 27, .ob 122 31, .ob 136 31, .ob 110 30, .cx 111 [.inr (.ptr 108 0), .inr (.sl 138), .inr (.ptr 110 0), .inr (.sl 167), .inl sI_, .inl (.row 1), .inl sI_, .inl sI_, .inl sU_, .inl sU_]] [0, 1, 13, 14, 16, 17, 19, 171, 173, 174, 175]), (12, .loop [.ob 48 27, .cx 51 [.inr (.ptr 48 0), .inr (.sl 78), .inr (.ptr 50 0), .inr (.sl 107), .inl sI_, .inl (.row 1), .inl sI_, .inl sI_, .inl sU_, .inl sU_]] 18446744073709551616 1), (12, .loop [.ob 44 27, .cx 47 [.inr (.ptr 44 0), .inr (.sl 74), .inr (.ptr 46 0), .inr (.sl 103), .inl sI_, .inl (.row 1), .inl sI_, .inl sI_, .inl sU_, .inl sU_]] 18446744073709551616 1), (12, .loop [.ob 108 27, .cx 111 [.inr (.ptr 108 0), .inr (.sl 138), .inr (.ptr 110 0), .inr (.sl 167), .inl sI_, .inl (.row 1), .inl sI_, .inl sI_, .inl sU_, .inl sU_]] 18446744073709551616 1)]), (26, [(3, .loop [.rg 14 sI_, .rg 3 (.row 6), .cx 47 [.inr (.ptr 44 0), .inr (.sl 74), .inr (.ptr 46 0), .inr (.sl 103), .inl sI_, .inl (.row 1), .inl sI_, .inl sI_, .inl sU_, .inl sU_]] 18446744073709551616 0), (3, .loop [.rg 14 sI_, .rg 3 (.row 6), .cx 111 [.inr (.ptr 108 0), .inr (.sl 138), .inr (.ptr 110 0), .inr (.sl 167), .inl sI_, .inl (.row 1), .inl sI_, .inl sI_, .inl sU_, .inl sU_]] 18446744073709551616 0)]), (50, [(4, .loopR [.rg 0 (.row 61), .rg 1 (.row 61), .rg 5 sI_] 18446744073709551616 0)])] f).getD []) [] fun x => by kernel_rfl
end
end Go.Proofs.YtgiagoeoifgliaaGreat
