/- The program's machines do what was said plainly, 9: the client; what workers and the client leave. The law EngineOnce, its loops by name. The law EngineOnce: the end of an entry. What is decoded is valid. -/
import Derived.Test.YtgiagoeoifgliaaGreatOnas
import Derived.Test.YtgiagoeoifgliaaGreatOnaq
import Derived.Test.YtgiagoeoifgliaaGreatOnap
import Derived.Test.YtgiagoeoifgliaaGreatOnaj
set_option linter.all false
namespace Go.Proofs.YtgiagoeoifgliaaGreat
section
open Go Go.RowKit
set_option maxRecDepth 100000
@[reducible] def clieCC (me id : Int) (s : Sub) : ClieC → Int × MV × Bool
  | .n1 => (1, .nil, true)
  | .a1 => (1, .attempt ⟨o0, me, false⟩, false)
  | .n2 => (2, .nil, true)
  | .n3 => (3, .nil, true)
  | .n4 => (4, .nil, true)
  | .n5 => (5, .nil, true)
  | .n6 => (6, .nil, true)
  | .a6 t => (6, .insert (insertC s.deadline id t), false)
  | .n7 => (7, .nil, true)
  | .n8 => (8, .nil, true)
  | .n9 => (9, .nil, true)
  | .a9 t => (9, .wake (wakeC me s.level t), false)
@[reducible] def clieC (subs : List Sub) (me : Int) (k : ClieS) : ClientV MV :=
  ⟨subs, me, k.i, (clieCC me k.id (atK4 subs k.i) k.c).1, (clieCC me k.id (atK4 subs k.i) k.c).2.1, (clieCC me k.id (atK4 subs k.i) k.c).2.2, k.id, k.acc⟩
def CSim (subs : List Sub) (me : Int) (res : Option ((Bool × Unit) × (ClientV MV × EnvP × Unit))) (r : Bool × ClieS × EnvP) : Prop := res = some ((r.1, ()), (clieC subs me r.2.1, r.2.2, ()))
def machP (subs : List Sub) (me i id ln : Int) : MV :=
  if ln = 1 then .attempt ⟨o0, me, false⟩ else if ln = 3 then .alloc ⟨o0⟩ else if ln = 6 then .insert ⟨o0, (atK4 subs i).deadline, id, 1, 0, 0, 0, 0⟩ else if ln = 8 then .release ⟨o0⟩ else if ln = 9 then .wake ⟨o0, me, (atK4 subs i).level, 1, 0, 0⟩ else .nil
section
variable [Tb] {K : Nat} {e : EnvP} {w : Int} {subs : List Sub} {me i id ln : Int} {m : MV} {f acc : Bool}
theorem mach_eq (hi : 0 ≤ i ∧ i < (subs.length : Int)) (h : 1 ≤ ln ∧ ln ≤ 9) : clientClientMachines ⟨subs, me, i, ln, m, f, id, acc⟩ = some ((machP subs me i id ln, ()), (⟨subs, me, i, ln, m, f, id, acc⟩, ())) := by
  unfold clientClientMachines
  simp only [hi, and_self, if_true, lockAcquire, tableAllocate, injectorInsert, lockRelease, parkWake, bnd]
  rw [wi_id (rg_lit (show _ ∧ _ by omega)), if_pos (by simp only [List.length_cons, List.length_nil]; omega)]
  have hv : ln = 1 ∨ ln = 2 ∨ ln = 3 ∨ ln = 4 ∨ ln = 5 ∨ ln = 6 ∨ ln = 7 ∨ ln = 8 ∨ ln = 9 := by omega
  rcases hv with rfl | rfl | rfl | rfl | rfl | rfl | rfl | rfl | rfl <;> rfl
theorem spl_att (x : AttemptV) : (SR1.spl (MV.attempt x)).isNone = false := rfl
theorem spl_all (x : AllocV) : (SR1.spl (MV.alloc x)).isNone = false := rfl
theorem spl_ins (x : InsertV) : (SR1.spl (MV.insert x)).isNone = false := rfl
theorem spl_rel (x : ReleaseV) : (SR1.spl (MV.release x)).isNone = false := rfl
theorem spl_wak (x : WakeV) : (SR1.spl (MV.wake x)).isNone = false := rfl
theorem CSim.ite {c : Prop} [Decidable c] {a b : Option ((Bool × Unit) × (ClientV MV × EnvP × Unit))} {r s : Bool × ClieS × EnvP} (h1 : c → CSim subs me a r) (h2 : ¬ c → CSim subs me b s) : CSim subs me (if c then a else b) (if c then r else s) := by
  by_cases h : c
  · rw [if_pos h, if_pos h]; exact h1 h
  · rw [if_neg h, if_neg h]; exact h2 h
theorem clie_sim (hK : EOk K e) (hk : K ≤ 100000000) (k : ClieS) (hi0 : 0 ≤ k.i) : CSim subs me (clientClientStep (clieC subs me k) e) (clieS subs me e k) := by
  have hl : e.evs.length ≤ 999999999 := by have := hK.ev; omega
  obtain ⟨i, id, acc, c⟩ := k
  have hi0 : 0 ≤ i := hi0
  unfold clieS
  by_cases hov : (subs.length : Int) ≤ i
  · rw [if_pos hov]
    simp only [clientClientStep, clientClientOver, hov, decide_true, bnd, if_true]
    rfl
  rw [if_neg hov]
  have hi : 0 ≤ i ∧ i < (subs.length : Int) := by omega
  have hm : ∀ m v, pEmit { e with m := m } v = some ((), ({ e with m := m, evs := e.evs ++ [v] }, ())) := fun m v => pEmit_eq (e := { e with m := m }) hl
  cases c with
  | n1 =>
    obtain ⟨dn, x', h, ho, hd, hx⟩ := lock_sim (e := e) (w := me) (b := false)
    rw [Bool.or_false] at hd
    simp only [o0] at h hx
    simp only [clieG, clientClientStep, clientClientOver, hov, decide_false, bnd, Bool.not_true, Bool.not_false, Bool.false_eq_true, if_true, if_false, Int.reduceEq, mach_eq hi (show (1 : Int) ≤ 1 ∧ (1 : Int) ≤ 9 by decide), machP, spl_att, stepD3, resultD3, h]
    rcases Bool.eq_false_or_eq_true (e.hit 1 0) with hh | hh
    · rw [hh] at hd
      subst hd
      have ho := ho rfl
      simp only [hh, if_true] at ho ⊢
      simp only [ho, hi, and_self, clientClientAfter, clientClientTo, bnd, Bool.not_true, Bool.not_false, Bool.false_eq_true, if_true, if_false, Int.reduceEq]
      rfl
    · rw [hh] at hd
      subst hd
      have hx := hx rfl
      simp only [hh, hx, bnd, Bool.not_true, Bool.not_false, Bool.false_eq_true, if_true, if_false, Int.reduceEq]
      rfl
  | a1 =>
    obtain ⟨dn, x', h, ho, hd, hx⟩ := lock_sim (e := e) (w := me) (b := false)
    rw [Bool.or_false] at hd
    simp only [o0] at h hx
    simp only [clieG, clientClientStep, clientClientOver, hov, decide_false, bnd, Bool.not_true, Bool.not_false, Bool.false_eq_true, if_true, if_false, Int.reduceEq, spl_att, stepD3, resultD3, h, o0]
    rcases Bool.eq_false_or_eq_true (e.hit 1 0) with hh | hh
    · rw [hh] at hd
      subst hd
      have ho := ho rfl
      simp only [hh, if_true] at ho ⊢
      simp only [ho, hi, and_self, clientClientAfter, clientClientTo, bnd, Bool.not_true, Bool.not_false, Bool.false_eq_true, if_true, if_false, Int.reduceEq]
      rfl
    · rw [hh] at hd
      subst hd
      have hx := hx rfl
      simp only [hh, hx, bnd, Bool.not_true, Bool.not_false, Bool.false_eq_true, if_true, if_false, Int.reduceEq]
      rfl
  | n2 =>
    simp only [clieG, clientClientStep, clientClientOver, hov, decide_false, bnd, Bool.not_true, Bool.not_false, Bool.false_eq_true, if_true, if_false, Int.reduceEq, mach_eq hi (show (1 : Int) ≤ 2 ∧ (2 : Int) ≤ 9 by decide), machP, spl_nil, clientClientAccess, hi, and_self, pLSize, pLoad_eq, clientClientReject, clientClientTo, hm]
    rw [bind_ite]
    exact CSim.ite (fun _ => rfl) fun _ => rfl
  | n3 =>
    obtain ⟨x', h, ho⟩ := alloc_sim (e := e)
    simp only [clieG, clientClientStep, clientClientOver, hov, decide_false, bnd, Bool.not_true, Bool.not_false, Bool.false_eq_true, if_true, if_false, Int.reduceEq, mach_eq hi (show (1 : Int) ≤ 3 ∧ (3 : Int) ≤ 9 by decide), machP, spl_all, stepD3, resultD3, h, clientClientAfter, clientClientReject, clientClientTo, hi, and_self]
    by_cases ci : IsT e (wi (e.gt 0))
    · rw [if_pos ci] at ho ⊢
      have hv : 0 ≤ wi (e.gt 0) ∧ wi (e.gt 0) < ((allocE e).recs.length : Int) := ⟨ci.1, by have := ci.2; have := hK.ct; show _ < (e.recs.length : Int); omega⟩
      simp only [ho, Int.reduceEq, if_false, hv, and_self, if_true]
      rfl
    · rw [if_neg ci] at ho ⊢
      simp only [ho, if_true, pEmit_eq (e := allocE e) hl, bnd]
      rfl
  | n4 =>
    simp only [clieG, clientClientStep, clientClientOver, hov, decide_false, bnd, Bool.not_true, Bool.not_false, Bool.false_eq_true, if_true, if_false, Int.reduceEq, mach_eq hi (show (1 : Int) ≤ 4 ∧ (4 : Int) ≤ 9 by decide), machP, spl_nil, clientClientAccess, hi, and_self, pLevel_eq, pStore_eq, clientClientTo]
    rfl
  | n5 =>
    simp only [clieG, clientClientStep, clientClientOver, hov, decide_false, bnd, Bool.not_true, Bool.not_false, Bool.false_eq_true, if_true, if_false, Int.reduceEq, mach_eq hi (show (1 : Int) ≤ 5 ∧ (5 : Int) ≤ 9 by decide), machP, spl_nil, clientClientAccess, hi, and_self, pSince_eq, pNow, pStore_eq, clientClientTo]
    rfl
  | n6 =>
    have h := insert_sim (e := e) (d := (atK4 subs i).deadline) (t := id) .l1
    have hn := insert_nx (e := e) (d := (atK4 subs i).deadline) (t := id) .l1
    revert h hn
    simp only [clieG, clientClientStep, clientClientOver, hov, decide_false, bnd, Bool.not_true, Bool.not_false, Bool.false_eq_true, if_true, if_false, Int.reduceEq, mach_eq hi (show (1 : Int) ≤ 6 ∧ (6 : Int) ≤ 9 by decide), machP, spl_ins, stepD3, resultD3, o0]
    rcases insertS (atK4 subs i).deadline id e .l1 with ⟨r | ⟨c, y⟩, e'⟩ <;> intro h hn
    · simp only [SimR, o0] at h
      simp only [h, bnd, Bool.not_false, if_true]
      rfl
    · simp only [SimR, o0] at h
      obtain ⟨x', h, ho⟩ := h
      have hl' : e'.evs.length ≤ 999999999 := by have h1 : e'.evs.length ≤ e.evs.length + 0 := hn.ev; have := hK.ev; omega
      simp only [h, ho, clientClientAfter, clientClientTo, hi, and_self, pEmit_eq hl', bnd, Bool.not_true, Bool.not_false, Bool.false_eq_true, if_true, if_false, Int.reduceEq, ne_eq]
      by_cases hc : c = 0
      · simp only [hc, not_true, if_true, if_false]; rfl
      · simp only [hc, not_false_eq_true, if_true, if_false]; rfl
  | a6 t =>
    have h := insert_sim (e := e) (d := (atK4 subs i).deadline) (t := id) t
    have hn := insert_nx (e := e) (d := (atK4 subs i).deadline) (t := id) t
    revert h hn
    simp only [clieG, clientClientStep, clientClientOver, hov, decide_false, bnd, Bool.not_true, Bool.not_false, Bool.false_eq_true, if_true, if_false, Int.reduceEq, spl_ins, stepD3, resultD3]
    rcases insertS (atK4 subs i).deadline id e t with ⟨r | ⟨c, y⟩, e'⟩ <;> intro h hn
    · simp only [SimR] at h
      simp only [h, bnd, Bool.not_false, if_true]
      rfl
    · simp only [SimR] at h
      obtain ⟨x', h, ho⟩ := h
      have hl' : e'.evs.length ≤ 999999999 := by have h1 : e'.evs.length ≤ e.evs.length + 0 := hn.ev; have := hK.ev; omega
      simp only [h, ho, clientClientAfter, clientClientTo, hi, and_self, pEmit_eq hl', bnd, Bool.not_true, Bool.not_false, Bool.false_eq_true, if_true, if_false, Int.reduceEq, ne_eq]
      by_cases hc : c = 0
      · simp only [hc, not_true, if_true, if_false]; rfl
      · simp only [hc, not_false_eq_true, if_true, if_false]; rfl
  | n7 =>
    simp only [clieG, clientClientStep, clientClientOver, hov, decide_false, bnd, Bool.not_true, Bool.not_false, Bool.false_eq_true, if_true, if_false, Int.reduceEq, mach_eq hi (show (1 : Int) ≤ 7 ∧ (7 : Int) ≤ 9 by decide), machP, spl_nil, clientClientAccess, hi, and_self, pState_eq, pStore_eq, clientClientTo]
    rfl
  | n8 =>
    obtain ⟨x', h, ho⟩ := free_sim (e := e)
    simp only [clieG, clientClientStep, clientClientOver, hov, decide_false, bnd, Bool.not_true, Bool.not_false, Bool.false_eq_true, if_true, if_false, Int.reduceEq, mach_eq hi (show (1 : Int) ≤ 8 ∧ (8 : Int) ≤ 9 by decide), machP, spl_rel, stepD3, resultD3, h, clientClientAfter, clientClientNext, clientClientOver, clientClientTo, hi, and_self]
    cases acc <;> rfl
  | n9 =>
    have h := wake_sim (e := e) (w := me) (v := (atK4 subs i).level) hl (.l1 0)
    revert h
    simp only [clieG, clientClientStep, clientClientOver, hov, decide_false, bnd, Bool.not_true, Bool.not_false, Bool.false_eq_true, if_true, if_false, Int.reduceEq, mach_eq hi (show (1 : Int) ≤ 9 ∧ (9 : Int) ≤ 9 by decide), machP, spl_wak, stepD3, resultD3, o0]
    rcases wakeS me (atK4 subs i).level e (.l1 0) with ⟨r | ⟨c, y⟩, e'⟩ <;> intro h
    · simp only [SimR, o0] at h
      simp only [h, bnd, Bool.not_false, if_true]
      rfl
    · simp only [SimR, o0] at h
      obtain ⟨x', h, ho⟩ := h
      simp only [h, ho, clientClientAfter, clientClientNext, clientClientOver, clientClientTo, hi, and_self, bnd, Bool.not_true, Bool.not_false, Bool.false_eq_true, if_true, if_false, Int.reduceEq]
      rfl
  | a9 t =>
    have h := wake_sim (e := e) (w := me) (v := (atK4 subs i).level) hl t
    revert h
    simp only [clieG, clientClientStep, clientClientOver, hov, decide_false, bnd, Bool.not_true, Bool.not_false, Bool.false_eq_true, if_true, if_false, Int.reduceEq, spl_wak, stepD3, resultD3]
    rcases wakeS me (atK4 subs i).level e t with ⟨r | ⟨c, y⟩, e'⟩ <;> intro h
    · simp only [SimR] at h
      simp only [h, bnd, Bool.not_false, if_true]
      rfl
    · simp only [SimR] at h
      obtain ⟨x', h, ho⟩ := h
      simp only [h, ho, clientClientAfter, clientClientNext, clientClientOver, clientClientTo, hi, and_self, bnd, Bool.not_true, Bool.not_false, Bool.false_eq_true, if_true, if_false, Int.reduceEq]
      rfl
theorem work_line_nx (hK : EOk K e) (k : WorkS) (hc : k.c ≠ .top) : Stp 2 e (workS w e k).2 := by
  obtain ⟨cur, vi, lv, x, c⟩ := k
  cases c with
  | top => exact absurd rfl hc
  | t1 t s =>
    have h := sweep_nx (e := e) (w := w) (t := t) s
    revert h
    simp only [workS, workB]
    rcases sweepS w t e s with ⟨r | ⟨c, y⟩, e'⟩ <;> intro h
    · exact h.le (by decide)
    · exact h.le (by decide)
  | t2 s =>
    have h := take_nx (w := w) (fun t => hK.st) s
    revert h
    simp only [workS, workB]
    rcases takeS w e s with ⟨r | ⟨c, y⟩, e'⟩ <;> intro h
    · exact h.le (by decide)
    · exact h.le (by decide)
  | t3 s =>
    have h := drain_nx (e := e) (w := w) s
    revert h
    simp only [workS, workB]
    rcases drainS w e s with ⟨r | ⟨c, y⟩, e'⟩ <;> intro h
    · exact h.le (by decide)
    · exact h.le (by decide)
  | t4 s =>
    have h := probe_nx (e := e) (w := w) s
    revert h
    simp only [workS, workB]
    rcases probeS w e s with ⟨r | ⟨c, y⟩, e'⟩ <;> intro h
    · exact h.le (by decide)
    · exact h.le (by decide)
  | t5 s =>
    have h := steal_nx (e := e) (q := queueP e.l vi lv) s
    revert h
    simp only [workS, workB]
    rcases stealS (queueP e.l vi lv) e s with ⟨r | ⟨c, y⟩, e'⟩ <;> intro h
    · exact h.le (by decide)
    · simp only
      split
      · exact Stp.le (Stp.em h) (by decide)
      · split <;> exact Stp.le h (by decide)
  | t6 => exact (claim_nx (w := w) (t := x) hK.st).le (by decide)
  | t7 s =>
    have h := run_nx (w := w) hK s
    revert h
    simp only [workS, workB]
    rcases runS w e s with ⟨r | ⟨c, y⟩, e'⟩ <;> intro h
    · exact h.le (by decide)
    · exact h.le (by decide)
  | t8 s =>
    have h := sleep_nx (e := e) (w := w) s
    revert h
    simp only [workS, workB]
    rcases sleepS w e s with ⟨r | ⟨c, y⟩, e'⟩ <;> intro h
    · exact h.le (by decide)
    · exact h.le (by decide)
  | t9 s =>
    have h := reset_nx (e := e) (a := bitmapP e.l vi) (b := lv) (q := queueP e.l vi lv) s
    revert h
    simp only [workS, workB]
    rcases resetS (bitmapP e.l vi) lv (queueP e.l vi lv) e s with ⟨r | ⟨c, y⟩, e'⟩ <;> intro h
    · exact h.le (by decide)
    · exact h.le (by decide)
theorem workS_top {cur vi lv x : Int} : workS w e ⟨cur, vi, lv, x, workB w e ⟨cur, vi, lv, x, .top⟩⟩ = workS w e ⟨cur, vi, lv, x, .top⟩ := by
  unfold workB
  simp only
  by_cases ha : e.c.age = 0
  · simp only [workS, workB, ha, if_true]
  · simp only [workS, workB, ha, if_false]
theorem work_nx (hK : EOk K e) (k : WorkS) : Stp 2 e (workS w e k).2 := by
  obtain ⟨cur, vi, lv, x, c⟩ := k
  cases c with
  | top =>
    rw [← workS_top]
    exact work_line_nx hK _ (show workB w e ⟨cur, vi, lv, x, .top⟩ ≠ .top from workB_top)
  | _ => exact work_line_nx hK _ (fun h => by cases h)
theorem work_line_ok (hK : EOk K e) (k : WorkS) (hc : k.c ≠ .top) (hW : WorkOk K (manyP e) k) (hK1 : 1 ≤ K) : WorkOk (K + 1) (manyP e) (workS w e k).1 := by
  obtain ⟨cur, vi, lv, x, c⟩ := k
  have hr0 : ∀ t, RunOk (K + 1) (run0 t) := fun t => ⟨by simp [run0], by simp [run0]⟩
  cases c with
  | top => exact absurd rfl hc
  | t1 t s =>
    simp only [workS, workB]
    split <;> trivial
  | t2 s =>
    simp only [workS, workB]
    split
    · trivial
    · simp only
      split
      · exact hr0 _
      · exact (rfl : drain0.direct = false)
  | t3 s =>
    simp only [workS, workB]
    split
    · rename_i h; exact drain_ok hW h
    · simp only
      split
      · trivial
      · split
        · trivial
        · unfold WorkOk idleC
          simp only
          split <;> first | trivial | (rename_i h; split at h <;> cases h; trivial) | (rename_i h; split at h <;> cases h)
  | t4 s =>
    simp only [workS, workB]
    split
    · rename_i h; exact probe_ok hK.wk hW h
    · simp only
      split <;> trivial
  | t5 s =>
    simp only [workS, workB]
    split
    · trivial
    · split
      · trivial
      · split <;> trivial
  | t6 =>
    simp only [workS, workB]
    split
    · exact hr0 _
    · trivial
  | t7 s =>
    simp only [workS, workB]
    split
    · rename_i h
      have h1 := run_ok hW.1 h
      exact ⟨h1.1, by have := hW.2; omega⟩
    · trivial
  | t8 s =>
    simp only [workS, workB]
    split <;> trivial
  | t9 s =>
    simp only [workS, workB]
    split <;> trivial
theorem work_ok (hK : EOk K e) (k : WorkS) (hW : WorkOk K (manyP e) k) (hK1 : 1 ≤ K) : WorkOk (K + 1) (manyP e) (workS w e k).1 := by
  obtain ⟨cur, vi, lv, x, c⟩ := k
  cases c with
  | top =>
    rw [← workS_top]
    refine work_line_ok hK _ (show workB w e ⟨cur, vi, lv, x, .top⟩ ≠ .top from workB_top) ?_ hK1
    unfold workB
    simp only
    split <;> trivial
  | _ => exact work_line_ok hK _ (fun h => by cases h) hW hK1
theorem clie_nx (hK : EOk K e) (k : ClieS) : Stp 2 e (clieS subs me e k).2.2 := by
  obtain ⟨i, id, acc, c⟩ := k
  unfold clieS
  split
  · exact Stp.refl.le (by decide)
  cases c with
  | n1 => exact Stp.le lock_nx (by decide)
  | a1 => exact Stp.le lock_nx (by decide)
  | n2 =>
    simp only [clieG]
    split
    · exact Stp.le (Stp.em Stp.lk) (by decide)
    · exact Stp.le Stp.lk (by decide)
  | n3 =>
    simp only [clieG]
    split
    · exact Stp.le (Stp.pr alloc_nx fun K h => Nat.zero_le _) (by decide)
    · exact Stp.le (Stp.em alloc_nx) (by decide)
  | n4 => exact Stp.le (Stp.pt (by decide)) (Nat.zero_le _)
  | n5 => exact Stp.le (Stp.pt (by decide)) (Nat.zero_le _)
  | n6 =>
    have h := insert_nx (e := e) (d := (atK4 subs i).deadline) (t := id) .l1
    revert h
    simp only [clieG]
    rcases insertS (atK4 subs i).deadline id e .l1 with ⟨r | ⟨c, y⟩, e'⟩ <;> intro h
    · exact Stp.le h (by decide)
    · simp only
      split
      · exact Stp.le (Stp.em h) (by decide)
      · exact Stp.le h (by decide)
  | a6 t =>
    have h := insert_nx (e := e) (d := (atK4 subs i).deadline) (t := id) t
    revert h
    simp only [clieG]
    rcases insertS (atK4 subs i).deadline id e t with ⟨r | ⟨c, y⟩, e'⟩ <;> intro h
    · exact Stp.le h (by decide)
    · simp only
      split
      · exact Stp.le (Stp.em h) (by decide)
      · exact Stp.le h (by decide)
  | n7 => exact Stp.le (Stp.pt (by decide)) (Nat.zero_le _)
  | n8 =>
    simp only [clieG]
    split
    · exact Stp.le free_nx (by decide)
    · exact Stp.le (show Stp 0 e (clieN subs _ (freeE e)).2.2 from free_nx) (by decide)
  | n9 =>
    have h := wake_nx (e := e) (w := me) (v := (atK4 subs i).level) (.l1 0)
    revert h
    simp only [clieG]
    rcases wakeS me (atK4 subs i).level e (.l1 0) with ⟨r | ⟨c, y⟩, e'⟩ <;> intro h <;> exact Stp.le h (by decide)
  | a9 t =>
    have h := wake_nx (e := e) (w := me) (v := (atK4 subs i).level) t
    revert h
    simp only [clieG]
    rcases wakeS me (atK4 subs i).level e t with ⟨r | ⟨c, y⟩, e'⟩ <;> intro h <;> exact Stp.le h (by decide)
theorem clie_i (hs : subs.length ≤ 1000000) (k : ClieS) (hi : 0 ≤ k.i) : 0 ≤ (clieS subs me e k).2.1.i := by
  obtain ⟨i, id, acc, c⟩ := k
  have hi : 0 ≤ i := hi
  unfold clieS
  split
  · exact hi
  rename_i hov
  have hov : ¬ (subs.length : Int) ≤ i := hov
  have hw : 0 ≤ wi (i + 1) := by rw [wi_id (rg_lit (by omega))]; omega
  cases c <;> simp only [clieG, clieN] <;> (repeat' split) <;> first | exact hi | exact hw
end
end
section
open Go Go.RowKit
set_option maxRecDepth 100000
variable [Tb]
abbrev EngT := Int × List Int × Int × Int × Int × Int × Unit
noncomputable def onceTail {σ : Type} (before : List Int) (l : List EntV) (i c0 : Int) (env : EnvP) (eng : EngT) (self : List Int → EnvP → EngT → Option (σ ⊕ ((Bool × Unit) × Unit))) : Option (σ ⊕ ((Bool × Unit) × Unit)) :=
   (memoryMemoryCount env.m).bind fun r24 =>
   if c0 < r24.1.1 then
   (memoryMemoryLast r24.2.1).bind fun r25 =>
   (lpF (σ := EnvP × (Int × List Int × Int × Int × Int × Int × Unit) × Unit) (β := EnvP × (Int × List Int × Int × Int × Int × Int × Unit) × Unit) (fun self28 x26 =>
   if ((x26.2.1.2.1.length : Nat) : Int) < ((x26.1.evs.length : Nat) : Int) then
   if (((x26.2.1.2.1.length + ([x26.2.1.1] : List Int).length : Nat)) : Int) < 1000000000000 then
   self28 (x26.1, (x26.2.1.1, x26.2.1.2.1 ++ ([x26.2.1.1]), x26.2.1.2.2.1, x26.2.1.2.2.2.1, x26.2.1.2.2.2.2.1, x26.2.1.2.2.2.2.2.1, ()), ())
   else none
   else
   some (x26.1, (x26.2.1.1, x26.2.1.2.1, x26.2.1.2.2.1, x26.2.1.2.2.2.1, x26.2.1.2.2.2.2.1, x26.2.1.2.2.2.2.2.1, ()), ())
   ) 18446744073709551616 (({ env with m := r25.2.1 } : EnvP), (eng.1, eng.2.1, r25.1.1.kind, r25.1.1.cell, r25.1.1.old, r25.1.1.new, ()), ())).bind fun z27 =>
   (memoryMemoryCells z27.1.m).bind fun r29 =>
   if ((r29.1.1.length : Nat) : Int) ≠ ((before.length : Nat) : Int) then
   Option.map Sum.inr (
   some ((false, ()), (()))
   )
   else
   if 0 ≤ i ∧ i < ((l.length : Nat) : Int) then
   if ((atK5 l i).kind) ≠ 0 then
   if ¬ (z27.2.1.2.2.1 = 0 ∧ z27.2.1.2.2.2.1 = 0 ∧ z27.2.1.2.2.2.2.1 = 0 ∧ z27.2.1.2.2.2.2.2.1 = 0 ∧ True) then
   Option.map Sum.inr (
   some ((false, ()), (()))
   )
   else
   (lpF (σ := List Int × List Int × AccV × Int × Unit) (β := (List Int × List Int × AccV × Int × Unit) ⊕ ((σ) ⊕ ((Bool × Unit) × (Unit)))) (fun self32 x30 =>
   if x30.2.2.2.1 < ((x30.2.1.length : Nat) : Int) then
   if 0 ≤ x30.2.2.2.1 ∧ x30.2.2.2.1 < ((x30.2.1.length : Nat) : Int) then
   if 0 ≤ x30.2.2.2.1 ∧ x30.2.2.2.1 < ((x30.1.length : Nat) : Int) then
   if (atK0 x30.2.1 x30.2.2.2.1) ≠ (atK0 x30.1 x30.2.2.2.1) then
   if x30.2.2.1.kind < 2 then
   Option.map Sum.inr (
   Option.map Sum.inr (
   some ((false, ()), (()))
   )
   )
   else
   if x30.2.2.1.cell ≠ x30.2.2.2.1 then
   Option.map Sum.inr (
   Option.map Sum.inr (
   some ((false, ()), (()))
   )
   )
   else
   if 0 ≤ x30.2.2.2.1 ∧ x30.2.2.2.1 < ((x30.1.length : Nat) : Int) then
   if x30.2.2.1.old ≠ (atK0 x30.1 x30.2.2.2.1) then
   Option.map Sum.inr (
   Option.map Sum.inr (
   some ((false, ()), (()))
   )
   )
   else
   if 0 ≤ x30.2.2.2.1 ∧ x30.2.2.2.1 < ((x30.2.1.length : Nat) : Int) then
   if x30.2.2.1.new ≠ (atK0 x30.2.1 x30.2.2.2.1) then
   Option.map Sum.inr (
   Option.map Sum.inr (
   some ((false, ()), (()))
   )
   )
   else
   self32 (x30.1, x30.2.1, x30.2.2.1, wi (x30.2.2.2.1 + 1), ())
   else none
   else none
   else
   self32 (x30.1, x30.2.1, x30.2.2.1, wi (x30.2.2.2.1 + 1), ())
   else none
   else none
   else
   some (Sum.inl (x30.1, x30.2.1, x30.2.2.1, x30.2.2.2.1, ()))
   ) 18446744073709551616 (before, r29.1.1, (⟨z27.2.1.2.2.1, z27.2.1.2.2.2.1, z27.2.1.2.2.2.2.1, z27.2.1.2.2.2.2.2.1⟩ : AccV), 0, ())).bind fun z31 => match z31 with
   | .inr o33 => some o33
   | .inl z31 =>
   self (z31.2.1) ({ z27.1 with m := r29.2.1 } : EnvP) (wi (z27.2.1.1 + 1), z27.2.1.2.1, z27.2.1.2.2.1, z27.2.1.2.2.2.1, z27.2.1.2.2.2.2.1, z27.2.1.2.2.2.2.2.1, ())
   else
   (lpF (σ := List Int × List Int × AccV × Int × Unit) (β := (List Int × List Int × AccV × Int × Unit) ⊕ ((σ) ⊕ ((Bool × Unit) × (Unit)))) (fun self36 x34 =>
   if x34.2.2.2.1 < ((x34.2.1.length : Nat) : Int) then
   if 0 ≤ x34.2.2.2.1 ∧ x34.2.2.2.1 < ((x34.2.1.length : Nat) : Int) then
   if 0 ≤ x34.2.2.2.1 ∧ x34.2.2.2.1 < ((x34.1.length : Nat) : Int) then
   if (atK0 x34.2.1 x34.2.2.2.1) ≠ (atK0 x34.1 x34.2.2.2.1) then
   if x34.2.2.1.kind < 2 then
   Option.map Sum.inr (
   Option.map Sum.inr (
   some ((false, ()), (()))
   )
   )
   else
   if x34.2.2.1.cell ≠ x34.2.2.2.1 then
   Option.map Sum.inr (
   Option.map Sum.inr (
   some ((false, ()), (()))
   )
   )
   else
   if 0 ≤ x34.2.2.2.1 ∧ x34.2.2.2.1 < ((x34.1.length : Nat) : Int) then
   if x34.2.2.1.old ≠ (atK0 x34.1 x34.2.2.2.1) then
   Option.map Sum.inr (
   Option.map Sum.inr (
   some ((false, ()), (()))
   )
   )
   else
   if 0 ≤ x34.2.2.2.1 ∧ x34.2.2.2.1 < ((x34.2.1.length : Nat) : Int) then
   if x34.2.2.1.new ≠ (atK0 x34.2.1 x34.2.2.2.1) then
   Option.map Sum.inr (
   Option.map Sum.inr (
   some ((false, ()), (()))
   )
   )
   else
   self36 (x34.1, x34.2.1, x34.2.2.1, wi (x34.2.2.2.1 + 1), ())
   else none
   else none
   else
   self36 (x34.1, x34.2.1, x34.2.2.1, wi (x34.2.2.2.1 + 1), ())
   else none
   else none
   else
   some (Sum.inl (x34.1, x34.2.1, x34.2.2.1, x34.2.2.2.1, ()))
   ) 18446744073709551616 (before, r29.1.1, (⟨z27.2.1.2.2.1, z27.2.1.2.2.2.1, z27.2.1.2.2.2.2.1, z27.2.1.2.2.2.2.2.1⟩ : AccV), 0, ())).bind fun z35 => match z35 with
   | .inr o37 => some o37
   | .inl z35 =>
   self (z35.2.1) ({ z27.1 with m := r29.2.1 } : EnvP) (wi (z27.2.1.1 + 1), z27.2.1.2.1, z27.2.1.2.2.1, z27.2.1.2.2.2.1, z27.2.1.2.2.2.2.1, z27.2.1.2.2.2.2.2.1, ())
   else none
   else
   (lpF (σ := EnvP × (Int × List Int × Int × Int × Int × Int × Unit) × Unit) (β := EnvP × (Int × List Int × Int × Int × Int × Int × Unit) × Unit) (fun self40 x38 =>
   if ((x38.2.1.2.1.length : Nat) : Int) < ((x38.1.evs.length : Nat) : Int) then
   if (((x38.2.1.2.1.length + ([x38.2.1.1] : List Int).length : Nat)) : Int) < 1000000000000 then
   self40 (x38.1, (x38.2.1.1, x38.2.1.2.1 ++ ([x38.2.1.1]), x38.2.1.2.2.1, x38.2.1.2.2.2.1, x38.2.1.2.2.2.2.1, x38.2.1.2.2.2.2.2.1, ()), ())
   else none
   else
   some (x38.1, (x38.2.1.1, x38.2.1.2.1, x38.2.1.2.2.1, x38.2.1.2.2.2.1, x38.2.1.2.2.2.2.1, x38.2.1.2.2.2.2.2.1, ()), ())
   ) 18446744073709551616 (({ env with m := r24.2.1 } : EnvP), (eng.1, eng.2.1, 0, 0, 0, 0, ()), ())).bind fun z39 =>
   (memoryMemoryCells z39.1.m).bind fun r41 =>
   if ((r41.1.1.length : Nat) : Int) ≠ ((before.length : Nat) : Int) then
   Option.map Sum.inr (
   some ((false, ()), (()))
   )
   else
   if 0 ≤ i ∧ i < ((l.length : Nat) : Int) then
   if ((atK5 l i).kind) ≠ 0 then
   if ¬ (z39.2.1.2.2.1 = 0 ∧ z39.2.1.2.2.2.1 = 0 ∧ z39.2.1.2.2.2.2.1 = 0 ∧ z39.2.1.2.2.2.2.2.1 = 0 ∧ True) then
   Option.map Sum.inr (
   some ((false, ()), (()))
   )
   else
   (lpF (σ := List Int × List Int × AccV × Int × Unit) (β := (List Int × List Int × AccV × Int × Unit) ⊕ ((σ) ⊕ ((Bool × Unit) × (Unit)))) (fun self44 x42 =>
   if x42.2.2.2.1 < ((x42.2.1.length : Nat) : Int) then
   if 0 ≤ x42.2.2.2.1 ∧ x42.2.2.2.1 < ((x42.2.1.length : Nat) : Int) then
   if 0 ≤ x42.2.2.2.1 ∧ x42.2.2.2.1 < ((x42.1.length : Nat) : Int) then
   if (atK0 x42.2.1 x42.2.2.2.1) ≠ (atK0 x42.1 x42.2.2.2.1) then
   if x42.2.2.1.kind < 2 then
   Option.map Sum.inr (
   Option.map Sum.inr (
   some ((false, ()), (()))
   )
   )
   else
   if x42.2.2.1.cell ≠ x42.2.2.2.1 then
   Option.map Sum.inr (
   Option.map Sum.inr (
   some ((false, ()), (()))
   )
   )
   else
   if 0 ≤ x42.2.2.2.1 ∧ x42.2.2.2.1 < ((x42.1.length : Nat) : Int) then
   if x42.2.2.1.old ≠ (atK0 x42.1 x42.2.2.2.1) then
   Option.map Sum.inr (
   Option.map Sum.inr (
   some ((false, ()), (()))
   )
   )
   else
   if 0 ≤ x42.2.2.2.1 ∧ x42.2.2.2.1 < ((x42.2.1.length : Nat) : Int) then
   if x42.2.2.1.new ≠ (atK0 x42.2.1 x42.2.2.2.1) then
   Option.map Sum.inr (
   Option.map Sum.inr (
   some ((false, ()), (()))
   )
   )
   else
   self44 (x42.1, x42.2.1, x42.2.2.1, wi (x42.2.2.2.1 + 1), ())
   else none
   else none
   else
   self44 (x42.1, x42.2.1, x42.2.2.1, wi (x42.2.2.2.1 + 1), ())
   else none
   else none
   else
   some (Sum.inl (x42.1, x42.2.1, x42.2.2.1, x42.2.2.2.1, ()))
   ) 18446744073709551616 (before, r41.1.1, (⟨z39.2.1.2.2.1, z39.2.1.2.2.2.1, z39.2.1.2.2.2.2.1, z39.2.1.2.2.2.2.2.1⟩ : AccV), 0, ())).bind fun z43 => match z43 with
   | .inr o45 => some o45
   | .inl z43 =>
   self (z43.2.1) ({ z39.1 with m := r41.2.1 } : EnvP) (wi (z39.2.1.1 + 1), z39.2.1.2.1, z39.2.1.2.2.1, z39.2.1.2.2.2.1, z39.2.1.2.2.2.2.1, z39.2.1.2.2.2.2.2.1, ())
   else
   (lpF (σ := List Int × List Int × AccV × Int × Unit) (β := (List Int × List Int × AccV × Int × Unit) ⊕ ((σ) ⊕ ((Bool × Unit) × (Unit)))) (fun self48 x46 =>
   if x46.2.2.2.1 < ((x46.2.1.length : Nat) : Int) then
   if 0 ≤ x46.2.2.2.1 ∧ x46.2.2.2.1 < ((x46.2.1.length : Nat) : Int) then
   if 0 ≤ x46.2.2.2.1 ∧ x46.2.2.2.1 < ((x46.1.length : Nat) : Int) then
   if (atK0 x46.2.1 x46.2.2.2.1) ≠ (atK0 x46.1 x46.2.2.2.1) then
   if x46.2.2.1.kind < 2 then
   Option.map Sum.inr (
   Option.map Sum.inr (
   some ((false, ()), (()))
   )
   )
   else
   if x46.2.2.1.cell ≠ x46.2.2.2.1 then
   Option.map Sum.inr (
   Option.map Sum.inr (
   some ((false, ()), (()))
   )
   )
   else
   if 0 ≤ x46.2.2.2.1 ∧ x46.2.2.2.1 < ((x46.1.length : Nat) : Int) then
   if x46.2.2.1.old ≠ (atK0 x46.1 x46.2.2.2.1) then
   Option.map Sum.inr (
   Option.map Sum.inr (
   some ((false, ()), (()))
   )
   )
   else
   if 0 ≤ x46.2.2.2.1 ∧ x46.2.2.2.1 < ((x46.2.1.length : Nat) : Int) then
   if x46.2.2.1.new ≠ (atK0 x46.2.1 x46.2.2.2.1) then
   Option.map Sum.inr (
   Option.map Sum.inr (
   some ((false, ()), (()))
   )
   )
   else
   self48 (x46.1, x46.2.1, x46.2.2.1, wi (x46.2.2.2.1 + 1), ())
   else none
   else none
   else
   self48 (x46.1, x46.2.1, x46.2.2.1, wi (x46.2.2.2.1 + 1), ())
   else none
   else none
   else
   some (Sum.inl (x46.1, x46.2.1, x46.2.2.1, x46.2.2.2.1, ()))
   ) 18446744073709551616 (before, r41.1.1, (⟨z39.2.1.2.2.1, z39.2.1.2.2.2.1, z39.2.1.2.2.2.2.1, z39.2.1.2.2.2.2.2.1⟩ : AccV), 0, ())).bind fun z47 => match z47 with
   | .inr o49 => some o49
   | .inl z47 =>
   self (z47.2.1) ({ z39.1 with m := r41.2.1 } : EnvP) (wi (z39.2.1.1 + 1), z39.2.1.2.1, z39.2.1.2.2.1, z39.2.1.2.2.2.1, z39.2.1.2.2.2.2.1, z39.2.1.2.2.2.2.2.1, ())
   else none
abbrev OnceT1 := List Int × Int × EnvP × (WorkerV MV) × (ClientV MV) × (Int × List Int × Int × Int × Int × Int × Unit) × Unit
noncomputable def onceKind1 (l : List EntV) (x14 : OnceT1) (r17 : (Int × Unit) × (MemV × Unit)) :=
   ((
   if ((atK5 l x14.2.1).kind) = 0 then
   (scriptMachine (atK5 l x14.2.1) 2).bind fun r18 =>
   if r18.1.1 = ((1 : Nat) : Int) then
   (clientClientStep x14.2.2.2.2.1 ({ x14.2.2.1 with m := r17.2.1 } : EnvP)).bind fun r19 =>
   some (r19.2.2.1, x14.2.2.2.1, r19.2.1, (x14.2.2.2.2.2.1.1, x14.2.2.2.2.2.1.2.1, x14.2.2.2.2.2.1.2.2.1, x14.2.2.2.2.2.1.2.2.2.1, x14.2.2.2.2.2.1.2.2.2.2.1, x14.2.2.2.2.2.1.2.2.2.2.2.1, ()), ())
   else
   if r18.1.1 = ((0 : Nat) : Int) then
   (workerWorkerStep x14.2.2.2.1 ({ x14.2.2.1 with m := r17.2.1 } : EnvP)).bind fun r20 =>
   some (r20.2.2.1, r20.2.1, x14.2.2.2.2.1, (x14.2.2.2.2.2.1.1, x14.2.2.2.2.2.1.2.1, x14.2.2.2.2.2.1.2.2.1, x14.2.2.2.2.2.1.2.2.2.1, x14.2.2.2.2.2.1.2.2.2.2.1, x14.2.2.2.2.2.1.2.2.2.2.2.1, ()), ())
   else
   none
   else
   if ((atK5 l x14.2.1).kind) = 1 then
   (clockClockTick x14.2.2.1.k).bind fun r21 =>
   some (({ x14.2.2.1 with m := r17.2.1, k := r21.2.1 } : EnvP), x14.2.2.2.1, x14.2.2.2.2.1, (x14.2.2.2.2.2.1.1, x14.2.2.2.2.2.1.2.1, x14.2.2.2.2.2.1.2.2.1, x14.2.2.2.2.2.1.2.2.2.1, x14.2.2.2.2.2.1.2.2.2.2.1, x14.2.2.2.2.2.1.2.2.2.2.2.1, ()), ())
   else
   if ((atK5 l x14.2.1).kind) = 2 then
   (clockClockSet x14.2.2.1.k ((atK5 l x14.2.1).value)).bind fun r22 =>
   some (({ x14.2.2.1 with m := r17.2.1, k := r22.2.1 } : EnvP), x14.2.2.2.1, x14.2.2.2.2.1, (x14.2.2.2.2.2.1.1, x14.2.2.2.2.2.1.2.1, x14.2.2.2.2.2.1.2.2.1, x14.2.2.2.2.2.1.2.2.2.1, x14.2.2.2.2.2.1.2.2.2.2.1, x14.2.2.2.2.2.1.2.2.2.2.2.1, ()), ())
   else
   some (({ x14.2.2.1 with m := r17.2.1 } : EnvP), x14.2.2.2.1, x14.2.2.2.2.1, (x14.2.2.2.2.2.1.1, x14.2.2.2.2.2.1.2.1, x14.2.2.2.2.2.1.2.2.1, x14.2.2.2.2.2.1.2.2.2.1, x14.2.2.2.2.2.1.2.2.2.2.1, x14.2.2.2.2.2.1.2.2.2.2.2.1, ()), ())
   ) : Option (EnvP × (WorkerV MV) × (ClientV MV) × (Int × List Int × Int × Int × Int × Int × Unit) × Unit))
noncomputable def onceBody1 (l : List EntV) (self16 : OnceT1 → Option ((List Int × Int × EnvP × (WorkerV MV) × (ClientV MV) × (Int × List Int × Int × Int × Int × Int × Unit) × Unit) ⊕ ((Bool × Unit) × (Unit)))) (x14 : OnceT1) : Option ((List Int × Int × EnvP × (WorkerV MV) × (ClientV MV) × (Int × List Int × Int × Int × Int × Int × Unit) × Unit) ⊕ ((Bool × Unit) × (Unit))) :=
 if x14.2.1 < ((l.length : Nat) : Int) then
  if 0 ≤ x14.2.1 ∧ x14.2.1 < ((l.length : Nat) : Int) then
   (memoryMemoryCount x14.2.2.1.m).bind fun r17 =>
   (onceKind1 l x14 r17).bind fun z23 =>
   onceTail x14.1 l x14.2.1 r17.1.1 z23.1 z23.2.2.2.1 (fun b e g => self16 (b, wi (x14.2.1 + 1), e, z23.2.1, z23.2.2.1, g, ()))
  else none
 else
 some (Sum.inl (x14.1, x14.2.1, x14.2.2.1, x14.2.2.2.1, x14.2.2.2.2.1, (x14.2.2.2.2.2.1.1, x14.2.2.2.2.2.1.2.1, x14.2.2.2.2.2.1.2.2.1, x14.2.2.2.2.2.1.2.2.2.1, x14.2.2.2.2.2.1.2.2.2.2.1, x14.2.2.2.2.2.1.2.2.2.2.2.1, ()), ()))
noncomputable def onceRun1 (y0 : List Int) (y1 : List Int) : Option ((Bool × Unit) × (Unit)) :=
 (kshort y0 ([])).bind fun r1 =>
 if (!r1.1.1) = true then
  some ((true, ()), (()))
 else
 if 600 < ((y1.length : Nat) : Int) then
  some ((true, ()), (()))
 else
 (kconfig y0).bind fun r2 =>
 (machineNew r2.1.1).bind fun r3 =>
 if r3.1.2.1 ≠ 0 then
  if r3.1.2.1 ≠ 0 then
   (worksteallaw28Awake).bind fun r4 =>
   if (!r4.1.1) = true then
   some ((false, ()), (()))
   else
   some ((false, ()), (()))
  else
  (worksteallaw28Awake).bind fun r5 =>
  if (!r5.1.1) = true then
   some ((false, ()), (()))
  else
  some ((false, ()), (()))
 else
 (clientNew r2.1.1).bind fun r6 =>
 if r2.1.1.workers = ((1 : Nat) : Int) then
  (workerNew 0).bind fun r7 =>
  (lpF (σ := Int × EnvP × (WorkerV MV) × (ClientV MV) × (Int × List Int × Int × Int × Int × Int × Unit) × Unit) (β := Int × EnvP × (WorkerV MV) × (ClientV MV) × (Int × List Int × Int × Int × Int × Int × Unit) × Unit) (fun self10 x8 =>
   if x8.1 < 0 then
   none
   else
   some (x8.1, x8.2.1, x8.2.2.1, x8.2.2.2.1, (x8.2.2.2.2.1.1, x8.2.2.2.2.1.2.1, x8.2.2.2.2.1.2.2.1, x8.2.2.2.2.1.2.2.2.1, x8.2.2.2.2.1.2.2.2.2.1, x8.2.2.2.2.1.2.2.2.2.2.1, ()), ())
  ) 18446744073709551616 (0, r3.1.1, r7.1.1, r6.1.1, (0, [], 0, 0, 0, 0, ()), ())).bind fun z9 =>
  (worksteallaw28Awake).bind fun r11 =>
  if (!r11.1.1) = true then
   some ((false, ()), (()))
  else
  (kscript y1 300).bind fun r12 =>
  (memoryMemoryCells z9.2.1.m).bind fun r13 =>
  (lpF (σ := List Int × Int × EnvP × (WorkerV MV) × (ClientV MV) × (Int × List Int × Int × Int × Int × Int × Unit) × Unit) (β := (List Int × Int × EnvP × (WorkerV MV) × (ClientV MV) × (Int × List Int × Int × Int × Int × Int × Unit) × Unit) ⊕ ((Bool × Unit) × (Unit))) (onceBody1 r12.1.1) 18446744073709551616 (r13.1.1, 0, ({ z9.2.1 with m := r13.2.1 } : EnvP), z9.2.2.1, z9.2.2.2.1, (z9.2.2.2.2.1.1, z9.2.2.2.2.1.2.1, z9.2.2.2.2.1.2.2.1, z9.2.2.2.2.1.2.2.2.1, z9.2.2.2.2.1.2.2.2.2.1, z9.2.2.2.2.1.2.2.2.2.2.1, ()), ())).bind fun z15 => match z15 with
  | .inr o50 => some o50
  | .inl z15 =>
  some ((true, ()), (()))
 else
 none
theorem once1_unf (y0 y1 : List Int) : worksteallaw28EngineOnce1 y0 y1 = onceRun1 y0 y1 := by kernel_rfl
abbrev OnceT2 := List Int × Int × EnvP × (WorkerV MV) × (WorkerV MV) × (ClientV MV) × (Int × List Int × Int × Int × Int × Int × Unit) × Unit
noncomputable def onceKind2 (l : List EntV) (x15 : OnceT2) (r18 : (Int × Unit) × (MemV × Unit)) :=
   ((
   if ((atK5 l x15.2.1).kind) = 0 then
   (scriptMachine (atK5 l x15.2.1) 3).bind fun r19 =>
   if r19.1.1 = ((2 : Nat) : Int) then
   (clientClientStep x15.2.2.2.2.2.1 ({ x15.2.2.1 with m := r18.2.1 } : EnvP)).bind fun r20 =>
   some (r20.2.2.1, x15.2.2.2.1, x15.2.2.2.2.1, r20.2.1, (x15.2.2.2.2.2.2.1.1, x15.2.2.2.2.2.2.1.2.1, x15.2.2.2.2.2.2.1.2.2.1, x15.2.2.2.2.2.2.1.2.2.2.1, x15.2.2.2.2.2.2.1.2.2.2.2.1, x15.2.2.2.2.2.2.1.2.2.2.2.2.1, ()), ())
   else
   if r19.1.1 = ((1 : Nat) : Int) then
   (workerWorkerStep x15.2.2.2.2.1 ({ x15.2.2.1 with m := r18.2.1 } : EnvP)).bind fun r21 =>
   some (r21.2.2.1, x15.2.2.2.1, r21.2.1, x15.2.2.2.2.2.1, (x15.2.2.2.2.2.2.1.1, x15.2.2.2.2.2.2.1.2.1, x15.2.2.2.2.2.2.1.2.2.1, x15.2.2.2.2.2.2.1.2.2.2.1, x15.2.2.2.2.2.2.1.2.2.2.2.1, x15.2.2.2.2.2.2.1.2.2.2.2.2.1, ()), ())
   else
   if r19.1.1 = ((0 : Nat) : Int) then
   (workerWorkerStep x15.2.2.2.1 ({ x15.2.2.1 with m := r18.2.1 } : EnvP)).bind fun r22 =>
   some (r22.2.2.1, r22.2.1, x15.2.2.2.2.1, x15.2.2.2.2.2.1, (x15.2.2.2.2.2.2.1.1, x15.2.2.2.2.2.2.1.2.1, x15.2.2.2.2.2.2.1.2.2.1, x15.2.2.2.2.2.2.1.2.2.2.1, x15.2.2.2.2.2.2.1.2.2.2.2.1, x15.2.2.2.2.2.2.1.2.2.2.2.2.1, ()), ())
   else
   none
   else
   if ((atK5 l x15.2.1).kind) = 1 then
   (clockClockTick x15.2.2.1.k).bind fun r23 =>
   some (({ x15.2.2.1 with m := r18.2.1, k := r23.2.1 } : EnvP), x15.2.2.2.1, x15.2.2.2.2.1, x15.2.2.2.2.2.1, (x15.2.2.2.2.2.2.1.1, x15.2.2.2.2.2.2.1.2.1, x15.2.2.2.2.2.2.1.2.2.1, x15.2.2.2.2.2.2.1.2.2.2.1, x15.2.2.2.2.2.2.1.2.2.2.2.1, x15.2.2.2.2.2.2.1.2.2.2.2.2.1, ()), ())
   else
   if ((atK5 l x15.2.1).kind) = 2 then
   (clockClockSet x15.2.2.1.k ((atK5 l x15.2.1).value)).bind fun r24 =>
   some (({ x15.2.2.1 with m := r18.2.1, k := r24.2.1 } : EnvP), x15.2.2.2.1, x15.2.2.2.2.1, x15.2.2.2.2.2.1, (x15.2.2.2.2.2.2.1.1, x15.2.2.2.2.2.2.1.2.1, x15.2.2.2.2.2.2.1.2.2.1, x15.2.2.2.2.2.2.1.2.2.2.1, x15.2.2.2.2.2.2.1.2.2.2.2.1, x15.2.2.2.2.2.2.1.2.2.2.2.2.1, ()), ())
   else
   some (({ x15.2.2.1 with m := r18.2.1 } : EnvP), x15.2.2.2.1, x15.2.2.2.2.1, x15.2.2.2.2.2.1, (x15.2.2.2.2.2.2.1.1, x15.2.2.2.2.2.2.1.2.1, x15.2.2.2.2.2.2.1.2.2.1, x15.2.2.2.2.2.2.1.2.2.2.1, x15.2.2.2.2.2.2.1.2.2.2.2.1, x15.2.2.2.2.2.2.1.2.2.2.2.2.1, ()), ())
   ) : Option (EnvP × (WorkerV MV) × (WorkerV MV) × (ClientV MV) × (Int × List Int × Int × Int × Int × Int × Unit) × Unit))
noncomputable def onceBody2 (l : List EntV) (self17 : OnceT2 → Option ((List Int × Int × EnvP × (WorkerV MV) × (WorkerV MV) × (ClientV MV) × (Int × List Int × Int × Int × Int × Int × Unit) × Unit) ⊕ ((Bool × Unit) × (Unit)))) (x15 : OnceT2) : Option ((List Int × Int × EnvP × (WorkerV MV) × (WorkerV MV) × (ClientV MV) × (Int × List Int × Int × Int × Int × Int × Unit) × Unit) ⊕ ((Bool × Unit) × (Unit))) :=
 if x15.2.1 < ((l.length : Nat) : Int) then
  if 0 ≤ x15.2.1 ∧ x15.2.1 < ((l.length : Nat) : Int) then
   (memoryMemoryCount x15.2.2.1.m).bind fun r18 =>
   (onceKind2 l x15 r18).bind fun z25 =>
   onceTail x15.1 l x15.2.1 r18.1.1 z25.1 z25.2.2.2.2.1 (fun b e g => self17 (b, wi (x15.2.1 + 1), e, z25.2.1, z25.2.2.1, z25.2.2.2.1, g, ()))
  else none
 else
 some (Sum.inl (x15.1, x15.2.1, x15.2.2.1, x15.2.2.2.1, x15.2.2.2.2.1, x15.2.2.2.2.2.1, (x15.2.2.2.2.2.2.1.1, x15.2.2.2.2.2.2.1.2.1, x15.2.2.2.2.2.2.1.2.2.1, x15.2.2.2.2.2.2.1.2.2.2.1, x15.2.2.2.2.2.2.1.2.2.2.2.1, x15.2.2.2.2.2.2.1.2.2.2.2.2.1, ()), ()))
noncomputable def onceRun2 (y0 : List Int) (y1 : List Int) : Option ((Bool × Unit) × (Unit)) :=
 (kshort y0 ([])).bind fun r1 =>
 if (!r1.1.1) = true then
  some ((true, ()), (()))
 else
 if 600 < ((y1.length : Nat) : Int) then
  some ((true, ()), (()))
 else
 (kconfig y0).bind fun r2 =>
 (machineNew r2.1.1).bind fun r3 =>
 if r3.1.2.1 ≠ 0 then
  if r3.1.2.1 ≠ 0 then
   (worksteallaw28Awake).bind fun r4 =>
   if (!r4.1.1) = true then
   some ((false, ()), (()))
   else
   some ((false, ()), (()))
  else
  (worksteallaw28Awake).bind fun r5 =>
  if (!r5.1.1) = true then
   some ((false, ()), (()))
  else
  some ((false, ()), (()))
 else
 (clientNew r2.1.1).bind fun r6 =>
 if r2.1.1.workers = ((2 : Nat) : Int) then
  (workerNew 0).bind fun r7 =>
  (workerNew 1).bind fun r8 =>
  (lpF (σ := Int × EnvP × (WorkerV MV) × (WorkerV MV) × (ClientV MV) × (Int × List Int × Int × Int × Int × Int × Unit) × Unit) (β := Int × EnvP × (WorkerV MV) × (WorkerV MV) × (ClientV MV) × (Int × List Int × Int × Int × Int × Int × Unit) × Unit) (fun self11 x9 =>
   if x9.1 < 0 then
   none
   else
   some (x9.1, x9.2.1, x9.2.2.1, x9.2.2.2.1, x9.2.2.2.2.1, (x9.2.2.2.2.2.1.1, x9.2.2.2.2.2.1.2.1, x9.2.2.2.2.2.1.2.2.1, x9.2.2.2.2.2.1.2.2.2.1, x9.2.2.2.2.2.1.2.2.2.2.1, x9.2.2.2.2.2.1.2.2.2.2.2.1, ()), ())
  ) 18446744073709551616 (0, r3.1.1, r7.1.1, r8.1.1, r6.1.1, (0, [], 0, 0, 0, 0, ()), ())).bind fun z10 =>
  (worksteallaw28Awake).bind fun r12 =>
  if (!r12.1.1) = true then
   some ((false, ()), (()))
  else
  (kscript y1 300).bind fun r13 =>
  (memoryMemoryCells z10.2.1.m).bind fun r14 =>
  (lpF (σ := List Int × Int × EnvP × (WorkerV MV) × (WorkerV MV) × (ClientV MV) × (Int × List Int × Int × Int × Int × Int × Unit) × Unit) (β := (List Int × Int × EnvP × (WorkerV MV) × (WorkerV MV) × (ClientV MV) × (Int × List Int × Int × Int × Int × Int × Unit) × Unit) ⊕ ((Bool × Unit) × (Unit))) (onceBody2 r13.1.1) 18446744073709551616 (r14.1.1, 0, ({ z10.2.1 with m := r14.2.1 } : EnvP), z10.2.2.1, z10.2.2.2.1, z10.2.2.2.2.1, (z10.2.2.2.2.2.1.1, z10.2.2.2.2.2.1.2.1, z10.2.2.2.2.2.1.2.2.1, z10.2.2.2.2.2.1.2.2.2.1, z10.2.2.2.2.2.1.2.2.2.2.1, z10.2.2.2.2.2.1.2.2.2.2.2.1, ()), ())).bind fun z16 => match z16 with
  | .inr o52 => some o52
  | .inl z16 =>
  some ((true, ()), (()))
 else
 none
theorem once2_unf (y0 y1 : List Int) : worksteallaw28EngineOnce2 y0 y1 = onceRun2 y0 y1 := by kernel_rfl
abbrev OnceT3 := List Int × Int × EnvP × (WorkerV MV) × (WorkerV MV) × (WorkerV MV) × (ClientV MV) × (Int × List Int × Int × Int × Int × Int × Unit) × Unit
noncomputable def onceKind3 (l : List EntV) (x16 : OnceT3) (r19 : (Int × Unit) × (MemV × Unit)) :=
   ((
   if ((atK5 l x16.2.1).kind) = 0 then
   (scriptMachine (atK5 l x16.2.1) 4).bind fun r20 =>
   if r20.1.1 = ((3 : Nat) : Int) then
   (clientClientStep x16.2.2.2.2.2.2.1 ({ x16.2.2.1 with m := r19.2.1 } : EnvP)).bind fun r21 =>
   some (r21.2.2.1, x16.2.2.2.1, x16.2.2.2.2.1, x16.2.2.2.2.2.1, r21.2.1, (x16.2.2.2.2.2.2.2.1.1, x16.2.2.2.2.2.2.2.1.2.1, x16.2.2.2.2.2.2.2.1.2.2.1, x16.2.2.2.2.2.2.2.1.2.2.2.1, x16.2.2.2.2.2.2.2.1.2.2.2.2.1, x16.2.2.2.2.2.2.2.1.2.2.2.2.2.1, ()), ())
   else
   if r20.1.1 = ((2 : Nat) : Int) then
   (workerWorkerStep x16.2.2.2.2.2.1 ({ x16.2.2.1 with m := r19.2.1 } : EnvP)).bind fun r22 =>
   some (r22.2.2.1, x16.2.2.2.1, x16.2.2.2.2.1, r22.2.1, x16.2.2.2.2.2.2.1, (x16.2.2.2.2.2.2.2.1.1, x16.2.2.2.2.2.2.2.1.2.1, x16.2.2.2.2.2.2.2.1.2.2.1, x16.2.2.2.2.2.2.2.1.2.2.2.1, x16.2.2.2.2.2.2.2.1.2.2.2.2.1, x16.2.2.2.2.2.2.2.1.2.2.2.2.2.1, ()), ())
   else
   if r20.1.1 = ((1 : Nat) : Int) then
   (workerWorkerStep x16.2.2.2.2.1 ({ x16.2.2.1 with m := r19.2.1 } : EnvP)).bind fun r23 =>
   some (r23.2.2.1, x16.2.2.2.1, r23.2.1, x16.2.2.2.2.2.1, x16.2.2.2.2.2.2.1, (x16.2.2.2.2.2.2.2.1.1, x16.2.2.2.2.2.2.2.1.2.1, x16.2.2.2.2.2.2.2.1.2.2.1, x16.2.2.2.2.2.2.2.1.2.2.2.1, x16.2.2.2.2.2.2.2.1.2.2.2.2.1, x16.2.2.2.2.2.2.2.1.2.2.2.2.2.1, ()), ())
   else
   if r20.1.1 = ((0 : Nat) : Int) then
   (workerWorkerStep x16.2.2.2.1 ({ x16.2.2.1 with m := r19.2.1 } : EnvP)).bind fun r24 =>
   some (r24.2.2.1, r24.2.1, x16.2.2.2.2.1, x16.2.2.2.2.2.1, x16.2.2.2.2.2.2.1, (x16.2.2.2.2.2.2.2.1.1, x16.2.2.2.2.2.2.2.1.2.1, x16.2.2.2.2.2.2.2.1.2.2.1, x16.2.2.2.2.2.2.2.1.2.2.2.1, x16.2.2.2.2.2.2.2.1.2.2.2.2.1, x16.2.2.2.2.2.2.2.1.2.2.2.2.2.1, ()), ())
   else
   none
   else
   if ((atK5 l x16.2.1).kind) = 1 then
   (clockClockTick x16.2.2.1.k).bind fun r25 =>
   some (({ x16.2.2.1 with m := r19.2.1, k := r25.2.1 } : EnvP), x16.2.2.2.1, x16.2.2.2.2.1, x16.2.2.2.2.2.1, x16.2.2.2.2.2.2.1, (x16.2.2.2.2.2.2.2.1.1, x16.2.2.2.2.2.2.2.1.2.1, x16.2.2.2.2.2.2.2.1.2.2.1, x16.2.2.2.2.2.2.2.1.2.2.2.1, x16.2.2.2.2.2.2.2.1.2.2.2.2.1, x16.2.2.2.2.2.2.2.1.2.2.2.2.2.1, ()), ())
   else
   if ((atK5 l x16.2.1).kind) = 2 then
   (clockClockSet x16.2.2.1.k ((atK5 l x16.2.1).value)).bind fun r26 =>
   some (({ x16.2.2.1 with m := r19.2.1, k := r26.2.1 } : EnvP), x16.2.2.2.1, x16.2.2.2.2.1, x16.2.2.2.2.2.1, x16.2.2.2.2.2.2.1, (x16.2.2.2.2.2.2.2.1.1, x16.2.2.2.2.2.2.2.1.2.1, x16.2.2.2.2.2.2.2.1.2.2.1, x16.2.2.2.2.2.2.2.1.2.2.2.1, x16.2.2.2.2.2.2.2.1.2.2.2.2.1, x16.2.2.2.2.2.2.2.1.2.2.2.2.2.1, ()), ())
   else
   some (({ x16.2.2.1 with m := r19.2.1 } : EnvP), x16.2.2.2.1, x16.2.2.2.2.1, x16.2.2.2.2.2.1, x16.2.2.2.2.2.2.1, (x16.2.2.2.2.2.2.2.1.1, x16.2.2.2.2.2.2.2.1.2.1, x16.2.2.2.2.2.2.2.1.2.2.1, x16.2.2.2.2.2.2.2.1.2.2.2.1, x16.2.2.2.2.2.2.2.1.2.2.2.2.1, x16.2.2.2.2.2.2.2.1.2.2.2.2.2.1, ()), ())
   ) : Option (EnvP × (WorkerV MV) × (WorkerV MV) × (WorkerV MV) × (ClientV MV) × (Int × List Int × Int × Int × Int × Int × Unit) × Unit))
noncomputable def onceBody3 (l : List EntV) (self18 : OnceT3 → Option ((List Int × Int × EnvP × (WorkerV MV) × (WorkerV MV) × (WorkerV MV) × (ClientV MV) × (Int × List Int × Int × Int × Int × Int × Unit) × Unit) ⊕ ((Bool × Unit) × (Unit)))) (x16 : OnceT3) : Option ((List Int × Int × EnvP × (WorkerV MV) × (WorkerV MV) × (WorkerV MV) × (ClientV MV) × (Int × List Int × Int × Int × Int × Int × Unit) × Unit) ⊕ ((Bool × Unit) × (Unit))) :=
 if x16.2.1 < ((l.length : Nat) : Int) then
  if 0 ≤ x16.2.1 ∧ x16.2.1 < ((l.length : Nat) : Int) then
   (memoryMemoryCount x16.2.2.1.m).bind fun r19 =>
   (onceKind3 l x16 r19).bind fun z27 =>
   onceTail x16.1 l x16.2.1 r19.1.1 z27.1 z27.2.2.2.2.2.1 (fun b e g => self18 (b, wi (x16.2.1 + 1), e, z27.2.1, z27.2.2.1, z27.2.2.2.1, z27.2.2.2.2.1, g, ()))
  else none
 else
 some (Sum.inl (x16.1, x16.2.1, x16.2.2.1, x16.2.2.2.1, x16.2.2.2.2.1, x16.2.2.2.2.2.1, x16.2.2.2.2.2.2.1, (x16.2.2.2.2.2.2.2.1.1, x16.2.2.2.2.2.2.2.1.2.1, x16.2.2.2.2.2.2.2.1.2.2.1, x16.2.2.2.2.2.2.2.1.2.2.2.1, x16.2.2.2.2.2.2.2.1.2.2.2.2.1, x16.2.2.2.2.2.2.2.1.2.2.2.2.2.1, ()), ()))
noncomputable def onceRun3 (y0 : List Int) (y1 : List Int) : Option ((Bool × Unit) × (Unit)) :=
 (kshort y0 ([])).bind fun r1 =>
 if (!r1.1.1) = true then
  some ((true, ()), (()))
 else
 if 600 < ((y1.length : Nat) : Int) then
  some ((true, ()), (()))
 else
 (kconfig y0).bind fun r2 =>
 (machineNew r2.1.1).bind fun r3 =>
 if r3.1.2.1 ≠ 0 then
  if r3.1.2.1 ≠ 0 then
   (worksteallaw28Awake).bind fun r4 =>
   if (!r4.1.1) = true then
   some ((false, ()), (()))
   else
   some ((false, ()), (()))
  else
  (worksteallaw28Awake).bind fun r5 =>
  if (!r5.1.1) = true then
   some ((false, ()), (()))
  else
  some ((false, ()), (()))
 else
 (clientNew r2.1.1).bind fun r6 =>
 if r2.1.1.workers = ((3 : Nat) : Int) then
  (workerNew 0).bind fun r7 =>
  (workerNew 1).bind fun r8 =>
  (workerNew 2).bind fun r9 =>
  (lpF (σ := Int × EnvP × (WorkerV MV) × (WorkerV MV) × (WorkerV MV) × (ClientV MV) × (Int × List Int × Int × Int × Int × Int × Unit) × Unit) (β := Int × EnvP × (WorkerV MV) × (WorkerV MV) × (WorkerV MV) × (ClientV MV) × (Int × List Int × Int × Int × Int × Int × Unit) × Unit) (fun self12 x10 =>
   if x10.1 < 0 then
   none
   else
   some (x10.1, x10.2.1, x10.2.2.1, x10.2.2.2.1, x10.2.2.2.2.1, x10.2.2.2.2.2.1, (x10.2.2.2.2.2.2.1.1, x10.2.2.2.2.2.2.1.2.1, x10.2.2.2.2.2.2.1.2.2.1, x10.2.2.2.2.2.2.1.2.2.2.1, x10.2.2.2.2.2.2.1.2.2.2.2.1, x10.2.2.2.2.2.2.1.2.2.2.2.2.1, ()), ())
  ) 18446744073709551616 (0, r3.1.1, r7.1.1, r8.1.1, r9.1.1, r6.1.1, (0, [], 0, 0, 0, 0, ()), ())).bind fun z11 =>
  (worksteallaw28Awake).bind fun r13 =>
  if (!r13.1.1) = true then
   some ((false, ()), (()))
  else
  (kscript y1 300).bind fun r14 =>
  (memoryMemoryCells z11.2.1.m).bind fun r15 =>
  (lpF (σ := List Int × Int × EnvP × (WorkerV MV) × (WorkerV MV) × (WorkerV MV) × (ClientV MV) × (Int × List Int × Int × Int × Int × Int × Unit) × Unit) (β := (List Int × Int × EnvP × (WorkerV MV) × (WorkerV MV) × (WorkerV MV) × (ClientV MV) × (Int × List Int × Int × Int × Int × Int × Unit) × Unit) ⊕ ((Bool × Unit) × (Unit))) (onceBody3 r14.1.1) 18446744073709551616 (r15.1.1, 0, ({ z11.2.1 with m := r15.2.1 } : EnvP), z11.2.2.1, z11.2.2.2.1, z11.2.2.2.2.1, z11.2.2.2.2.2.1, (z11.2.2.2.2.2.2.1.1, z11.2.2.2.2.2.2.1.2.1, z11.2.2.2.2.2.2.1.2.2.1, z11.2.2.2.2.2.2.1.2.2.2.1, z11.2.2.2.2.2.2.1.2.2.2.2.1, z11.2.2.2.2.2.2.1.2.2.2.2.2.1, ()), ())).bind fun z17 => match z17 with
  | .inr o54 => some o54
  | .inl z17 =>
  some ((true, ()), (()))
 else
 none
theorem once3_unf (y0 y1 : List Int) : worksteallaw28EngineOnce3 y0 y1 = onceRun3 y0 y1 := by kernel_rfl
abbrev OnceT4 := List Int × Int × EnvP × (WorkerV MV) × (WorkerV MV) × (WorkerV MV) × (WorkerV MV) × (ClientV MV) × (Int × List Int × Int × Int × Int × Int × Unit) × Unit
noncomputable def onceKind4 (l : List EntV) (x17 : OnceT4) (r20 : (Int × Unit) × (MemV × Unit)) :=
   ((
   if ((atK5 l x17.2.1).kind) = 0 then
   (scriptMachine (atK5 l x17.2.1) 5).bind fun r21 =>
   if r21.1.1 = ((4 : Nat) : Int) then
   (clientClientStep x17.2.2.2.2.2.2.2.1 ({ x17.2.2.1 with m := r20.2.1 } : EnvP)).bind fun r22 =>
   some (r22.2.2.1, x17.2.2.2.1, x17.2.2.2.2.1, x17.2.2.2.2.2.1, x17.2.2.2.2.2.2.1, r22.2.1, (x17.2.2.2.2.2.2.2.2.1.1, x17.2.2.2.2.2.2.2.2.1.2.1, x17.2.2.2.2.2.2.2.2.1.2.2.1, x17.2.2.2.2.2.2.2.2.1.2.2.2.1, x17.2.2.2.2.2.2.2.2.1.2.2.2.2.1, x17.2.2.2.2.2.2.2.2.1.2.2.2.2.2.1, ()), ())
   else
   if r21.1.1 = ((3 : Nat) : Int) then
   (workerWorkerStep x17.2.2.2.2.2.2.1 ({ x17.2.2.1 with m := r20.2.1 } : EnvP)).bind fun r23 =>
   some (r23.2.2.1, x17.2.2.2.1, x17.2.2.2.2.1, x17.2.2.2.2.2.1, r23.2.1, x17.2.2.2.2.2.2.2.1, (x17.2.2.2.2.2.2.2.2.1.1, x17.2.2.2.2.2.2.2.2.1.2.1, x17.2.2.2.2.2.2.2.2.1.2.2.1, x17.2.2.2.2.2.2.2.2.1.2.2.2.1, x17.2.2.2.2.2.2.2.2.1.2.2.2.2.1, x17.2.2.2.2.2.2.2.2.1.2.2.2.2.2.1, ()), ())
   else
   if r21.1.1 = ((2 : Nat) : Int) then
   (workerWorkerStep x17.2.2.2.2.2.1 ({ x17.2.2.1 with m := r20.2.1 } : EnvP)).bind fun r24 =>
   some (r24.2.2.1, x17.2.2.2.1, x17.2.2.2.2.1, r24.2.1, x17.2.2.2.2.2.2.1, x17.2.2.2.2.2.2.2.1, (x17.2.2.2.2.2.2.2.2.1.1, x17.2.2.2.2.2.2.2.2.1.2.1, x17.2.2.2.2.2.2.2.2.1.2.2.1, x17.2.2.2.2.2.2.2.2.1.2.2.2.1, x17.2.2.2.2.2.2.2.2.1.2.2.2.2.1, x17.2.2.2.2.2.2.2.2.1.2.2.2.2.2.1, ()), ())
   else
   if r21.1.1 = ((1 : Nat) : Int) then
   (workerWorkerStep x17.2.2.2.2.1 ({ x17.2.2.1 with m := r20.2.1 } : EnvP)).bind fun r25 =>
   some (r25.2.2.1, x17.2.2.2.1, r25.2.1, x17.2.2.2.2.2.1, x17.2.2.2.2.2.2.1, x17.2.2.2.2.2.2.2.1, (x17.2.2.2.2.2.2.2.2.1.1, x17.2.2.2.2.2.2.2.2.1.2.1, x17.2.2.2.2.2.2.2.2.1.2.2.1, x17.2.2.2.2.2.2.2.2.1.2.2.2.1, x17.2.2.2.2.2.2.2.2.1.2.2.2.2.1, x17.2.2.2.2.2.2.2.2.1.2.2.2.2.2.1, ()), ())
   else
   if r21.1.1 = ((0 : Nat) : Int) then
   (workerWorkerStep x17.2.2.2.1 ({ x17.2.2.1 with m := r20.2.1 } : EnvP)).bind fun r26 =>
   some (r26.2.2.1, r26.2.1, x17.2.2.2.2.1, x17.2.2.2.2.2.1, x17.2.2.2.2.2.2.1, x17.2.2.2.2.2.2.2.1, (x17.2.2.2.2.2.2.2.2.1.1, x17.2.2.2.2.2.2.2.2.1.2.1, x17.2.2.2.2.2.2.2.2.1.2.2.1, x17.2.2.2.2.2.2.2.2.1.2.2.2.1, x17.2.2.2.2.2.2.2.2.1.2.2.2.2.1, x17.2.2.2.2.2.2.2.2.1.2.2.2.2.2.1, ()), ())
   else
   none
   else
   if ((atK5 l x17.2.1).kind) = 1 then
   (clockClockTick x17.2.2.1.k).bind fun r27 =>
   some (({ x17.2.2.1 with m := r20.2.1, k := r27.2.1 } : EnvP), x17.2.2.2.1, x17.2.2.2.2.1, x17.2.2.2.2.2.1, x17.2.2.2.2.2.2.1, x17.2.2.2.2.2.2.2.1, (x17.2.2.2.2.2.2.2.2.1.1, x17.2.2.2.2.2.2.2.2.1.2.1, x17.2.2.2.2.2.2.2.2.1.2.2.1, x17.2.2.2.2.2.2.2.2.1.2.2.2.1, x17.2.2.2.2.2.2.2.2.1.2.2.2.2.1, x17.2.2.2.2.2.2.2.2.1.2.2.2.2.2.1, ()), ())
   else
   if ((atK5 l x17.2.1).kind) = 2 then
   (clockClockSet x17.2.2.1.k ((atK5 l x17.2.1).value)).bind fun r28 =>
   some (({ x17.2.2.1 with m := r20.2.1, k := r28.2.1 } : EnvP), x17.2.2.2.1, x17.2.2.2.2.1, x17.2.2.2.2.2.1, x17.2.2.2.2.2.2.1, x17.2.2.2.2.2.2.2.1, (x17.2.2.2.2.2.2.2.2.1.1, x17.2.2.2.2.2.2.2.2.1.2.1, x17.2.2.2.2.2.2.2.2.1.2.2.1, x17.2.2.2.2.2.2.2.2.1.2.2.2.1, x17.2.2.2.2.2.2.2.2.1.2.2.2.2.1, x17.2.2.2.2.2.2.2.2.1.2.2.2.2.2.1, ()), ())
   else
   some (({ x17.2.2.1 with m := r20.2.1 } : EnvP), x17.2.2.2.1, x17.2.2.2.2.1, x17.2.2.2.2.2.1, x17.2.2.2.2.2.2.1, x17.2.2.2.2.2.2.2.1, (x17.2.2.2.2.2.2.2.2.1.1, x17.2.2.2.2.2.2.2.2.1.2.1, x17.2.2.2.2.2.2.2.2.1.2.2.1, x17.2.2.2.2.2.2.2.2.1.2.2.2.1, x17.2.2.2.2.2.2.2.2.1.2.2.2.2.1, x17.2.2.2.2.2.2.2.2.1.2.2.2.2.2.1, ()), ())
   ) : Option (EnvP × (WorkerV MV) × (WorkerV MV) × (WorkerV MV) × (WorkerV MV) × (ClientV MV) × (Int × List Int × Int × Int × Int × Int × Unit) × Unit))
noncomputable def onceBody4 (l : List EntV) (self19 : OnceT4 → Option ((List Int × Int × EnvP × (WorkerV MV) × (WorkerV MV) × (WorkerV MV) × (WorkerV MV) × (ClientV MV) × (Int × List Int × Int × Int × Int × Int × Unit) × Unit) ⊕ ((Bool × Unit) × (Unit)))) (x17 : OnceT4) : Option ((List Int × Int × EnvP × (WorkerV MV) × (WorkerV MV) × (WorkerV MV) × (WorkerV MV) × (ClientV MV) × (Int × List Int × Int × Int × Int × Int × Unit) × Unit) ⊕ ((Bool × Unit) × (Unit))) :=
 if x17.2.1 < ((l.length : Nat) : Int) then
  if 0 ≤ x17.2.1 ∧ x17.2.1 < ((l.length : Nat) : Int) then
   (memoryMemoryCount x17.2.2.1.m).bind fun r20 =>
   (onceKind4 l x17 r20).bind fun z29 =>
   onceTail x17.1 l x17.2.1 r20.1.1 z29.1 z29.2.2.2.2.2.2.1 (fun b e g => self19 (b, wi (x17.2.1 + 1), e, z29.2.1, z29.2.2.1, z29.2.2.2.1, z29.2.2.2.2.1, z29.2.2.2.2.2.1, g, ()))
  else none
 else
 some (Sum.inl (x17.1, x17.2.1, x17.2.2.1, x17.2.2.2.1, x17.2.2.2.2.1, x17.2.2.2.2.2.1, x17.2.2.2.2.2.2.1, x17.2.2.2.2.2.2.2.1, (x17.2.2.2.2.2.2.2.2.1.1, x17.2.2.2.2.2.2.2.2.1.2.1, x17.2.2.2.2.2.2.2.2.1.2.2.1, x17.2.2.2.2.2.2.2.2.1.2.2.2.1, x17.2.2.2.2.2.2.2.2.1.2.2.2.2.1, x17.2.2.2.2.2.2.2.2.1.2.2.2.2.2.1, ()), ()))
noncomputable def onceRun4 (y0 : List Int) (y1 : List Int) : Option ((Bool × Unit) × (Unit)) :=
 (kshort y0 ([])).bind fun r1 =>
 if (!r1.1.1) = true then
  some ((true, ()), (()))
 else
 if 600 < ((y1.length : Nat) : Int) then
  some ((true, ()), (()))
 else
 (kconfig y0).bind fun r2 =>
 (machineNew r2.1.1).bind fun r3 =>
 if r3.1.2.1 ≠ 0 then
  if r3.1.2.1 ≠ 0 then
   (worksteallaw28Awake).bind fun r4 =>
   if (!r4.1.1) = true then
   some ((false, ()), (()))
   else
   some ((false, ()), (()))
  else
  (worksteallaw28Awake).bind fun r5 =>
  if (!r5.1.1) = true then
   some ((false, ()), (()))
  else
  some ((false, ()), (()))
 else
 (clientNew r2.1.1).bind fun r6 =>
 if r2.1.1.workers = ((4 : Nat) : Int) then
  (workerNew 0).bind fun r7 =>
  (workerNew 1).bind fun r8 =>
  (workerNew 2).bind fun r9 =>
  (workerNew 3).bind fun r10 =>
  (lpF (σ := Int × EnvP × (WorkerV MV) × (WorkerV MV) × (WorkerV MV) × (WorkerV MV) × (ClientV MV) × (Int × List Int × Int × Int × Int × Int × Unit) × Unit) (β := Int × EnvP × (WorkerV MV) × (WorkerV MV) × (WorkerV MV) × (WorkerV MV) × (ClientV MV) × (Int × List Int × Int × Int × Int × Int × Unit) × Unit) (fun self13 x11 =>
   if x11.1 < 0 then
   none
   else
   some (x11.1, x11.2.1, x11.2.2.1, x11.2.2.2.1, x11.2.2.2.2.1, x11.2.2.2.2.2.1, x11.2.2.2.2.2.2.1, (x11.2.2.2.2.2.2.2.1.1, x11.2.2.2.2.2.2.2.1.2.1, x11.2.2.2.2.2.2.2.1.2.2.1, x11.2.2.2.2.2.2.2.1.2.2.2.1, x11.2.2.2.2.2.2.2.1.2.2.2.2.1, x11.2.2.2.2.2.2.2.1.2.2.2.2.2.1, ()), ())
  ) 18446744073709551616 (0, r3.1.1, r7.1.1, r8.1.1, r9.1.1, r10.1.1, r6.1.1, (0, [], 0, 0, 0, 0, ()), ())).bind fun z12 =>
  (worksteallaw28Awake).bind fun r14 =>
  if (!r14.1.1) = true then
   some ((false, ()), (()))
  else
  (kscript y1 300).bind fun r15 =>
  (memoryMemoryCells z12.2.1.m).bind fun r16 =>
  (lpF (σ := List Int × Int × EnvP × (WorkerV MV) × (WorkerV MV) × (WorkerV MV) × (WorkerV MV) × (ClientV MV) × (Int × List Int × Int × Int × Int × Int × Unit) × Unit) (β := (List Int × Int × EnvP × (WorkerV MV) × (WorkerV MV) × (WorkerV MV) × (WorkerV MV) × (ClientV MV) × (Int × List Int × Int × Int × Int × Int × Unit) × Unit) ⊕ ((Bool × Unit) × (Unit))) (onceBody4 r15.1.1) 18446744073709551616 (r16.1.1, 0, ({ z12.2.1 with m := r16.2.1 } : EnvP), z12.2.2.1, z12.2.2.2.1, z12.2.2.2.2.1, z12.2.2.2.2.2.1, z12.2.2.2.2.2.2.1, (z12.2.2.2.2.2.2.2.1.1, z12.2.2.2.2.2.2.2.1.2.1, z12.2.2.2.2.2.2.2.1.2.2.1, z12.2.2.2.2.2.2.2.1.2.2.2.1, z12.2.2.2.2.2.2.2.1.2.2.2.2.1, z12.2.2.2.2.2.2.2.1.2.2.2.2.2.1, ()), ())).bind fun z18 => match z18 with
  | .inr o56 => some o56
  | .inl z18 =>
  some ((true, ()), (()))
 else
 none
theorem once4_unf (y0 y1 : List Int) : worksteallaw28EngineOnce4 y0 y1 = onceRun4 y0 y1 := by kernel_rfl
end
section
open Go Go.RowKit
set_option maxRecDepth 100000
variable [Tb]
theorem stamp_good {N : Nat} {env : EnvP} {eng : EngT} (F : (EnvP × EngT × Unit → Option (EnvP × EngT × Unit)) → EnvP × EngT × Unit → Option (EnvP × EngT × Unit))
    (hF : ∀ self x, F self x = if ((x.2.1.2.1.length : Nat) : Int) < ((x.1.evs.length : Nat) : Int) then
        if (((x.2.1.2.1.length + ([x.2.1.1] : List Int).length : Nat)) : Int) < 1000000000000 then self (x.1, (x.2.1.1, x.2.1.2.1 ++ ([x.2.1.1]), x.2.1.2.2.1, x.2.1.2.2.2.1, x.2.1.2.2.2.2.1, x.2.1.2.2.2.2.2.1, ()), ()) else none
      else some (x.1, (x.2.1.1, x.2.1.2.1, x.2.1.2.2.1, x.2.1.2.2.2.1, x.2.1.2.2.2.2.1, x.2.1.2.2.2.2.2.1, ()), ()))
    (h : eng.2.1.length ≤ N) (he : env.evs.length ≤ N) (hN : N ≤ 999999999) :
    Good (lpF F 18446744073709551616 (env, eng, ())) fun z => z.1 = env ∧ z.2.1.2.1.length ≤ N ∧ z.2.1.2.2 = eng.2.2 ∧ z.2.1.1 = eng.1 := by
  refine lp_good (fun x => x.1 = env ∧ x.2.1.2.1.length ≤ N ∧ x.2.1.2.2 = eng.2.2 ∧ x.2.1.1 = eng.1) (fun x => env.evs.length - x.2.1.2.1.length) (fun self x hx ih => ?_) _ _ ⟨rfl, h, rfl, rfl⟩ (by show env.evs.length - _ < _; omega)
  obtain ⟨e, ⟨n, st, a, b, c, d, ⟨⟩⟩, ⟨⟩⟩ := x
  obtain ⟨h1, h2, h3, h4⟩ := hx
  simp only at h1 h2 h3 h4
  subst h1
  rw [hF]
  refine Good.ite (fun hlt => ?_) fun hge => ?_
  · refine Good.guard (by
      have : ((st.length : Nat) : Int) < ((e.evs.length : Nat) : Int) := hlt
      simp only [List.length_singleton]; omega) fun _ => ?_
    refine ih _ ⟨rfl, ?_, h3, h4⟩ ?_
    · show (st ++ [n]).length ≤ _
      rw [List.length_append, List.length_singleton]
      have : ((st.length : Nat) : Int) < ((e.evs.length : Nat) : Int) := hlt
      omega
    · show e.evs.length - (st ++ [n]).length < e.evs.length - st.length
      rw [List.length_append, List.length_singleton]
      have : ((st.length : Nat) : Int) < ((e.evs.length : Nat) : Int) := hlt
      omega
  · exact .some_ ⟨rfl, h2, h3, h4⟩
/-- No cell differs but that of the access. -/
def Diff (b a : List Int) (x : AccV) : Prop := a.length = b.length ∧ ∀ k : Int, 0 ≤ k → k < (a.length : Int) → atK0 a k ≠ atK0 b k → 2 ≤ x.kind ∧ x.cell = k ∧ x.old = atK0 b k ∧ x.new = atK0 a k
theorem cmp_good {γ : Type} {b a : List Int} {x : AccV} (hd : Diff b a x) (hl : a.length ≤ 999999999)
    (F : (List Int × List Int × AccV × Int × Unit → Option ((List Int × List Int × AccV × Int × Unit) ⊕ γ)) → List Int × List Int × AccV × Int × Unit → Option ((List Int × List Int × AccV × Int × Unit) ⊕ γ))
    (R : Option ((List Int × List Int × AccV × Int × Unit) ⊕ γ))
    (hF : ∀ self x, F self x = if x.2.2.2.1 < ((x.2.1.length : Nat) : Int) then
          if 0 ≤ x.2.2.2.1 ∧ x.2.2.2.1 < ((x.2.1.length : Nat) : Int) then
           if 0 ≤ x.2.2.2.1 ∧ x.2.2.2.1 < ((x.1.length : Nat) : Int) then
            if (atK0 x.2.1 x.2.2.2.1) ≠ (atK0 x.1 x.2.2.2.1) then
             if x.2.2.1.kind < 2 then R
             else if x.2.2.1.cell ≠ x.2.2.2.1 then R
             else if 0 ≤ x.2.2.2.1 ∧ x.2.2.2.1 < ((x.1.length : Nat) : Int) then
              if x.2.2.1.old ≠ (atK0 x.1 x.2.2.2.1) then R
              else if 0 ≤ x.2.2.2.1 ∧ x.2.2.2.1 < ((x.2.1.length : Nat) : Int) then
               if x.2.2.1.new ≠ (atK0 x.2.1 x.2.2.2.1) then R
               else self (x.1, x.2.1, x.2.2.1, wi (x.2.2.2.1 + 1), ())
              else none
             else none
            else self (x.1, x.2.1, x.2.2.1, wi (x.2.2.2.1 + 1), ())
           else none
          else none
         else some (Sum.inl (x.1, x.2.1, x.2.2.1, x.2.2.2.1, ()))) :
    Good (lpF F 18446744073709551616 (b, a, x, 0, ())) fun z => ∃ y, z = Sum.inl y ∧ y.2.1 = a := by
  refine lp_good (fun z => z.1 = b ∧ z.2.1 = a ∧ z.2.2.1 = x ∧ 0 ≤ z.2.2.2.1 ∧ z.2.2.2.1 ≤ (a.length : Int)) (fun z => (a.length : Int).toNat - z.2.2.2.1.toNat) (fun self z hz ih => ?_) _ _ ⟨rfl, rfl, rfl, Int.le_refl 0, by show (0 : Int) ≤ _; omega⟩ (by show _ - _ < _; omega)
  obtain ⟨b', a', x', i, ⟨⟩⟩ := z
  obtain ⟨h1, h2, h3, h4, h5⟩ := hz
  simp only at h1 h2 h3 h4 h5
  subst h1 h2 h3
  rw [hF]
  have hi : wi (i + 1) = i + 1 := wi_id (rg_lit (by omega))
  refine Good.ite (fun hlt => ?_) fun _ => .some_ ⟨_, rfl, rfl⟩
  have hlt : i < (a'.length : Int) := hlt
  have hb : 0 ≤ i ∧ i < (b'.length : Int) := by have := hd.1; omega
  have hgo : Good (self (b', a', x', wi (i + 1), ())) fun z => ∃ y, z = Sum.inl y ∧ y.2.1 = a' := by
    rw [hi]
    exact ih _ ⟨rfl, rfl, rfl, by show 0 ≤ i + 1; omega, by show i + 1 ≤ _; omega⟩ (by show _ - (i + 1).toNat < _ - i.toNat; omega)
  refine Good.guard ⟨h4, hlt⟩ fun _ => Good.guard hb fun _ => ?_
  refine Good.ite (fun hne => ?_) fun _ => hgo
  obtain ⟨k1, k2, k3, k4⟩ := hd.2 i h4 hlt hne
  simp only
  rw [if_neg (by omega), if_neg (fun h => h k2), if_pos hb, if_neg (fun h => h k3), if_pos ⟨h4, hlt⟩, if_neg (fun h => h k4)]
  exact hgo
theorem count_eq (m : MemV) : memoryMemoryCount m = some ((m.count, ()), (m, ())) := id rfl
theorem last_eq (m : MemV) : memoryMemoryLast m = some ((m.last, ()), (m, ())) := id rfl
theorem cells_eq (m : MemV) (h : m.cells.length ≤ 1000000) : memoryMemoryCells m = some ((m.cells, ()), (m, ())) := by
  unfold memoryMemoryCells cloneU64
  rw [if_pos h]
  rfl
theorem one_diff {m m' : MemV} (h : One m m') (hc : 0 ≤ m.count ∧ m.count ≤ 999999999) :
    (m'.count = m.count ∧ m' = m) ∨ (m'.count = m.count + 1 ∧ m'.cells.length = m.cells.length ∧ Diff m.cells m'.cells m'.last) := by
  cases h with
  | no => exact .inl ⟨rfl, rfl⟩
  | yes k a v h hk =>
    refine .inr ⟨wi_id (rg_lit (by omega)), by simp, by simp, fun i h0 hi hne => ?_⟩
    by_cases ha : i = a
    · subst ha
      have e1 : atK0 (m.cells.set i.toNat v) i = v := at0_set h
      rw [e1] at hne
      refine ⟨?_, rfl, rfl, e1.symm⟩
      show 2 ≤ k
      refine Classical.byContradiction fun hlt => hne (hk (by omega))
    · exfalso
      apply hne
      show (m.cells.set a.toNat v)[i.toNat]?.getD _ = m.cells[i.toNat]?.getD _
      rw [List.getElem?_set_ne (by omega)]
theorem diff_same (b : List Int) (x : AccV) : Diff b b x := ⟨rfl, fun _ _ _ h => absurd rfl h⟩
theorem tail_good {σ : Type} {N : Nat} {m0 : MemV} {l : List EntV} {i : Int} {env : EnvP} {eng : EngT} {self : List Int → EnvP → EngT → Option (σ ⊕ ((Bool × Unit) × Unit))} {P : σ ⊕ ((Bool × Unit) × Unit) → Prop}
    (hi : 0 ≤ i ∧ i < (l.length : Int)) (h1 : One m0 env.m) (hc : 0 ≤ m0.count ∧ m0.count ≤ 999999999) (hk : (atK5 l i).kind ≠ 0 → env.m = m0) (hcl : m0.cells.length ≤ 1000000)
    (hev : env.evs.length ≤ N) (hst : eng.2.1.length ≤ N) (hN : N ≤ 999999999)
    (hs : ∀ eng' : EngT, eng'.2.1.length ≤ N → Good (self env.m.cells env eng') P) : Good (onceTail m0.cells l i m0.count env eng self) P := by
  unfold onceTail
  rw [count_eq, bnd]
  rcases one_diff h1 hc with ⟨e1, e2⟩ | ⟨e1, e2, e3⟩
  · rw [if_neg (show ¬ m0.count < env.m.count by omega)]
    refine Good.bind (stamp_good _ (fun _ _ => rfl) (by exact hst) (by exact hev) hN) fun z hz => ?_
    obtain ⟨ze, ⟨zn, zs, za, zb, zc, zd, ⟨⟩⟩, ⟨⟩⟩ := z
    obtain ⟨z1, z2, z3, z4⟩ := hz
    simp only at z1 z2 z3 z4
    obtain rfl := z1
    cases z3
    have hz2 : zs.length ≤ N := z2
    rw [cells_eq _ (by show env.m.cells.length ≤ _; rw [e2]; exact hcl), bnd]
    rw [if_neg (show ¬ ((env.m.cells.length : Nat) : Int) ≠ ((m0.cells.length : Nat) : Int) from fun h => h (by rw [e2])), if_pos hi]
    have hd : Diff m0.cells env.m.cells ⟨0, 0, 0, 0⟩ := by rw [e2]; exact diff_same _ _
    have hll : env.m.cells.length ≤ 999999999 := by rw [e2]; omega
    refine Good.ite (fun _ => ?_) fun _ => ?_
    · rw [if_neg (show ¬ ¬ ((0 : Int) = 0 ∧ (0 : Int) = 0 ∧ (0 : Int) = 0 ∧ (0 : Int) = 0 ∧ True) from fun h => h ⟨rfl, rfl, rfl, rfl, trivial⟩)]
      refine Good.bind (cmp_good hd hll _ _ fun _ _ => rfl) fun z hz => ?_
      obtain ⟨y, rfl, hy⟩ := hz
      simp only [hy]
      exact hs _ hz2
    · refine Good.bind (cmp_good hd hll _ _ fun _ _ => rfl) fun z hz => ?_
      obtain ⟨y, rfl, hy⟩ := hz
      simp only [hy]
      exact hs _ hz2
  · rw [if_pos (show m0.count < env.m.count by omega), last_eq, bnd]
    refine Good.bind (stamp_good _ (fun _ _ => rfl) (by exact hst) (by exact hev) hN) fun z hz => ?_
    obtain ⟨ze, ⟨zn, zs, za, zb, zc, zd, ⟨⟩⟩, ⟨⟩⟩ := z
    obtain ⟨z1, z2, z3, z4⟩ := hz
    simp only at z1 z2 z3 z4
    obtain rfl := z1
    cases z3
    have hz2 : zs.length ≤ N := z2
    rw [cells_eq _ (by show env.m.cells.length ≤ _; rw [e2]; exact hcl), bnd]
    rw [if_neg (show ¬ ((env.m.cells.length : Nat) : Int) ≠ ((m0.cells.length : Nat) : Int) from fun h => h (by rw [e2])), if_pos hi]
    have hll : env.m.cells.length ≤ 999999999 := by rw [e2]; omega
    refine Good.ite (fun hkk => ?_) fun _ => ?_
    · exfalso
      have := hk hkk
      rw [this] at e1
      omega
    · refine Good.bind (cmp_good e3 hll _ _ fun _ _ => rfl) fun z hz => ?_
      obtain ⟨y, rfl, hy⟩ := hz
      simp only [hy]
      exact hs _ hz2
end
section
open Go
variable [Tb]
theorem short_good (b : List Int) (l : List (List Int)) (hl : l.length ≤ 1000000) : Good (kshort b l) fun o => o.1.1 = true → b.length ≤ 400 ∧ ∀ x ∈ l, x.length ≤ 400 := by
  unfold kshort
  refine Good.bind (P := fun z => (∀ o, z = .inr o → o.1.1 = false) ∧ (∀ y, z = .inl y → ∀ x ∈ l, x.length ≤ 400)) (lp_good (fun x => 0 ≤ x.1 ∧ x.1 ≤ (l.length : Int) ∧ ∀ i : Nat, (i : Int) < x.1 → ∀ y, l[i]? = some y → y.length ≤ 400) (fun x => ((l.length : Int) - x.1).toNat) (fun self x ⟨q0, q1, q2⟩ ih => ?_) _ _ ⟨Int.le_refl 0, by show (0 : Int) ≤ (l.length : Int); omega, fun i hi => by omega⟩ (by show ((l.length : Int) - 0).toNat < _; omega)) fun z hz => ?_
  rotate_left
  · have e2 : wi (x.1 + 1) = x.1 + 1 := wi_id (rg_lit (by omega))
    rw [e2]
    refine Good.ite (fun hlt => .guard ⟨q0, hlt⟩ fun _ => Good.ite (fun _ => .some_ ⟨fun o e => (by cases e; rfl), fun y e => (by cases e)⟩) fun h4 => ih _ ⟨by show 0 ≤ x.1 + 1; omega, by show x.1 + 1 ≤ (l.length : Int); omega, fun i hi y hy => ?_⟩ (by show ((l.length : Int) - (x.1 + 1)).toNat < ((l.length : Int) - x.1).toNat; omega)) fun hlt => .some_ ⟨fun o e => (by cases e), fun y e x' hx' => ?_⟩
    · by_cases hi2 : (i : Int) < x.1
      · exact q2 i hi2 y hy
      · have hi3 : i = x.1.toNat := by have : (i : Int) < x.1 + 1 := hi; omega
        have h5 := atL_get (d := ([] : List Int)) (xs := l) (i := x.1) ⟨q0, hlt⟩
        rw [hi3, h5] at hy
        cases hy
        omega
    · obtain ⟨i, hi, rfl⟩ := List.getElem_of_mem hx'
      exact q2 i (by omega) _ (List.getElem?_eq_getElem hi)
  · rcases z with y | o
    · refine .some_ fun e => ⟨?_, hz.2 y rfl⟩
      have : ((b.length : Nat) : Int) ≤ 400 := of_decide_eq_true e
      omega
    · exact .some_ fun e => by rw [hz.1 o rfl] at e; cases e
structure DecOk (c : Cfg) : Prop where
  w : 1 ≤ c.workers ∧ c.workers ≤ 4
  l : 1 ≤ c.levels ∧ c.levels ≤ 4
  k : 1 ≤ c.classes ∧ c.classes ≤ 3 ∧ c.classes ≤ c.levels
  t : 1 ≤ c.tasks ∧ c.tasks ≤ 12
  q : 1 ≤ c.deque ∧ c.deque ≤ 4
  h : 1 ≤ c.heap ∧ c.heap ≤ 4
  b : 1 ≤ c.batch ∧ c.batch ≤ c.deque
  a : 0 ≤ c.age ∧ c.age ≤ 5
  p : 1 ≤ c.patience ∧ c.patience ≤ 8
  pn : 1 ≤ c.progs.length ∧ c.progs.length ≤ 4
  pl : ∀ x ∈ c.progs, x.length ≤ 5
  ps : ∀ x ∈ c.progs, ∀ i ∈ x, (i.op = 0 ∧ 1 ≤ i.a ∧ i.a ≤ 4 ∧ i.b = 0) ∨ (i.op = 1 ∧ 0 ≤ i.a ∧ i.a < (c.progs.length : Int) ∧ 0 ≤ i.b ∧ i.b < c.levels) ∨ (i.op = 2 ∧ 0 ≤ i.a ∧ i.a ≤ 3 ∧ i.b = 0)
  sn : c.subs.length ≤ 5
  ss : ∀ s ∈ c.subs, (0 ≤ s.prog ∧ s.prog < (c.progs.length : Int)) ∧ (0 ≤ s.level ∧ s.level < c.levels) ∧ 0 ≤ s.deadline ∧ s.deadline ≤ 15
/-- The bytes of a coder are bytes, its place is near. -/
structure CodOk (N : Int) (r : CodV) : Prop where
  by_ : ∀ x ∈ r.inn, 0 ≤ x ∧ x ≤ 255
  ln : r.inn.length ≤ 1000000
  at_ : 0 ≤ r.at_ ∧ r.at_ ≤ N
theorem num_good {N : Int} {r : CodV} {k : Int} (h : CodOk N r) (hN : N ≤ 1000000) (h1 : 1 ≤ k) (h2 : k ≤ 1000) : Good (r5number r k) fun o => (0 ≤ o.1.1 ∧ o.1.1 < k) ∧ CodOk (N + 1) o.2.1 := by
  have ha := h.at_
  have e1 : wi (r.at_ + 1) = r.at_ + 1 := wi_id (rg_lit (by omega))
  unfold r5number
  rw [e1]
  refine Good.ite (fun hlt => .guard ⟨ha.1, hlt⟩ fun _ => .guard (by omega) fun _ => .some_ ⟨?_, h.by_, h.ln, by show 0 ≤ r.at_ + 1; omega, by show r.at_ + 1 ≤ N + 1; omega⟩) fun _ => .some_ ⟨⟨Int.le_refl 0, by show (0 : Int) < k; omega⟩, h.by_, h.ln, by show 0 ≤ r.at_ + 1; omega, by show r.at_ + 1 ≤ N + 1; omega⟩
  have hb := h.by_ _ (at_in (d := dfR 17) (xs := r.inn) (i := r.at_) ⟨ha.1, hlt⟩)
  have e2 : wi (atK17 r.inn r.at_) = atK17 r.inn r.at_ := wi_id (rg_lit (x := atK17 r.inn r.at_) ⟨by have := hb.1; exact Int.le_trans (by decide) this, by have := hb.2; exact Int.le_trans this (by decide)⟩)
  rw [e2]
  exact tmod_lt h1 hb.1
theorem CodOk.up {N M : Int} {r : CodV} (h : CodOk N r) (hl : N ≤ M) : CodOk M r := ⟨h.by_, h.ln, h.at_.1, by have := h.at_; omega⟩
def InsOk (n lv : Int) (i : Ins) : Prop := (i.op = 0 ∧ 1 ≤ i.a ∧ i.a ≤ 4 ∧ i.b = 0) ∨ (i.op = 1 ∧ 0 ≤ i.a ∧ i.a < n ∧ 0 ≤ i.b ∧ i.b < lv) ∨ (i.op = 2 ∧ 0 ≤ i.a ∧ i.a ≤ 3 ∧ i.b = 0)
def SubOk (n lv : Int) (s : Sub) : Prop := (0 ≤ s.prog ∧ s.prog < n) ∧ (0 ≤ s.level ∧ s.level < lv) ∧ 0 ≤ s.deadline ∧ s.deadline ≤ 15
/-- The numbers of a configuration under construction. -/
structure NumOk (c : Cfg) : Prop where
  w : 1 ≤ c.workers ∧ c.workers ≤ 4
  l : 1 ≤ c.levels ∧ c.levels ≤ 4
  k : 1 ≤ c.classes ∧ c.classes ≤ 3 ∧ c.classes ≤ c.levels
  t : 1 ≤ c.tasks ∧ c.tasks ≤ 12
  q : 1 ≤ c.deque ∧ c.deque ≤ 4
  h : 1 ≤ c.heap ∧ c.heap ≤ 4
  b : 1 ≤ c.batch ∧ c.batch ≤ c.deque
  a : 0 ≤ c.age ∧ c.age ≤ 5
  p : 1 ≤ c.patience ∧ c.patience ≤ 8
theorem w1p {x : Int} (h : 0 ≤ x) (h2 : x ≤ 1000000) : wi (1 + x) = 1 + x := wi_id (rg_lit (by omega))
theorem decode_good {b : List Int} (hb : ∀ x ∈ b, 0 ≤ x ∧ x ≤ 255) (hl : b.length ≤ 1000000) : Good (r5decode b) fun o => DecOk o.1.1 := by
  unfold r5decode
  refine (num_good (N := 0) (k := 4) ⟨hb, hl, Int.le_refl 0, Int.le_refl 0⟩ (by decide) (by decide) (by decide)).bind fun r1 h1 => ?_
  refine (num_good (k := 4) h1.2 (by decide) (by decide) (by decide)).bind fun r2 h2 => ?_
  have w1 := w1p h1.1.1 (by omega)
  have w2 := w1p h2.1.1 (by omega)
  rw [w1, w2]
  refine (num_good h2.2 (by decide) (by split <;> omega) (by split <;> omega)).bind fun r3 h3 => ?_
  refine (num_good (k := 12) h3.2 (by decide) (by decide) (by decide)).bind fun r4 h4 => ?_
  refine (num_good (k := 4) h4.2 (by decide) (by decide) (by decide)).bind fun r5 h5 => ?_
  refine (num_good (k := 4) h5.2 (by decide) (by decide) (by decide)).bind fun r6 h6 => ?_
  have h3' : r3.1.1 < 3 ∧ r3.1.1 < 1 + r2.1.1 := by
    have := h3.1.2
    split at this <;> omega
  have w3 := w1p h3.1.1 (by omega)
  have w4 := w1p h4.1.1 (by omega)
  have w5 := w1p h5.1.1 (by omega)
  have w6 := w1p h6.1.1 (by omega)
  rw [w3, w4, w5, w6]
  refine (num_good h6.2 (by decide) (by omega) (by omega)).bind fun r7 h7 => ?_
  refine (num_good (k := 6) h7.2 (by decide) (by decide) (by decide)).bind fun r8 h8 => ?_
  refine (num_good (k := 8) h8.2 (by decide) (by decide) (by decide)).bind fun r9 h9 => ?_
  refine (num_good (k := 4) h9.2 (by decide) (by decide) (by decide)).bind fun r10 h10 => ?_
  have w7 := w1p h7.1.1 (by omega)
  have w9 := w1p h9.1.1 (by omega)
  have w10 := w1p h10.1.1 (by omega)
  rw [w7, w9, w10]
  refine Good.bind (P := fun z => CodOk 1000 z.2.1 ∧ NumOk z.2.2.1 ∧ z.2.2.1.levels = 1 + r2.1.1 ∧ (z.2.2.1.progs.length : Int) = 1 + r10.1.1 ∧ (∀ p ∈ z.2.2.1.progs, p.length ≤ 5 ∧ ∀ i ∈ p, InsOk (1 + r10.1.1) (1 + r2.1.1) i) ∧ z.2.2.1.subs = [])
    (lp_good (fun x => 0 ≤ x.1 ∧ x.1 ≤ 1 + r10.1.1 ∧ CodOk (10 + 30 * x.1) x.2.1 ∧ NumOk x.2.2.1 ∧ x.2.2.1.levels = 1 + r2.1.1 ∧ (x.2.2.1.progs.length : Int) = x.1 ∧ (∀ p ∈ x.2.2.1.progs, p.length ≤ 5 ∧ ∀ i ∈ p, InsOk (1 + r10.1.1) (1 + r2.1.1) i) ∧ x.2.2.1.subs = [])
      (fun x => (1 + r10.1.1 - x.1).toNat) (fun self x ⟨q0, q1, q2, q3, q4, q5, q6, q7⟩ ih => ?step) _ _ ⟨Int.le_refl 0, by show (0 : Int) ≤ 1 + r10.1.1; omega, h10.2, ?num, rfl, rfl, fun p hp => (by cases hp), rfl⟩ (by show (1 + r10.1.1 - 0).toNat < _; omega)) fun z hz => ?cont
  case step =>
    have f1 : wi (x.1 + 1) = x.1 + 1 := wi_id (rg_lit (by omega))
    refine Good.ite (fun hlt => ?_) fun hlt => .some_ ⟨q2.up (by omega), q3, q4, by show (x.2.2.1.progs.length : Int) = _; omega, q6, q7⟩
    have hlen : (x.2.2.1.progs.length : Int) < 10 := by omega
    rw [f1]
    refine (num_good (k := 6) q2 (by omega) (by decide) (by decide)).bind fun r14 h14 => ?_
    refine Good.bind (P := fun z => z.1.length ≤ 5 ∧ (∀ i ∈ z.1, InsOk (1 + r10.1.1) (1 + r2.1.1) i) ∧ CodOk (10 + 30 * x.1 + 26) z.2.2.1)
      (lp_good (fun y => 0 ≤ y.2.1 ∧ (y.1.length : Int) + y.2.1 = r14.1.1 ∧ CodOk (10 + 30 * x.1 + 1 + 5 * (r14.1.1 - y.2.1)) y.2.2.1 ∧ ∀ i ∈ y.1, InsOk (1 + r10.1.1) (1 + r2.1.1) i)
        (fun y => y.2.1.toNat) (fun self y ⟨p0, p1, p2, p3⟩ ih => ?_) _ _ ⟨h14.1.1, by show ((0 : Nat) : Int) + r14.1.1 = _; omega, h14.2.up (by show 10 + 30 * x.1 + 1 ≤ 10 + 30 * x.1 + 1 + 5 * (r14.1.1 - r14.1.1); omega), fun i hi => (by cases hi)⟩ (by show r14.1.1.toNat < _; omega)) fun z hz => ?_
    · refine .guard (by show (((x.2.2.1.progs.length + 1 : Nat)) : Int) < _; omega) fun _ => ih _ ⟨by show 0 ≤ x.1 + 1; omega, by show x.1 + 1 ≤ _; omega, hz.2.2.up (by show 10 + 30 * x.1 + 26 ≤ 10 + 30 * (x.1 + 1); omega), ⟨q3.w, q3.l, q3.k, q3.t, q3.q, q3.h, q3.b, q3.a, q3.p⟩, q4, ?_, ?_, q7⟩ ?_
      · show (((x.2.2.1.progs ++ [z.1]).length : Nat) : Int) = x.1 + 1
        rw [List.length_append, List.length_singleton]; omega
      · intro p hp
        rcases List.mem_append.1 hp with hp | hp
        · exact q6 p hp
        · rw [List.mem_singleton] at hp; subst hp; exact ⟨hz.1, hz.2.1⟩
      · show (1 + r10.1.1 - (x.1 + 1)).toNat < (1 + r10.1.1 - x.1).toNat
        omega
    · have f2 : wi (y.2.1 - 1) = y.2.1 - 1 := wi_id (rg_lit (by omega))
      have hyl : y.1.length ≤ 5 := by omega
      refine Good.ite (fun hlt2 => ?_) fun hlt2 => .some_ ⟨hyl, p3, p2.up (by omega)⟩
      rw [f2, q4]
      have nx : ∀ (u : Ins) (r : CodV), InsOk (1 + r10.1.1) (1 + r2.1.1) u → CodOk (10 + 30 * x.1 + 1 + 5 * (r14.1.1 - (y.2.1 - 1))) r → Good (if (((y.1.length + ([u] : List Ins).length : Nat)) : Int) < 1000000000000 then self (y.1 ++ [u], y.2.1 - 1, r, ()) else none) fun z => z.1.length ≤ 5 ∧ (∀ i ∈ z.1, InsOk (1 + r10.1.1) (1 + r2.1.1) i) ∧ CodOk (10 + 30 * x.1 + 26) z.2.2.1 := fun u r hu hr =>
        .guard (by show (((y.1.length + 1 : Nat)) : Int) < _; omega) fun _ => ih _ ⟨by show 0 ≤ y.2.1 - 1; omega, by
          show (((y.1 ++ [u]).length : Nat) : Int) + (y.2.1 - 1) = _
          rw [List.length_append, List.length_singleton]; omega, hr, fun i hi => by
          rcases List.mem_append.1 hi with hi | hi
          · exact p3 i hi
          · rw [List.mem_singleton] at hi; subst hi; exact hu⟩ (by show (y.2.1 - 1).toNat < y.2.1.toNat; omega)
      refine (num_good (k := 3) p2 (by omega) (by decide) (by decide)).bind fun r18 h18 => ?_
      refine Good.ite (fun e0 => ?_) fun e0 => Good.ite (fun e1 => ?_) fun e1 => ?_
      · refine (num_good (k := 4) h18.2 (by omega) (by decide) (by decide)).bind fun r19 h19 => ?_
        rw [w1p h19.1.1 (by omega)]
        exact nx _ _ (.inl ⟨e0, by show 1 ≤ 1 + r19.1.1; omega, by show 1 + r19.1.1 ≤ 4; omega, rfl⟩) (h19.2.up (by omega))
      · refine (num_good (k := 1 + r10.1.1) h18.2 (by omega) (by omega) (by omega)).bind fun r20 h20 => ?_
        refine (num_good (k := 1 + r2.1.1) h20.2 (by omega) (by omega) (by omega)).bind fun r21 h21 => ?_
        exact nx _ _ (.inr (.inl ⟨e1, h20.1.1, h20.1.2, h21.1.1, h21.1.2⟩)) (h21.2.up (by omega))
      · refine (num_good (k := 4) h18.2 (by omega) (by decide) (by decide)).bind fun r22 h22 => ?_
        exact nx _ _ (.inr (.inr ⟨by show r18.1.1 = 2; omega, h22.1.1, by show r22.1.1 ≤ 3; omega, rfl⟩)) (h22.2.up (by omega))
  case num =>
    refine ⟨?_, ?_, ?_, ?_, ?_, ?_, ?_, ?_, ?_⟩
    · exact ⟨by show 1 ≤ 1 + r1.1.1; omega, by show 1 + r1.1.1 ≤ 4; omega⟩
    · exact ⟨by show 1 ≤ 1 + r2.1.1; omega, by show 1 + r2.1.1 ≤ 4; omega⟩
    · exact ⟨by show 1 ≤ 1 + r3.1.1; omega, by show 1 + r3.1.1 ≤ 3; omega, by show 1 + r3.1.1 ≤ 1 + r2.1.1; omega⟩
    · exact ⟨by show 1 ≤ 1 + r4.1.1; omega, by show 1 + r4.1.1 ≤ 12; omega⟩
    · exact ⟨by show 1 ≤ 1 + r5.1.1; omega, by show 1 + r5.1.1 ≤ 4; omega⟩
    · exact ⟨by show 1 ≤ 1 + r6.1.1; omega, by show 1 + r6.1.1 ≤ 4; omega⟩
    · exact ⟨by show 1 ≤ 1 + r7.1.1; omega, by show 1 + r7.1.1 ≤ 1 + r5.1.1; omega⟩
    · exact ⟨h8.1.1, by show r8.1.1 ≤ 5; omega⟩
    · exact ⟨by show 1 ≤ 1 + r9.1.1; omega, by show 1 + r9.1.1 ≤ 8; omega⟩
  case cont =>
    obtain ⟨g1, g2, g3, g4, g5, g6⟩ := hz
    refine (num_good (k := 6) g1 (by decide) (by decide) (by decide)).bind fun r23 h23 => ?_
    refine Good.bind (P := fun y => DecOk y.2.2.1)
      (lp_good (fun y => 0 ≤ y.1 ∧ (y.2.2.1.subs.length : Int) + y.1 = r23.1.1 ∧ CodOk (1001 + 5 * (r23.1.1 - y.1)) y.2.1 ∧ NumOk y.2.2.1 ∧ y.2.2.1.levels = 1 + r2.1.1 ∧ (y.2.2.1.progs.length : Int) = 1 + r10.1.1 ∧ (∀ p ∈ y.2.2.1.progs, p.length ≤ 5 ∧ ∀ i ∈ p, InsOk (1 + r10.1.1) (1 + r2.1.1) i) ∧ ∀ s ∈ y.2.2.1.subs, SubOk (1 + r10.1.1) (1 + r2.1.1) s)
        (fun y => y.1.toNat) (fun self y ⟨p0, p1, p2, p3, p4, p5, p6, p7⟩ ih => ?_) _ _ ⟨h23.1.1, by show ((z.2.2.1.subs.length : Nat) : Int) + r23.1.1 = r23.1.1; rw [g6]; show ((0 : Nat) : Int) + r23.1.1 = r23.1.1; omega, h23.2.up (by show (1001 : Int) ≤ 1001 + 5 * (r23.1.1 - r23.1.1); omega), g2, g3, g4, g5, fun s hs => by
          have hs2 : s ∈ z.2.2.1.subs := hs
          rw [g6] at hs2; cases hs2⟩ (by show r23.1.1.toNat < _; omega)) fun y hy => .some_ hy
    have f2 : wi (y.1 - 1) = y.1 - 1 := wi_id (rg_lit (by omega))
    have hyl : y.2.2.1.subs.length ≤ 5 := by omega
    refine Good.ite (fun hlt => ?_) fun hlt => .some_ ⟨p3.w, p3.l, p3.k, p3.t, p3.q, p3.h, p3.b, p3.a, p3.p, by show 1 ≤ y.2.2.1.progs.length ∧ y.2.2.1.progs.length ≤ 4; omega, fun x hx => (p6 x hx).1, fun x hx i hi => by
      have := (p6 x hx).2 i hi
      rw [p5, p4]; exact this, hyl, fun s hs => by
      have := p7 s hs
      rw [p5, p4]; exact this⟩
    rw [f2, p4]
    refine (num_good (k := 1 + r10.1.1) p2 (by omega) (by omega) (by omega)).bind fun r27 h27 => ?_
    refine (num_good (k := 1 + r2.1.1) h27.2 (by omega) (by omega) (by omega)).bind fun r28 h28 => ?_
    refine (num_good (k := 16) h28.2 (by omega) (by omega) (by omega)).bind fun r29 h29 => ?_
    refine .guard (by show (((y.2.2.1.subs.length + 1 : Nat)) : Int) < _; omega) fun _ => ih _ ⟨by show 0 ≤ y.1 - 1; omega, ?_, h29.2.up (by show 1001 + 5 * (r23.1.1 - y.1) + 1 + 1 + 1 ≤ 1001 + 5 * (r23.1.1 - (y.1 - 1)); omega), ⟨p3.w, p3.l, p3.k, p3.t, p3.q, p3.h, p3.b, p3.a, p3.p⟩, p4, p5, p6, ?_⟩ (by show (y.1 - 1).toNat < y.1.toNat; omega)
    · show (((y.2.2.1.subs ++ [_]).length : Nat) : Int) + (y.1 - 1) = _
      rw [List.length_append, List.length_singleton]; omega
    · intro s hs
      rcases List.mem_append.1 hs with hs | hs
      · exact p7 s hs
      · rw [List.mem_singleton] at hs; subst hs
        exact ⟨h27.1, h28.1, h29.1.1, by show r29.1.1 ≤ 15; omega⟩
end
end Go.Proofs.YtgiagoeoifgliaaGreat
