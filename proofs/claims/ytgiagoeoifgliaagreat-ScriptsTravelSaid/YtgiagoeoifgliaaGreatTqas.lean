/- The program's machines do what was said plainly, 9: the client; what workers and the client leave. An engine: what holds between the entries of a script. The law ScriptsTravel: what config.Decode answers is valid; it reads back what was written. The law ScriptsTravel: config.Encode writes the numbers of a configuration; config.Decode reads them back. The law ScriptsTravel: scripts as bytes. -/
import Derived.Test.YtgiagoeoifgliaaGreatTqar
import Derived.Test.YtgiagoeoifgliaaGreatTqaq
set_option linter.all false
namespace Go.Proofs.YtgiagoeoifgliaaGreat
section
open Go Go.RowKit
set_option maxRecDepth 100000
@[reducible] def clieCC (me id : Int) (s : Sub) : ClieC → Int × MV × Bool
  | .n1 => (1, .nil, true)
  | .a1 => (1, .attempt ⟨o0, me, false⟩, false)
  | .n2 => (2, .nil, true)
  | .n3 => (3, .nil, true)
  | .n4 => (4, .nil, true)
  | .n5 => (5, .nil, true)
  | .n6 => (6, .nil, true)
  | .a6 t => (6, .insert (insertC s.deadline id t), false)
  | .n7 => (7, .nil, true)
  | .n8 => (8, .nil, true)
  | .n9 => (9, .nil, true)
  | .a9 t => (9, .wake (wakeC me s.level t), false)
@[reducible] def clieC (subs : List Sub) (me : Int) (k : ClieS) : ClientV MV :=
  ⟨subs, me, k.i, (clieCC me k.id (atK4 subs k.i) k.c).1, (clieCC me k.id (atK4 subs k.i) k.c).2.1, (clieCC me k.id (atK4 subs k.i) k.c).2.2, k.id, k.acc⟩
def CSim (subs : List Sub) (me : Int) (res : Option ((Bool × Unit) × (ClientV MV × EnvP × Unit))) (r : Bool × ClieS × EnvP) : Prop := res = some ((r.1, ()), (clieC subs me r.2.1, r.2.2, ()))
def machP (subs : List Sub) (me i id ln : Int) : MV :=
  if ln = 1 then .attempt ⟨o0, me, false⟩ else if ln = 3 then .alloc ⟨o0⟩ else if ln = 6 then .insert ⟨o0, (atK4 subs i).deadline, id, 1, 0, 0, 0, 0⟩ else if ln = 8 then .release ⟨o0⟩ else if ln = 9 then .wake ⟨o0, me, (atK4 subs i).level, 1, 0, 0⟩ else .nil
section
variable [Tb] {K : Nat} {e : EnvP} {w : Int} {subs : List Sub} {me i id ln : Int} {m : MV} {f acc : Bool}
theorem mach_eq (hi : 0 ≤ i ∧ i < (subs.length : Int)) (h : 1 ≤ ln ∧ ln ≤ 9) : clientClientMachines ⟨subs, me, i, ln, m, f, id, acc⟩ = some ((machP subs me i id ln, ()), (⟨subs, me, i, ln, m, f, id, acc⟩, ())) := by
  unfold clientClientMachines
  simp only [hi, and_self, if_true, lockAcquire, tableAllocate, injectorInsert, lockRelease, parkWake, bnd]
  rw [wi_id (rg_lit (show _ ∧ _ by omega)), if_pos (by simp only [List.length_cons, List.length_nil]; omega)]
  have hv : ln = 1 ∨ ln = 2 ∨ ln = 3 ∨ ln = 4 ∨ ln = 5 ∨ ln = 6 ∨ ln = 7 ∨ ln = 8 ∨ ln = 9 := by omega
  rcases hv with rfl | rfl | rfl | rfl | rfl | rfl | rfl | rfl | rfl <;> rfl
theorem spl_att (x : AttemptV) : (SR1.spl (MV.attempt x)).isNone = false := rfl
theorem spl_all (x : AllocV) : (SR1.spl (MV.alloc x)).isNone = false := rfl
theorem spl_ins (x : InsertV) : (SR1.spl (MV.insert x)).isNone = false := rfl
theorem spl_rel (x : ReleaseV) : (SR1.spl (MV.release x)).isNone = false := rfl
theorem spl_wak (x : WakeV) : (SR1.spl (MV.wake x)).isNone = false := rfl
theorem CSim.ite {c : Prop} [Decidable c] {a b : Option ((Bool × Unit) × (ClientV MV × EnvP × Unit))} {r s : Bool × ClieS × EnvP} (h1 : c → CSim subs me a r) (h2 : ¬ c → CSim subs me b s) : CSim subs me (if c then a else b) (if c then r else s) := by
  by_cases h : c
  · rw [if_pos h, if_pos h]; exact h1 h
  · rw [if_neg h, if_neg h]; exact h2 h
theorem clie_sim (hK : EOk K e) (hk : K ≤ 100000000) (k : ClieS) (hi0 : 0 ≤ k.i) : CSim subs me (clientClientStep (clieC subs me k) e) (clieS subs me e k) := by
  have hl : e.evs.length ≤ 999999999 := by have := hK.ev; omega
  obtain ⟨i, id, acc, c⟩ := k
  have hi0 : 0 ≤ i := hi0
  unfold clieS
  by_cases hov : (subs.length : Int) ≤ i
  · rw [if_pos hov]
    simp only [clientClientStep, clientClientOver, hov, decide_true, bnd, if_true]
    rfl
  rw [if_neg hov]
  have hi : 0 ≤ i ∧ i < (subs.length : Int) := by omega
  have hm : ∀ m v, pEmit { e with m := m } v = some ((), ({ e with m := m, evs := e.evs ++ [v] }, ())) := fun m v => pEmit_eq (e := { e with m := m }) hl
  cases c with
  | n1 =>
    obtain ⟨dn, x', h, ho, hd, hx⟩ := lock_sim (e := e) (w := me) (b := false)
    rw [Bool.or_false] at hd
    simp only [o0] at h hx
    simp only [clieG, clientClientStep, clientClientOver, hov, decide_false, bnd, Bool.not_true, Bool.not_false, Bool.false_eq_true, if_true, if_false, Int.reduceEq, mach_eq hi (show (1 : Int) ≤ 1 ∧ (1 : Int) ≤ 9 by decide), machP, spl_att, stepD3, resultD3, h]
    rcases Bool.eq_false_or_eq_true (e.hit 1 0) with hh | hh
    · rw [hh] at hd
      subst hd
      have ho := ho rfl
      simp only [hh, if_true] at ho ⊢
      simp only [ho, hi, and_self, clientClientAfter, clientClientTo, bnd, Bool.not_true, Bool.not_false, Bool.false_eq_true, if_true, if_false, Int.reduceEq]
      rfl
    · rw [hh] at hd
      subst hd
      have hx := hx rfl
      simp only [hh, hx, bnd, Bool.not_true, Bool.not_false, Bool.false_eq_true, if_true, if_false, Int.reduceEq]
      rfl
  | a1 =>
    obtain ⟨dn, x', h, ho, hd, hx⟩ := lock_sim (e := e) (w := me) (b := false)
    rw [Bool.or_false] at hd
    simp only [o0] at h hx
    simp only [clieG, clientClientStep, clientClientOver, hov, decide_false, bnd, Bool.not_true, Bool.not_false, Bool.false_eq_true, if_true, if_false, Int.reduceEq, spl_att, stepD3, resultD3, h, o0]
    rcases Bool.eq_false_or_eq_true (e.hit 1 0) with hh | hh
    · rw [hh] at hd
      subst hd
      have ho := ho rfl
      simp only [hh, if_true] at ho ⊢
      simp only [ho, hi, and_self, clientClientAfter, clientClientTo, bnd, Bool.not_true, Bool.not_false, Bool.false_eq_true, if_true, if_false, Int.reduceEq]
      rfl
    · rw [hh] at hd
      subst hd
      have hx := hx rfl
      simp only [hh, hx, bnd, Bool.not_true, Bool.not_false, Bool.false_eq_true, if_true, if_false, Int.reduceEq]
      rfl
  | n2 =>
    simp only [clieG, clientClientStep, clientClientOver, hov, decide_false, bnd, Bool.not_true, Bool.not_false, Bool.false_eq_true, if_true, if_false, Int.reduceEq, mach_eq hi (show (1 : Int) ≤ 2 ∧ (2 : Int) ≤ 9 by decide), machP, spl_nil, clientClientAccess, hi, and_self, pLSize, pLoad_eq, clientClientReject, clientClientTo, hm]
    rw [bind_ite]
    exact CSim.ite (fun _ => rfl) fun _ => rfl
  | n3 =>
    obtain ⟨x', h, ho⟩ := alloc_sim (e := e)
    simp only [clieG, clientClientStep, clientClientOver, hov, decide_false, bnd, Bool.not_true, Bool.not_false, Bool.false_eq_true, if_true, if_false, Int.reduceEq, mach_eq hi (show (1 : Int) ≤ 3 ∧ (3 : Int) ≤ 9 by decide), machP, spl_all, stepD3, resultD3, h, clientClientAfter, clientClientReject, clientClientTo, hi, and_self]
    by_cases ci : IsT e (wi (e.gt 0))
    · rw [if_pos ci] at ho ⊢
      have hv : 0 ≤ wi (e.gt 0) ∧ wi (e.gt 0) < ((allocE e).recs.length : Int) := ⟨ci.1, by have := ci.2; have := hK.ct; show _ < (e.recs.length : Int); omega⟩
      simp only [ho, Int.reduceEq, if_false, hv, and_self, if_true]
      rfl
    · rw [if_neg ci] at ho ⊢
      simp only [ho, if_true, pEmit_eq (e := allocE e) hl, bnd]
      rfl
  | n4 =>
    simp only [clieG, clientClientStep, clientClientOver, hov, decide_false, bnd, Bool.not_true, Bool.not_false, Bool.false_eq_true, if_true, if_false, Int.reduceEq, mach_eq hi (show (1 : Int) ≤ 4 ∧ (4 : Int) ≤ 9 by decide), machP, spl_nil, clientClientAccess, hi, and_self, pLevel_eq, pStore_eq, clientClientTo]
    rfl
  | n5 =>
    simp only [clieG, clientClientStep, clientClientOver, hov, decide_false, bnd, Bool.not_true, Bool.not_false, Bool.false_eq_true, if_true, if_false, Int.reduceEq, mach_eq hi (show (1 : Int) ≤ 5 ∧ (5 : Int) ≤ 9 by decide), machP, spl_nil, clientClientAccess, hi, and_self, pSince_eq, pNow, pStore_eq, clientClientTo]
    rfl
  | n6 =>
    have h := insert_sim (e := e) (d := (atK4 subs i).deadline) (t := id) .l1
    have hn := insert_nx (e := e) (d := (atK4 subs i).deadline) (t := id) .l1
    revert h hn
    simp only [clieG, clientClientStep, clientClientOver, hov, decide_false, bnd, Bool.not_true, Bool.not_false, Bool.false_eq_true, if_true, if_false, Int.reduceEq, mach_eq hi (show (1 : Int) ≤ 6 ∧ (6 : Int) ≤ 9 by decide), machP, spl_ins, stepD3, resultD3, o0]
    rcases insertS (atK4 subs i).deadline id e .l1 with ⟨r | ⟨c, y⟩, e'⟩ <;> intro h hn
    · simp only [SimR, o0] at h
      simp only [h, bnd, Bool.not_false, if_true]
      rfl
    · simp only [SimR, o0] at h
      obtain ⟨x', h, ho⟩ := h
      have hl' : e'.evs.length ≤ 999999999 := by have h1 : e'.evs.length ≤ e.evs.length + 0 := hn.ev; have := hK.ev; omega
      simp only [h, ho, clientClientAfter, clientClientTo, hi, and_self, pEmit_eq hl', bnd, Bool.not_true, Bool.not_false, Bool.false_eq_true, if_true, if_false, Int.reduceEq, ne_eq]
      by_cases hc : c = 0
      · simp only [hc, not_true, if_true, if_false]; rfl
      · simp only [hc, not_false_eq_true, if_true, if_false]; rfl
  | a6 t =>
    have h := insert_sim (e := e) (d := (atK4 subs i).deadline) (t := id) t
    have hn := insert_nx (e := e) (d := (atK4 subs i).deadline) (t := id) t
    revert h hn
    simp only [clieG, clientClientStep, clientClientOver, hov, decide_false, bnd, Bool.not_true, Bool.not_false, Bool.false_eq_true, if_true, if_false, Int.reduceEq, spl_ins, stepD3, resultD3]
    rcases insertS (atK4 subs i).deadline id e t with ⟨r | ⟨c, y⟩, e'⟩ <;> intro h hn
    · simp only [SimR] at h
      simp only [h, bnd, Bool.not_false, if_true]
      rfl
    · simp only [SimR] at h
      obtain ⟨x', h, ho⟩ := h
      have hl' : e'.evs.length ≤ 999999999 := by have h1 : e'.evs.length ≤ e.evs.length + 0 := hn.ev; have := hK.ev; omega
      simp only [h, ho, clientClientAfter, clientClientTo, hi, and_self, pEmit_eq hl', bnd, Bool.not_true, Bool.not_false, Bool.false_eq_true, if_true, if_false, Int.reduceEq, ne_eq]
      by_cases hc : c = 0
      · simp only [hc, not_true, if_true, if_false]; rfl
      · simp only [hc, not_false_eq_true, if_true, if_false]; rfl
  | n7 =>
    simp only [clieG, clientClientStep, clientClientOver, hov, decide_false, bnd, Bool.not_true, Bool.not_false, Bool.false_eq_true, if_true, if_false, Int.reduceEq, mach_eq hi (show (1 : Int) ≤ 7 ∧ (7 : Int) ≤ 9 by decide), machP, spl_nil, clientClientAccess, hi, and_self, pState_eq, pStore_eq, clientClientTo]
    rfl
  | n8 =>
    obtain ⟨x', h, ho⟩ := free_sim (e := e)
    simp only [clieG, clientClientStep, clientClientOver, hov, decide_false, bnd, Bool.not_true, Bool.not_false, Bool.false_eq_true, if_true, if_false, Int.reduceEq, mach_eq hi (show (1 : Int) ≤ 8 ∧ (8 : Int) ≤ 9 by decide), machP, spl_rel, stepD3, resultD3, h, clientClientAfter, clientClientNext, clientClientOver, clientClientTo, hi, and_self]
    cases acc <;> rfl
  | n9 =>
    have h := wake_sim (e := e) (w := me) (v := (atK4 subs i).level) hl (.l1 0)
    revert h
    simp only [clieG, clientClientStep, clientClientOver, hov, decide_false, bnd, Bool.not_true, Bool.not_false, Bool.false_eq_true, if_true, if_false, Int.reduceEq, mach_eq hi (show (1 : Int) ≤ 9 ∧ (9 : Int) ≤ 9 by decide), machP, spl_wak, stepD3, resultD3, o0]
    rcases wakeS me (atK4 subs i).level e (.l1 0) with ⟨r | ⟨c, y⟩, e'⟩ <;> intro h
    · simp only [SimR, o0] at h
      simp only [h, bnd, Bool.not_false, if_true]
      rfl
    · simp only [SimR, o0] at h
      obtain ⟨x', h, ho⟩ := h
      simp only [h, ho, clientClientAfter, clientClientNext, clientClientOver, clientClientTo, hi, and_self, bnd, Bool.not_true, Bool.not_false, Bool.false_eq_true, if_true, if_false, Int.reduceEq]
      rfl
  | a9 t =>
    have h := wake_sim (e := e) (w := me) (v := (atK4 subs i).level) hl t
    revert h
    simp only [clieG, clientClientStep, clientClientOver, hov, decide_false, bnd, Bool.not_true, Bool.not_false, Bool.false_eq_true, if_true, if_false, Int.reduceEq, spl_wak, stepD3, resultD3]
    rcases wakeS me (atK4 subs i).level e t with ⟨r | ⟨c, y⟩, e'⟩ <;> intro h
    · simp only [SimR] at h
      simp only [h, bnd, Bool.not_false, if_true]
      rfl
    · simp only [SimR] at h
      obtain ⟨x', h, ho⟩ := h
      simp only [h, ho, clientClientAfter, clientClientNext, clientClientOver, clientClientTo, hi, and_self, bnd, Bool.not_true, Bool.not_false, Bool.false_eq_true, if_true, if_false, Int.reduceEq]
      rfl
theorem work_line_nx (hK : EOk K e) (k : WorkS) (hc : k.c ≠ .top) : Stp 2 e (workS w e k).2 := by
  obtain ⟨cur, vi, lv, x, c⟩ := k
  cases c with
  | top => exact absurd rfl hc
  | t1 t s =>
    have h := sweep_nx (e := e) (w := w) (t := t) s
    revert h
    simp only [workS, workB]
    rcases sweepS w t e s with ⟨r | ⟨c, y⟩, e'⟩ <;> intro h
    · exact h.le (by decide)
    · exact h.le (by decide)
  | t2 s =>
    have h := take_nx (w := w) (fun t => hK.st) s
    revert h
    simp only [workS, workB]
    rcases takeS w e s with ⟨r | ⟨c, y⟩, e'⟩ <;> intro h
    · exact h.le (by decide)
    · exact h.le (by decide)
  | t3 s =>
    have h := drain_nx (e := e) (w := w) s
    revert h
    simp only [workS, workB]
    rcases drainS w e s with ⟨r | ⟨c, y⟩, e'⟩ <;> intro h
    · exact h.le (by decide)
    · exact h.le (by decide)
  | t4 s =>
    have h := probe_nx (e := e) (w := w) s
    revert h
    simp only [workS, workB]
    rcases probeS w e s with ⟨r | ⟨c, y⟩, e'⟩ <;> intro h
    · exact h.le (by decide)
    · exact h.le (by decide)
  | t5 s =>
    have h := steal_nx (e := e) (q := queueP e.l vi lv) s
    revert h
    simp only [workS, workB]
    rcases stealS (queueP e.l vi lv) e s with ⟨r | ⟨c, y⟩, e'⟩ <;> intro h
    · exact h.le (by decide)
    · simp only
      split
      · exact Stp.le (Stp.em h) (by decide)
      · split <;> exact Stp.le h (by decide)
  | t6 => exact (claim_nx (w := w) (t := x) hK.st).le (by decide)
  | t7 s =>
    have h := run_nx (w := w) hK s
    revert h
    simp only [workS, workB]
    rcases runS w e s with ⟨r | ⟨c, y⟩, e'⟩ <;> intro h
    · exact h.le (by decide)
    · exact h.le (by decide)
  | t8 s =>
    have h := sleep_nx (e := e) (w := w) s
    revert h
    simp only [workS, workB]
    rcases sleepS w e s with ⟨r | ⟨c, y⟩, e'⟩ <;> intro h
    · exact h.le (by decide)
    · exact h.le (by decide)
  | t9 s =>
    have h := reset_nx (e := e) (a := bitmapP e.l vi) (b := lv) (q := queueP e.l vi lv) s
    revert h
    simp only [workS, workB]
    rcases resetS (bitmapP e.l vi) lv (queueP e.l vi lv) e s with ⟨r | ⟨c, y⟩, e'⟩ <;> intro h
    · exact h.le (by decide)
    · exact h.le (by decide)
theorem workS_top {cur vi lv x : Int} : workS w e ⟨cur, vi, lv, x, workB w e ⟨cur, vi, lv, x, .top⟩⟩ = workS w e ⟨cur, vi, lv, x, .top⟩ := by
  unfold workB
  simp only
  by_cases ha : e.c.age = 0
  · simp only [workS, workB, ha, if_true]
  · simp only [workS, workB, ha, if_false]
theorem work_nx (hK : EOk K e) (k : WorkS) : Stp 2 e (workS w e k).2 := by
  obtain ⟨cur, vi, lv, x, c⟩ := k
  cases c with
  | top =>
    rw [← workS_top]
    exact work_line_nx hK _ (show workB w e ⟨cur, vi, lv, x, .top⟩ ≠ .top from workB_top)
  | _ => exact work_line_nx hK _ (fun h => by cases h)
theorem work_line_ok (hK : EOk K e) (k : WorkS) (hc : k.c ≠ .top) (hW : WorkOk K (manyP e) k) (hK1 : 1 ≤ K) : WorkOk (K + 1) (manyP e) (workS w e k).1 := by
  obtain ⟨cur, vi, lv, x, c⟩ := k
  have hr0 : ∀ t, RunOk (K + 1) (run0 t) := fun t => ⟨by simp [run0], by simp [run0]⟩
  cases c with
  | top => exact absurd rfl hc
  | t1 t s =>
    simp only [workS, workB]
    split <;> trivial
  | t2 s =>
    simp only [workS, workB]
    split
    · trivial
    · simp only
      split
      · exact hr0 _
      · exact (rfl : drain0.direct = false)
  | t3 s =>
    simp only [workS, workB]
    split
    · rename_i h; exact drain_ok hW h
    · simp only
      split
      · trivial
      · split
        · trivial
        · unfold WorkOk idleC
          simp only
          split <;> first | trivial | (rename_i h; split at h <;> cases h; trivial) | (rename_i h; split at h <;> cases h)
  | t4 s =>
    simp only [workS, workB]
    split
    · rename_i h; exact probe_ok hK.wk hW h
    · simp only
      split <;> trivial
  | t5 s =>
    simp only [workS, workB]
    split
    · trivial
    · split
      · trivial
      · split <;> trivial
  | t6 =>
    simp only [workS, workB]
    split
    · exact hr0 _
    · trivial
  | t7 s =>
    simp only [workS, workB]
    split
    · rename_i h
      have h1 := run_ok hW.1 h
      exact ⟨h1.1, by have := hW.2; omega⟩
    · trivial
  | t8 s =>
    simp only [workS, workB]
    split <;> trivial
  | t9 s =>
    simp only [workS, workB]
    split <;> trivial
theorem work_ok (hK : EOk K e) (k : WorkS) (hW : WorkOk K (manyP e) k) (hK1 : 1 ≤ K) : WorkOk (K + 1) (manyP e) (workS w e k).1 := by
  obtain ⟨cur, vi, lv, x, c⟩ := k
  cases c with
  | top =>
    rw [← workS_top]
    refine work_line_ok hK _ (show workB w e ⟨cur, vi, lv, x, .top⟩ ≠ .top from workB_top) ?_ hK1
    unfold workB
    simp only
    split <;> trivial
  | _ => exact work_line_ok hK _ (fun h => by cases h) hW hK1
theorem clie_nx (hK : EOk K e) (k : ClieS) : Stp 2 e (clieS subs me e k).2.2 := by
  obtain ⟨i, id, acc, c⟩ := k
  unfold clieS
  split
  · exact Stp.refl.le (by decide)
  cases c with
  | n1 => exact Stp.le lock_nx (by decide)
  | a1 => exact Stp.le lock_nx (by decide)
  | n2 =>
    simp only [clieG]
    split
    · exact Stp.le (Stp.em Stp.lk) (by decide)
    · exact Stp.le Stp.lk (by decide)
  | n3 =>
    simp only [clieG]
    split
    · exact Stp.le (Stp.pr alloc_nx fun K h => Nat.zero_le _) (by decide)
    · exact Stp.le (Stp.em alloc_nx) (by decide)
  | n4 => exact Stp.le (Stp.pt (by decide)) (Nat.zero_le _)
  | n5 => exact Stp.le (Stp.pt (by decide)) (Nat.zero_le _)
  | n6 =>
    have h := insert_nx (e := e) (d := (atK4 subs i).deadline) (t := id) .l1
    revert h
    simp only [clieG]
    rcases insertS (atK4 subs i).deadline id e .l1 with ⟨r | ⟨c, y⟩, e'⟩ <;> intro h
    · exact Stp.le h (by decide)
    · simp only
      split
      · exact Stp.le (Stp.em h) (by decide)
      · exact Stp.le h (by decide)
  | a6 t =>
    have h := insert_nx (e := e) (d := (atK4 subs i).deadline) (t := id) t
    revert h
    simp only [clieG]
    rcases insertS (atK4 subs i).deadline id e t with ⟨r | ⟨c, y⟩, e'⟩ <;> intro h
    · exact Stp.le h (by decide)
    · simp only
      split
      · exact Stp.le (Stp.em h) (by decide)
      · exact Stp.le h (by decide)
  | n7 => exact Stp.le (Stp.pt (by decide)) (Nat.zero_le _)
  | n8 =>
    simp only [clieG]
    split
    · exact Stp.le free_nx (by decide)
    · exact Stp.le (show Stp 0 e (clieN subs _ (freeE e)).2.2 from free_nx) (by decide)
  | n9 =>
    have h := wake_nx (e := e) (w := me) (v := (atK4 subs i).level) (.l1 0)
    revert h
    simp only [clieG]
    rcases wakeS me (atK4 subs i).level e (.l1 0) with ⟨r | ⟨c, y⟩, e'⟩ <;> intro h <;> exact Stp.le h (by decide)
  | a9 t =>
    have h := wake_nx (e := e) (w := me) (v := (atK4 subs i).level) t
    revert h
    simp only [clieG]
    rcases wakeS me (atK4 subs i).level e t with ⟨r | ⟨c, y⟩, e'⟩ <;> intro h <;> exact Stp.le h (by decide)
theorem clie_i (hs : subs.length ≤ 1000000) (k : ClieS) (hi : 0 ≤ k.i) : 0 ≤ (clieS subs me e k).2.1.i := by
  obtain ⟨i, id, acc, c⟩ := k
  have hi : 0 ≤ i := hi
  unfold clieS
  split
  · exact hi
  rename_i hov
  have hov : ¬ (subs.length : Int) ≤ i := hov
  have hw : 0 ≤ wi (i + 1) := by rw [wi_id (rg_lit (by omega))]; omega
  cases c <;> simp only [clieG, clieN] <;> (repeat' split) <;> first | exact hi | exact hw
end
end
section
open Go Go.RowKit
set_option maxRecDepth 100000
variable [Tb]
theorem count_eq (m : MemV) : memoryMemoryCount m = some ((m.count, ()), (m, ())) := id rfl
theorem last_eq (m : MemV) : memoryMemoryLast m = some ((m.last, ()), (m, ())) := id rfl
theorem cells_eq (m : MemV) (h : m.cells.length ≤ 1000000) : memoryMemoryCells m = some ((m.cells, ()), (m, ())) := by
  unfold memoryMemoryCells cloneU64
  rw [if_pos h]
  rfl
/-- The environment behind K steps. -/
structure EI (c : Cfg) (K : Nat) (e : EnvP) : Prop where
  ok : EOk K e
  l : e.l = layV c
  c : e.c = c
  ct : 0 ≤ e.m.count ∧ e.m.count ≤ K
  cl : e.m.cells.length ≤ 1000000
def mnC (c : Cfg) : Int := if 16 < c.workers then 16 else c.workers
def WI (c : Cfg) (K : Nat) (j : Int) (w : WorkerV MV) : Prop := ∃ k, w = workC (layV c) j k ∧ WorkOk K (mnC c) k
def CI (c : Cfg) (l : ClientV MV) : Prop := ∃ k, l = clieC c.subs c.workers k ∧ 0 ≤ k.i
section
variable {c : Cfg} {K : Nat} {e : EnvP} {j : Int} {w : WorkerV MV} {l : ClientV MV}
theorem EI.many (h : EI c K e) : manyP e = mnC c := by unfold manyP mnC; rw [h.c]
theorem one_ct {m m' : MemV} (h : One m m') {K : Nat} (hc : 0 ≤ m.count ∧ m.count ≤ K) (hK : K ≤ 1000000) : (0 ≤ m'.count ∧ m'.count ≤ ((K + 3 : Nat) : Int)) ∧ m'.cells.length = m.cells.length := by
  cases h with
  | no => exact ⟨by omega, rfl⟩
  | yes k a v h hk =>
    refine ⟨?_, by simp⟩
    show 0 ≤ wi (m.count + 1) ∧ wi (m.count + 1) ≤ _
    rw [wi_id (rg_lit (by omega))]
    omega
theorem EI.stp (h : EI c K e) (hK : K ≤ 1000000) {e' : EnvP} (s : Stp 2 e e') : EI c (K + 3) e' :=
  have h1 := one_ct s.m h.ct hK
  ⟨h.ok.step s, by rw [s.l]; exact h.l, by rw [s.c]; exact h.c, h1.1, by rw [h1.2]; exact h.cl⟩
theorem WorkOk.up {K L : Nat} (h : K ≤ L) {n : Int} {k : WorkS} (hw : WorkOk K n k) : WorkOk L n k := by
  obtain ⟨a, b, d, f, g⟩ := k
  cases g with
  | t7 s => exact ⟨hw.1, Nat.le_trans hw.2 h⟩
  | t3 s => exact hw
  | t4 s => exact hw
  | _ => trivial
theorem WI.up {K L : Nat} (h : K ≤ L) (hw : WI c K j w) : WI c L j w := by
  obtain ⟨k, h1, h2⟩ := hw
  exact ⟨k, h1, h2.up h⟩
theorem wi_step (h : EI c K e) (hK : 1 ≤ K ∧ K ≤ 1000000) (hw : WI c K j w) : Good (workerWorkerStep w e) fun o => One e.m o.2.2.1.m ∧ EI c (K + 3) o.2.2.1 ∧ WI c (K + 3) j o.2.1 := by
  obtain ⟨k, rfl, hk⟩ := hw
  rw [← h.many] at hk
  have h1 := work_sim (w := j) h.ok (by omega) k hk
  have h2 := work_nx (w := j) h.ok k
  have h3 := work_ok (w := j) h.ok k hk hK.1
  rw [h.many] at h3
  rw [h.l] at h1
  exact ⟨_, h1, h2.m, h.stp hK.2 h2, _, rfl, h3.up (by omega)⟩
theorem ci_step (h : EI c K e) (hK : 1 ≤ K ∧ K ≤ 1000000) (hs : c.subs.length ≤ 1000000) (hc : CI c l) : Good (clientClientStep l e) fun o => One e.m o.2.2.1.m ∧ EI c (K + 3) o.2.2.1 ∧ CI c o.2.1 := by
  obtain ⟨k, rfl, hk⟩ := hc
  have h1 := clie_sim (subs := c.subs) (me := c.workers) h.ok (by omega) k hk
  have h2 := clie_nx (subs := c.subs) (me := c.workers) h.ok k
  have h3 := clie_i (e := e) (subs := c.subs) (me := c.workers) hs k hk
  exact ⟨_, h1, h2.m, h.stp hK.2 h2, _, rfl, h3⟩
theorem EI.up {L : Nat} (h : K ≤ L) (he : EI c K e) : EI c L e := ⟨⟨he.ok.dq, he.ok.tk, he.ok.ct, he.ok.wk, by have := he.ok.ev; omega, fun r hr => by have := he.ok.kd r hr; omega⟩, he.l, he.c, by have := he.ct; omega, he.cl⟩
theorem EI.clk {k : ClkV} (he : EI c K e) : EI c K { e with k := k } := ⟨⟨he.ok.dq, he.ok.tk, he.ok.ct, he.ok.wk, he.ok.ev, he.ok.kd⟩, he.l, he.c, he.ct, he.cl⟩
theorem mach_good {x : EntV} {n : Int} (hn : 1 ≤ n ∧ n ≤ 1000) (h : x.kind = 0) : Good (scriptMachine x n) fun o => 0 ≤ o.1.1 ∧ o.1.1 < n := by
  have h1 : Int.tmod x.value n < n ∧ -n < Int.tmod x.value n := by
    constructor
    · exact Int.tmod_lt_of_pos _ (by omega)
    · have h2 : Int.tmod (-x.value) n < n := Int.tmod_lt_of_pos _ (by omega)
      rw [Int.neg_tmod] at h2
      omega
  unfold scriptMachine
  rw [if_neg (fun h' => h' h), if_neg (by omega), if_pos (by omega)]
  refine Good.ite (fun hl => ?_) fun hl => .some_ ⟨by show 0 ≤ Int.tmod x.value n; omega, h1.1⟩
  rw [wi_id (rg_lit (by omega))]
  exact .some_ ⟨by show 0 ≤ Int.tmod x.value n + n; omega, by show Int.tmod x.value n + n < n; omega⟩
end
theorem ei_new {c : Cfg} (h : DecOk c) : EI c 1 (envV c) := by
  have hn := (valid_len (dec_valid h)).1
  have ht := table_rg hn
  have h1 := h.w
  have h2 := h.l
  have h3 := h.k
  have h4 := h.t
  have h5 := h.q
  have h6 := h.h
  refine ⟨⟨?_, ?_, ?_, ?_, Nat.zero_le _, fun r hr => ?_⟩, rfl, rfl, ⟨Int.le_refl 0, by show (0 : Int) ≤ 1; omega⟩, ?_⟩
  · show 0 ≤ c.deque ∧ c.deque ≤ 65535; omega
  · show c.tasks = ((List.replicate c.tasks.toNat rec0).length : Int)
    rw [List.length_replicate]; omega
  · show c.tasks = ((List.replicate c.tasks.toNat rec0).length : Int)
    rw [List.length_replicate]; omega
  · show 1 ≤ c.workers; omega
  · have := List.eq_of_mem_replicate hr
    rw [this]
    exact Nat.zero_le _
  · show (List.replicate (cellsN c).toNat 0).length ≤ _
    rw [List.length_replicate]
    unfold cellsN layV
    simp only
    omega
theorem ci_new {c : Cfg} (h : DecOk c) : clientNew c = some ((clieC c.subs c.workers ⟨0, 0, false, .n1⟩, ()), ()) := by
  unfold clientNew
  rw [clone_eq (.of (dec_valid h)), bnd, if_pos rfl]
theorem wk_new {l : LayV} {j : Int} : workerNew j = some ((workC l j ⟨0, 0, 0, 0, .top⟩, ()), ()) := rfl
theorem wi_new {c : Cfg} {j : Int} : WI c 1 j (workC (layV c) j ⟨0, 0, 0, 0, .top⟩) := ⟨_, rfl, trivial⟩
theorem ci_ok {c : Cfg} : CI c (clieC c.subs c.workers ⟨0, 0, false, .n1⟩) := ⟨_, rfl, Int.le_refl 0⟩
end
section
open Go Go.RowKit
set_option maxRecDepth 100000
variable [Tb]
/-- The bytes of a reader are bytes, its place is near. -/
structure RdB (N : Int) (r : RdV) : Prop where
  by_ : ∀ x ∈ r.inn, 0 ≤ x ∧ x ≤ 255
  ln : r.inn.length ≤ 1000000
  at_ : 0 ≤ r.at_ ∧ r.at_ ≤ N
theorem nxt_good {N : Int} {r : RdV} {k : Int} (h : RdB N r) (hN : N ≤ 1000000) (h1 : 1 ≤ k) (h2 : k ≤ 1000) : Good (configReaderNext r k) fun o => (0 ≤ o.1.1 ∧ o.1.1 < k) ∧ RdB (N + 1) o.2.1 := by
  have ha := h.at_
  have e1 : wi (r.at_ + 1) = r.at_ + 1 := wi_id (rg_lit (by omega))
  unfold configReaderNext
  rw [e1]
  refine Good.ite (fun hlt => .guard ⟨ha.1, hlt⟩ fun _ => .guard (by omega) fun _ => .some_ ⟨?_, h.by_, h.ln, by show 0 ≤ r.at_ + 1; omega, by show r.at_ + 1 ≤ N + 1; omega⟩) fun _ => .guard (by omega) fun _ => .some_ ⟨tmod_lt h1 (Int.le_refl 0), h.by_, h.ln, by show 0 ≤ r.at_ + 1; omega, by show r.at_ + 1 ≤ N + 1; omega⟩
  have hb := h.by_ _ (at_in (d := dfR 17) (xs := r.inn) (i := r.at_) ⟨ha.1, hlt⟩)
  have e2 : wi (atK17 r.inn r.at_) = atK17 r.inn r.at_ := wi_id (rg_lit (x := atK17 r.inn r.at_) ⟨by have := hb.1; exact Int.le_trans (by decide) this, by have := hb.2; exact Int.le_trans this (by decide)⟩)
  rw [e2]
  exact tmod_lt h1 hb.1
theorem RdB.up {N M : Int} {r : RdV} (h : RdB N r) (hl : N ≤ M) : RdB M r := ⟨h.by_, h.ln, h.at_.1, by have := h.at_; omega⟩
theorem at64_set {xs : List (List Ins)} {i : Int} {y : List Ins} (h : 0 ≤ i ∧ i < (xs.length : Int)) : atK64 (xs.set i.toNat y) i = y := atL_set h
theorem at64_none {xs : List (List Ins)} {i : Int} {y : List Ins} {k : Nat} (h : (i.toNat : Nat) ≠ k) : ((xs.set i.toNat y)[k]?).getD [] = (xs[k]?).getD [] := by
  rw [List.getElem?_set_ne h]
theorem decode_good2 {b : List Int} (hb : ∀ x ∈ b, 0 ≤ x ∧ x ≤ 255) (hl : b.length ≤ 1000000) : Good (configDecode b) fun o => DecOk o.1.1 := by
  unfold configDecode
  refine (nxt_good (N := 0) (k := 4) ⟨hb, hl, Int.le_refl 0, Int.le_refl 0⟩ (by decide) (by decide) (by decide)).bind fun r1 h1 => ?_
  refine (nxt_good (k := 4) h1.2 (by decide) (by decide) (by decide)).bind fun r2 h2 => ?_
  have w1 := w1p h1.1.1 (by omega)
  have w2 := w1p h2.1.1 (by omega)
  rw [w1, w2]
  refine (nxt_good h2.2 (by decide) (by split <;> omega) (by split <;> omega)).bind fun r3 h3 => ?_
  refine (nxt_good (k := 12) h3.2 (by decide) (by decide) (by decide)).bind fun r4 h4 => ?_
  refine (nxt_good (k := 4) h4.2 (by decide) (by decide) (by decide)).bind fun r5 h5 => ?_
  refine (nxt_good (k := 4) h5.2 (by decide) (by decide) (by decide)).bind fun r6 h6 => ?_
  have h3' : r3.1.1 < 3 ∧ r3.1.1 < 1 + r2.1.1 := by
    have := h3.1.2
    split at this <;> omega
  have w3 := w1p h3.1.1 (by omega)
  have w4 := w1p h4.1.1 (by omega)
  have w5 := w1p h5.1.1 (by omega)
  have w6 := w1p h6.1.1 (by omega)
  rw [w3, w4, w5, w6]
  refine (nxt_good h6.2 (by decide) (by omega) (by omega)).bind fun r7 h7 => ?_
  refine (nxt_good (k := 6) h7.2 (by decide) (by decide) (by decide)).bind fun r8 h8 => ?_
  refine (nxt_good (k := 8) h8.2 (by decide) (by decide) (by decide)).bind fun r9 h9 => ?_
  refine (nxt_good (k := 4) h9.2 (by decide) (by decide) (by decide)).bind fun r10 h10 => ?_
  have w7 := w1p h7.1.1 (by omega)
  have w9 := w1p h9.1.1 (by omega)
  have w10 := w1p h10.1.1 (by omega)
  rw [w7, w9, w10]
  have hrl : (((List.replicate (1 + r10.1.1).toNat ([] : List Ins)).length : Nat) : Int) = 1 + r10.1.1 := by rw [List.length_replicate]; omega
  refine .guard rfl fun _ => .guard (by omega) fun _ => ?_
  rw [hrl]
  refine Good.bind (P := fun z => RdB 1000 z.2.1 ∧ NumOk z.2.2.1 ∧ z.2.2.1.levels = 1 + r2.1.1 ∧ (z.2.2.1.progs.length : Int) = 1 + r10.1.1 ∧ (∀ p ∈ z.2.2.1.progs, p.length ≤ 5 ∧ ∀ i ∈ p, InsOk (1 + r10.1.1) (1 + r2.1.1) i) ∧ z.2.2.1.subs = [])
    (lp_good (fun x => 0 ≤ x.1 ∧ x.1 ≤ 1 + r10.1.1 ∧ RdB (10 + 30 * x.1) x.2.1 ∧ NumOk x.2.2.1 ∧ x.2.2.1.levels = 1 + r2.1.1 ∧ (x.2.2.1.progs.length : Int) = 1 + r10.1.1 ∧ (∀ p ∈ x.2.2.1.progs, p.length ≤ 5 ∧ ∀ i ∈ p, InsOk (1 + r10.1.1) (1 + r2.1.1) i) ∧ (∀ k : Nat, x.1 ≤ (k : Int) → (x.2.2.1.progs[k]?).getD [] = []) ∧ x.2.2.1.subs = [])
      (fun x => (1 + r10.1.1 - x.1).toNat) (fun self x ⟨q0, q1, q2, q3, q4, q5, q6, q8, q7⟩ ih => ?step) _ _ ⟨Int.le_refl 0, by show (0 : Int) ≤ 1 + r10.1.1; omega, h10.2, ?num, rfl, hrl, ?ini, ?ini2, rfl⟩ (by show (1 + r10.1.1 - 0).toNat < _; omega)) fun z hz => ?cont
  case ini =>
    intro p hp
    have : p = [] := List.eq_of_mem_replicate hp
    subst this
    exact ⟨Nat.zero_le _, fun i hi => (by cases hi)⟩
  case ini2 =>
    intro k _
    show ((List.replicate (1 + r10.1.1).toNat ([] : List Ins))[k]?).getD [] = []
    rw [List.getElem?_replicate]
    split <;> rfl
  case step =>
    have f1 : wi (x.1 + 1) = x.1 + 1 := wi_id (rg_lit (by omega))
    refine Good.ite (fun hlt => ?_) fun hlt => .some_ ⟨q2.up (by omega), q3, q4, q5, q6, q7⟩
    rw [f1]
    refine (nxt_good (k := 6) q2 (by omega) (by decide) (by decide)).bind fun r14 h14 => ?_
    refine Good.bind (P := fun z => RdB (10 + 30 * x.1 + 26) z.2.1 ∧ NumOk z.2.2.1 ∧ z.2.2.1.levels = 1 + r2.1.1 ∧ (z.2.2.1.progs.length : Int) = 1 + r10.1.1 ∧ (∀ p ∈ z.2.2.1.progs, p.length ≤ 5 ∧ ∀ i ∈ p, InsOk (1 + r10.1.1) (1 + r2.1.1) i) ∧ (∀ k : Nat, x.1 < (k : Int) → (z.2.2.1.progs[k]?).getD [] = []) ∧ z.2.2.1.subs = [])
      (lp_good (fun y => 0 ≤ y.1 ∧ y.1 ≤ r14.1.1 ∧ ((atK64 y.2.2.1.progs x.1).length : Int) = y.1 ∧ RdB (10 + 30 * x.1 + 1 + 5 * y.1) y.2.1 ∧ NumOk y.2.2.1 ∧ y.2.2.1.levels = 1 + r2.1.1 ∧ (y.2.2.1.progs.length : Int) = 1 + r10.1.1 ∧ (∀ p ∈ y.2.2.1.progs, p.length ≤ 5 ∧ ∀ i ∈ p, InsOk (1 + r10.1.1) (1 + r2.1.1) i) ∧ (∀ k : Nat, x.1 < (k : Int) → (y.2.2.1.progs[k]?).getD [] = []) ∧ y.2.2.1.subs = [])
        (fun y => (r14.1.1 - y.1).toNat) (fun self y ⟨p0, p1, p2, p3, p4, p5, p6, p7, p8, p9⟩ ih => ?istep) _ _ ⟨Int.le_refl 0, h14.1.1, ?ilen, h14.2.up (by show 10 + 30 * x.1 + 1 ≤ 10 + 30 * x.1 + 1 + 5 * 0; omega), q3, q4, q5, q6, fun k hk => q8 k (by omega), q7⟩ (by show (r14.1.1 - 0).toNat < _; omega)) fun z hz => ?icont
    case icont =>
      obtain ⟨g1, g2, g3, g4, g5, g6, g7⟩ := hz
      refine ih _ ⟨by show 0 ≤ x.1 + 1; omega, by show x.1 + 1 ≤ _; omega, g1.up (by show 10 + 30 * x.1 + 26 ≤ 10 + 30 * (x.1 + 1); omega), g2, g3, g4, g5, fun k hk => g6 k (by have : x.1 + 1 ≤ (k : Int) := hk; omega), g7⟩ ?_
      show (1 + r10.1.1 - (x.1 + 1)).toNat < (1 + r10.1.1 - x.1).toNat
      omega
    case istep =>
      have f2 : wi (y.1 + 1) = y.1 + 1 := wi_id (rg_lit (by omega))
      refine Good.ite (fun hlt2 => ?_) fun hlt2 => .some_ ⟨p3.up (by omega), p4, p5, p6, p7, p8, p9⟩
      have hin : 0 ≤ x.1 ∧ x.1 < ((y.2.2.1.progs.length : Nat) : Int) := by omega
      refine Good.guard hin fun _ => ?_
      have hpl := (p7 _ (at_in (d := (dfR 64 : TR 64)) hin)).2
      rw [f2, p6, p5]
      have nx : ∀ (u : Ins) (r : RdV), InsOk (1 + r10.1.1) (1 + r2.1.1) u → RdB (10 + 30 * x.1 + 1 + 5 * (y.1 + 1)) r → Good (if ((((atK64 y.2.2.1.progs x.1).length + ([u] : List Ins).length : Nat)) : Int) < 1000000000000 then
          if 0 ≤ x.1 ∧ x.1 < 1 + r10.1.1 then
           if x.1 = x.1 then self (y.1 + 1, r, ({ y.2.2.1 with progs := y.2.2.1.progs.set x.1.toNat ((atK64 y.2.2.1.progs x.1) ++ ([u])) } : Cfg), ()) else none else none else none) fun z => RdB (10 + 30 * x.1 + 26) z.2.1 ∧ NumOk z.2.2.1 ∧ z.2.2.1.levels = 1 + r2.1.1 ∧ (z.2.2.1.progs.length : Int) = 1 + r10.1.1 ∧ (∀ p ∈ z.2.2.1.progs, p.length ≤ 5 ∧ ∀ i ∈ p, InsOk (1 + r10.1.1) (1 + r2.1.1) i) ∧ (∀ k : Nat, x.1 < (k : Int) → (z.2.2.1.progs[k]?).getD [] = []) ∧ z.2.2.1.subs = [] := fun u r hu hr =>
        .guard (by show ((((atK64 y.2.2.1.progs x.1).length + 1 : Nat)) : Int) < _; omega) fun _ => .guard ⟨q0, by omega⟩ fun _ => .guard rfl fun _ => ih _ ⟨by show 0 ≤ y.1 + 1; omega, by show y.1 + 1 ≤ _; omega, by
          show ((atK64 (y.2.2.1.progs.set x.1.toNat ((atK64 y.2.2.1.progs x.1) ++ [u])) x.1).length : Int) = y.1 + 1
          rw [at64_set hin, List.length_append, List.length_singleton]; omega, hr, ⟨p4.w, p4.l, p4.k, p4.t, p4.q, p4.h, p4.b, p4.a, p4.p⟩, p5, by
          show ((y.2.2.1.progs.set x.1.toNat _).length : Int) = _
          rw [List.length_set]; exact p6, fun p hp => by
          rcases List.mem_or_eq_of_mem_set hp with hp | hp
          · exact p7 p hp
          · subst hp
            refine ⟨by rw [List.length_append, List.length_singleton]; omega, fun i hi => ?_⟩
            rcases List.mem_append.1 hi with hi | hi
            · exact hpl i hi
            · rw [List.mem_singleton] at hi; subst hi; exact hu, fun k hk => by
          show ((y.2.2.1.progs.set x.1.toNat _)[k]?).getD [] = []
          rw [at64_none (by omega)]; exact p8 k hk, p9⟩ (by show (r14.1.1 - (y.1 + 1)).toNat < (r14.1.1 - y.1).toNat; omega)
      refine (nxt_good (k := 3) p3 (by omega) (by decide) (by decide)).bind fun r18 h18 => ?_
      refine Good.ite (fun e0 => ?_) fun e0 => Good.ite (fun e1 => ?_) fun e1 => ?_
      · refine (nxt_good (k := 4) h18.2 (by omega) (by decide) (by decide)).bind fun r19 h19 => ?_
        rw [w1p h19.1.1 (by omega)]
        exact nx _ _ (.inl ⟨e0, by show 1 ≤ 1 + r19.1.1; omega, by show 1 + r19.1.1 ≤ 4; omega, rfl⟩) (h19.2.up (by omega))
      · refine (nxt_good (k := 1 + r10.1.1) h18.2 (by omega) (by omega) (by omega)).bind fun r20 h20 => ?_
        refine (nxt_good (k := 1 + r2.1.1) h20.2 (by omega) (by omega) (by omega)).bind fun r21 h21 => ?_
        exact nx _ _ (.inr (.inl ⟨e1, h20.1.1, h20.1.2, h21.1.1, h21.1.2⟩)) (h21.2.up (by omega))
      · refine (nxt_good (k := 4) h18.2 (by omega) (by decide) (by decide)).bind fun r22 h22 => ?_
        exact nx _ _ (.inr (.inr ⟨by show r18.1.1 = 2; omega, h22.1.1, by show r22.1.1 ≤ 3; omega, rfl⟩)) (h22.2.up (by omega))
    case ilen =>
      show ((atK64 x.2.2.1.progs x.1).length : Int) = 0
      have := q8 x.1.toNat (by omega)
      have e0 : (dfR 64 : TR 64) = ([] : List Ins) := by kernel_rfl
      have e : atK64 x.2.2.1.progs x.1 = [] := by
        show (x.2.2.1.progs[x.1.toNat]?).getD (dfR 64 : TR 64) = []
        rw [e0]; exact this
      rw [e]; rfl
  case num =>
    refine ⟨?_, ?_, ?_, ?_, ?_, ?_, ?_, ?_, ?_⟩
    · exact ⟨by show 1 ≤ 1 + r1.1.1; omega, by show 1 + r1.1.1 ≤ 4; omega⟩
    · exact ⟨by show 1 ≤ 1 + r2.1.1; omega, by show 1 + r2.1.1 ≤ 4; omega⟩
    · exact ⟨by show 1 ≤ 1 + r3.1.1; omega, by show 1 + r3.1.1 ≤ 3; omega, by show 1 + r3.1.1 ≤ 1 + r2.1.1; omega⟩
    · exact ⟨by show 1 ≤ 1 + r4.1.1; omega, by show 1 + r4.1.1 ≤ 12; omega⟩
    · exact ⟨by show 1 ≤ 1 + r5.1.1; omega, by show 1 + r5.1.1 ≤ 4; omega⟩
    · exact ⟨by show 1 ≤ 1 + r6.1.1; omega, by show 1 + r6.1.1 ≤ 4; omega⟩
    · exact ⟨by show 1 ≤ 1 + r7.1.1; omega, by show 1 + r7.1.1 ≤ 1 + r5.1.1; omega⟩
    · exact ⟨h8.1.1, by show r8.1.1 ≤ 5; omega⟩
    · exact ⟨by show 1 ≤ 1 + r9.1.1; omega, by show 1 + r9.1.1 ≤ 8; omega⟩
  case cont =>
    obtain ⟨g1, g2, g3, g4, g5, g6⟩ := hz
    refine (nxt_good (k := 6) g1 (by decide) (by decide) (by decide)).bind fun r23 h23 => ?_
    refine Good.bind (P := fun y => DecOk y.2.2.1)
      (lp_good (fun y => 0 ≤ y.1 ∧ y.1 ≤ r23.1.1 ∧ (y.2.2.1.subs.length : Int) = y.1 ∧ RdB (1001 + 5 * y.1) y.2.1 ∧ NumOk y.2.2.1 ∧ y.2.2.1.levels = 1 + r2.1.1 ∧ (y.2.2.1.progs.length : Int) = 1 + r10.1.1 ∧ (∀ p ∈ y.2.2.1.progs, p.length ≤ 5 ∧ ∀ i ∈ p, InsOk (1 + r10.1.1) (1 + r2.1.1) i) ∧ ∀ s ∈ y.2.2.1.subs, SubOk (1 + r10.1.1) (1 + r2.1.1) s)
        (fun y => (r23.1.1 - y.1).toNat) (fun self y ⟨p0, p0', p1, p2, p3, p4, p5, p6, p7⟩ ih => ?_) _ _ ⟨Int.le_refl 0, h23.1.1, by show ((z.2.2.1.subs.length : Nat) : Int) = 0; rw [g6]; rfl, h23.2.up (by show (1001 : Int) ≤ 1001 + 5 * 0; omega), g2, g3, g4, g5, fun s hs => by
          have hs2 : s ∈ z.2.2.1.subs := hs
          rw [g6] at hs2; cases hs2⟩ (by show (r23.1.1 - 0).toNat < _; omega)) fun y hy => .some_ hy
    have f2 : wi (y.1 + 1) = y.1 + 1 := wi_id (rg_lit (by omega))
    refine Good.ite (fun hlt => ?_) fun hlt => .some_ ⟨p3.w, p3.l, p3.k, p3.t, p3.q, p3.h, p3.b, p3.a, p3.p, by show 1 ≤ y.2.2.1.progs.length ∧ y.2.2.1.progs.length ≤ 4; omega, fun x hx => (p6 x hx).1, fun x hx i hi => by
      have := (p6 x hx).2 i hi
      rw [p5, p4]; exact this, by show y.2.2.1.subs.length ≤ 5; omega, fun s hs => by
      have := p7 s hs
      rw [p5, p4]; exact this⟩
    rw [f2, p4, p5]
    refine (nxt_good (k := 1 + r10.1.1) p2 (by omega) (by omega) (by omega)).bind fun r27 h27 => ?_
    refine (nxt_good (k := 1 + r2.1.1) h27.2 (by omega) (by omega) (by omega)).bind fun r28 h28 => ?_
    refine (nxt_good (k := 16) h28.2 (by omega) (by omega) (by omega)).bind fun r29 h29 => ?_
    refine .guard (by show (((y.2.2.1.subs.length + 1 : Nat)) : Int) < _; omega) fun _ => ih _ ⟨by show 0 ≤ y.1 + 1; omega, by show y.1 + 1 ≤ _; omega, ?_, h29.2.up (by show 1001 + 5 * y.1 + 1 + 1 + 1 ≤ 1001 + 5 * (y.1 + 1); omega), ⟨p3.w, p3.l, p3.k, p3.t, p3.q, p3.h, p3.b, p3.a, p3.p⟩, p4, p5, p6, ?_⟩ (by show (r23.1.1 - (y.1 + 1)).toNat < (r23.1.1 - y.1).toNat; omega)
    · show (((y.2.2.1.subs ++ [_]).length : Nat) : Int) = y.1 + 1
      rw [List.length_append, List.length_singleton]; omega
    · intro s hs
      rcases List.mem_append.1 hs with hs | hs
      · exact p7 s hs
      · rw [List.mem_singleton] at hs; subst hs
        exact ⟨h27.1, h28.1, h29.1.1, by show r29.1.1 ≤ 15; omega⟩
end
section
open Go Go.RowKit
set_option maxRecDepth 100000
variable [Tb]
def encI (x : Ins) : List Int := if x.op = 0 then [x.op, x.a - 1] else if x.op = 1 then [x.op, x.a, x.b] else [x.op, x.a]
def encP (p : List Ins) : List Int := (p.length : Int) :: p.flatMap encI
def encS (s : Sub) : List Int := [s.prog, s.level, s.deadline]
def encH (c : Cfg) : List Int := [c.workers - 1, c.levels - 1, c.classes - 1, c.tasks - 1, c.deque - 1, c.heap - 1, c.batch - 1, c.age, c.patience - 1, (c.progs.length : Int) - 1]
/-- The numbers of a configuration, in the order in which they are written. -/
def encL (c : Cfg) : List Int := encH c ++ (c.progs.flatMap encP ++ ((c.subs.length : Int) :: c.subs.flatMap encS))
theorem flat_le {α : Type} {f : α → List Int} {n : Nat} : ∀ {l : List α}, (∀ x ∈ l, (f x).length ≤ n) → (l.flatMap f).length ≤ l.length * n
  | [], _ => by simp
  | x :: l, h => by
    have h1 := h x (List.mem_cons_self ..)
    have h2 := flat_le (f := f) (n := n) (l := l) fun y hy => h y (List.mem_cons_of_mem _ hy)
    rw [List.flatMap_cons, List.length_append, List.length_cons, Nat.succ_mul]
    omega
theorem encI_len (x : Ins) : (encI x).length ≤ 3 := by
  unfold encI
  split
  · simp
  · split <;> simp
theorem encP_len {p : List Ins} (h : p.length ≤ 5) : (encP p).length ≤ 16 := by
  unfold encP
  rw [List.length_cons]
  have := flat_le (f := encI) (n := 3) (l := p) fun x _ => encI_len x
  omega
theorem encL_len {c : Cfg} (h : DecOk c) : (encL c).length ≤ 1000 := by
  have h1 := flat_le (f := encP) (n := 16) (l := c.progs) fun x hx => encP_len (h.pl x hx)
  have h2 := flat_le (f := encS) (n := 3) (l := c.subs) fun x _ => Nat.le_refl 3
  have h3 := h.pn
  have h4 := h.sn
  unfold encL
  simp only [List.length_append, List.length_cons, encH, List.length_nil]
  omega
/-! ### Reading -/
theorem nx {r : RdV} {v k : Int} {rest : List Int} (h : RdOk r (v :: rest)) (hv : 0 ≤ v ∧ v < k) (hk : k ≤ 1000000000) : Good (configReaderNext r k) fun o => o.1.1 = v ∧ RdOk o.2.1 rest := by
  obtain ⟨e, h2⟩ := next_ok h hv hk
  exact ⟨_, e, rfl, h2⟩
theorem w1m {x : Int} (h : 0 ≤ x ∧ x ≤ 1000000) : wi (1 + (x - 1)) = x := by rw [wi_id (rg_lit (by omega))]; omega
theorem drop_cons {α : Type} {l : List α} {i : Int} (d : α) (h : 0 ≤ i ∧ i < (l.length : Int)) : l.drop i.toNat = atL d l i :: l.drop (i + 1).toNat := by
  have hi : i.toNat < l.length := by omega
  rw [List.drop_eq_getElem_cons hi]
  have e1 : (i + 1).toNat = i.toNat + 1 := by omega
  have e2 := atL_get (d := d) h
  rw [List.getElem?_eq_getElem hi] at e2
  rw [e1, Option.some.inj e2]
theorem take_snoc {α : Type} {l : List α} {i : Int} (d : α) (h : 0 ≤ i ∧ i < (l.length : Int)) : l.take (i + 1).toNat = l.take i.toNat ++ [atL d l i] := by
  have e1 : (i + 1).toNat = i.toNat + 1 := by omega
  rw [e1, List.take_add_one, atL_get (d := d) h]
  rfl
/-- Programs under construction. -/
def prQ (ps : List (List Ins)) (i : Nat) (y : List Ins) : List (List Ins) := ps.take i ++ y :: List.replicate (ps.length - (i + 1)) []
section
variable {ps : List (List Ins)} {i : Int} {y z : List Ins}
theorem prQ_len (h : 0 ≤ i ∧ i < (ps.length : Int)) : (prQ ps i.toNat y).length = ps.length := by
  unfold prQ
  rw [List.length_append, List.length_take, List.length_cons, List.length_replicate]
  omega
theorem prQ_at (h : 0 ≤ i ∧ i < (ps.length : Int)) : atK64 (prQ ps i.toNat y) i = y := by
  have e : (ps.take i.toNat).length = i.toNat := by rw [List.length_take]; omega
  show ((prQ ps i.toNat y)[i.toNat]?).getD _ = y
  unfold prQ
  rw [List.getElem?_append_right (by omega), e, Nat.sub_self]
  rfl
theorem prQ_set (h : 0 ≤ i ∧ i < (ps.length : Int)) : (prQ ps i.toNat y).set i.toNat z = prQ ps i.toNat z := by
  have e : (ps.take i.toNat).length = i.toNat := by rw [List.length_take]; omega
  unfold prQ
  rw [List.set_append, if_neg (by omega), e, Nat.sub_self]
  rfl
theorem prQ_in (h : 0 ≤ i ∧ i < (ps.length : Int)) : ps.take i.toNat ++ List.replicate (ps.length - i.toNat) [] = prQ ps i.toNat [] := by
  unfold prQ
  have : ps.length - i.toNat = (ps.length - (i.toNat + 1)) + 1 := by omega
  rw [this, List.replicate_succ]
theorem prQ_out (h : 0 ≤ i ∧ i < (ps.length : Int)) : prQ ps i.toNat (atK64 ps i) = ps.take (i + 1).toNat ++ List.replicate (ps.length - (i + 1).toNat) [] := by
  unfold prQ
  have : (i + 1).toNat = i.toNat + 1 := by omega
  have hts : ps.take (i + 1).toNat = ps.take i.toNat ++ [atK64 ps i] := take_snoc (α := List Ins) (dfR 64 : TR 64) h
  rw [hts, this, List.append_assoc]
  rfl
end
theorem decode_back {c : Cfg} (h : DecOk c) {b : List Int} (hr : RdOk ⟨b, 0⟩ (encL c)) : Good (configDecode b) fun o => o.1.1 = c := by
  have hw := h.w
  have hl := h.l
  have hk := h.k
  have ht := h.t
  have hq := h.q
  have hh := h.h
  have hb := h.b
  have ha := h.a
  have hp := h.p
  have hpn := h.pn
  have hsn := h.sn
  unfold configDecode
  refine (nx (k := 4) hr (by omega) (by decide)).bind fun r1 h1 => ?_
  refine (nx (k := 4) h1.2 (by omega) (by decide)).bind fun r2 h2 => ?_
  rw [h1.1, h2.1, w1m (by omega), w1m (by omega)]
  refine (nx h2.2 (by split <;> omega) (by split <;> omega)).bind fun r3 h3 => ?_
  refine (nx (k := 12) h3.2 (by omega) (by decide)).bind fun r4 h4 => ?_
  refine (nx (k := 4) h4.2 (by omega) (by decide)).bind fun r5 h5 => ?_
  refine (nx (k := 4) h5.2 (by omega) (by decide)).bind fun r6 h6 => ?_
  rw [h3.1, h4.1, h5.1, h6.1, w1m (by omega), w1m (by omega), w1m (by omega), w1m (by omega)]
  refine (nx h6.2 (by omega) (by omega)).bind fun r7 h7 => ?_
  refine (nx (k := 6) h7.2 (by omega) (by decide)).bind fun r8 h8 => ?_
  refine (nx (k := 8) h8.2 (by omega) (by decide)).bind fun r9 h9 => ?_
  refine (nx (k := 4) h9.2 (by omega) (by decide)).bind fun r10 h10 => ?_
  rw [h7.1, h8.1, h9.1, h10.1, w1m (by omega), w1m (by omega), w1m (by omega)]
  have hrl : (((List.replicate ((c.progs.length : Int)).toNat ([] : List Ins)).length : Nat) : Int) = (c.progs.length : Int) := by rw [List.length_replicate]; omega
  refine .guard rfl fun _ => .guard (by omega) fun _ => ?_
  rw [hrl]
  refine Good.bind (P := fun z => RdOk z.2.1 ((c.subs.length : Int) :: c.subs.flatMap encS) ∧ z.2.2.1 = { c with subs := [] })
    (lp_good (fun x => 0 ≤ x.1 ∧ x.1 ≤ (c.progs.length : Int) ∧ RdOk x.2.1 ((c.progs.drop x.1.toNat).flatMap encP ++ ((c.subs.length : Int) :: c.subs.flatMap encS)) ∧ x.2.2.1 = { c with progs := c.progs.take x.1.toNat ++ List.replicate (c.progs.length - x.1.toNat) [], subs := [] })
      (fun x => ((c.progs.length : Int) - x.1).toNat) (fun self x ⟨q0, q1, q2, q3⟩ ih => ?step) _ _ ⟨Int.le_refl 0, by show (0 : Int) ≤ _; omega, h10.2, ?ini⟩ (by show (_ - 0 : Int).toNat < _; omega)) fun z hz => ?cont
  case ini =>
    show (⟨_, _, _, _, _, _, _, _, _, _, _⟩ : Cfg) = ⟨_, _, _, _, _, _, _, _, _, _, _⟩
    simp
  case step =>
    obtain ⟨i, r, cf, ⟨⟩⟩ := x
    simp only at q0 q1 q2 q3
    subst q3
    have f1 : wi (i + 1) = i + 1 := wi_id (rg_lit (by omega))
    refine Good.ite (fun hlt => ?_) fun hlt => .some_ ⟨?_, ?_⟩
    · have hlt : i < (c.progs.length : Int) := hlt
      have hin : 0 ≤ i ∧ i < (c.progs.length : Int) := ⟨q0, hlt⟩
      have hmem : atK64 c.progs i ∈ c.progs := at_in (α := List Ins) (d := (dfR 64 : TR 64)) hin
      have hpl := h.pl _ hmem
      have hps := h.ps _ hmem
      have hdc : c.progs.drop i.toNat = atK64 c.progs i :: c.progs.drop (i + 1).toNat := drop_cons (α := List Ins) (dfR 64 : TR 64) hin
      rw [hdc, List.flatMap_cons, List.append_assoc] at q2
      rw [prQ_in hin]
      simp only
      rw [f1]
      generalize hP : atK64 c.progs i = p at q2 hpl hps
      have hlen : ((p.length : Nat) : Int) ≤ 5 := by have : p.length ≤ 5 := hpl; omega
      have hE : encP p = (p.length : Int) :: p.flatMap encI := rfl
      rw [hE, List.cons_append] at q2
      refine (nx (k := 6) q2 (by omega) (by decide)).bind fun r14 h14 => ?_
      rw [h14.1]
      generalize hT : (c.progs.drop (i + 1).toNat).flatMap encP ++ ((c.subs.length : Int) :: c.subs.flatMap encS) = T at h14
      refine Good.bind (P := fun z => RdOk z.2.1 T ∧ z.2.2.1 = { c with progs := prQ c.progs i.toNat p, subs := [] })
        (lp_good (fun y => 0 ≤ y.1 ∧ y.1 ≤ (p.length : Int) ∧ RdOk y.2.1 ((p.drop y.1.toNat).flatMap encI ++ T) ∧ y.2.2.1 = { c with progs := prQ c.progs i.toNat (p.take y.1.toNat), subs := [] })
          (fun y => ((p.length : Int) - y.1).toNat) (fun self y ⟨p0, p1, p2, p3⟩ ih => ?istep) _ _ ⟨Int.le_refl 0, by show (0 : Int) ≤ _; omega, ?i1, ?i2⟩ (by show (_ - 0 : Int).toNat < _; omega)) fun z hz => ?icont
      case istep =>
        obtain ⟨j, rr, cf, ⟨⟩⟩ := y
        simp only at p0 p1 p2 p3
        subst p3
        have f2 : wi (j + 1) = j + 1 := wi_id (rg_lit (by omega))
        refine Good.ite (fun hlt2 => ?_) fun hlt2 => .some_ ⟨?_, ?_⟩
        · have hlt2 : j < (p.length : Int) := hlt2
          have hjn : 0 ≤ j ∧ j < (p.length : Int) := ⟨p0, hlt2⟩
          have hi := hps _ (at_in (d := (⟨0, 0, 0⟩ : Ins)) hjn)
          rw [drop_cons (⟨0, 0, 0⟩ : Ins) hjn, List.flatMap_cons, List.append_assoc] at p2
          have hts : p.take (j + 1).toNat = p.take j.toNat ++ [atL (⟨0, 0, 0⟩ : Ins) p j] := take_snoc _ hjn
          generalize hX : atL (⟨0, 0, 0⟩ : Ins) p j = x at p2 hi hts
          simp only [f2, prQ_len hin, prQ_at hin, prQ_set hin, if_true]
          refine Good.guard hin fun _ => ?_
          have htl : (p.take j.toNat).length ≤ 5 := by rw [List.length_take]; omega
          have go : ∀ (u : Ins) (r : RdV), u = x → RdOk r ((p.drop (j + 1).toNat).flatMap encI ++ T) → Good (if ((((p.take j.toNat).length + ([u] : List Ins).length : Nat)) : Int) < 1000000000000 then
              if 0 ≤ i ∧ i < ((c.progs.length : Nat) : Int) then
               self (j + 1, r, ({ c with progs := prQ c.progs i.toNat (p.take j.toNat ++ ([u])), subs := [] } : Cfg), ()) else none else none) fun z => RdOk z.2.1 T ∧ z.2.2.1 = { c with progs := prQ c.progs i.toNat p, subs := [] } := fun u r hu hr => by
            subst hu
            refine .guard (by show ((((p.take j.toNat).length + 1 : Nat)) : Int) < _; omega) fun _ => .guard hin fun _ => ih _ ⟨by show 0 ≤ j + 1; omega, by show j + 1 ≤ _; omega, hr, ?_⟩ (by show (_ - (j + 1) : Int).toNat < (_ - j : Int).toNat; omega)
            show (⟨_, _, _, _, _, _, _, _, _, _, _⟩ : Cfg) = ⟨_, _, _, _, _, _, _, _, _, _, _⟩
            rw [hts]
          unfold encI at p2
          rcases hi with ⟨a1, a2, a3, a4⟩ | ⟨a1, a2, a3, a4, a5⟩ | ⟨a1, a2, a3, a4⟩
          · rw [if_pos a1] at p2
            refine (nx (k := 3) p2 (by omega) (by decide)).bind fun r18 h18 => ?_
            rw [if_pos (by rw [h18.1]; exact a1)]
            refine (nx (k := 4) h18.2 (by omega) (by decide)).bind fun r19 h19 => ?_
            refine go _ _ ?_ h19.2
            rw [h18.1, h19.1, w1m (by omega)]
            cases x; simp only at a4; rw [a4]
          · rw [if_neg (by omega), if_pos a1] at p2
            refine (nx (k := 3) p2 (by omega) (by decide)).bind fun r18 h18 => ?_
            rw [if_neg (by rw [h18.1]; omega), if_pos (by rw [h18.1]; exact a1)]
            refine (nx (k := ((c.progs.length : Nat) : Int)) h18.2 (by omega) (by omega)).bind fun r20 h20 => ?_
            refine (nx (k := c.levels) h20.2 (by omega) (by omega)).bind fun r21 h21 => ?_
            refine go _ _ ?_ h21.2
            rw [h18.1, h20.1, h21.1]
          · rw [if_neg (by omega), if_neg (by omega)] at p2
            refine (nx (k := 3) p2 (by omega) (by decide)).bind fun r18 h18 => ?_
            rw [if_neg (by rw [h18.1]; omega), if_neg (by rw [h18.1]; omega)]
            refine (nx (k := 4) h18.2 (by omega) (by decide)).bind fun r22 h22 => ?_
            refine go _ _ ?_ h22.2
            rw [h18.1, h22.1]
            cases x; simp only at a4; rw [a4]
        · have hlt2 : ¬ j < (p.length : Int) := hlt2
          rw [List.drop_eq_nil_of_le (by omega)] at p2
          exact p2
        · have hlt2 : ¬ j < (p.length : Int) := hlt2
          rw [List.take_of_length_le (by omega)]
      case i1 => exact h14.2
      case i2 => rfl
      case icont =>
        obtain ⟨zi, zr, zc, ⟨⟩⟩ := z
        obtain ⟨z1, z2⟩ := hz
        simp only at z1 z2
        subst z2
        refine ih _ ⟨by show 0 ≤ i + 1; omega, by show i + 1 ≤ _; omega, by subst hT; exact z1, ?_⟩ (by show (_ - (i + 1) : Int).toNat < (_ - i : Int).toNat; omega)
        show (⟨_, _, _, _, _, _, _, _, _, _, _⟩ : Cfg) = ⟨_, _, _, _, _, _, _, _, _, _, _⟩
        rw [← prQ_out hin]
        rw [hP]
    · have hlt : ¬ i < (c.progs.length : Int) := hlt
      rw [List.drop_eq_nil_of_le (by omega)] at q2
      exact q2
    · have hlt : ¬ i < (c.progs.length : Int) := hlt
      show (⟨_, _, _, _, _, _, _, _, _, _, _⟩ : Cfg) = ⟨_, _, _, _, _, _, _, _, _, _, _⟩
      rw [List.take_of_length_le (by omega), show c.progs.length - i.toNat = 0 by omega]
      simp
  case cont =>
    obtain ⟨zi, zr, zc, ⟨⟩⟩ := z
    obtain ⟨z1, z2⟩ := hz
    simp only at z1 z2
    subst z2
    refine (nx (k := 6) z1 (by omega) (by decide)).bind fun r23 h23 => ?_
    rw [h23.1]
    refine Good.bind (P := fun y => y.2.2.1 = c)
      (lp_good (fun y => 0 ≤ y.1 ∧ y.1 ≤ (c.subs.length : Int) ∧ RdOk y.2.1 ((c.subs.drop y.1.toNat).flatMap encS) ∧ y.2.2.1 = { c with subs := c.subs.take y.1.toNat })
        (fun y => ((c.subs.length : Int) - y.1).toNat) (fun self y ⟨p0, p1, p2, p3⟩ ih => ?_) _ _ ⟨Int.le_refl 0, by show (0 : Int) ≤ _; omega, h23.2, rfl⟩ (by show (_ - 0 : Int).toNat < _; omega)) fun y hy => .some_ hy
    obtain ⟨j, rr, cf, ⟨⟩⟩ := y
    simp only at p0 p1 p2 p3
    subst p3
    have f2 : wi (j + 1) = j + 1 := wi_id (rg_lit (by omega))
    refine Good.ite (fun hlt2 => ?_) fun hlt2 => .some_ ?_
    · have hlt2 : j < (c.subs.length : Int) := hlt2
      have hjn : 0 ≤ j ∧ j < (c.subs.length : Int) := ⟨p0, hlt2⟩
      have hs := h.ss _ (at_in (d := (⟨0, 0, 0⟩ : Sub)) hjn)
      rw [drop_cons (⟨0, 0, 0⟩ : Sub) hjn, List.flatMap_cons] at p2
      have hts : c.subs.take (j + 1).toNat = c.subs.take j.toNat ++ [atL (⟨0, 0, 0⟩ : Sub) c.subs j] := take_snoc _ hjn
      generalize hX : atL (⟨0, 0, 0⟩ : Sub) c.subs j = x at p2 hs hts
      have htl : (c.subs.take j.toNat).length ≤ 5 := by rw [List.length_take]; omega
      simp only
      rw [f2]
      unfold encS at p2
      refine (nx (k := ((c.progs.length : Nat) : Int)) p2 (by omega) (by omega)).bind fun r27 h27 => ?_
      refine (nx (k := c.levels) h27.2 (by omega) (by omega)).bind fun r28 h28 => ?_
      refine (nx (k := 16) h28.2 (by omega) (by omega)).bind fun r29 h29 => ?_
      refine .guard (by show ((((c.subs.take j.toNat).length + 1 : Nat)) : Int) < _; omega) fun _ => ih _ ⟨by show 0 ≤ j + 1; omega, by show j + 1 ≤ _; omega, h29.2, ?_⟩ (by show (_ - (j + 1) : Int).toNat < (_ - j : Int).toNat; omega)
      show (⟨_, _, _, _, _, _, _, _, _, _, _⟩ : Cfg) = ⟨_, _, _, _, _, _, _, _, _, _, _⟩
      rw [hts, h27.1, h28.1, h29.1]
    · have hlt2 : ¬ j < (c.subs.length : Int) := hlt2
      show (⟨_, _, _, _, _, _, _, _, _, _, _⟩ : Cfg) = c
      rw [List.take_of_length_le (by omega)]
/-! ### Writing -/
def WB (N : Nat) (l : List Int) (w : WrV) : Prop := w = ⟨l, false⟩ ∧ l.length ≤ N
theorem WB.up {N M : Nat} {l : List Int} {w : WrV} (h : WB N l w) (hl : N ≤ M) : WB M l w := ⟨h.1, by have := h.2; omega⟩
theorem pg {N : Nat} {l : List Int} {w : WrV} {v k : Int} (h : WB N l w) (hv : 0 ≤ v ∧ v < k) (hb : v ≤ 255) (hk : k ≤ 1000000000) (hN : N ≤ 1000000) : Good (configWriterPut w v k) fun o => WB (N + 1) (l ++ [v]) o.2.1 := by
  obtain ⟨rfl, h2⟩ := h
  refine ⟨_, put_ok hv hb hk (by show l.length ≤ _; omega), rfl, ?_⟩
  rw [List.length_append, List.length_singleton]; omega
theorem wm1 {x : Int} (h : 0 ≤ x ∧ x ≤ 1000000) : wi (x - 1) = x - 1 := wi_id (rg_lit (by omega))
theorem instr_put {N : Nat} {l : List Int} {w : WrV} {c : Cfg} {x : Ins} (h : WB N l w) (hc : DecOk c) (hi : (x.op = 0 ∧ 1 ≤ x.a ∧ x.a ≤ 4 ∧ x.b = 0) ∨ (x.op = 1 ∧ 0 ≤ x.a ∧ x.a < (c.progs.length : Int) ∧ 0 ≤ x.b ∧ x.b < c.levels) ∨ (x.op = 2 ∧ 0 ≤ x.a ∧ x.a ≤ 3 ∧ x.b = 0)) (hN : N ≤ 1000) : Good (configWriterInstr w c x) fun o => WB (N + 3) (l ++ encI x) o.2.1 := by
  have hpn := hc.pn
  have hl := hc.l
  unfold configWriterInstr encI
  rcases hi with ⟨a1, a2, a3, a4⟩ | ⟨a1, a2, a3, a4, a5⟩ | ⟨a1, a2, a3, a4⟩
  · rw [if_pos a1, wm1 (by omega)]
    refine (pg (k := 3) h (by omega) (by omega) (by decide) (by omega)).bind fun r1 h1 => ?_
    rw [if_pos a1]
    refine (pg (k := 4) h1 (by omega) (by omega) (by decide) (by omega)).bind fun r2 h2 => .some_ ?_
    rw [List.append_assoc] at h2
    exact h2.up (by omega)
  · rw [if_neg (by omega), if_pos a1]
    refine (pg (k := 3) h (by omega) (by omega) (by decide) (by omega)).bind fun r1 h1 => ?_
    rw [if_neg (by omega), if_pos a1]
    refine (pg h1 (by omega) (by omega) (by omega) (by omega)).bind fun r2 h2 => ?_
    refine (pg h2 (by omega) (by omega) (by omega) (by omega)).bind fun r3 h3 => .some_ ?_
    rw [List.append_assoc, List.append_assoc] at h3
    exact h3
  · rw [if_neg (by omega), if_neg (by omega)]
    refine (pg (k := 3) h (by omega) (by omega) (by decide) (by omega)).bind fun r1 h1 => ?_
    rw [if_neg (by omega), if_neg (by omega)]
    refine (pg (k := 4) h1 (by omega) (by omega) (by decide) (by omega)).bind fun r2 h2 => .some_ ?_
    rw [List.append_assoc] at h2
    exact h2.up (by omega)
theorem strip_good {w : WrV} {l : List Int} (hw : w = ⟨l, false⟩) (hl : l.length ≤ 1000) (F : (WrV × Unit → Option (WrV × Unit)) → WrV × Unit → Option (WrV × Unit))
    (hF : ∀ self x, F self x = if 0 < ((x.1.bytes.length : Nat) : Int) then
       if 0 ≤ wi (((x.1.bytes.length : Nat) : Int) - 1) ∧ wi (((x.1.bytes.length : Nat) : Int) - 1) < ((x.1.bytes.length : Nat) : Int) then
        if (atK17 x.1.bytes (wi (((x.1.bytes.length : Nat) : Int) - 1))) = 0 then
         if 0 ≤ wi (((x.1.bytes.length : Nat) : Int) - 1) ∧ wi (((x.1.bytes.length : Nat) : Int) - 1) ≤ ((x.1.bytes.length : Nat) : Int) then
          self ((⟨x.1.bytes.take (wi (((x.1.bytes.length : Nat) : Int) - 1) : Int).toNat, x.1.bad⟩ : WrV), ())
         else none
        else some (x.1, ())
       else none
      else some (x.1, ())) :
    Good (lpF F 18446744073709551616 (w, ())) fun z => ∀ i, byteAt z.1.bytes i = byteAt l i := by
  subst hw
  refine lp_good (fun x => ∃ m, m ≤ l.length ∧ x.1.bytes = l.take m ∧ ∀ i, m ≤ i → l.getD i 0 = 0) (fun x => x.1.bytes.length) (fun self x hx ih => ?_) _ _ ⟨l.length, Nat.le_refl _, by simp, fun i hi => ?_⟩ (by show l.length < _; omega)
  rotate_left
  · rw [List.getD_eq_getElem?_getD, List.getElem?_eq_none hi]; rfl
  obtain ⟨⟨bs, bad⟩, ⟨⟩⟩ := x
  obtain ⟨m, hm, e, hz⟩ := hx
  simp only at e
  subst e
  have hd : ∀ i, byteAt (l.take m) i = byteAt l i := rd_strip hz
  have hlen : (l.take m).length = m := by rw [List.length_take]; omega
  rw [hF]
  simp only [hlen]
  refine Good.ite (fun h0 => ?_) fun _ => .some_ hd
  have e1 : wi ((m : Int) - 1) = (m : Int) - 1 := wi_id (rg_lit (by omega))
  rw [e1]
  refine Good.guard (by omega) fun _ => Good.ite (fun hb => ?_) fun _ => .some_ hd
  refine Good.guard (by omega) fun _ => ?_
  have e2 : ((m : Int) - 1).toNat = m - 1 := by omega
  have hb' : l.getD (m - 1) 0 = 0 := by
    have h3 : byteAt (l.take m) (m - 1) = 0 := by
      have e0 : (dfR 17 : TR 17) = (0 : Int) := by kernel_rfl
      have h4 : (l.take m)[((m : Int) - 1).toNat]?.getD (dfR 17 : TR 17) = (0 : Int) := hb
      rw [e2, e0] at h4
      unfold byteAt
      rw [List.getD_eq_getElem?_getD]
      exact h4
    rw [hd] at h3
    exact h3
  refine ih _ ⟨m - 1, by omega, ?_, fun i hi => ?_⟩ ?_
  · show (l.take m).take ((m : Int) - 1).toNat = _
    rw [e2, List.take_take, Nat.min_eq_left (by omega)]
  · by_cases hi2 : i = m - 1
    · rw [hi2]; exact hb'
    · exact hz i (by omega)
  · show ((l.take m).take ((m : Int) - 1).toNat).length < (l.take m).length
    rw [List.length_take, hlen]; omega
theorem encode_ok {c : Cfg} (h : DecOk c) : Good (configEncode c) fun o => o.1.2.1 = 0 ∧ RdOk ⟨o.1.1, 0⟩ (encL c) := by
  have hw := h.w
  have hl := h.l
  have hk := h.k
  have ht := h.t
  have hq := h.q
  have hh := h.h
  have hb := h.b
  have ha := h.a
  have hp := h.p
  have hpn := h.pn
  have hsn := h.sn
  have hlen := encL_len h
  unfold configEncode
  have e0 : cfgCheck c = some ((cfgErr c, ()), ()) := rfl
  rw [e0, bnd, if_neg (fun hne => hne (dec_valid h))]
  rw [wm1 (by omega), wm1 (by omega), wm1 (by omega), wm1 (by omega), wm1 (by omega), wm1 (by omega), wm1 (by omega), wm1 (by omega), wm1 (by omega)]
  refine (pg (N := 0) (l := []) (k := 4) ⟨rfl, Nat.zero_le _⟩ (by omega) (by omega) (by decide) (by omega)).bind fun r2 h2 => ?_
  refine (pg (k := 4) h2 (by omega) (by omega) (by decide) (by omega)).bind fun r3 h3 => ?_
  refine (pg h3 (by split <;> omega) (by omega) (by split <;> omega) (by omega)).bind fun r4 h4 => ?_
  refine (pg (k := 12) h4 (by omega) (by omega) (by decide) (by omega)).bind fun r5 h5 => ?_
  refine (pg (k := 4) h5 (by omega) (by omega) (by decide) (by omega)).bind fun r6 h6 => ?_
  refine (pg (k := 4) h6 (by omega) (by omega) (by decide) (by omega)).bind fun r7 h7 => ?_
  refine (pg h7 (by omega) (by omega) (by omega) (by omega)).bind fun r8 h8 => ?_
  refine (pg (k := 6) h8 (by omega) (by omega) (by decide) (by omega)).bind fun r9 h9 => ?_
  refine (pg (k := 8) h9 (by omega) (by omega) (by decide) (by omega)).bind fun r10 h10 => ?_
  refine (pg (k := 4) h10 (by omega) (by omega) (by decide) (by omega)).bind fun r11 h11 => ?_
  have h11' : WB 10 (encH c) r11.2.1 := h11
  refine Good.bind (P := fun z => WB 74 (encH c ++ c.progs.flatMap encP) z.2.1)
    (lp_good (fun x => 0 ≤ x.1 ∧ x.1 ≤ (c.progs.length : Int) ∧ WB (10 + 16 * x.1.toNat) (encH c ++ (c.progs.take x.1.toNat).flatMap encP) x.2.1)
      (fun x => ((c.progs.length : Int) - x.1).toNat) (fun self x ⟨q0, q1, q2⟩ ih => ?step) _ _ ⟨Int.le_refl 0, by show (0 : Int) ≤ _; omega, by
        show WB 10 (encH c ++ List.flatMap encP (List.take 0 c.progs)) _
        rw [List.take_zero, List.flatMap_nil, List.append_nil]; exact h11'⟩ (by show (_ - 0 : Int).toNat < _; omega)) fun z hz => ?cont
  case step =>
    obtain ⟨i, w, ⟨⟩⟩ := x
    simp only at q0 q1 q2
    have f1 : wi (i + 1) = i + 1 := wi_id (rg_lit (by omega))
    refine Good.ite (fun hlt => ?_) fun hlt => .some_ ?_
    · have hlt : i < (c.progs.length : Int) := hlt
      have hin : 0 ≤ i ∧ i < (c.progs.length : Int) := ⟨q0, hlt⟩
      have hpl := h.pl _ (at_in (d := ([] : List Ins)) hin)
      have hps := h.ps _ (at_in (d := ([] : List Ins)) hin)
      have hts : c.progs.take (i + 1).toNat = c.progs.take i.toNat ++ [atL ([] : List Ins) c.progs i] := take_snoc _ hin
      refine Good.guard hin fun _ => ?_
      simp only
      rw [f1]
      generalize atL ([] : List Ins) c.progs i = p at hpl hps hts
      refine (pg (k := 6) q2 (by omega) (by omega) (by decide) (by omega)).bind fun r15 h15 => ?_
      refine Good.bind (P := fun z => WB (10 + 16 * i.toNat + 16) (encH c ++ (c.progs.take i.toNat).flatMap encP ++ [(p.length : Int)] ++ p.flatMap encI) z.2.1)
        (lp_good (fun y => 0 ≤ y.1 ∧ y.1 ≤ (p.length : Int) ∧ WB (10 + 16 * i.toNat + 1 + 3 * y.1.toNat) (encH c ++ (c.progs.take i.toNat).flatMap encP ++ [(p.length : Int)] ++ (p.take y.1.toNat).flatMap encI) y.2.1)
          (fun y => ((p.length : Int) - y.1).toNat) (fun self y ⟨p0, p1, p2⟩ ih => ?istep) _ _ ⟨Int.le_refl 0, by show (0 : Int) ≤ _; omega, by
            show WB _ (encH c ++ (c.progs.take i.toNat).flatMap encP ++ [(p.length : Int)] ++ List.flatMap encI (List.take 0 p)) _
            rw [List.take_zero, List.flatMap_nil, List.append_nil]; exact h15⟩ (by show (_ - 0 : Int).toNat < _; omega)) fun z hz => ?icont
      case istep =>
        obtain ⟨j, w2, ⟨⟩⟩ := y
        simp only at p0 p1 p2
        have f2 : wi (j + 1) = j + 1 := wi_id (rg_lit (by omega))
        refine Good.ite (fun hlt2 => ?_) fun hlt2 => .some_ ?_
        · have hlt2 : j < (p.length : Int) := hlt2
          have hjn : 0 ≤ j ∧ j < (p.length : Int) := ⟨p0, hlt2⟩
          have hi := hps _ (at_in (d := (dfR 3 : TR 3)) hjn)
          refine Good.guard hjn fun _ => ?_
          simp only
          rw [f2]
          refine (instr_put p2 h hi (by omega)).bind fun r19 h19 => ih _ ⟨by show 0 ≤ j + 1; omega, by show j + 1 ≤ _; omega, ?_⟩ (by show (_ - (j + 1) : Int).toNat < (_ - j : Int).toNat; omega)
          show WB (10 + 16 * i.toNat + 1 + 3 * (j + 1).toNat) (encH c ++ (c.progs.take i.toNat).flatMap encP ++ [(p.length : Int)] ++ (p.take (j + 1).toNat).flatMap encI) _
          have hts3 : p.take (j + 1).toNat = p.take j.toNat ++ [atK3 p j] := take_snoc (α := Ins) (dfR 3 : TR 3) hjn
          rw [hts3, List.flatMap_append, List.flatMap_cons, List.flatMap_nil, List.append_nil, ← List.append_assoc]
          exact h19.up (by omega)
        · have hlt2 : ¬ j < (p.length : Int) := hlt2
          rw [List.take_of_length_le (show p.length ≤ j.toNat by omega)] at p2
          exact p2.up (by omega)
      case icont =>
        refine ih _ ⟨by show 0 ≤ i + 1; omega, by show i + 1 ≤ _; omega, ?_⟩ (by show (_ - (i + 1) : Int).toNat < (_ - i : Int).toNat; omega)
        show WB (10 + 16 * (i + 1).toNat) (encH c ++ (c.progs.take (i + 1).toNat).flatMap encP) _
        have e : (encH c ++ (c.progs.take (i + 1).toNat).flatMap encP) = encH c ++ (c.progs.take i.toNat).flatMap encP ++ [(p.length : Int)] ++ p.flatMap encI := by
          rw [hts, List.flatMap_append, List.flatMap_cons, List.flatMap_nil, List.append_nil]
          unfold encP
          simp only [List.append_assoc, List.singleton_append]
        rw [e]
        exact hz.up (by omega)
    · have hlt : ¬ i < (c.progs.length : Int) := hlt
      rw [List.take_of_length_le (by omega)] at q2
      exact q2.up (by omega)
  case cont =>
    refine (pg (k := 6) hz (by omega) (by omega) (by decide) (by omega)).bind fun r20 h20 => ?_
    refine Good.bind (P := fun z => WB 1000 (encL c) z.2.1)
      (lp_good (fun y => 0 ≤ y.1 ∧ y.1 ≤ (c.subs.length : Int) ∧ WB (75 + 3 * y.1.toNat) (encH c ++ c.progs.flatMap encP ++ [(c.subs.length : Int)] ++ (c.subs.take y.1.toNat).flatMap encS) y.2.1)
        (fun y => ((c.subs.length : Int) - y.1).toNat) (fun self y ⟨p0, p1, p2⟩ ih => ?istep) _ _ ⟨Int.le_refl 0, by show (0 : Int) ≤ _; omega, by
          show WB 75 (encH c ++ c.progs.flatMap encP ++ [(c.subs.length : Int)] ++ List.flatMap encS (List.take 0 c.subs)) _
          rw [List.take_zero, List.flatMap_nil, List.append_nil]; exact h20⟩ (by show (_ - 0 : Int).toNat < _; omega)) fun z hz => ?icont
    case istep =>
      obtain ⟨j, w2, ⟨⟩⟩ := y
      simp only at p0 p1 p2
      have f2 : wi (j + 1) = j + 1 := wi_id (rg_lit (by omega))
      refine Good.ite (fun hlt2 => ?_) fun hlt2 => .some_ ?_
      · have hlt2 : j < (c.subs.length : Int) := hlt2
        have hjn : 0 ≤ j ∧ j < (c.subs.length : Int) := ⟨p0, hlt2⟩
        have hs := h.ss _ (at_in (d := (dfR 4 : TR 4)) hjn)
        refine Good.guard hjn fun _ => ?_
        simp only
        rw [f2]
        refine (pg p2 hs.1 (by omega) (by omega) (by omega)).bind fun r24 h24 => ?_
        refine (pg h24 hs.2.1 (by omega) (by omega) (by omega)).bind fun r25 h25 => ?_
        refine (pg (k := 16) h25 ⟨hs.2.2.1, by have := hs.2.2.2; omega⟩ (by have := hs.2.2.2; omega) (by omega) (by omega)).bind fun r26 h26 => ih _ ⟨by show 0 ≤ j + 1; omega, by show j + 1 ≤ _; omega, ?_⟩ (by show (_ - (j + 1) : Int).toNat < (_ - j : Int).toNat; omega)
        show WB (75 + 3 * (j + 1).toNat) (encH c ++ c.progs.flatMap encP ++ [(c.subs.length : Int)] ++ (c.subs.take (j + 1).toNat).flatMap encS) _
        have hts4 : c.subs.take (j + 1).toNat = c.subs.take j.toNat ++ [atK4 c.subs j] := take_snoc (α := Sub) (dfR 4 : TR 4) hjn
        rw [hts4, List.flatMap_append, List.flatMap_cons, List.flatMap_nil, List.append_nil, ← List.append_assoc]
        rw [List.append_assoc, List.append_assoc] at h26
        exact h26.up (by omega)
      · have hlt2 : ¬ j < (c.subs.length : Int) := hlt2
        rw [List.take_of_length_le (by omega)] at p2
        have e : encL c = encH c ++ c.progs.flatMap encP ++ [(c.subs.length : Int)] ++ c.subs.flatMap encS := by
          unfold encL
          simp only [List.append_assoc, List.singleton_append]
        rw [e]
        exact p2.up (by omega)
    case icont =>
      rw [if_neg (by rw [hz.1]; simp)]
      refine Good.bind (strip_good hz.1 hlen _ fun _ _ => rfl) fun y hy => .some_ ⟨rfl, ⟨by show (0 : Int) ≤ 0 ∧ 0 + ((encL c).length : Int) ≤ _; omega, fun i => ?_⟩⟩
      show byteAt y.1.bytes (0 + i) = _
      rw [hy, Nat.zero_add]
      rfl
end
section
open Go Go.RowKit
set_option maxRecDepth 100000
variable [Tb]
def ent (k v : Int) : EntV := ⟨Int.tmod k 4, if Int.tmod k 4 = 1 ∨ Int.tmod k 4 = 3 then 0 else v⟩
/-- The entries of bytes. -/
def sd : List Int → List EntV
  | a :: b :: r => ent a b :: sd r
  | _ => []
theorem sd_len : ∀ l : List Int, (sd l).length ≤ l.length
  | [] => Nat.zero_le _
  | [_] => Nat.zero_le _
  | _ :: _ :: r => by
    have := sd_len r
    show (sd r).length + 1 ≤ r.length + 1 + 1
    omega
structure EntOk (e : EntV) : Prop where
  k : 0 ≤ e.kind ∧ e.kind ≤ 3
  v : 0 ≤ e.value ∧ e.value ≤ 255
  z : e.kind = 1 ∨ e.kind = 3 → e.value = 0
theorem ent_ok {a b : Int} (ha : 0 ≤ a) (hb : 0 ≤ b ∧ b ≤ 255) : EntOk (ent a b) := by
  have h := tmod_lt (a := a) (b := 4) (by decide) ha
  refine ⟨⟨h.1, by show Int.tmod a 4 ≤ 3; omega⟩, ?_, fun hz => if_pos hz⟩
  show 0 ≤ (if _ then (0 : Int) else b) ∧ (if _ then (0 : Int) else b) ≤ 255
  split <;> omega
theorem sd_ok : ∀ {l : List Int}, (∀ x ∈ l, 0 ≤ x ∧ x ≤ 255) → ∀ e ∈ sd l, EntOk e
  | [], _, e, h => by cases h
  | [_], _, e, h => by cases h
  | a :: b :: r, hl, e, h => by
    rcases List.mem_cons.1 h with rfl | h
    · exact ent_ok (hl a (by simp)).1 (hl b (by simp))
    · exact sd_ok (fun x hx => hl x (by simp [hx])) e h
def enc2 (e : EntV) : List Int := [e.kind, e.value]
theorem sd_enc : ∀ {l : List EntV}, (∀ e ∈ l, EntOk e) → sd (l.flatMap enc2) = l
  | [], _ => rfl
  | e :: l, h => by
    have h1 := h e (List.mem_cons_self ..)
    have h2 := sd_enc (l := l) fun x hx => h x (List.mem_cons_of_mem _ hx)
    rw [List.flatMap_cons]
    show ent e.kind e.value :: sd (l.flatMap enc2) = _
    rw [h2]
    congr 1
    have ht : Int.tmod e.kind 4 = e.kind := Int.tmod_eq_of_lt h1.k.1 (by have := h1.k.2; omega)
    unfold ent
    rw [ht]
    cases e with
    | mk k v =>
      have hz := h1.z
      simp only at hz ⊢
      congr 1
      split
      · rename_i h5; exact (hz h5).symm
      · rfl
theorem plain_good (v : Int) : Good (scriptPlain v) fun o => o.1.1 = decide (v = 1 ∨ v = 3) := by
  unfold scriptPlain
  refine Good.ite (fun h => .some_ ?_) fun h => .some_ ?_
  · show true = _; rw [decide_eq_true (.inl h)]
  · show decide (v = 3) = _
    by_cases h3 : v = 3
    · rw [decide_eq_true h3, decide_eq_true (.inr h3)]
    · rw [decide_eq_false h3, decide_eq_false (by omega)]
theorem sd_step {y : List Int} {i : Int} (h : 0 ≤ i ∧ i + 1 < (y.length : Int)) : sd (y.drop i.toNat) = ent (atK17 y i) (atK17 y (i + 1)) :: sd (y.drop (i + 2).toNat) := by
  have e1 : y.drop i.toNat = atK17 y i :: y.drop (i + 1).toNat := drop_cons (α := Int) (dfR 17 : TR 17) ⟨h.1, by omega⟩
  have e2 : y.drop (i + 1).toNat = atK17 y (i + 1) :: y.drop (i + 1 + 1).toNat := drop_cons (α := Int) (dfR 17 : TR 17) ⟨by omega, h.2⟩
  rw [e1, e2]
  have : i + 1 + 1 = i + 2 := by omega
  rw [this]
  rfl
theorem sd_end {y : List Int} {i : Int} (h : ¬ i + 1 < (y.length : Int)) (h0 : 0 ≤ i) : sd (y.drop i.toNat) = [] := by
  have hl : (y.drop i.toNat).length ≤ 1 := by rw [List.length_drop]; omega
  match y.drop i.toNat, hl with
  | [], _ => rfl
  | [_], _ => rfl
theorem tm4 {a : Int} (h : 0 ≤ a ∧ a ≤ 255) : wi (Int.tmod a 4) = Int.tmod a 4 := by
  have := tmod_lt (a := a) (b := 4) (by decide) h.1
  exact wi_id (rg_lit (by omega))
theorem byte_wi {a : Int} (h : 0 ≤ a ∧ a ≤ 255) : wi a = a := wi_id (rg_lit (by omega))
theorem scriptDecode_eq {y : List Int} (hb : ∀ x ∈ y, 0 ≤ x ∧ x ≤ 255) (hl : y.length ≤ 100000) : Good (scriptDecode y) fun o => o.1.1 = sd y := by
  unfold scriptDecode
  refine Good.bind (P := fun z => z.1 = sd y) (lp_good (fun x => 0 ≤ x.2.1 ∧ x.2.1 ≤ (y.length : Int) + 2 ∧ 2 * (x.1.length : Int) = x.2.1 ∧ x.1 ++ sd (y.drop x.2.1.toNat) = sd y) (fun x => ((y.length : Int) + 2 - x.2.1).toNat) (fun self x ⟨q0, q1, q2, q3⟩ ih => ?_) _ _ ⟨Int.le_refl 0, by show (0 : Int) ≤ (y.length : Int) + 2; omega, rfl, rfl⟩ (by show ((y.length : Int) + 2 - 0).toNat < _; omega)) fun z hz => .some_ hz
  have e1 : wi (x.2.1 + 1) = x.2.1 + 1 := wi_id (rg_lit (by omega))
  have e2 : wi (x.2.1 + 2) = x.2.1 + 2 := wi_id (rg_lit (by omega))
  rw [e1, e2]
  refine Good.ite (fun h1 => ?_) fun h1 => .some_ ?_
  · refine .guard (by omega) fun _ => .guard (by omega) fun _ => .guard (by omega) fun _ => .guard rfl fun _ => .guard rfl fun _ => ?_
    have hA := hb _ (at_in (α := Int) (d := (dfR 17 : TR 17)) (xs := y) (i := x.2.1) ⟨q0, by omega⟩)
    have hB := hb _ (at_in (α := Int) (d := (dfR 17 : TR 17)) (xs := y) (i := x.2.1 + 1) ⟨by omega, h1⟩)
    rw [sd_step ⟨q0, h1⟩] at q3
    generalize hg : atK17 y x.2.1 = a at q3
    generalize hg2 : atK17 y (x.2.1 + 1) = b at q3
    have hA : 0 ≤ a ∧ a ≤ 255 := by rw [← hg]; exact hA
    have hB : 0 ≤ b ∧ b ≤ 255 := by rw [← hg2]; exact hB
    rw [tm4 hA, byte_wi hB]
    have nx : ∀ u : EntV, u = ent a b → Good (if (((x.1.length + ([u] : List EntV).length : Nat)) : Int) < 1000000000000 then self (x.1 ++ ([u]), x.2.1 + 2, ()) else none) fun z => z.1 = sd y := fun u hu => by
      subst hu
      refine .guard (by show (((x.1.length + 1 : Nat)) : Int) < _; omega) fun _ => ih _ ⟨by show 0 ≤ x.2.1 + 2; omega, by show x.2.1 + 2 ≤ _; omega, ?_, ?_⟩ (by show ((y.length : Int) + 2 - (x.2.1 + 2)).toNat < ((y.length : Int) + 2 - x.2.1).toNat; omega)
      · show 2 * ((x.1 ++ [ent a b]).length : Int) = x.2.1 + 2
        rw [List.length_append, List.length_singleton]; omega
      · show (x.1 ++ [ent a b]) ++ sd (y.drop (x.2.1 + 2).toNat) = sd y
        rw [List.append_assoc]; exact q3
    refine (plain_good _).bind fun r4 h4 => ?_
    refine Good.ite (fun h => nx _ ?_) fun h => nx _ ?_
    · rw [h4] at h
      unfold ent
      rw [if_pos (of_decide_eq_true h)]
    · rw [h4] at h
      unfold ent
      rw [if_neg fun h5 => h (decide_eq_true h5)]
  · rw [sd_end h1 q0, List.append_nil] at q3
    exact q3
theorem r4decode_eq {y : List Int} (hb : ∀ x ∈ y, 0 ≤ x ∧ x ≤ 255) (hl : y.length ≤ 100000) : Good (r4decode y) fun o => o.1.1 = sd y := by
  unfold r4decode
  refine Good.bind (P := fun z => z.1 = sd y) (lp_good (fun x => 0 ≤ x.2.1 ∧ x.2.1 ≤ (y.length : Int) + 2 ∧ 2 * (x.1.length : Int) = x.2.1 ∧ x.1 ++ sd (y.drop x.2.1.toNat) = sd y) (fun x => ((y.length : Int) + 2 - x.2.1).toNat) (fun self x ⟨q0, q1, q2, q3⟩ ih => ?_) _ _ ⟨Int.le_refl 0, by show (0 : Int) ≤ (y.length : Int) + 2; omega, rfl, rfl⟩ (by show ((y.length : Int) + 2 - 0).toNat < _; omega)) fun z hz => .some_ hz
  have e1 : wi (x.2.1 + 1) = x.2.1 + 1 := wi_id (rg_lit (by omega))
  have e2 : wi (x.2.1 + 2) = x.2.1 + 2 := wi_id (rg_lit (by omega))
  rw [e1, e2]
  refine Good.ite (fun h1 => ?_) fun h1 => .some_ ?_
  · refine .guard (by omega) fun _ => .guard (by omega) fun _ => .guard (by omega) fun _ => .guard rfl fun _ => .guard rfl fun _ => ?_
    have hA := hb _ (at_in (α := Int) (d := (dfR 17 : TR 17)) (xs := y) (i := x.2.1) ⟨q0, by omega⟩)
    have hB := hb _ (at_in (α := Int) (d := (dfR 17 : TR 17)) (xs := y) (i := x.2.1 + 1) ⟨by omega, h1⟩)
    rw [sd_step ⟨q0, h1⟩] at q3
    generalize hg : atK17 y x.2.1 = a at q3
    generalize hg2 : atK17 y (x.2.1 + 1) = b at q3
    have hA : 0 ≤ a ∧ a ≤ 255 := by rw [← hg]; exact hA
    have hB : 0 ≤ b ∧ b ≤ 255 := by rw [← hg2]; exact hB
    rw [byte_wi hA, byte_wi hB]
    have nx : ∀ u : EntV, u = ent a b → Good (if (((x.1.length + ([u] : List EntV).length : Nat)) : Int) < 1000000000000 then self (x.1 ++ ([u]), x.2.1 + 2, ()) else none) fun z => z.1 = sd y := fun u hu => by
      subst hu
      refine .guard (by show (((x.1.length + 1 : Nat)) : Int) < _; omega) fun _ => ih _ ⟨by show 0 ≤ x.2.1 + 2; omega, by show x.2.1 + 2 ≤ _; omega, ?_, ?_⟩ (by show ((y.length : Int) + 2 - (x.2.1 + 2)).toNat < ((y.length : Int) + 2 - x.2.1).toNat; omega)
      · show 2 * ((x.1 ++ [ent a b]).length : Int) = x.2.1 + 2
        rw [List.length_append, List.length_singleton]; omega
      · show (x.1 ++ [ent a b]) ++ sd (y.drop (x.2.1 + 2).toNat) = sd y
        rw [List.append_assoc]; exact q3
    refine Good.ite (fun h => nx _ ?_) fun h => Good.ite (fun h2 => nx _ ?_) fun h2 => nx _ ?_
    · unfold ent
      rw [if_pos (.inl h)]
    · unfold ent
      rw [if_pos (.inr h2)]
    · unfold ent
      rw [if_neg fun h5 => h5.elim h h2]
  · rw [sd_end h1 q0, List.append_nil] at q3
    exact q3
theorem valid_good {e : EntV} (h : EntOk e) : Good (scriptValid e) fun o => o.1.1 = true := by
  obtain ⟨k, v⟩ := e
  obtain ⟨⟨k0, k1⟩, ⟨v0, v1⟩, hz⟩ := h
  simp only at k0 k1 v0 v1 hz
  unfold scriptValid
  simp only
  refine Good.ite (fun h0 => ?_) fun h0 => Good.ite (fun h2 => ?_) fun h2 => Good.ite (fun h1 => ?_) fun h1 => ?_
  · rw [if_pos h0, if_pos v0]
    exact .some_ (decide_eq_true v1)
  · rw [if_pos v0]
    exact .some_ (decide_eq_true v1)
  · rw [if_pos h1]
    exact .some_ (decide_eq_true (hz (.inl h1)))
  · have h3 : k = 3 := by omega
    rw [if_pos h3]
    exact .some_ (decide_eq_true (hz (.inr h3)))
theorem scriptEncode_eq {l : List EntV} (h : ∀ e ∈ l, EntOk e) (hl : l.length ≤ 10000) : Good (scriptEncode l) fun o => o.1.2.1 = 0 ∧ o.1.1 = l.flatMap enc2 := by
  unfold scriptEncode
  refine Good.ite (fun h => absurd h (by omega)) fun _ => ?_
  refine Good.bind (P := fun z => ∃ y, z = Sum.inl y ∧ y.1 = l.flatMap enc2) (lp_good (fun x => 0 ≤ x.2.1 ∧ x.2.1 ≤ (l.length : Int) ∧ (x.1.length : Int) = 2 * x.2.1 ∧ x.1 = (l.take x.2.1.toNat).flatMap enc2) (fun x => ((l.length : Int) - x.2.1).toNat) (fun self x ⟨q0, q1, q2, q3⟩ ih => ?istep) _ _ ⟨Int.le_refl 0, by show (0 : Int) ≤ (l.length : Int); omega, rfl, rfl⟩ (by show ((l.length : Int) - 0).toNat < _; omega)) fun z hz => ?icont
  case istep =>
    have e1 : wi (x.2.1 + 1) = x.2.1 + 1 := wi_id (rg_lit (by omega))
    rw [e1]
    refine Good.ite (fun h1 => ?_) fun h1 => .some_ ⟨_, rfl, ?_⟩
    · have hin : 0 ≤ x.2.1 ∧ x.2.1 < (l.length : Int) := ⟨q0, h1⟩
      refine .guard hin fun _ => ?_
      have hok : EntOk (atK5 l x.2.1) := h _ (at_in (α := EntV) (d := (dfR 5 : TR 5)) hin)
      have hts : l.take (x.2.1 + 1).toNat = l.take x.2.1.toNat ++ [atK5 l x.2.1] := take_snoc (α := EntV) (dfR 5 : TR 5) hin
      generalize atK5 l x.2.1 = e at hok hts
      refine (valid_good hok).bind fun r4 h4 => ?_
      rw [if_neg (by rw [h4]; decide), u8_id ⟨hok.k.1, by have := hok.k.2; omega⟩, u8_id hok.v]
      refine .guard (by show (((x.1.length + 2 : Nat)) : Int) < _; omega) fun _ => ih _ ⟨by show 0 ≤ x.2.1 + 1; omega, by show x.2.1 + 1 ≤ _; omega, ?_, ?_⟩ (by show (_ - (x.2.1 + 1) : Int).toNat < (_ - x.2.1 : Int).toNat; omega)
      · show ((x.1 ++ [_, _]).length : Int) = 2 * (x.2.1 + 1)
        rw [List.length_append]
        show ((x.1.length + 2 : Nat) : Int) = _
        omega
      · show x.1 ++ [_, _] = (l.take (x.2.1 + 1).toNat).flatMap enc2
        rw [hts, List.flatMap_append, ← q3]
        rfl
    · rw [List.take_of_length_le (by omega)] at q3
      exact q3
  case icont =>
    obtain ⟨y, rfl, hy⟩ := hz
    exact .some_ ⟨rfl, hy⟩
theorem same_good (l : List EntV) (hl : l.length ≤ 100000) : Good (workstealref04Same l l) fun o => o.1.1 = true := by
  unfold workstealref04Same
  rw [if_neg (fun h => h rfl)]
  refine Good.bind (P := fun z => ∃ y, z = Sum.inl y) (lp_good (fun x => 0 ≤ x.1 ∧ x.1 ≤ (l.length : Int)) (fun x => ((l.length : Int) - x.1).toNat) (fun self x ⟨q0, q1⟩ ih => ?istep) _ _ ⟨Int.le_refl 0, by show (0 : Int) ≤ (l.length : Int); omega⟩ (by show ((l.length : Int) - 0).toNat < _; omega)) fun z hz => ?icont
  case istep =>
    have e1 : wi (x.1 + 1) = x.1 + 1 := wi_id (rg_lit (by omega))
    rw [e1]
    refine Good.ite (fun h1 => ?_) fun h1 => .some_ ⟨_, rfl⟩
    refine .guard ⟨q0, h1⟩ fun _ => .guard ⟨q0, h1⟩ fun _ => ?_
    rw [if_neg (fun h => h ⟨rfl, rfl, trivial⟩)]
    exact ih _ ⟨by show 0 ≤ x.1 + 1; omega, by show x.1 + 1 ≤ _; omega⟩ (by show (_ - (x.1 + 1) : Int).toNat < (_ - x.1 : Int).toNat; omega)
  case icont =>
    obtain ⟨y, rfl⟩ := hz
    exact .some_ rfl
theorem enc2_len (l : List EntV) : (l.flatMap enc2).length = 2 * l.length := by
  induction l with
  | nil => rfl
  | cons e l ih => rw [List.flatMap_cons, List.length_append, ih]; show 2 + _ = 2 * (l.length + 1); omega
theorem enc2_by {l : List EntV} (h : ∀ e ∈ l, EntOk e) : ∀ x ∈ l.flatMap enc2, 0 ≤ x ∧ x ≤ 255 := by
  intro x hx
  obtain ⟨e, he, hx⟩ := List.mem_flatMap.1 hx
  have h1 := h e he
  unfold enc2 at hx
  rcases List.mem_cons.1 hx with rfl | hx
  · have := h1.k; omega
  · rw [List.mem_singleton] at hx; subst hx; exact h1.v
end
end Go.Proofs.YtgiagoeoifgliaaGreat
