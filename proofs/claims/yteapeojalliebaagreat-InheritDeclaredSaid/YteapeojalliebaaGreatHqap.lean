/- The program's machines do what was said plainly, 7: running a task. The program's machines do what was said plainly, 8: workers. The program's machines do what was said plainly, 9: the client; what workers and the client leave. What is decoded is valid. The program's environment made anew, at a valid configuration. What is decoded is valid, also with other numbers of tasks and places. An engine: what holds between the entries of a script. -/
import Derived.Test.YteapeojalliebaaGreatHqao
import Derived.Test.YteapeojalliebaaGreatHqan
import Derived.Test.YteapeojalliebaaGreatHqaj
set_option linter.all false
namespace Go.Proofs.YteapeojalliebaaGreat
section
open Go Go.RowKit
set_option maxRecDepth 100000
@[reducible] def aEA (l : LayV) (w id lv wt : Int) : RunC → Int × MV
  | .next => (0, .nil)
  | .s2 s => (5, .publish (alB id lv s))
  | .s3 s => (6, .lpush (apk l w lv id s))
  | .s4 s => (7, .wake (asr w lv s))
  | .s5 => (8, .claim ⟨o0, w, id⟩)
  | .j2 => (10, .nil)
  | .j3 => (11, .nil)
  | .j4 => (12, .nil)
  | .j5 s => (13, .walk (aBU l w lv s))
  | .j6 => (14, .nil)
  | .j7 => (15, .nil)
  | .f2 => (17, .nil)
  | .f3 => (18, .nil)
  | .f4 s => (19, .enter (ayA l w wt s))
  | .f5 v s => (20, .wake (asr w v s))
  | .f6 => (21, .claim ⟨o0, w, wt⟩)
@[reducible] def aFW (l : LayV) (w : Int) (r : RunS) : RunV MV :=
  ⟨o0, w, r.stack, (aEA l w r.id r.level r.waiter r.c).1, (aEA l w r.id r.level r.waiter r.c).2, r.id, r.child, r.level, r.waiter⟩
section
variable [Tb] {K : Nat} {e : EnvP} {w : Int}
theorem ahE {l : LayV} {e' : EnvP} {st : List Int} {ln id ch lv wt : Int} {m : MV} {c : RunC} (hS : SOk st) : aaV RunV.o (aFW l w) ((aan ⟨⟨false, 0, 0⟩, w, st, ln, m, id, ch, lv, wt⟩).bind fun r => some ((r.1.1, ()), (r.2.1, e', ()))) (aiH ⟨st, id, ch, lv, wt, c⟩ e') := by
  have h1 := List.length_pos_iff.2 hS.ne
  have h2 := hS.le
  unfold aan aiH
  try simp only [tpI, tlI]
  simp only [tpI, tlI, hS.n, hS.g2, hS.t, if_true, List.length_dropLast, aba, aac, bnd, ab4, aaZ]
  by_cases hl : st.length = 1
  · rw [if_pos (by omega), if_pos hl]; exact ⟨_, rfl, rfl⟩
  · rw [if_neg (by omega), if_neg hl]; rfl
theorem aCv (hK : EOk K e) (hk : K ≤ 100000000) (r : RunS) (hS : SOk r.stack) : aaV RunV.o (aFW e.l w) (abi (aFW e.l w r) e) (awT w e r) := by
  have hl : e.evs.length ≤ 999999999 := by have := hK.ev; omega
  obtain ⟨st, id, ch, lv, wt, c⟩ := r
  have hS : SOk st := hS
  unfold awT
  by_cases hT : IsT e (aaJ st)
  · have hR : 0 ≤ aaJ st ∧ aaJ st < (e.recs.length : Int) := ⟨hT.1, by have := hT.2; have := hK.ct; omega⟩
    have hct := hK.ct
    have he : ∀ (x : RunV MV) (e' : EnvP) (_ : e'.evs.length ≤ 999999999) (v : Ev), aaC x e' v = some ((), (x, { e' with evs := e'.evs ++ [{ v with worker := x.worker }] }, ())) := fun x e' h v => amA h
    rw [if_neg (fun h => h hT)]
    unfold ah3
    cases c with
    | next =>
      simp only [awv]
      have hkd : (e.rc (aaJ st)).kids.length ≤ 999999999 := by have := aq5 hR K hK.kd; omega
      have hnx := fun c h => az1 (w := w) (id := id) (ch := ch) (lv := lv) (wt := wt) (m := .nil) hS hT hct (c := c) h hR
      by_cases c1 : (e.rc (aaJ st)).waiting ≠ -1
      · rw [if_pos c1]
        rw [hnx 1 (by unfold afj; rw [if_pos c1])]
        simp only [Int.reduceEq, if_false, true_or, if_true]
        rw [aCo hS hR]
        rfl
      rw [if_neg c1]
      by_cases c2 : (e.rc (aaJ st)).pc < 0 ∨ ((e.prog (e.rc (aaJ st))).length : Int) ≤ (e.rc (aaJ st)).pc
      · rw [if_pos c2]
        rw [hnx 16 (by unfold afj; rw [if_neg c1, if_pos c2])]
        simp only [Int.reduceEq, if_false, or_self]
        simp only [tpI, tlI, aap, hS.n, hS.a, hS.g, if_true, aeN, abo, aac, bnd]
        rfl
      rw [if_neg c2]
      by_cases c3 : (ab9 (e.prog (e.rc (aaJ st))) (e.rc (aaJ st)).pc).op = 0
      · rw [if_pos c3]
        rw [hnx 2 (by unfold afj; rw [if_neg c1, if_neg c2, if_pos c3])]
        simp only [Int.reduceEq, if_false, false_or, true_or, or_true, if_true]
        rw [aCn hS hR c2]
        rfl
      rw [if_neg c3]
      by_cases c4 : (ab9 (e.prog (e.rc (aaJ st))) (e.rc (aaJ st)).pc).op = 1
      · rw [if_pos c4]
        rw [hnx 4 (by unfold afj; rw [if_neg c1, if_neg c2, if_neg c3, if_pos c4])]
        obtain ⟨x', h, ho⟩ := atF (e := e)
        simp only [tpI, tlI, if_true, abf, aeK, bnd, h, adg, Bool.not_true, Bool.false_eq_true, if_false]
        by_cases ci : IsT e (wi (e.gt 0))
        · rw [if_pos ci] at ho ⊢
          have hv : 0 ≤ wi (e.gt 0) ∧ wi (e.gt 0) < ((aga e).recs.length : Int) := ⟨ci.1, by have := ci.2; show _ < (e.recs.length : Int); omega⟩
          have ha := azf (e := aga e) (o := o0) (w := w) (id := id) (ch := ch) (lv := lv) (wt := wt) (m := .alloc x') hS hR c2 hkd (wi (e.gt 0)) hv
          simp only [ho]
          rw [ha]
          rfl
        · rw [if_neg ci] at ho ⊢
          have ha := awR (e := aga e) (o := o0) (w := w) (id := id) (ch := ch) (lv := lv) (wt := wt) (m := .alloc x') hS hR c2 hl hkd 0
          simp only [ho]
          rw [ha]
          rfl
      rw [if_neg c4]
      by_cases c5 : (ab9 (e.prog (e.rc (aaJ st))) (e.rc (aaJ st)).pc).a < 0 ∨ ((e.rc (aaJ st)).kids.length : Int) ≤ (ab9 (e.prog (e.rc (aaJ st))) (e.rc (aaJ st)).pc).a ∨ afP (e.rc (aaJ st)).kids (ab9 (e.prog (e.rc (aaJ st))) (e.rc (aaJ st)).pc).a = -1
      · rw [if_pos c5]
        rw [hnx 3 (by unfold afj; rw [if_neg c1, if_neg c2, if_neg c3, if_neg c4, if_pos c5])]
        simp only [Int.reduceEq, if_false, false_or, or_true, if_true]
        rw [aCm hS hR]
        rfl
      · rw [if_neg c5]
        rw [hnx 9 (by unfold afj; rw [if_neg c1, if_neg c2, if_neg c3, if_neg c4, if_neg c5])]
        simp only [Int.reduceEq, if_false, or_self, if_true]
        rw [aGz hS hR c2 (fun h => c5 (h.elim .inl fun h => .inr (.inl h)))]
        rfl
    | s2 s =>
      have h := at4 (e := e) (t := id) (v := lv) s
      have hn := aql (e := e) (t := id) (v := lv) s
      simp only [alx hS hT hct (show (4 : Int) ≤ 5 ∧ (5 : Int) ≤ 8 by decide)]
      revert h hn
      simp only [tpI, tlI, abf, aeK, bnd]
      rcases agd id lv e s with ⟨r | ⟨c, y⟩, e'⟩ <;> intro h hn
      · simp only [aaV] at h
        simp only [h, bnd, Bool.not_false, if_true]
        rfl
      · simp only [aaV] at h
        obtain ⟨x', h, ho⟩ := h
        have hl' : e'.evs.length ≤ 999999999 := by have h1 : e'.evs.length ≤ e.evs.length + 0 := hn.ev; have := hK.ev; omega
        simp only [tpI, tlI, h, ho, adg, bnd, Bool.not_true, Bool.false_eq_true, if_false, if_true, Int.reduceEq, hS.n, hS.a, hS.g, he _ e' hl', acp, aac]
        rfl
    | s3 s =>
      have h := ajp (w := w) (v := lv) (x := id) hK s
      simp only [alx hS hT hct (show (4 : Int) ≤ 6 ∧ (6 : Int) ≤ 8 by decide)]
      revert h
      simp only [tpI, tlI, abf, aeK, bnd]
      rcases acM w lv id e s with ⟨r | ⟨c, y⟩, e'⟩ <;> intro h
      · simp only [aaV] at h
        simp only [h, bnd, Bool.not_false, if_true]
        rfl
      · simp only [aaV] at h
        obtain ⟨x', h, ho⟩ := h
        simp only [tpI, tlI, h, ho, adg, bnd, Bool.not_true, Bool.false_eq_true, if_false, if_true, Int.reduceEq, acn, acJ, aac]
        by_cases hc : c = 3
        · simp only [hc, if_true]; rfl
        · simp only [hc, if_false]; rfl
    | s4 s =>
      have h := alb (e := e) (w := w) (v := lv) hl s
      simp only [alx hS hT hct (show (4 : Int) ≤ 7 ∧ (7 : Int) ≤ 8 by decide)]
      revert h
      simp only [tpI, tlI, abf, aeK, bnd]
      rcases afy w lv e s with ⟨r | ⟨c, y⟩, e'⟩ <;> intro h
      · simp only [aaV] at h
        simp only [h, bnd, Bool.not_false, if_true]
        rfl
      · simp only [aaV] at h
        obtain ⟨x', h, ho⟩ := h
        simp only [tpI, tlI, h, ho, adg, bnd, Bool.not_true, Bool.false_eq_true, if_false, if_true, Int.reduceEq, aac]
        rfl
    | s5 =>
      obtain ⟨x', h, ho⟩ := amf (w := w) (t := id) hl hK.st
      simp only [alx hS hT hct (show (4 : Int) ≤ 8 ∧ (8 : Int) ≤ 8 by decide)]
      simp only [tpI, tlI, abf, aeK, bnd, h, adg, Bool.not_true, Bool.false_eq_true, if_false, if_true, Int.reduceEq, aac]
      have hsl : ((st.length + ([id] : List Int).length : Nat) : Int) < 1000000000000 := by
        have h2 : st.length ≤ 999999999 := hS.le
        clear hR hct hl hk hK
        trace_state
        rw [List.length_singleton]
        omega
      rcases Bool.eq_false_or_eq_true (ahO id e) with hc | hc
      · simp only [hc, if_true] at ho ⊢
        simp only [ho, if_true, hsl]
        rfl
      · simp only [hc, Bool.false_eq_true, if_false] at ho ⊢
        simp only [ho, Int.reduceEq, if_false]
        rfl
    | j2 =>
      simp only [tpI, tlI, ajW hS hT hct (show (9 : Int) ≤ 10 ∧ (10 : Int) ≤ 15 by decide), aaF, hS.n, hS.a, hS.g, if_true, Int.reduceEq, if_false, aeN, abo, aac, bnd]
      rfl
    | j3 =>
      simp only [tpI, tlI, ajW hS hT hct (show (9 : Int) ≤ 11 ∧ (11 : Int) ≤ 15 by decide), aaF, hS.n, hS.a, hS.g, if_true, Int.reduceEq, if_false, ari, ajo, aac, he _ { e with m := e.m.cas (agU e.l ch) 0 (wu (wi (aaJ st + 1))) } hl, bnd]
      exact aaV.iteN (fun _ => rfl) fun _ => rfl
    | j4 =>
      simp only [tpI, tlI, ajW hS hT hct (show (9 : Int) ≤ 12 ∧ (12 : Int) ≤ 15 by decide), aaF, hS.n, hS.a, hS.g, if_true, Int.reduceEq, if_false, afD, abt, ajI, aac, bnd]
      rfl
    | j5 s =>
      have h := azz (w := w) (v := lv) hK hk s
      have hn := aw1 (e := e) (w := w) (v := lv) s
      simp only [ajW hS hT hct (show (9 : Int) ≤ 13 ∧ (13 : Int) ≤ 15 by decide)]
      revert h hn
      simp only [tpI, tlI, aaF, hS.n, hS.a, hS.g, if_true, Int.reduceEq, if_false, aeK, bnd]
      rcases aha w lv e s with ⟨r | ⟨c, y⟩, e'⟩ <;> intro h hn
      · simp only [aaV] at h
        simp only [h, bnd, Bool.not_false, if_true]
        rfl
      · simp only [aaV] at h
        obtain ⟨x', h, ho⟩ := h
        have hl' : e'.evs.length ≤ 999999999 := by have h1 : e'.evs.length ≤ e.evs.length + 1 := hn.ev; have := hK.ev; omega
        simp only [h, bnd, Bool.not_true, Bool.false_eq_true, if_false, he _ e' hl']
        exact ahE hS
    | j6 =>
      simp only [tpI, tlI, ajW hS hT hct (show (9 : Int) ≤ 14 ∧ (14 : Int) ≤ 15 by decide), aaF, hS.n, hS.a, hS.g, if_true, Int.reduceEq, if_false, aeN, abo, aac, bnd]
      rfl
    | j7 =>
      simp only [tpI, tlI, ajW hS hT hct (show (9 : Int) ≤ 15 ∧ (15 : Int) ≤ 15 by decide), aaF, hS.n, hS.a, hS.g, hR, and_self, if_true, Int.reduceEq, if_false, alG, abo, aac, bnd]
      have he2 : ∀ (x : RunV MV) (m' : MemV) (rs : List RecP) (v : Ev), aaC x { e with m := m', recs := rs } v = some ((), (x, { e with m := m', recs := rs, evs := e.evs ++ [{ v with worker := x.worker }] }, ())) := fun x m' rs v => amA (e := { e with m := m', recs := rs }) hl
      rw [he2, bnd]
      rfl
    | f2 =>
      simp only [tpI, tlI, ahz hS hT hct (show (16 : Int) ≤ 17 by decide), aap, hS.n, hS.a, hS.g, if_true, Int.reduceEq, if_false, ari, ajo, aac, he _ { e with m := e.m.cas (agU e.l (aaJ st)) 0 4294967296 } hl, bnd]
      refine aaV.ite (fun _ => ?_) fun _ => rfl
      exact ahE hS
    | f3 =>
      simp only [tpI, tlI, ahz hS hT hct (show (16 : Int) ≤ 18 by decide), aap, hS.n, hS.a, hS.g, if_true, Int.reduceEq, if_false, ari, abt, aac, ahn, bnd]
      by_cases h1 : wi (wi (e.m.gt (agU e.l (aaJ st))) - 1) < 0
      · rw [if_pos h1, if_neg (show ¬ IsT e (wi (wi (e.m.gt (agU e.l (aaJ st))) - 1)) from fun h => by have := h.1; omega)]
        exact ahE hS
      by_cases h2 : e.c.tasks ≤ wi (wi (e.m.gt (agU e.l (aaJ st))) - 1)
      · rw [if_neg h1, if_pos h2, if_neg (show ¬ IsT e (wi (wi (e.m.gt (agU e.l (aaJ st))) - 1)) from fun h => by have := h.2; omega)]
        exact ahE hS
      · rw [if_neg h1, if_neg h2, if_pos (show IsT e (wi (wi (e.m.gt (agU e.l (aaJ st))) - 1)) from ⟨by omega, by omega⟩)]
        rfl
    | f4 s =>
      have h := ayz (w := w) (t := wt) hK s
      simp only [ahz hS hT hct (show (16 : Int) ≤ 19 by decide)]
      revert h
      simp only [tpI, tlI, aap, hS.n, hS.a, hS.g, if_true, Int.reduceEq, if_false, aeK, bnd]
      rcases aeQ w wt e s with ⟨r | ⟨c, y⟩, e'⟩ <;> intro h
      · simp only [aaV] at h
        simp only [h, bnd, Bool.not_false, if_true]
        rfl
      · simp only [aaV] at h
        obtain ⟨x', h, ho⟩ := h
        simp only [tpI, tlI, h, ho, adg, bnd, Bool.not_true, Bool.false_eq_true, if_false, if_true, Int.reduceEq, acn, acJ, aac]
        by_cases hc : c = 3
        · simp only [hc, if_true]; rfl
        · simp only [hc, if_false]; rfl
    | f5 v s =>
      have h := alb (e := e) (w := w) (v := v) hl s
      simp only [ahz hS hT hct (show (16 : Int) ≤ 20 by decide)]
      revert h
      simp only [tpI, tlI, aap, hS.n, hS.a, hS.g, if_true, Int.reduceEq, if_false, aeK, bnd]
      rcases afy w v e s with ⟨r | ⟨c, y⟩, e'⟩ <;> intro h
      · simp only [aaV] at h
        simp only [h, bnd, Bool.not_false, if_true]
        rfl
      · simp only [aaV] at h
        obtain ⟨x', h, ho⟩ := h
        simp only [h, ho, adg, bnd, Bool.not_true, Bool.false_eq_true, if_false]
        exact ahE hS
    | f6 =>
      obtain ⟨x', h, ho⟩ := amf (w := w) (t := wt) hl hK.st
      simp only [ahz hS hT hct (show (16 : Int) ≤ 21 by decide)]
      simp only [tpI, tlI, aap, hS.n, hS.a, hS.g, hS.s, aeK, bnd, h, adg, Bool.not_true, Bool.false_eq_true, if_false, if_true, Int.reduceEq, aac]
      rcases Bool.eq_false_or_eq_true (ahO wt e) with hc | hc
      · simp only [hc, if_true] at ho ⊢
        simp only [ho, if_true]
        rfl
      · simp only [hc, Bool.false_eq_true, if_false] at ho ⊢
        simp only [ho, Int.reduceEq, if_false]
        exact ahE hS
  · rw [if_pos hT]
    have hb : aaJ st < 0 ∨ e.c.tasks ≤ aaJ st := by
      unfold IsT at hT
      omega
    simp only [tpI, tlI, abi, aau, aba, o0, bnd, hS.n, hS.a, hS.g, if_true, Bool.false_eq_true, if_false]
    rcases hb with hb | hb
    · rw [if_pos hb]; exact ⟨_, rfl, rfl⟩
    · by_cases h0 : aaJ st < 0
      · rw [if_pos h0]; exact ⟨_, rfl, rfl⟩
      · rw [if_neg h0, if_pos hb]; exact ⟨_, rfl, rfl⟩
end
@[reducible] def aBm (l : LayV) (w vi lv x : Int) : WorkC → Int × MV
  | .top => (0, .nil)
  | .t1 t s => (1, .sweep (agA l w t s))
  | .t2 s => (2, .take (aB0 l w s))
  | .t3 s => (3, .drain (avX l w s))
  | .t4 s => (4, .probe (alE w s))
  | .t5 s => (5, .steal (au4 (aaB l vi lv) s))
  | .t6 => (6, .claim ⟨o0, w, x⟩)
  | .t7 s => (7, .run (aFW l w s))
  | .t8 s => (8, .sleep (asz w s))
  | .t9 s => (9, .reset (asK (aaP l vi) lv (aaB l vi lv) s))
@[reducible] def ahW (l : LayV) (w : Int) (k : WorkS) : WorkerV MV :=
  ⟨w, k.cursor, (aBm l w k.victim k.level k.x k.c).1, (aBm l w k.victim k.level k.x k.c).2, k.victim, k.level, k.x⟩
def aFT (K : Nat) (r : RunS) : Prop := r.stack ≠ [] ∧ r.stack.length ≤ K
def ahT (K : Nat) (n : Int) (k : WorkS) : Prop := match k.c with
  | .t3 s => asi s
  | .t4 s => anj n s
  | .t7 s => aFT K s
  | _ => True
section
variable [Tb] {K : Nat} {e : EnvP} {w : Int}
theorem alZ {j : Nat} {e' : EnvP} {r : RunS} (h : Stp j e e') : Stp j e (aiH r e').2 := h
theorem aCJ {a v t : Int} {r : RecP} (hr : ∀ K, (∀ r ∈ e.recs, r.kids.length ≤ K) → r.kids.length ≤ K + 1) : Stp 0 e ((e.pt 2 a v).pr t r) := Stp.pr (Stp.pt (by decide)) hr
theorem ayK {x : RecP} {i : Ins} : (awJ x i).kids = x.kids := by
  unfold awJ
  repeat' split
  all_goals rfl
theorem aEy (hK : EOk K e) (r : RunS) : Stp 2 e (awT w e r).2 := by
  obtain ⟨st, id, ch, lv, wt, c⟩ := r
  unfold awT
  by_cases hT : IsT e (aaJ st)
  · have hR : 0 ≤ aaJ st ∧ aaJ st < (e.recs.length : Int) := ⟨hT.1, by have := hT.2; have := hK.ct; omega⟩
    have hkid : ∀ K, (∀ r ∈ e.recs, r.kids.length ≤ K) → (e.rc (aaJ st)).kids.length ≤ K + 1 := fun K h => Nat.le_succ_of_le (aq5 hR K h)
    have hkid1 : ∀ v : Int, ∀ K, (∀ r ∈ e.recs, r.kids.length ≤ K) → ((e.rc (aaJ st)).kids ++ [v]).length ≤ K + 1 := fun v K h => by
      have := aq5 hR K h
      rw [List.length_append, List.length_singleton]; omega
    rw [if_neg (fun h => h hT)]
    cases c with
    | next =>
      simp only [ah3, awv]
      split
      · exact Stp.le (aCJ hkid) (Nat.zero_le _)
      split
      · exact Stp.le (.pt (by decide)) (by decide)
      split
      · exact Stp.le (Stp.pr Stp.refl fun K h => by rw [ayK]; exact hkid K h) (Nat.zero_le _)
      split
      · split
        · exact Stp.le (Stp.pr (Stp.pr aou (hkid1 _)) fun K h => Nat.zero_le _) (Nat.zero_le _)
        · exact Stp.le (Stp.em (Stp.pr aou (hkid1 _))) (Nat.le_succ 1)
      split
      · exact Stp.le (Stp.pr Stp.refl hkid) (Nat.zero_le _)
      · exact Stp.le (aCJ hkid) (Nat.zero_le _)
    | s2 s =>
      have h := aql (e := e) (t := id) (v := lv) s
      revert h
      simp only [ah3]
      rcases agd id lv e s with ⟨r | ⟨c, y⟩, e'⟩ <;> intro h
      · exact h.le (by decide)
      · exact h.em.le (by decide)
    | s3 s =>
      have h := agm (e := e) (w := w) (v := lv) (x := id) s
      revert h
      simp only [ah3]
      rcases acM w lv id e s with ⟨r | ⟨c, y⟩, e'⟩ <;> intro h <;> exact h.le (by decide)
    | s4 s =>
      have h := aoy (e := e) (w := w) (v := lv) s
      revert h
      simp only [ah3]
      rcases afy w lv e s with ⟨r | ⟨c, y⟩, e'⟩ <;> intro h <;> exact h.le (by decide)
    | s5 => exact (amg (w := w) (t := id) hK.st).le (by decide)
    | j2 => exact Stp.le (.pt (by decide)) (by decide)
    | j3 =>
      simp only [ah3]
      split
      · exact Stp.cas.em.le (by decide)
      · exact Stp.cas.le (by decide)
    | j4 => exact Stp.lk.le (by decide)
    | j5 s =>
      have h := aw1 (e := e) (w := w) (v := lv) s
      revert h
      simp only [ah3]
      rcases aha w lv e s with ⟨r | ⟨c, y⟩, e'⟩ <;> intro h
      · exact h.le (by decide)
      · exact alZ h.em
    | j6 => exact Stp.le (.pt (by decide)) (by decide)
    | j7 => exact Stp.le (Stp.em (aCJ hkid)) (Nat.le_succ 1)
    | f2 =>
      simp only [ah3]
      split
      · exact alZ (Stp.cas.em.le (by decide))
      · exact Stp.cas.em.le (by decide)
    | f3 =>
      simp only [ah3]
      split
      · exact Stp.lk.le (by decide)
      · exact alZ (Stp.lk.le (by decide))
    | f4 s =>
      have h := aAU (e := e) (w := w) (t := wt) s
      revert h
      simp only [ah3]
      rcases aeQ w wt e s with ⟨r | ⟨c, y⟩, e'⟩ <;> intro h <;> exact h.le (by decide)
    | f5 v s =>
      have h := aoy (e := e) (w := w) (v := v) s
      revert h
      simp only [ah3]
      rcases afy w v e s with ⟨r | ⟨c, y⟩, e'⟩ <;> intro h
      · exact h.le (by decide)
      · exact alZ (h.le (by decide))
    | f6 =>
      simp only [ah3]
      split
      · exact (amg (w := w) (t := wt) hK.st).le (by decide)
      · exact alZ ((amg (w := w) (t := wt) hK.st).le (by decide))
  · rw [if_pos hT]; exact Stp.refl.le (by decide)
theorem alY {r r' : RunS} {e e' : EnvP} (hr : r.stack ≠ []) (h : aiH r e = (.go r', e')) : r'.stack ≠ [] ∧ r'.stack.length ≤ r.stack.length + 1 := by
  have h1 := List.length_pos_iff.2 hr
  unfold aiH at h
  split at h
  · cases h
  · cases h
    refine ⟨List.length_pos_iff.1 ?_, ?_⟩ <;> simp only [List.length_dropLast] <;> omega
theorem aEx {r r' : RunS} {e' : EnvP} (hr : r.stack ≠ []) (h : awT w e r = (.go r', e')) : r'.stack ≠ [] ∧ r'.stack.length ≤ r.stack.length + 1 := by
  obtain ⟨st, id, ch, lv, wt, c⟩ := r
  have hr : st ≠ [] := hr
  have hz : st ≠ [] ∧ st.length ≤ st.length + 1 := ⟨hr, Nat.le_succ _⟩
  unfold awT at h
  split at h
  · cases h
  cases c with
  | next =>
    simp only [ah3, awv] at h
    repeat' split at h
    all_goals cases h; exact hz
  | s2 s =>
    simp only [ah3] at h
    split at h <;> cases h <;> exact hz
  | s3 s =>
    simp only [ah3] at h
    split at h <;> cases h <;> exact hz
  | s4 s =>
    simp only [ah3] at h
    split at h <;> cases h <;> exact hz
  | s5 =>
    simp only [ah3] at h
    cases h
    split
    · refine ⟨by simp, ?_⟩
      simp only [List.length_append, List.length_singleton]; omega
    · exact hz
  | j2 => cases h; exact hz
  | j3 =>
    simp only [ah3] at h
    split at h <;> cases h <;> exact hz
  | j4 => cases h; exact hz
  | j5 s =>
    simp only [ah3] at h
    split at h
    · cases h; exact hz
    · exact alY hr h
  | j6 => cases h; exact hz
  | j7 => cases h; exact hz
  | f2 =>
    simp only [ah3] at h
    split at h
    · exact alY hr h
    · cases h; exact hz
  | f3 =>
    simp only [ah3] at h
    split at h
    · cases h; exact hz
    · exact alY (r := ⟨st, id, ch, lv, wi (wi (e.gt (agU e.l (aaJ st))) - 1), .f3⟩) hr h
  | f4 s =>
    simp only [ah3] at h
    split at h <;> cases h <;> exact hz
  | f5 v s =>
    simp only [ah3] at h
    split at h
    · cases h; exact hz
    · exact alY hr h
  | f6 =>
    simp only [ah3] at h
    split at h
    · cases h
      refine ⟨by simp, ?_⟩
      simp only [List.length_append, List.length_singleton, List.length_dropLast]; omega
    · exact alY hr h
theorem azR {cur vi lv x : Int} : aaj ⟨w, cur, 0, .nil, vi, lv, x⟩ e = aaj (ahW e.l w ⟨cur, vi, lv, x, aca w e ⟨cur, vi, lv, x, .top⟩⟩) e := by
  unfold aca
  by_cases ha : e.c.age = 0
  · simp only [ha, if_true, aaj, adR, aaf, afm, afF, bnd, if_false, Int.reduceEq, azH, Int.reduceLE, o0]
  · simp only [ha, if_false, aaj, adR, aaf, anh, amR, bnd, if_true, Int.reduceEq, Int.reduceLE, o0]
def awc (l : LayV) (w : Int) (res : Option ((Bool × Unit) × (WorkerV MV × EnvP × Unit))) (r : WorkS × EnvP) : Prop := res = some ((false, ()), (ahW l w r.1, r.2, ()))
theorem awc.ite {l : LayV} {c : Prop} [Decidable c] {a b : Option ((Bool × Unit) × (WorkerV MV × EnvP × Unit))} {r s : WorkS × EnvP} (h1 : c → awc l w a r) (h2 : ¬ c → awc l w b s) : awc l w (if c then a else b) (if c then r else s) := by
  by_cases h : c
  · rw [if_pos h, if_pos h]; exact h1 h
  · rw [if_neg h, if_neg h]; exact h2 h
theorem aow {c : Prop} [Decidable c] {x y : WorkS} {e : EnvP} : ((if c then x else y), e) = if c then (x, e) else (y, e) := by split <;> rfl
theorem aso (hK : EOk K e) (hk : K ≤ 100000000) (k : WorkS) (hc : k.c ≠ .top) (hW : ahT K (abO e) k) : awc e.l w (aaj (ahW e.l w k) e) (acU w e k) := by
  have hl : e.evs.length ≤ 999999999 := by have := hK.ev; omega
  obtain ⟨cur, vi, lv, x, c⟩ := k
  cases c with
  | top => exact absurd rfl hc
  | t1 t s =>
    have h := aw8 (w := w) (t := t) hK hk s
    revert h
    simp only [acU, aca, aaj, adz, bnd, Int.reduceEq, if_false]
    rcases abZ w t e s with ⟨r | ⟨c, y⟩, e'⟩ <;> intro h
    · simp only [aaV] at h
      simp only [h, bnd, Bool.not_false, if_true]
      rfl
    · simp only [aaV] at h
      obtain ⟨x', h, ho⟩ := h
      simp only [h, ho, abp, abJ, aaf, afm, afF, bnd, Bool.not_true, Bool.false_eq_true, if_true, if_false, Int.reduceEq, Int.reduceLE]
      rfl
  | t2 s =>
    have h := azG (w := w) hK hk s
    revert h
    simp only [acU, aca, aaj, adz, bnd, Int.reduceEq, if_false]
    rcases anG w e s with ⟨r | ⟨c, y⟩, e'⟩ <;> intro h
    · simp only [aaV] at h
      simp only [h, bnd, Bool.not_false, if_true]
      rfl
    · simp only [aaV] at h
      obtain ⟨x', h, ho⟩ := h
      simp only [tpI, tlI, h, ho, abp, abJ, ac2, aaf, alw, akc, bnd, Bool.not_true, Bool.false_eq_true, if_true, if_false, Int.reduceEq, Int.reduceLE, ab4, aow]
      exact awc.ite (fun _ => rfl) fun _ => rfl
  | t3 s =>
    have h := ayC (w := w) hK hk s hW
    revert h
    simp only [acU, aca, aaj, adz, bnd, Int.reduceEq, if_false]
    rcases aci w e s with ⟨r | ⟨c, y⟩, e'⟩ <;> intro h
    · simp only [aaV] at h
      simp only [h, bnd, Bool.not_false, if_true]
      rfl
    · simp only [aaV] at h
      obtain ⟨x', h, ho⟩ := h
      simp only [h, ho, abp, abJ, acm, aa8, acn, afm, afF, adp, amM, aaf, bnd, Bool.not_true, Bool.false_eq_true, if_true, if_false, Int.reduceEq, Int.reduceLE, ab4, aow]
      refine awc.ite (fun _ => rfl) fun _ => awc.ite (fun _ => rfl) fun _ => ?_
      unfold aAF
      by_cases h1 : e'.c.workers = 1
      · rw [if_pos h1, if_pos h1]; rfl
      · rw [if_neg h1, if_neg h1]; rfl
  | t4 s =>
    have h := axD (w := w) hK.wk s hW
    have hn := avk (e := e) (w := w) s
    revert h hn
    simp only [acU, aca, aaj, adz, bnd, Int.reduceEq, if_false]
    rcases anp w e s with ⟨r | ⟨c, y⟩, e'⟩ <;> intro h hn
    · simp only [aaV] at h
      simp only [h, bnd, Bool.not_false, if_true]
      rfl
    · simp only [aaV] at h
      obtain ⟨x', h, ho⟩ := h
      have hnl : e'.l = e.l := hn.l
      simp only [h, ho, abp, abJ, adt, adp, ajl, aaf, bnd, Bool.not_true, Bool.false_eq_true, if_true, if_false, Int.reduceEq, Int.reduceLE, ab4, aow, hnl]
      exact awc.ite (fun _ => rfl) fun _ => rfl
  | t5 s =>
    have h := axa (e := e) (hK.q vi lv) s
    have hn := au3 (e := e) (q := aaB e.l vi lv) s
    revert h hn
    simp only [acU, aca, aaj, adz, bnd, Int.reduceEq, if_false]
    rcases akw (aaB e.l vi lv) e s with ⟨r | ⟨c, y⟩, e'⟩ <;> intro h hn
    · simp only [aaV] at h
      simp only [h, bnd, Bool.not_false, if_true]
      rfl
    · simp only [aaV] at h
      obtain ⟨x', h, ho⟩ := h
      have hnl : e'.l = e.l := hn.l
      have hl' : e'.evs.length ≤ 999999999 := by have h1 : e'.evs.length ≤ e.evs.length + 0 := hn.ev; have := hK.ev; omega
      simp only [h, ho, abp, ady, acm, aaW, acn, agS, aes, ajl, ab2 hl', aaf, bnd, Bool.not_true, Bool.false_eq_true, if_true, if_false, Int.reduceEq, Int.reduceLE, ab4, hnl]
      exact awc.ite (fun _ => by simp only [awc, EnvP.em, hnl]) fun _ => awc.ite (fun _ => rfl) fun _ => rfl
  | t6 =>
    obtain ⟨x', h, ho⟩ := amf (w := w) (t := x) hl hK.st
    simp only [tpI, tlI, acU, aca, aaj, adz, h, abp, ac2, aaW, aaf, alw, bnd, Bool.not_true, Bool.false_eq_true, if_true, if_false, Int.reduceEq, Int.reduceLE]
    rcases Bool.eq_false_or_eq_true (ahO x e) with hc | hc
    · simp only [hc, if_true] at ho ⊢
      simp only [ho, if_true]
      rfl
    · simp only [hc, Bool.false_eq_true, if_false] at ho ⊢
      simp only [ho, Int.reduceEq, if_false]
      rfl
  | t7 s =>
    have h := aCv (w := w) hK hk s ⟨hW.1, by have := hW.2; omega⟩
    revert h
    simp only [acU, aca, aaj, adz, bnd, Int.reduceEq, if_false]
    rcases awT w e s with ⟨r | ⟨c, y⟩, e'⟩ <;> intro h
    · simp only [aaV] at h
      simp only [h, bnd, Bool.not_false, if_true]
      rfl
    · simp only [aaV] at h
      obtain ⟨x', h, ho⟩ := h
      simp only [h, ho, abp, aaW, bnd, Bool.not_true, Bool.false_eq_true, if_true, if_false, Int.reduceEq, Int.reduceLE]
      rfl
  | t8 s =>
    have h := axh (w := w) hl s
    revert h
    simp only [acU, aca, aaj, adz, bnd, Int.reduceEq, if_false]
    rcases aiB w e s with ⟨r | ⟨c, y⟩, e'⟩ <;> intro h
    · simp only [aaV] at h
      simp only [h, bnd, Bool.not_false, if_true]
      rfl
    · simp only [aaV] at h
      obtain ⟨x', h, ho⟩ := h
      simp only [h, ho, abp, aaW, bnd, Bool.not_true, Bool.false_eq_true, if_true, if_false, Int.reduceEq, Int.reduceLE]
      rfl
  | t9 s =>
    have h := asJ (e := e) (a := aaP e.l vi) (b := lv) (q := aaB e.l vi lv) s
    revert h
    simp only [acU, aca, aaj, adz, bnd, Int.reduceEq, if_false]
    rcases ahB (aaP e.l vi) lv (aaB e.l vi lv) e s with ⟨r | ⟨c, y⟩, e'⟩ <;> intro h
    · simp only [aaV] at h
      simp only [h, bnd, Bool.not_false, if_true]
      rfl
    · simp only [aaV] at h
      obtain ⟨x', h, ho⟩ := h
      simp only [h, ho, abp, aaW, bnd, Bool.not_true, Bool.false_eq_true, if_true, if_false, Int.reduceEq, Int.reduceLE]
      rfl
theorem aox {k : WorkS} : aca w e k ≠ .top := by
  unfold aca
  split
  · split <;> intro h <;> cases h
  · rename_i h
    intro h2
    exact h h2
theorem azy (hK : EOk K e) (hk : K ≤ 100000000) (k : WorkS) (hW : ahT K (abO e) k) : awc e.l w (aaj (ahW e.l w k) e) (acU w e k) := by
  obtain ⟨cur, vi, lv, x, c⟩ := k
  cases c with
  | top =>
    have h1 := aso (w := w) hK hk ⟨cur, vi, lv, x, aca w e ⟨cur, vi, lv, x, .top⟩⟩ (show aca w e ⟨cur, vi, lv, x, .top⟩ ≠ .top from aox) (by
      unfold aca
      simp only
      split <;> trivial)
    have h2 : acU w e ⟨cur, vi, lv, x, aca w e ⟨cur, vi, lv, x, .top⟩⟩ = acU w e ⟨cur, vi, lv, x, .top⟩ := by
      unfold aca
      simp only
      by_cases ha : e.c.age = 0
      · simp only [acU, aca, ha, if_true]
      · simp only [acU, aca, ha, if_false]
    rw [h2] at h1
    unfold awc at h1 ⊢
    rw [← h1]
    exact azR
  | _ => exact aso hK hk _ (fun h => by cases h) hW
end
@[reducible] def ayR (me id : Int) (s : Sub) : ClieC → Int × MV × Bool
  | .n1 => (1, .nil, true)
  | .a1 => (1, .attempt ⟨o0, me, false⟩, false)
  | .n2 => (2, .nil, true)
  | .n3 => (3, .nil, true)
  | .n4 => (4, .nil, true)
  | .n5 => (5, .nil, true)
  | .n6 => (6, .nil, true)
  | .a6 t => (6, .insert (arD s.deadline id t), false)
  | .n7 => (7, .nil, true)
  | .n8 => (8, .nil, true)
  | .n9 => (9, .nil, true)
  | .a9 t => (9, .wake (asr me s.level t), false)
@[reducible] def ar2 (subs : List Sub) (me : Int) (k : ClieS) : ClientV MV :=
  ⟨subs, me, k.i, (ayR me k.id (ab8 subs k.i) k.c).1, (ayR me k.id (ab8 subs k.i) k.c).2.1, (ayR me k.id (ab8 subs k.i) k.c).2.2, k.id, k.acc⟩
def aEb (subs : List Sub) (me : Int) (res : Option ((Bool × Unit) × (ClientV MV × EnvP × Unit))) (r : Bool × ClieS × EnvP) : Prop := res = some ((r.1, ()), (ar2 subs me r.2.1, r.2.2, ()))
def ap7 (subs : List Sub) (me i id ln : Int) : MV :=
  if ln = 1 then .attempt ⟨o0, me, false⟩ else if ln = 3 then .alloc ⟨o0⟩ else if ln = 6 then .insert ⟨o0, (ab8 subs i).deadline, id, 1, 0, 0, 0, 0⟩ else if ln = 8 then .release ⟨o0⟩ else if ln = 9 then .wake ⟨o0, me, (ab8 subs i).level, 1, 0, 0⟩ else .nil
section
variable [Tb] {K : Nat} {e : EnvP} {w : Int} {subs : List Sub} {me i id ln : Int} {m : MV} {f acc : Bool}
theorem ah9 (hi : 0 ≤ i ∧ i < (subs.length : Int)) (h : 1 ≤ ln ∧ ln ≤ 9) : ac0 ⟨subs, me, i, ln, m, f, id, acc⟩ = some ((ap7 subs me i id ln, ()), (⟨subs, me, i, ln, m, f, id, acc⟩, ())) := by
  unfold ac0
  simp only [hi, and_self, if_true, akU, aeJ, ahf, aff, acJ, bnd]
  rw [aaH (aao (show _ ∧ _ by omega)), if_pos (by simp only [List.length_cons, List.length_nil]; omega)]
  have hv : ln = 1 ∨ ln = 2 ∨ ln = 3 ∨ ln = 4 ∨ ln = 5 ∨ ln = 6 ∨ ln = 7 ∨ ln = 8 ∨ ln = 9 := by omega
  rcases hv with rfl | rfl | rfl | rfl | rfl | rfl | rfl | rfl | rfl <;> rfl
theorem axg (x : AttemptV) : (SR1.spl (MV.attempt x)).isNone = false := rfl
theorem aCh (x : AllocV) : (SR1.spl (MV.alloc x)).isNone = false := rfl
theorem axf (x : InsertV) : (SR1.spl (MV.insert x)).isNone = false := rfl
theorem aCg (x : ReleaseV) : (SR1.spl (MV.release x)).isNone = false := rfl
theorem axc (x : WakeV) : (SR1.spl (MV.wake x)).isNone = false := rfl
theorem aEb.ite {c : Prop} [Decidable c] {a b : Option ((Bool × Unit) × (ClientV MV × EnvP × Unit))} {r s : Bool × ClieS × EnvP} (h1 : c → aEb subs me a r) (h2 : ¬ c → aEb subs me b s) : aEb subs me (if c then a else b) (if c then r else s) := by
  by_cases h : c
  · rw [if_pos h, if_pos h]; exact h1 h
  · rw [if_neg h, if_neg h]; exact h2 h
theorem aBc (hK : EOk K e) (hk : K ≤ 100000000) (k : ClieS) (hi0 : 0 ≤ k.i) : aEb subs me (aas (ar2 subs me k) e) (awK subs me e k) := by
  have hl : e.evs.length ≤ 999999999 := by have := hK.ev; omega
  obtain ⟨i, id, acc, c⟩ := k
  have hi0 : 0 ≤ i := hi0
  unfold awK
  by_cases hov : (subs.length : Int) ≤ i
  · rw [if_pos hov]
    simp only [aas, aav, hov, decide_true, bnd, if_true]
    rfl
  rw [if_neg hov]
  have hi : 0 ≤ i ∧ i < (subs.length : Int) := by omega
  have hm : ∀ m v, adW { e with m := m } v = some ((), ({ e with m := m, evs := e.evs ++ [v] }, ())) := fun m v => ab2 (e := { e with m := m }) hl
  cases c with
  | n1 =>
    obtain ⟨dn, x', h, ho, hd, hx⟩ := arz (e := e) (w := me) (b := false)
    rw [Bool.or_false] at hd
    simp only [o0] at h hx
    simp only [ad4, aas, aav, hov, decide_false, bnd, Bool.not_true, Bool.not_false, Bool.false_eq_true, if_true, if_false, Int.reduceEq, ah9 hi (show (1 : Int) ≤ 1 ∧ (1 : Int) ≤ 9 by decide), ap7, axg, adz, abp, h]
    rcases Bool.eq_false_or_eq_true (e.hit 1 0) with hh | hh
    · rw [hh] at hd
      subst hd
      have ho := ho rfl
      simp only [hh, if_true] at ho ⊢
      simp only [ho, hi, and_self, aaT, aak, bnd, Bool.not_true, Bool.not_false, Bool.false_eq_true, if_true, if_false, Int.reduceEq]
      rfl
    · rw [hh] at hd
      subst hd
      have hx := hx rfl
      simp only [hh, hx, bnd, Bool.not_true, Bool.not_false, Bool.false_eq_true, if_true, if_false, Int.reduceEq]
      rfl
  | a1 =>
    obtain ⟨dn, x', h, ho, hd, hx⟩ := arz (e := e) (w := me) (b := false)
    rw [Bool.or_false] at hd
    simp only [o0] at h hx
    simp only [ad4, aas, aav, hov, decide_false, bnd, Bool.not_true, Bool.not_false, Bool.false_eq_true, if_true, if_false, Int.reduceEq, axg, adz, abp, h, o0]
    rcases Bool.eq_false_or_eq_true (e.hit 1 0) with hh | hh
    · rw [hh] at hd
      subst hd
      have ho := ho rfl
      simp only [hh, if_true] at ho ⊢
      simp only [ho, hi, and_self, aaT, aak, bnd, Bool.not_true, Bool.not_false, Bool.false_eq_true, if_true, if_false, Int.reduceEq]
      rfl
    · rw [hh] at hd
      subst hd
      have hx := hx rfl
      simp only [hh, hx, bnd, Bool.not_true, Bool.not_false, Bool.false_eq_true, if_true, if_false, Int.reduceEq]
      rfl
  | n2 =>
    simp only [ad4, aas, aav, hov, decide_false, bnd, Bool.not_true, Bool.not_false, Bool.false_eq_true, if_true, if_false, Int.reduceEq, ah9 hi (show (1 : Int) ≤ 2 ∧ (2 : Int) ≤ 9 by decide), ap7, akO, aa5, hi, and_self, af5, abt, abz, aak, hm]
    rw [ab4]
    exact aEb.ite (fun _ => rfl) fun _ => rfl
  | n3 =>
    obtain ⟨x', h, ho⟩ := atF (e := e)
    simp only [ad4, aas, aav, hov, decide_false, bnd, Bool.not_true, Bool.not_false, Bool.false_eq_true, if_true, if_false, Int.reduceEq, ah9 hi (show (1 : Int) ≤ 3 ∧ (3 : Int) ≤ 9 by decide), ap7, aCh, adz, abp, h, aaT, abz, aak, hi, and_self]
    by_cases ci : IsT e (wi (e.gt 0))
    · rw [if_pos ci] at ho ⊢
      have hv : 0 ≤ wi (e.gt 0) ∧ wi (e.gt 0) < ((aga e).recs.length : Int) := ⟨ci.1, by have := ci.2; have := hK.ct; show _ < (e.recs.length : Int); omega⟩
      simp only [ho, Int.reduceEq, if_false, hv, and_self, if_true]
      rfl
    · rw [if_neg ci] at ho ⊢
      simp only [ho, if_true, ab2 (e := aga e) hl, bnd]
      rfl
  | n4 =>
    simp only [ad4, aas, aav, hov, decide_false, bnd, Bool.not_true, Bool.not_false, Bool.false_eq_true, if_true, if_false, Int.reduceEq, ah9 hi (show (1 : Int) ≤ 4 ∧ (4 : Int) ≤ 9 by decide), ap7, akO, aa5, hi, and_self, afD, abo, aak]
    rfl
  | n5 =>
    simp only [ad4, aas, aav, hov, decide_false, bnd, Bool.not_true, Bool.not_false, Bool.false_eq_true, if_true, if_false, Int.reduceEq, ah9 hi (show (1 : Int) ≤ 5 ∧ (5 : Int) ≤ 9 by decide), ap7, akO, aa5, hi, and_self, ajj, arf, abo, aak]
    rfl
  | n6 =>
    have h := aqx (e := e) (d := (ab8 subs i).deadline) (t := id) .l1
    have hn := al5 (e := e) (d := (ab8 subs i).deadline) (t := id) .l1
    revert h hn
    simp only [ad4, aas, aav, hov, decide_false, bnd, Bool.not_true, Bool.not_false, Bool.false_eq_true, if_true, if_false, Int.reduceEq, ah9 hi (show (1 : Int) ≤ 6 ∧ (6 : Int) ≤ 9 by decide), ap7, axf, adz, abp, o0]
    rcases adL (ab8 subs i).deadline id e .l1 with ⟨r | ⟨c, y⟩, e'⟩ <;> intro h hn
    · simp only [aaV, o0] at h
      simp only [h, bnd, Bool.not_false, if_true]
      rfl
    · simp only [aaV, o0] at h
      obtain ⟨x', h, ho⟩ := h
      have hl' : e'.evs.length ≤ 999999999 := by have h1 : e'.evs.length ≤ e.evs.length + 0 := hn.ev; have := hK.ev; omega
      simp only [h, ho, aaT, aak, hi, and_self, ab2 hl', bnd, Bool.not_true, Bool.not_false, Bool.false_eq_true, if_true, if_false, Int.reduceEq, ne_eq]
      by_cases hc : c = 0
      · simp only [hc, not_true, if_true, if_false]; rfl
      · simp only [hc, not_false_eq_true, if_true, if_false]; rfl
  | a6 t =>
    have h := aqx (e := e) (d := (ab8 subs i).deadline) (t := id) t
    have hn := al5 (e := e) (d := (ab8 subs i).deadline) (t := id) t
    revert h hn
    simp only [ad4, aas, aav, hov, decide_false, bnd, Bool.not_true, Bool.not_false, Bool.false_eq_true, if_true, if_false, Int.reduceEq, axf, adz, abp]
    rcases adL (ab8 subs i).deadline id e t with ⟨r | ⟨c, y⟩, e'⟩ <;> intro h hn
    · simp only [aaV] at h
      simp only [h, bnd, Bool.not_false, if_true]
      rfl
    · simp only [aaV] at h
      obtain ⟨x', h, ho⟩ := h
      have hl' : e'.evs.length ≤ 999999999 := by have h1 : e'.evs.length ≤ e.evs.length + 0 := hn.ev; have := hK.ev; omega
      simp only [h, ho, aaT, aak, hi, and_self, ab2 hl', bnd, Bool.not_true, Bool.not_false, Bool.false_eq_true, if_true, if_false, Int.reduceEq, ne_eq]
      by_cases hc : c = 0
      · simp only [hc, not_true, if_true, if_false]; rfl
      · simp only [hc, not_false_eq_true, if_true, if_false]; rfl
  | n7 =>
    simp only [ad4, aas, aav, hov, decide_false, bnd, Bool.not_true, Bool.not_false, Bool.false_eq_true, if_true, if_false, Int.reduceEq, ah9 hi (show (1 : Int) ≤ 7 ∧ (7 : Int) ≤ 9 by decide), ap7, akO, aa5, hi, and_self, aeN, abo, aak]
    rfl
  | n8 =>
    obtain ⟨x', h, ho⟩ := avQ (e := e)
    simp only [ad4, aas, aav, hov, decide_false, bnd, Bool.not_true, Bool.not_false, Bool.false_eq_true, if_true, if_false, Int.reduceEq, ah9 hi (show (1 : Int) ≤ 8 ∧ (8 : Int) ≤ 9 by decide), ap7, aCg, adz, abp, h, aaT, acE, aav, aak, hi, and_self]
    cases acc <;> rfl
  | n9 =>
    have h := alb (e := e) (w := me) (v := (ab8 subs i).level) hl (.l1 0)
    revert h
    simp only [ad4, aas, aav, hov, decide_false, bnd, Bool.not_true, Bool.not_false, Bool.false_eq_true, if_true, if_false, Int.reduceEq, ah9 hi (show (1 : Int) ≤ 9 ∧ (9 : Int) ≤ 9 by decide), ap7, axc, adz, abp, o0]
    rcases afy me (ab8 subs i).level e (.l1 0) with ⟨r | ⟨c, y⟩, e'⟩ <;> intro h
    · simp only [aaV, o0] at h
      simp only [h, bnd, Bool.not_false, if_true]
      rfl
    · simp only [aaV, o0] at h
      obtain ⟨x', h, ho⟩ := h
      simp only [h, ho, aaT, acE, aav, aak, hi, and_self, bnd, Bool.not_true, Bool.not_false, Bool.false_eq_true, if_true, if_false, Int.reduceEq]
      rfl
  | a9 t =>
    have h := alb (e := e) (w := me) (v := (ab8 subs i).level) hl t
    revert h
    simp only [ad4, aas, aav, hov, decide_false, bnd, Bool.not_true, Bool.not_false, Bool.false_eq_true, if_true, if_false, Int.reduceEq, axc, adz, abp]
    rcases afy me (ab8 subs i).level e t with ⟨r | ⟨c, y⟩, e'⟩ <;> intro h
    · simp only [aaV] at h
      simp only [h, bnd, Bool.not_false, if_true]
      rfl
    · simp only [aaV] at h
      obtain ⟨x', h, ho⟩ := h
      simp only [h, ho, aaT, acE, aav, aak, hi, and_self, bnd, Bool.not_true, Bool.not_false, Bool.false_eq_true, if_true, if_false, Int.reduceEq]
      rfl
theorem anl (hK : EOk K e) (k : WorkS) (hc : k.c ≠ .top) : Stp 2 e (acU w e k).2 := by
  obtain ⟨cur, vi, lv, x, c⟩ := k
  cases c with
  | top => exact absurd rfl hc
  | t1 t s =>
    have h := azI (e := e) (w := w) (t := t) s
    revert h
    simp only [acU, aca]
    rcases abZ w t e s with ⟨r | ⟨c, y⟩, e'⟩ <;> intro h
    · exact h.le (by decide)
    · exact h.le (by decide)
  | t2 s =>
    have h := aBZ (w := w) (fun t => hK.st) s
    revert h
    simp only [acU, aca]
    rcases anG w e s with ⟨r | ⟨c, y⟩, e'⟩ <;> intro h
    · exact h.le (by decide)
    · exact h.le (by decide)
  | t3 s =>
    have h := aAY (e := e) (w := w) s
    revert h
    simp only [acU, aca]
    rcases aci w e s with ⟨r | ⟨c, y⟩, e'⟩ <;> intro h
    · exact h.le (by decide)
    · exact h.le (by decide)
  | t4 s =>
    have h := avk (e := e) (w := w) s
    revert h
    simp only [acU, aca]
    rcases anp w e s with ⟨r | ⟨c, y⟩, e'⟩ <;> intro h
    · exact h.le (by decide)
    · exact h.le (by decide)
  | t5 s =>
    have h := au3 (e := e) (q := aaB e.l vi lv) s
    revert h
    simp only [acU, aca]
    rcases akw (aaB e.l vi lv) e s with ⟨r | ⟨c, y⟩, e'⟩ <;> intro h
    · exact h.le (by decide)
    · simp only
      split
      · exact Stp.le (Stp.em h) (by decide)
      · split <;> exact Stp.le h (by decide)
  | t6 => exact (amg (w := w) (t := x) hK.st).le (by decide)
  | t7 s =>
    have h := aEy (w := w) hK s
    revert h
    simp only [acU, aca]
    rcases awT w e s with ⟨r | ⟨c, y⟩, e'⟩ <;> intro h
    · exact h.le (by decide)
    · exact h.le (by decide)
  | t8 s =>
    have h := azU (e := e) (w := w) s
    revert h
    simp only [acU, aca]
    rcases aiB w e s with ⟨r | ⟨c, y⟩, e'⟩ <;> intro h
    · exact h.le (by decide)
    · exact h.le (by decide)
  | t9 s =>
    have h := avc (e := e) (a := aaP e.l vi) (b := lv) (q := aaB e.l vi lv) s
    revert h
    simp only [acU, aca]
    rcases ahB (aaP e.l vi) lv (aaB e.l vi lv) e s with ⟨r | ⟨c, y⟩, e'⟩ <;> intro h
    · exact h.le (by decide)
    · exact h.le (by decide)
theorem asp {cur vi lv x : Int} : acU w e ⟨cur, vi, lv, x, aca w e ⟨cur, vi, lv, x, .top⟩⟩ = acU w e ⟨cur, vi, lv, x, .top⟩ := by
  unfold aca
  simp only
  by_cases ha : e.c.age = 0
  · simp only [acU, aca, ha, if_true]
  · simp only [acU, aca, ha, if_false]
theorem aBS (hK : EOk K e) (k : WorkS) : Stp 2 e (acU w e k).2 := by
  obtain ⟨cur, vi, lv, x, c⟩ := k
  cases c with
  | top =>
    rw [← asp]
    exact anl hK _ (show aca w e ⟨cur, vi, lv, x, .top⟩ ≠ .top from aox)
  | _ => exact anl hK _ (fun h => by cases h)
theorem ank (hK : EOk K e) (k : WorkS) (hc : k.c ≠ .top) (hW : ahT K (abO e) k) (hK1 : 1 ≤ K) : ahT (K + 1) (abO e) (acU w e k).1 := by
  obtain ⟨cur, vi, lv, x, c⟩ := k
  have hr0 : ∀ t, aFT (K + 1) (aEB t) := fun t => ⟨by simp [aEB], by simp [aEB]⟩
  cases c with
  | top => exact absurd rfl hc
  | t1 t s =>
    simp only [acU, aca]
    split <;> trivial
  | t2 s =>
    simp only [acU, aca]
    split
    · trivial
    · simp only
      split
      · exact hr0 _
      · exact (rfl : aBL.direct = false)
  | t3 s =>
    simp only [acU, aca]
    split
    · rename_i h; exact aAX hW h
    · simp only
      split
      · trivial
      · split
        · trivial
        · unfold ahT aAF
          simp only
          split <;> first | trivial | (rename_i h; split at h <;> cases h; trivial) | (rename_i h; split at h <;> cases h)
  | t4 s =>
    simp only [acU, aca]
    split
    · rename_i h; exact az9 hK.wk hW h
    · simp only
      split <;> trivial
  | t5 s =>
    simp only [acU, aca]
    split
    · trivial
    · split
      · trivial
      · split <;> trivial
  | t6 =>
    simp only [acU, aca]
    split
    · exact hr0 _
    · trivial
  | t7 s =>
    simp only [acU, aca]
    split
    · rename_i h
      have h1 := aEx hW.1 h
      exact ⟨h1.1, by have := hW.2; omega⟩
    · trivial
  | t8 s =>
    simp only [acU, aca]
    split <;> trivial
  | t9 s =>
    simp only [acU, aca]
    split <;> trivial
theorem aBR (hK : EOk K e) (k : WorkS) (hW : ahT K (abO e) k) (hK1 : 1 ≤ K) : ahT (K + 1) (abO e) (acU w e k).1 := by
  obtain ⟨cur, vi, lv, x, c⟩ := k
  cases c with
  | top =>
    rw [← asp]
    refine ank hK _ (show aca w e ⟨cur, vi, lv, x, .top⟩ ≠ .top from aox) ?_ hK1
    unfold aca
    simp only
    split <;> trivial
  | _ => exact ank hK _ (fun h => by cases h) hW hK1
theorem aDO (hK : EOk K e) (k : ClieS) : Stp 2 e (awK subs me e k).2.2 := by
  obtain ⟨i, id, acc, c⟩ := k
  unfold awK
  split
  · exact Stp.refl.le (by decide)
  cases c with
  | n1 => exact Stp.le auo (by decide)
  | a1 => exact Stp.le auo (by decide)
  | n2 =>
    simp only [ad4]
    split
    · exact Stp.le (Stp.em Stp.lk) (by decide)
    · exact Stp.le Stp.lk (by decide)
  | n3 =>
    simp only [ad4]
    split
    · exact Stp.le (Stp.pr aou fun K h => Nat.zero_le _) (by decide)
    · exact Stp.le (Stp.em aou) (by decide)
  | n4 => exact Stp.le (Stp.pt (by decide)) (Nat.zero_le _)
  | n5 => exact Stp.le (Stp.pt (by decide)) (Nat.zero_le _)
  | n6 =>
    have h := al5 (e := e) (d := (ab8 subs i).deadline) (t := id) .l1
    revert h
    simp only [ad4]
    rcases adL (ab8 subs i).deadline id e .l1 with ⟨r | ⟨c, y⟩, e'⟩ <;> intro h
    · exact Stp.le h (by decide)
    · simp only
      split
      · exact Stp.le (Stp.em h) (by decide)
      · exact Stp.le h (by decide)
  | a6 t =>
    have h := al5 (e := e) (d := (ab8 subs i).deadline) (t := id) t
    revert h
    simp only [ad4]
    rcases adL (ab8 subs i).deadline id e t with ⟨r | ⟨c, y⟩, e'⟩ <;> intro h
    · exact Stp.le h (by decide)
    · simp only
      split
      · exact Stp.le (Stp.em h) (by decide)
      · exact Stp.le h (by decide)
  | n7 => exact Stp.le (Stp.pt (by decide)) (Nat.zero_le _)
  | n8 =>
    simp only [ad4]
    split
    · exact Stp.le auw (by decide)
    · exact Stp.le (show Stp 0 e (ayQ subs _ (aux e)).2.2 from auw) (by decide)
  | n9 =>
    have h := aoy (e := e) (w := me) (v := (ab8 subs i).level) (.l1 0)
    revert h
    simp only [ad4]
    rcases afy me (ab8 subs i).level e (.l1 0) with ⟨r | ⟨c, y⟩, e'⟩ <;> intro h <;> exact Stp.le h (by decide)
  | a9 t =>
    have h := aoy (e := e) (w := me) (v := (ab8 subs i).level) t
    revert h
    simp only [ad4]
    rcases afy me (ab8 subs i).level e t with ⟨r | ⟨c, y⟩, e'⟩ <;> intro h <;> exact Stp.le h (by decide)
end
end
section
open Go
variable [Tb]
theorem ahr (b : List Int) (l : List (List Int)) (hl : l.length ≤ 1000000) : aaK (apq b l) fun o => o.1.1 = true → b.length ≤ 400 ∧ ∀ x ∈ l, x.length ≤ 400 := by
  unfold apq
  refine aaK.bind (P := fun z => (∀ o, z = .inr o → o.1.1 = false) ∧ (∀ y, z = .inl y → ∀ x ∈ l, x.length ≤ 400)) (acd (fun x => 0 ≤ x.1 ∧ x.1 ≤ (l.length : Int) ∧ ∀ i : Nat, (i : Int) < x.1 → ∀ y, l[i]? = some y → y.length ≤ 400) (fun x => ((l.length : Int) - x.1).toNat) (fun self x ⟨q0, q1, q2⟩ ih => ?_) _ _ ⟨Int.le_refl 0, by show (0 : Int) ≤ (l.length : Int); omega, fun i hi => by omega⟩ (by show ((l.length : Int) - 0).toNat < _; omega)) fun z hz => ?_
  rotate_left
  · have e2 : wi (x.1 + 1) = x.1 + 1 := aaH (aao (by omega))
    rw [e2]
    refine aaK.ite (fun hlt => .guard ⟨q0, hlt⟩ fun _ => aaK.ite (fun _ => .some_ ⟨fun o e => (by cases e; rfl), fun y e => (by cases e)⟩) fun h4 => ih _ ⟨by show 0 ≤ x.1 + 1; omega, by show x.1 + 1 ≤ (l.length : Int); omega, fun i hi y hy => ?_⟩ (by show ((l.length : Int) - (x.1 + 1)).toNat < ((l.length : Int) - x.1).toNat; omega)) fun hlt => .some_ ⟨fun o e => (by cases e), fun y e x' hx' => ?_⟩
    · by_cases hi2 : (i : Int) < x.1
      · exact q2 i hi2 y hy
      · have hi3 : i = x.1.toNat := by have : (i : Int) < x.1 + 1 := hi; omega
        have h5 := aep (d := ([] : List Int)) (xs := l) (i := x.1) ⟨q0, hlt⟩
        rw [hi3, h5] at hy
        cases hy
        omega
    · obtain ⟨i, hi, rfl⟩ := List.getElem_of_mem hx'
      exact q2 i (by omega) _ (List.getElem?_eq_getElem hi)
  · rcases z with y | o
    · refine .some_ fun e => ⟨?_, hz.2 y rfl⟩
      have : ((b.length : Nat) : Int) ≤ 400 := of_decide_eq_true e
      omega
    · exact .some_ fun e => by rw [hz.1 o rfl] at e; cases e
structure DecOk (c : Cfg) : Prop where
  w : 1 ≤ c.workers ∧ c.workers ≤ 4
  l : 1 ≤ c.levels ∧ c.levels ≤ 4
  k : 1 ≤ c.classes ∧ c.classes ≤ 3 ∧ c.classes ≤ c.levels
  t : 1 ≤ c.tasks ∧ c.tasks ≤ 12
  q : 1 ≤ c.deque ∧ c.deque ≤ 4
  h : 1 ≤ c.heap ∧ c.heap ≤ 4
  b : 1 ≤ c.batch ∧ c.batch ≤ c.deque
  a : 0 ≤ c.age ∧ c.age ≤ 5
  p : 1 ≤ c.patience ∧ c.patience ≤ 8
  pn : 1 ≤ c.progs.length ∧ c.progs.length ≤ 4
  pl : ∀ x ∈ c.progs, x.length ≤ 5
  ps : ∀ x ∈ c.progs, ∀ i ∈ x, (i.op = 0 ∧ 1 ≤ i.a ∧ i.a ≤ 4 ∧ i.b = 0) ∨ (i.op = 1 ∧ 0 ≤ i.a ∧ i.a < (c.progs.length : Int) ∧ 0 ≤ i.b ∧ i.b < c.levels) ∨ (i.op = 2 ∧ 0 ≤ i.a ∧ i.a ≤ 3 ∧ i.b = 0)
  sn : c.subs.length ≤ 5
  ss : ∀ s ∈ c.subs, (0 ≤ s.prog ∧ s.prog < (c.progs.length : Int)) ∧ (0 ≤ s.level ∧ s.level < c.levels) ∧ 0 ≤ s.deadline ∧ s.deadline ≤ 15
structure CodOk (N : Int) (r : CodV) : Prop where
  by_ : ∀ x ∈ r.inn, 0 ≤ x ∧ x ≤ 255
  ln : r.inn.length ≤ 1000000
  at_ : 0 ≤ r.at_ ∧ r.at_ ≤ N
theorem ab3 {N : Int} {r : CodV} {k : Int} (h : CodOk N r) (hN : N ≤ 1000000) (h1 : 1 ≤ k) (h2 : k ≤ 1000) : aaK (abw r k) fun o => (0 ≤ o.1.1 ∧ o.1.1 < k) ∧ CodOk (N + 1) o.2.1 := by
  have ha := h.at_
  have e1 : wi (r.at_ + 1) = r.at_ + 1 := aaH (aao (by omega))
  unfold abw
  rw [e1]
  refine aaK.ite (fun hlt => .guard ⟨ha.1, hlt⟩ fun _ => .guard (by omega) fun _ => .some_ ⟨?_, h.by_, h.ln, by show 0 ≤ r.at_ + 1; omega, by show r.at_ + 1 ≤ N + 1; omega⟩) fun _ => .some_ ⟨⟨Int.le_refl 0, by show (0 : Int) < k; omega⟩, h.by_, h.ln, by show 0 ≤ r.at_ + 1; omega, by show r.at_ + 1 ≤ N + 1; omega⟩
  have hb := h.by_ _ (awN (d := dfR 17) (xs := r.inn) (i := r.at_) ⟨ha.1, hlt⟩)
  have e2 : wi (aiW r.inn r.at_) = aiW r.inn r.at_ := aaH (aao (x := aiW r.inn r.at_) ⟨by have := hb.1; exact Int.le_trans (by decide) this, by have := hb.2; exact Int.le_trans this (by decide)⟩)
  rw [e2]
  exact aqO h1 hb.1
theorem CodOk.up {N M : Int} {r : CodV} (h : CodOk N r) (hl : N ≤ M) : CodOk M r := ⟨h.by_, h.ln, h.at_.1, by have := h.at_; omega⟩
def auQ (n lv : Int) (i : Ins) : Prop := (i.op = 0 ∧ 1 ≤ i.a ∧ i.a ≤ 4 ∧ i.b = 0) ∨ (i.op = 1 ∧ 0 ≤ i.a ∧ i.a < n ∧ 0 ≤ i.b ∧ i.b < lv) ∨ (i.op = 2 ∧ 0 ≤ i.a ∧ i.a ≤ 3 ∧ i.b = 0)
def aG8 (n lv : Int) (s : Sub) : Prop := (0 ≤ s.prog ∧ s.prog < n) ∧ (0 ≤ s.level ∧ s.level < lv) ∧ 0 ≤ s.deadline ∧ s.deadline ≤ 15
structure NumOk (c : Cfg) : Prop where
  w : 1 ≤ c.workers ∧ c.workers ≤ 4
  l : 1 ≤ c.levels ∧ c.levels ≤ 4
  k : 1 ≤ c.classes ∧ c.classes ≤ 3 ∧ c.classes ≤ c.levels
  t : 1 ≤ c.tasks ∧ c.tasks ≤ 12
  q : 1 ≤ c.deque ∧ c.deque ≤ 4
  h : 1 ≤ c.heap ∧ c.heap ≤ 4
  b : 1 ≤ c.batch ∧ c.batch ≤ c.deque
  a : 0 ≤ c.age ∧ c.age ≤ 5
  p : 1 ≤ c.patience ∧ c.patience ≤ 8
theorem w1p {x : Int} (h : 0 ≤ x) (h2 : x ≤ 1000000) : wi (1 + x) = 1 + x := aaH (aao (by omega))
theorem auC {b : List Int} (hb : ∀ x ∈ b, 0 ≤ x ∧ x ≤ 255) (hl : b.length ≤ 1000000) : aaK (aod b) fun o => DecOk o.1.1 := by
  unfold aod
  refine (ab3 (N := 0) (k := 4) ⟨hb, hl, Int.le_refl 0, Int.le_refl 0⟩ (by decide) (by decide) (by decide)).bind fun r1 h1 => ?_
  refine (ab3 (k := 4) h1.2 (by decide) (by decide) (by decide)).bind fun r2 h2 => ?_
  have w1 := w1p h1.1.1 (by omega)
  have w2 := w1p h2.1.1 (by omega)
  rw [w1, w2]
  refine (ab3 h2.2 (by decide) (by split <;> omega) (by split <;> omega)).bind fun r3 h3 => ?_
  refine (ab3 (k := 12) h3.2 (by decide) (by decide) (by decide)).bind fun r4 h4 => ?_
  refine (ab3 (k := 4) h4.2 (by decide) (by decide) (by decide)).bind fun r5 h5 => ?_
  refine (ab3 (k := 4) h5.2 (by decide) (by decide) (by decide)).bind fun r6 h6 => ?_
  have h3' : r3.1.1 < 3 ∧ r3.1.1 < 1 + r2.1.1 := by
    have := h3.1.2
    split at this <;> omega
  have w3 := w1p h3.1.1 (by omega)
  have w4 := w1p h4.1.1 (by omega)
  have w5 := w1p h5.1.1 (by omega)
  have w6 := w1p h6.1.1 (by omega)
  rw [w3, w4, w5, w6]
  refine (ab3 h6.2 (by decide) (by omega) (by omega)).bind fun r7 h7 => ?_
  refine (ab3 (k := 6) h7.2 (by decide) (by decide) (by decide)).bind fun r8 h8 => ?_
  refine (ab3 (k := 8) h8.2 (by decide) (by decide) (by decide)).bind fun r9 h9 => ?_
  refine (ab3 (k := 4) h9.2 (by decide) (by decide) (by decide)).bind fun r10 h10 => ?_
  have w7 := w1p h7.1.1 (by omega)
  have w9 := w1p h9.1.1 (by omega)
  have w10 := w1p h10.1.1 (by omega)
  rw [w7, w9, w10]
  refine aaK.bind (P := fun z => CodOk 1000 z.2.1 ∧ NumOk z.2.2.1 ∧ z.2.2.1.levels = 1 + r2.1.1 ∧ (z.2.2.1.progs.length : Int) = 1 + r10.1.1 ∧ (∀ p ∈ z.2.2.1.progs, p.length ≤ 5 ∧ ∀ i ∈ p, auQ (1 + r10.1.1) (1 + r2.1.1) i) ∧ z.2.2.1.subs = [])
    (acd (fun x => 0 ≤ x.1 ∧ x.1 ≤ 1 + r10.1.1 ∧ CodOk (10 + 30 * x.1) x.2.1 ∧ NumOk x.2.2.1 ∧ x.2.2.1.levels = 1 + r2.1.1 ∧ (x.2.2.1.progs.length : Int) = x.1 ∧ (∀ p ∈ x.2.2.1.progs, p.length ≤ 5 ∧ ∀ i ∈ p, auQ (1 + r10.1.1) (1 + r2.1.1) i) ∧ x.2.2.1.subs = [])
      (fun x => (1 + r10.1.1 - x.1).toNat) (fun self x ⟨q0, q1, q2, q3, q4, q5, q6, q7⟩ ih => ?step) _ _ ⟨Int.le_refl 0, by show (0 : Int) ≤ 1 + r10.1.1; omega, h10.2, ?num, rfl, rfl, fun p hp => (by cases hp), rfl⟩ (by show (1 + r10.1.1 - 0).toNat < _; omega)) fun z hz => ?cont
  case step =>
    have f1 : wi (x.1 + 1) = x.1 + 1 := aaH (aao (by omega))
    refine aaK.ite (fun hlt => ?_) fun hlt => .some_ ⟨q2.up (by omega), q3, q4, by show (x.2.2.1.progs.length : Int) = _; omega, q6, q7⟩
    have hlen : (x.2.2.1.progs.length : Int) < 10 := by omega
    rw [f1]
    refine (ab3 (k := 6) q2 (by omega) (by decide) (by decide)).bind fun r14 h14 => ?_
    refine aaK.bind (P := fun z => z.1.length ≤ 5 ∧ (∀ i ∈ z.1, auQ (1 + r10.1.1) (1 + r2.1.1) i) ∧ CodOk (10 + 30 * x.1 + 26) z.2.2.1)
      (acd (fun y => 0 ≤ y.2.1 ∧ (y.1.length : Int) + y.2.1 = r14.1.1 ∧ CodOk (10 + 30 * x.1 + 1 + 5 * (r14.1.1 - y.2.1)) y.2.2.1 ∧ ∀ i ∈ y.1, auQ (1 + r10.1.1) (1 + r2.1.1) i)
        (fun y => y.2.1.toNat) (fun self y ⟨p0, p1, p2, p3⟩ ih => ?_) _ _ ⟨h14.1.1, by show ((0 : Nat) : Int) + r14.1.1 = _; omega, h14.2.up (by show 10 + 30 * x.1 + 1 ≤ 10 + 30 * x.1 + 1 + 5 * (r14.1.1 - r14.1.1); omega), fun i hi => (by cases hi)⟩ (by show r14.1.1.toNat < _; omega)) fun z hz => ?_
    · refine .guard (by show (((x.2.2.1.progs.length + 1 : Nat)) : Int) < _; omega) fun _ => ih _ ⟨by show 0 ≤ x.1 + 1; omega, by show x.1 + 1 ≤ _; omega, hz.2.2.up (by show 10 + 30 * x.1 + 26 ≤ 10 + 30 * (x.1 + 1); omega), ⟨q3.w, q3.l, q3.k, q3.t, q3.q, q3.h, q3.b, q3.a, q3.p⟩, q4, ?_, ?_, q7⟩ ?_
      · show (((x.2.2.1.progs ++ [z.1]).length : Nat) : Int) = x.1 + 1
        rw [List.length_append, List.length_singleton]; omega
      · intro p hp
        rcases List.mem_append.1 hp with hp | hp
        · exact q6 p hp
        · rw [List.mem_singleton] at hp; subst hp; exact ⟨hz.1, hz.2.1⟩
      · show (1 + r10.1.1 - (x.1 + 1)).toNat < (1 + r10.1.1 - x.1).toNat
        omega
    · have f2 : wi (y.2.1 - 1) = y.2.1 - 1 := aaH (aao (by omega))
      have hyl : y.1.length ≤ 5 := by omega
      refine aaK.ite (fun hlt2 => ?_) fun hlt2 => .some_ ⟨hyl, p3, p2.up (by omega)⟩
      rw [f2, q4]
      have nx : ∀ (u : Ins) (r : CodV), auQ (1 + r10.1.1) (1 + r2.1.1) u → CodOk (10 + 30 * x.1 + 1 + 5 * (r14.1.1 - (y.2.1 - 1))) r → aaK (if (((y.1.length + ([u] : List Ins).length : Nat)) : Int) < 1000000000000 then self (y.1 ++ [u], y.2.1 - 1, r, ()) else none) fun z => z.1.length ≤ 5 ∧ (∀ i ∈ z.1, auQ (1 + r10.1.1) (1 + r2.1.1) i) ∧ CodOk (10 + 30 * x.1 + 26) z.2.2.1 := fun u r hu hr =>
        .guard (by show (((y.1.length + 1 : Nat)) : Int) < _; omega) fun _ => ih _ ⟨by show 0 ≤ y.2.1 - 1; omega, by
          show (((y.1 ++ [u]).length : Nat) : Int) + (y.2.1 - 1) = _
          rw [List.length_append, List.length_singleton]; omega, hr, fun i hi => by
          rcases List.mem_append.1 hi with hi | hi
          · exact p3 i hi
          · rw [List.mem_singleton] at hi; subst hi; exact hu⟩ (by show (y.2.1 - 1).toNat < y.2.1.toNat; omega)
      refine (ab3 (k := 3) p2 (by omega) (by decide) (by decide)).bind fun r18 h18 => ?_
      refine aaK.ite (fun e0 => ?_) fun e0 => aaK.ite (fun e1 => ?_) fun e1 => ?_
      · refine (ab3 (k := 4) h18.2 (by omega) (by decide) (by decide)).bind fun r19 h19 => ?_
        rw [w1p h19.1.1 (by omega)]
        exact nx _ _ (.inl ⟨e0, by show 1 ≤ 1 + r19.1.1; omega, by show 1 + r19.1.1 ≤ 4; omega, rfl⟩) (h19.2.up (by omega))
      · refine (ab3 (k := 1 + r10.1.1) h18.2 (by omega) (by omega) (by omega)).bind fun r20 h20 => ?_
        refine (ab3 (k := 1 + r2.1.1) h20.2 (by omega) (by omega) (by omega)).bind fun r21 h21 => ?_
        exact nx _ _ (.inr (.inl ⟨e1, h20.1.1, h20.1.2, h21.1.1, h21.1.2⟩)) (h21.2.up (by omega))
      · refine (ab3 (k := 4) h18.2 (by omega) (by decide) (by decide)).bind fun r22 h22 => ?_
        exact nx _ _ (.inr (.inr ⟨by show r18.1.1 = 2; omega, h22.1.1, by show r22.1.1 ≤ 3; omega, rfl⟩)) (h22.2.up (by omega))
  case num =>
    refine ⟨?_, ?_, ?_, ?_, ?_, ?_, ?_, ?_, ?_⟩
    · exact ⟨by show 1 ≤ 1 + r1.1.1; omega, by show 1 + r1.1.1 ≤ 4; omega⟩
    · exact ⟨by show 1 ≤ 1 + r2.1.1; omega, by show 1 + r2.1.1 ≤ 4; omega⟩
    · exact ⟨by show 1 ≤ 1 + r3.1.1; omega, by show 1 + r3.1.1 ≤ 3; omega, by show 1 + r3.1.1 ≤ 1 + r2.1.1; omega⟩
    · exact ⟨by show 1 ≤ 1 + r4.1.1; omega, by show 1 + r4.1.1 ≤ 12; omega⟩
    · exact ⟨by show 1 ≤ 1 + r5.1.1; omega, by show 1 + r5.1.1 ≤ 4; omega⟩
    · exact ⟨by show 1 ≤ 1 + r6.1.1; omega, by show 1 + r6.1.1 ≤ 4; omega⟩
    · exact ⟨by show 1 ≤ 1 + r7.1.1; omega, by show 1 + r7.1.1 ≤ 1 + r5.1.1; omega⟩
    · exact ⟨h8.1.1, by show r8.1.1 ≤ 5; omega⟩
    · exact ⟨by show 1 ≤ 1 + r9.1.1; omega, by show 1 + r9.1.1 ≤ 8; omega⟩
  case cont =>
    obtain ⟨g1, g2, g3, g4, g5, g6⟩ := hz
    refine (ab3 (k := 6) g1 (by decide) (by decide) (by decide)).bind fun r23 h23 => ?_
    refine aaK.bind (P := fun y => DecOk y.2.2.1)
      (acd (fun y => 0 ≤ y.1 ∧ (y.2.2.1.subs.length : Int) + y.1 = r23.1.1 ∧ CodOk (1001 + 5 * (r23.1.1 - y.1)) y.2.1 ∧ NumOk y.2.2.1 ∧ y.2.2.1.levels = 1 + r2.1.1 ∧ (y.2.2.1.progs.length : Int) = 1 + r10.1.1 ∧ (∀ p ∈ y.2.2.1.progs, p.length ≤ 5 ∧ ∀ i ∈ p, auQ (1 + r10.1.1) (1 + r2.1.1) i) ∧ ∀ s ∈ y.2.2.1.subs, aG8 (1 + r10.1.1) (1 + r2.1.1) s)
        (fun y => y.1.toNat) (fun self y ⟨p0, p1, p2, p3, p4, p5, p6, p7⟩ ih => ?_) _ _ ⟨h23.1.1, by show ((z.2.2.1.subs.length : Nat) : Int) + r23.1.1 = r23.1.1; rw [g6]; show ((0 : Nat) : Int) + r23.1.1 = r23.1.1; omega, h23.2.up (by show (1001 : Int) ≤ 1001 + 5 * (r23.1.1 - r23.1.1); omega), g2, g3, g4, g5, fun s hs => by
          have hs2 : s ∈ z.2.2.1.subs := hs
          rw [g6] at hs2; cases hs2⟩ (by show r23.1.1.toNat < _; omega)) fun y hy => .some_ hy
    have f2 : wi (y.1 - 1) = y.1 - 1 := aaH (aao (by omega))
    have hyl : y.2.2.1.subs.length ≤ 5 := by omega
    refine aaK.ite (fun hlt => ?_) fun hlt => .some_ ⟨p3.w, p3.l, p3.k, p3.t, p3.q, p3.h, p3.b, p3.a, p3.p, by show 1 ≤ y.2.2.1.progs.length ∧ y.2.2.1.progs.length ≤ 4; omega, fun x hx => (p6 x hx).1, fun x hx i hi => by
      have := (p6 x hx).2 i hi
      rw [p5, p4]; exact this, hyl, fun s hs => by
      have := p7 s hs
      rw [p5, p4]; exact this⟩
    rw [f2, p4]
    refine (ab3 (k := 1 + r10.1.1) p2 (by omega) (by omega) (by omega)).bind fun r27 h27 => ?_
    refine (ab3 (k := 1 + r2.1.1) h27.2 (by omega) (by omega) (by omega)).bind fun r28 h28 => ?_
    refine (ab3 (k := 16) h28.2 (by omega) (by omega) (by omega)).bind fun r29 h29 => ?_
    refine .guard (by show (((y.2.2.1.subs.length + 1 : Nat)) : Int) < _; omega) fun _ => ih _ ⟨by show 0 ≤ y.1 - 1; omega, ?_, h29.2.up (by show 1001 + 5 * (r23.1.1 - y.1) + 1 + 1 + 1 ≤ 1001 + 5 * (r23.1.1 - (y.1 - 1)); omega), ⟨p3.w, p3.l, p3.k, p3.t, p3.q, p3.h, p3.b, p3.a, p3.p⟩, p4, p5, p6, ?_⟩ (by show (y.1 - 1).toNat < y.1.toNat; omega)
    · show (((y.2.2.1.subs ++ [_]).length : Nat) : Int) + (y.1 - 1) = _
      rw [List.length_append, List.length_singleton]; omega
    · intro s hs
      rcases List.mem_append.1 hs with hs | hs
      · exact p7 s hs
      · rw [List.mem_singleton] at hs; subst hs
        exact ⟨h27.1, h28.1, h29.1.1, by show r29.1.1 ≤ 15; omega⟩
end
section
open Go Go.RowKit
set_option maxRecDepth 100000
variable [Tb]
theorem aru {α β : Type} (a : α) (f : α → Option β) : (some a).bind f = f a := rfl
structure LenOk (c : Cfg) : Prop where
  ps : c.progs.length ≤ 1000000
  pl : ∀ p ∈ c.progs, p.length ≤ 1000000
  ss : c.subs.length ≤ 1000000
theorem asS {lv np : Int} : ∀ {ps : List (List Ins)}, abr lv np ps = 0 → ∀ p ∈ ps, p.length ≤ 32
  | [], _, p, h => by cases h
  | q :: ps, h, p, hm => by
    unfold abr at h
    split at h
    · omega
    · split at h
      · rcases List.mem_cons.1 hm with e | e
        · subst e; omega
        · exact asS h p e
      · omega
theorem alc {c : Cfg} (h : afN c = 0) : akB c = true ∧ c.progs.length ≤ 32 ∧ (∀ p ∈ c.progs, p.length ≤ 32) ∧ c.subs.length ≤ 64 := by
  unfold afN at h
  split at h
  · omega
  · rename_i hn
    split at h
    · omega
    · rename_i hp
      have hp0 : adB c = 0 := by omega
      unfold adB at hp0
      split at hp0
      · omega
      · rename_i hl
        simp only [inB, Bool.not_eq_true', Bool.and_eq_false_iff, decide_eq_false_iff_not, not_or, Classical.not_not, Bool.not_eq_false, Bool.and_eq_true, decide_eq_true_eq] at hl
        refine ⟨by simpa using hn, by omega, asS hp0, ?_⟩
        unfold ahc at h
        split at h
        · omega
        · omega
theorem LenOk.of {c : Cfg} (h : afN c = 0) : LenOk c := by
  obtain ⟨_, h1, h2, h3⟩ := alc h
  exact ⟨by omega, fun p hp => by have := h2 p hp; omega, by omega⟩
abbrev ClS := Int × Int × Int × Int × Int × Int × Int × Int × Int × List (List Ins) × List Sub × Unit
def clS (c : Cfg) : ClS := (c.workers, c.levels, c.classes, c.tasks, c.deque, c.heap, c.batch, c.age, c.patience, c.progs, c.subs, ())
theorem axk {α : Type} {xs : List α} {i : Nat} {x : α} (h : xs[i]? = some x) : xs.set i x = xs := by
  obtain ⟨hlt, rfl⟩ := List.getElem?_eq_some_iff.1 h
  simp
theorem av3 {c : Cfg} (h : LenOk c) : afi c = some ((c, ()), ()) := by
  have hg : aaK (afi c) fun o => o.1.1 = c := by
    unfold afi
    have e0 : ahN c.progs = some ((c.progs, ()), ()) := by unfold ahN; rw [if_pos h.ps]
    rw [e0, aru]
    refine aaK.bind (P := fun z => z.2.1 = clS c) (acd (fun x => x.2.1 = clS c ∧ 0 ≤ x.1 ∧ x.1 ≤ (c.progs.length : Int)) (fun x => ((c.progs.length : Int) - x.1).toNat) (fun self x ⟨q0, q1, q2⟩ ih => ?_) _ _ ⟨rfl, Int.le_refl 0, by show (0 : Int) ≤ _; omega⟩ (by show ((c.progs.length : Int) - 0).toNat < _; have := h.ps; omega)) fun z hz => ?_
    rotate_left
    · obtain ⟨i, s, u⟩ := x
      simp only at q0 q1 q2
      subst q0
      refine aaK.ite (fun hlt => ?_) fun _ => .some_ rfl
      have hin : 0 ≤ i ∧ i < ((c.progs.length : Nat) : Int) := ⟨q1, hlt⟩
      refine aaK.guard (show 0 ≤ i ∧ i < (((clS c).2.2.2.2.2.2.2.2.2.1.length : Nat) : Int) from hin) fun _ => ?_
      have hm := h.pl _ (awN (d := (dfR 18 : List Ins)) hin)
      have e1 : ake (ay7 (clS c).2.2.2.2.2.2.2.2.2.1 i) = some ((ay7 c.progs i, ()), ()) := by
        unfold ake; exact if_pos hm
      rw [e1, aru]
      refine aaK.guard (show 0 ≤ i ∧ i < (((clS c).2.2.2.2.2.2.2.2.2.1.length : Nat) : Int) from hin) fun _ => ?_
      have e2 : wi (i + 1) = i + 1 := aaH (aao (by have := h.ps; omega))
      have e3 : c.progs.set i.toNat (ay7 c.progs i) = c.progs := axk (aep hin)
      rw [e2]
      refine ih _ ⟨?_, by show 0 ≤ i + 1; omega, by show i + 1 ≤ _; omega⟩ (by show ((c.progs.length : Int) - (i + 1)).toNat < ((c.progs.length : Int) - i).toNat; omega)
      show (c.workers, c.levels, c.classes, c.tasks, c.deque, c.heap, c.batch, c.age, c.patience, c.progs.set i.toNat (ay7 c.progs i), c.subs, ()) = clS c
      rw [e3]; rfl
    · rw [hz]
      have e4 : ahM (clS c).2.2.2.2.2.2.2.2.2.2.1 = some ((c.subs, ()), ()) := by unfold ahM; exact if_pos h.ss
      rw [e4, aru]
      exact .some_ rfl
  obtain ⟨o, e, ho⟩ := hg
  rw [e]
  obtain ⟨⟨o1, ⟨⟩⟩, ⟨⟩⟩ := o
  simp only at ho
  rw [ho]
def aaI (c : Cfg) : LayV := { workers := c.workers, levels := c.levels, classes := c.classes, tasks := c.tasks, deque := c.deque, heap := c.heap, sleepers := 4 + c.heap, epochs := 4 + c.heap + c.classes, bitmaps := 4 + c.heap + c.classes + c.workers, queues := 4 + c.heap + c.classes + c.workers + c.workers, table := 4 + c.heap + c.classes + c.workers + c.workers + c.workers * c.levels * (2 + c.deque) }
def abA (c : Cfg) : Int := (aaI c).table + 5 * c.tasks
theorem aAw {a b A B : Int} (ha : 0 ≤ a) (hA : a ≤ A) (hb : 0 ≤ b) (hB : b ≤ B) : 0 ≤ a * b ∧ a * b ≤ A * B :=
  ⟨Int.mul_nonneg ha hb, Int.le_trans (Int.mul_le_mul_of_nonneg_right hA hb) (Int.mul_le_mul_of_nonneg_left hB (Int.le_trans ha hA))⟩
theorem aqQ {c : Cfg} (h : akB c = true) : (0 ≤ c.workers * c.levels ∧ c.workers * c.levels ≤ 1024) ∧ (0 ≤ c.workers * c.levels * (2 + c.deque) ∧ c.workers * c.levels * (2 + c.deque) ≤ 67584) := by
  have hs := ah7 h
  have h1 := aAw (a := c.workers) (b := c.levels) (A := 16) (B := 64) (by omega) (by omega) (by omega) (by omega)
  have h2 := aAw (a := c.workers * c.levels) (b := 2 + c.deque) (A := 1024) (B := 66) h1.1 (by omega) (by omega) (by omega)
  omega
theorem aye {c : Cfg} (h : afN c = 0) : al0 c = some ((aaI c, 0, ()), ()) := by
  have hn := (alc h).1
  have hs := ah7 hn
  have ht := aqQ hn
  unfold al0 akf
  rw [aru]
  have e0 : ¬ afN c ≠ 0 := by omega
  simp only [if_neg e0]
  have e1 : wi (4 + c.heap) = 4 + c.heap := aaH (aao (by omega))
  have e2 : wi (4 + c.heap + c.classes) = 4 + c.heap + c.classes := aaH (aao (by omega))
  have e3 : wi (4 + c.heap + c.classes + c.workers) = 4 + c.heap + c.classes + c.workers := aaH (aao (by omega))
  have e4 : wi (4 + c.heap + c.classes + c.workers + c.workers) = 4 + c.heap + c.classes + c.workers + c.workers := aaH (aao (by omega))
  have e5 : wi (c.workers * c.levels) = c.workers * c.levels := aaH (aao (by omega))
  have e6 : wi (2 + c.deque) = 2 + c.deque := aaH (aao (by omega))
  have e7 : wi (c.workers * c.levels * (2 + c.deque)) = c.workers * c.levels * (2 + c.deque) := aaH (aao (by omega))
  have e8 : wi (4 + c.heap + c.classes + c.workers + c.workers + c.workers * c.levels * (2 + c.deque)) = 4 + c.heap + c.classes + c.workers + c.workers + c.workers * c.levels * (2 + c.deque) := aaH (aao (by omega))
  simp only [e1, e2, e3, e4, e5, e6, e7, e8]
  rfl
def azq : RecP := ⟨0, -1, 0, 0, -1, [], false⟩
def aqA (c : Cfg) : EnvP := ⟨c, aaI c, ⟨List.replicate (abA c).toNat 0, ⟨0, 0, 0, 0⟩, 0⟩, ⟨0, 0⟩, List.replicate c.tasks.toNat azq, []⟩
theorem avH {c : Cfg} (h : afN c = 0) : aet c = some ((aqA c, 0, ()), ()) := by
  have hn := (alc h).1
  have hs := ah7 hn
  have ht := aqQ hn
  have hg : aaK (aet c) fun o => o.1.1 = aqA c ∧ o.1.2.1 = 0 := by
    unfold aet
    rw [aye h, aru]
    refine aaK.ite (fun e => absurd rfl e) fun _ => ?_
    have c1 : wi (5 * c.tasks) = 5 * c.tasks := aaH (aao (by omega))
    have c2 : wi ((aaI c).table + 5 * c.tasks) = abA c := aaH (aao (by unfold aaI; simp only; omega))
    have e1 : avy (aaI c) = some ((abA c, ()), ()) := by
      unfold avy
      have : wi (5 * (aaI c).tasks) = 5 * c.tasks := c1
      rw [this, c2]
    rw [e1, aru]
    have hc : 0 ≤ abA c ∧ abA c ≤ 131072 := by unfold abA aaI; simp only; omega
    have e2 : ah8 (abA c) = some ((⟨⟨0, 0, 0, 0, 0, 0, 0, 0, 0, [], []⟩, ⟨0, 0, 0, 0, 0, 0, 0, 0, 0, 0, 0⟩, ⟨List.replicate (abA c).toNat 0, ⟨0, 0, 0, 0⟩, 0⟩, ⟨0, 0⟩, [], []⟩, ()), ()) := by
      unfold ah8 aph ar1
      have i1 : (if abA c < 0 then (0 : Int) else abA c) = abA c := if_neg (by omega)
      have i2 : (if 131072 < abA c then (131072 : Int) else abA c) = abA c := if_neg (by omega)
      have i3 : 0 ≤ abA c ∧ abA c ≤ 1099511627776 := by omega
      simp only [i1, i2, if_true, if_pos i3, aru]
    rw [e2, aru, av3 (.of h), aru]
    simp only [if_true]
    refine aaK.bind (P := fun z => z.2.1 = aqA c) (acd (fun x => 0 ≤ x.1 ∧ x.1 ≤ c.tasks ∧ x.2.1 = { aqA c with recs := List.replicate x.1.toNat azq }) (fun x => (c.tasks - x.1).toNat) (fun self x ⟨q0, q1, q2⟩ ih => ?_) _ _ ⟨Int.le_refl 0, by show (0 : Int) ≤ _; omega, rfl⟩ (by show (c.tasks - 0).toNat < _; omega)) fun z hz => .some_ ⟨hz, rfl⟩
    obtain ⟨i, e, u⟩ := x
    simp only at q0 q1 q2
    subst q2
    refine aaK.ite (fun hlt => ?_) fun hge => .some_ ?_
    · have hl : (List.replicate i.toNat azq).length = i.toNat := List.length_replicate
      refine aaK.guard ?_ fun _ => ?_
      · show (((List.replicate i.toNat azq).length + 1 : Nat) : Int) < 100000000000
        rw [hl]
        have hlt' : i < c.tasks := hlt
        omega
      · have hlt' : i < c.tasks := hlt
        have e2 : wi (i + 1) = i + 1 := aaH (aao (by omega))
        rw [e2]
        refine ih _ ⟨by show 0 ≤ i + 1; omega, by show i + 1 ≤ _; omega, ?_⟩ (by show (c.tasks - (i + 1)).toNat < (c.tasks - i).toNat; omega)
        show ({ aqA c with recs := List.replicate i.toNat azq ++ [azq] } : EnvP) = { aqA c with recs := List.replicate (i + 1).toNat azq }
        have e3 : (i + 1).toNat = i.toNat + 1 := by omega
        rw [e3, List.replicate_succ']
    · show ({ aqA c with recs := List.replicate i.toNat azq } : EnvP) = aqA c
      have : i = c.tasks := by have hge' : ¬ i < c.tasks := hge; omega
      rw [this]; rfl
  obtain ⟨o, e, ho1, ho2⟩ := hg
  rw [e]
  obtain ⟨⟨o1, o2, ⟨⟩⟩, ⟨⟩⟩ := o
  simp only at ho1 ho2
  rw [ho1, ho2]
end
section
open Go
variable [Tb]
theorem azD {c : Cfg} (h : DecOk c) {t hp' : Int} (ht : 1 ≤ t ∧ t ≤ 12) (hh : 1 ≤ hp' ∧ hp' ≤ 8) : afN { c with tasks := t, heap := hp' } = 0 := by
  have hp : ∀ ps : List (List Ins), (∀ x ∈ ps, x ∈ c.progs) → abr c.levels c.progs.length ps = 0 := fun ps => by
    induction ps with
    | nil => intro _; rfl
    | cons p ps ih =>
      intro hm
      have h1 := h.pl p (hm p (List.mem_cons_self ..))
      unfold abr
      rw [if_neg (by omega), if_pos]
      · exact ih fun x hx => hm x (List.mem_cons_of_mem _ hx)
      · refine List.all_eq_true.2 fun i hi => ?_
        have h2 := h.ps p (hm p (List.mem_cons_self ..)) i hi
        unfold ap9
        rcases h2 with ⟨a, b, d, e⟩ | ⟨a, b, d, e, f⟩ | ⟨a, b, d, e⟩
        · rw [if_pos a]; simp only [inB, e, Bool.and_eq_true, decide_eq_true_eq, beq_self_eq_true, and_true]; omega
        · rw [if_neg (by omega), if_pos a]; simp only [inB, Bool.and_eq_true, decide_eq_true_eq]; omega
        · rw [if_neg (by omega), if_neg (by omega), if_pos a]; simp only [inB, e, Bool.and_eq_true, decide_eq_true_eq, beq_self_eq_true, and_true]; omega
  have hs : ∀ ss : List Sub, (∀ x ∈ ss, x ∈ c.subs) → adv c.levels c.progs.length ss = 0 := fun ss => by
    induction ss with
    | nil => intro _; rfl
    | cons s ss ih =>
      intro hm
      have h1 := h.ss s (hm s (List.mem_cons_self ..))
      have e : aoN c.levels c.progs.length s = 0 := by
        unfold aoN
        have e1 : inB s.prog 0 ((c.progs.length : Int) - 1) = true := by simp only [inB, Bool.and_eq_true, decide_eq_true_eq]; omega
        have e2 : inB s.level 0 (c.levels - 1) = true := by simp only [inB, Bool.and_eq_true, decide_eq_true_eq]; omega
        have e3 : inB s.deadline 0 16777215 = true := by simp only [inB, Bool.and_eq_true, decide_eq_true_eq]; omega
        rw [e1, e2, e3]; rfl
      unfold adv
      rw [if_pos e]
      exact ih fun x hx => hm x (List.mem_cons_of_mem _ hx)
  have hn : akB { c with tasks := t, heap := hp' } = true := by
    have := h.w; have := h.l; have := h.k; have := h.t; have := h.q; have := h.h; have := h.b; have := h.a; have := h.p
    simp only [akB, inB, Bool.and_eq_true, decide_eq_true_eq]
    have e : (if c.levels < 8 then c.levels else 8) = c.levels := if_pos (by omega)
    rw [e]
    omega
  have hpa : adB { c with tasks := t, heap := hp' } = 0 := by
    have := h.pn
    unfold adB
    have e : inB (c.progs.length : Int) 1 32 = true := by simp only [inB, Bool.and_eq_true, decide_eq_true_eq]; omega
    rw [e]
    exact hp c.progs fun _ hx => hx
  have hsa : ahc { c with tasks := t, heap := hp' } = 0 := by
    have := h.sn
    unfold ahc
    rw [if_neg (show ¬ 64 < c.subs.length by omega)]
    exact hs c.subs fun _ hx => hx
  unfold afN
  rw [hn, hpa]
  exact hsa
theorem ahL {c : Cfg} (h : DecOk c) : afN c = 0 := by
  have := h.h
  exact azD h (t := c.tasks) (hp' := c.heap) h.t (by omega)
theorem auF {b : List Int} (hb : ∀ x ∈ b, 0 ≤ x ∧ x ≤ 255) (hl : b.length ≤ 1000000) : aaK (afU b) fun o => DecOk o.1.1 := by
  have := auC hb hl
  unfold afU
  refine this.bind fun o ho => .some_ ?_
  exact ho
end
section
open Go Go.RowKit
set_option maxRecDepth 100000
variable [Tb]
theorem amc (m : MemV) : abL m = some ((m.count, ()), (m, ())) := id rfl
theorem aDd (m : MemV) : afT m = some ((m.last, ()), (m, ())) := id rfl
theorem aoq (m : MemV) (h : m.cells.length ≤ 1000000) : abM m = some ((m.cells, ()), (m, ())) := by
  unfold abM ame
  rw [if_pos h]
  rfl
structure EI (c : Cfg) (K : Nat) (e : EnvP) : Prop where
  ok : EOk K e
  l : e.l = aaI c
  c : e.c = c
  ct : 0 ≤ e.m.count ∧ e.m.count ≤ K
  cl : e.m.cells.length ≤ 1000000
def mnC (c : Cfg) : Int := if 16 < c.workers then 16 else c.workers
def WI (c : Cfg) (K : Nat) (j : Int) (w : WorkerV MV) : Prop := ∃ k, w = ahW (aaI c) j k ∧ ahT K (mnC c) k
section
variable {c : Cfg} {K : Nat} {e : EnvP} {j : Int} {w : WorkerV MV} {l : ClientV MV}
theorem EI.many (h : EI c K e) : abO e = mnC c := by unfold abO mnC; rw [h.c]
theorem ax4 {m m' : MemV} (h : One m m') {K : Nat} (hc : 0 ≤ m.count ∧ m.count ≤ K) (hK : K ≤ 1000000) : (0 ≤ m'.count ∧ m'.count ≤ ((K + 3 : Nat) : Int)) ∧ m'.cells.length = m.cells.length := by
  cases h with
  | no => exact ⟨by omega, rfl⟩
  | yes k a v h hk =>
    refine ⟨?_, by simp⟩
    show 0 ≤ wi (m.count + 1) ∧ wi (m.count + 1) ≤ _
    rw [aaH (aao (by omega))]
    omega
theorem EI.stp (h : EI c K e) (hK : K ≤ 1000000) {e' : EnvP} (s : Stp 2 e e') : EI c (K + 3) e' :=
  have h1 := ax4 s.m h.ct hK
  ⟨h.ok.step s, by rw [s.l]; exact h.l, by rw [s.c]; exact h.c, h1.1, by rw [h1.2]; exact h.cl⟩
theorem ahT.up {K L : Nat} (h : K ≤ L) {n : Int} {k : WorkS} (hw : ahT K n k) : ahT L n k := by
  obtain ⟨a, b, d, f, g⟩ := k
  cases g with
  | t7 s => exact ⟨hw.1, Nat.le_trans hw.2 h⟩
  | t3 s => exact hw
  | t4 s => exact hw
  | _ => trivial
theorem WI.up {K L : Nat} (h : K ≤ L) (hw : WI c K j w) : WI c L j w := by
  obtain ⟨k, h1, h2⟩ := hw
  exact ⟨k, h1, h2.up h⟩
theorem EI.up {L : Nat} (h : K ≤ L) (he : EI c K e) : EI c L e := ⟨⟨he.ok.dq, he.ok.tk, he.ok.ct, he.ok.wk, by have := he.ok.ev; omega, fun r hr => by have := he.ok.kd r hr; omega⟩, he.l, he.c, by have := he.ct; omega, he.cl⟩
theorem EI.clk {k : ClkV} (he : EI c K e) : EI c K { e with k := k } := ⟨⟨he.ok.dq, he.ok.tk, he.ok.ct, he.ok.wk, he.ok.ev, he.ok.kd⟩, he.l, he.c, he.ct, he.cl⟩
theorem alR {x : EntV} {n : Int} (hn : 1 ≤ n ∧ n ≤ 1000) (h : x.kind = 0) : aaK (adc x n) fun o => 0 ≤ o.1.1 ∧ o.1.1 < n := by
  have h1 : Int.tmod x.value n < n ∧ -n < Int.tmod x.value n := by
    constructor
    · exact Int.tmod_lt_of_pos _ (by omega)
    · have h2 : Int.tmod (-x.value) n < n := Int.tmod_lt_of_pos _ (by omega)
      rw [Int.neg_tmod] at h2
      omega
  unfold adc
  rw [if_neg (fun h' => h' h), if_neg (by omega), if_pos (by omega)]
  refine aaK.ite (fun hl => ?_) fun hl => .some_ ⟨by show 0 ≤ Int.tmod x.value n; omega, h1.1⟩
  rw [aaH (aao (by omega))]
  exact .some_ ⟨by show 0 ≤ Int.tmod x.value n + n; omega, by show Int.tmod x.value n + n < n; omega⟩
end
theorem aFH {c : Cfg} (h : DecOk c) : EI c 1 (aqA c) := by
  have hn := (alc (ahL h)).1
  have ht := aqQ hn
  have h1 := h.w
  have h2 := h.l
  have h3 := h.k
  have h4 := h.t
  have h5 := h.q
  have h6 := h.h
  refine ⟨⟨?_, ?_, ?_, ?_, Nat.zero_le _, fun r hr => ?_⟩, rfl, rfl, ⟨Int.le_refl 0, by show (0 : Int) ≤ 1; omega⟩, ?_⟩
  · show 0 ≤ c.deque ∧ c.deque ≤ 65535; omega
  · show c.tasks = ((List.replicate c.tasks.toNat azq).length : Int)
    rw [List.length_replicate]; omega
  · show c.tasks = ((List.replicate c.tasks.toNat azq).length : Int)
    rw [List.length_replicate]; omega
  · show 1 ≤ c.workers; omega
  · have := List.eq_of_mem_replicate hr
    rw [this]
    exact Nat.zero_le _
  · show (List.replicate (abA c).toNat 0).length ≤ _
    rw [List.length_replicate]
    unfold abA aaI
    simp only
    omega
theorem av4 {c : Cfg} (h : DecOk c) : agP c = some ((ar2 c.subs c.workers ⟨0, 0, false, .n1⟩, ()), ()) := by
  unfold agP
  rw [av3 (.of (ahL h)), bnd, if_pos rfl]
theorem aku {l : LayV} {j : Int} : adn j = some ((ahW l j ⟨0, 0, 0, 0, .top⟩, ()), ()) := rfl
end
end Go.Proofs.YteapeojalliebaaGreat
