/- The program's machines do what was said plainly, 7: running a task. The program's machines do what was said plainly, 8: workers. The program's environment made anew, at a valid configuration. A worker alone with ready tasks in its deques: the memory. A worker alone with ready tasks in its deques: each step. A worker alone with ready tasks in its deques: each step leads on. What workers leave. Walks: runner.Stack. runner.Stack in the evaluator's form. -/
import Derived.Test.YtlcelajkhklkbaaGreatWcap
import Derived.Test.YtlcelajkhklkbaaGreatWcao
import Derived.Test.YtlcelajkhklkbaaGreatRows
import Derived.Test.YtlcelajkhklkbaaGreatWcaa
import Derived.WalkKit
import Derived.Test.YtlcelajkhklkbaaGreatWcaj
set_option linter.all false
namespace Go.Proofs.YtlcelajkhklkbaaGreat
section
open Go Go.RowKit
set_option maxRecDepth 100000
@[reducible] def ayB (l : LayV) (w id lv wt : Int) : RunC → Int × MV
  | .next => (0, .nil)
  | .s2 s => (5, .publish (aiH id lv s))
  | .s3 s => (6, .lpush (alx l w lv id s))
  | .s4 s => (7, .wake (app w lv s))
  | .s5 => (8, .claim ⟨o0, w, id⟩)
  | .j2 => (10, .nil)
  | .j3 => (11, .nil)
  | .j4 => (12, .nil)
  | .j5 s => (13, .walk (awq l w lv s))
  | .j6 => (14, .nil)
  | .j7 => (15, .nil)
  | .f2 => (17, .nil)
  | .f3 => (18, .nil)
  | .f4 s => (19, .enter (atB l w wt s))
  | .f5 v s => (20, .wake (app w v s))
  | .f6 => (21, .claim ⟨o0, w, wt⟩)
@[reducible] def azH (l : LayV) (w : Int) (r : RunS) : RunV MV :=
  ⟨o0, w, r.stack, (ayB l w r.id r.level r.waiter r.c).1, (ayB l w r.id r.level r.waiter r.c).2, r.id, r.child, r.level, r.waiter⟩
section
variable [Tb] {K : Nat} {e : EnvP} {w : Int}
theorem afK {l : LayV} {e' : EnvP} {st : List Int} {ln id ch lv wt : Int} {m : MV} {c : RunC} (hS : SOk st) : aaR RunV.o (azH l w) ((aan ⟨⟨false, 0, 0⟩, w, st, ln, m, id, ch, lv, wt⟩).bind fun r => some ((r.1.1, ()), (r.2.1, e', ()))) (ai8 ⟨st, id, ch, lv, wt, c⟩ e') := by
  have h1 := List.length_pos_iff.2 hS.ne
  have h2 := hS.le
  unfold aan ai8
  simp only [hS.n, hS.g2, hS.t, if_true, List.length_dropLast, aaX, aac, bnd, abT, aaS]
  by_cases hl : st.length = 1
  · rw [if_pos (by omega), if_pos hl]; exact ⟨_, rfl, rfl⟩
  · rw [if_neg (by omega), if_neg hl]; rfl
theorem awZ (hK : EOk K e) (hk : K ≤ 100000000) (r : RunS) (hS : SOk r.stack) : aaR RunV.o (azH e.l w) (aa2 (azH e.l w r) e) (asu w e r) := by
  have hl : e.evs.length ≤ 999999999 := by have := hK.ev; omega
  obtain ⟨st, id, ch, lv, wt, c⟩ := r
  have hS : SOk st := hS
  unfold asu
  by_cases hT : IsT e (aaH st)
  · have hR : 0 ≤ aaH st ∧ aaH st < (e.recs.length : Int) := ⟨hT.1, by have := hT.2; have := hK.ct; omega⟩
    have hct := hK.ct
    have he : ∀ (x : RunV MV) (e' : EnvP) (_ : e'.evs.length ≤ 999999999) (v : Ev), aaA x e' v = some ((), (x, { e' with evs := e'.evs ++ [{ v with worker := x.worker }] }, ())) := fun x e' h v => ajw h
    rw [if_neg (fun h => h hT)]
    unfold arx
    cases c with
    | next =>
      simp only [as9]
      have hkd : (e.rc (aaH st)).kids.length ≤ 999999999 := by have := anc hR K hK.kd; omega
      have hnx := fun c h => auU (w := w) (id := id) (ch := ch) (lv := lv) (wt := wt) (m := .nil) hS hT hct (c := c) h hR
      by_cases c1 : (e.rc (aaH st)).waiting ≠ -1
      · rw [if_pos c1]
        rw [hnx 1 (by unfold adU; rw [if_pos c1])]
        simp only [Int.reduceEq, if_false, true_or, if_true]
        rw [awR hS hR]
        rfl
      rw [if_neg c1]
      by_cases c2 : (e.rc (aaH st)).pc < 0 ∨ ((e.prog (e.rc (aaH st))).length : Int) ≤ (e.rc (aaH st)).pc
      · rw [if_pos c2]
        rw [hnx 16 (by unfold adU; rw [if_neg c1, if_pos c2])]
        simp only [Int.reduceEq, if_false, or_self]
        simp only [aao, hS.n, hS.a, hS.g, if_true, aee, aa7, aac, bnd]
        rfl
      rw [if_neg c2]
      by_cases c3 : (abM (e.prog (e.rc (aaH st))) (e.rc (aaH st)).pc).op = 0
      · rw [if_pos c3]
        rw [hnx 2 (by unfold adU; rw [if_neg c1, if_neg c2, if_pos c3])]
        simp only [Int.reduceEq, if_false, false_or, true_or, or_true, if_true]
        rw [awQ hS hR c2]
        rfl
      rw [if_neg c3]
      by_cases c4 : (abM (e.prog (e.rc (aaH st))) (e.rc (aaH st)).pc).op = 1
      · rw [if_pos c4]
        rw [hnx 4 (by unfold adU; rw [if_neg c1, if_neg c2, if_neg c3, if_pos c4])]
        obtain ⟨x', h, ho⟩ := aua (e := e)
        simp only [if_true, aaZ, adJ, bnd, h, acB, Bool.not_true, Bool.false_eq_true, if_false]
        by_cases ci : IsT e (wi (e.gt 0))
        · rw [if_pos ci] at ho ⊢
          have hv : 0 ≤ wi (e.gt 0) ∧ wi (e.gt 0) < ((al5 e).recs.length : Int) := ⟨ci.1, by have := ci.2; show _ < (e.recs.length : Int); omega⟩
          have ha := aub (e := al5 e) (o := o0) (w := w) (id := id) (ch := ch) (lv := lv) (wt := wt) (m := .alloc x') hS hR c2 hkd (wi (e.gt 0)) hv
          simp only [ho]
          rw [ha]
          rfl
        · rw [if_neg ci] at ho ⊢
          have ha := arV (e := al5 e) (o := o0) (w := w) (id := id) (ch := ch) (lv := lv) (wt := wt) (m := .alloc x') hS hR c2 hl hkd 0
          simp only [ho]
          rw [ha]
          rfl
      rw [if_neg c4]
      by_cases c5 : (abM (e.prog (e.rc (aaH st))) (e.rc (aaH st)).pc).a < 0 ∨ ((e.rc (aaH st)).kids.length : Int) ≤ (abM (e.prog (e.rc (aaH st))) (e.rc (aaH st)).pc).a ∨ aae (e.rc (aaH st)).kids (abM (e.prog (e.rc (aaH st))) (e.rc (aaH st)).pc).a = -1
      · rw [if_pos c5]
        rw [hnx 3 (by unfold adU; rw [if_neg c1, if_neg c2, if_neg c3, if_neg c4, if_pos c5])]
        simp only [Int.reduceEq, if_false, false_or, or_true, if_true]
        rw [awP hS hR]
        rfl
      · rw [if_neg c5]
        rw [hnx 9 (by unfold adU; rw [if_neg c1, if_neg c2, if_neg c3, if_neg c4, if_neg c5])]
        simp only [Int.reduceEq, if_false, or_self, if_true]
        rw [aAk hS hR c2 (fun h => c5 (h.elim .inl fun h => .inr (.inl h)))]
        rfl
    | s2 s =>
      have h := apD (e := e) (t := id) (v := lv) s
      have hn := amt (e := e) (t := id) (v := lv) s
      simp only [aiE hS hT hct (show (4 : Int) ≤ 5 ∧ (5 : Int) ≤ 8 by decide)]
      revert h hn
      simp only [aaZ, adJ, bnd]
      rcases aff id lv e s with ⟨r | ⟨c, y⟩, e'⟩ <;> intro h hn
      · simp only [aaR] at h
        simp only [h, bnd, Bool.not_false, if_true]
        rfl
      · simp only [aaR] at h
        obtain ⟨x', h, ho⟩ := h
        have hl' : e'.evs.length ≤ 999999999 := by have h1 : e'.evs.length ≤ e.evs.length + 0 := hn.ev; have := hK.ev; omega
        simp only [h, ho, acB, bnd, Bool.not_true, Bool.false_eq_true, if_false, if_true, Int.reduceEq, hS.n, hS.a, hS.g, he _ e' hl', abK, aac]
        rfl
    | s3 s =>
      have h := ahb (w := w) (v := lv) (x := id) hK s
      simp only [aiE hS hT hct (show (4 : Int) ≤ 6 ∧ (6 : Int) ≤ 8 by decide)]
      revert h
      simp only [aaZ, adJ, bnd]
      rcases acZ w lv id e s with ⟨r | ⟨c, y⟩, e'⟩ <;> intro h
      · simp only [aaR] at h
        simp only [h, bnd, Bool.not_false, if_true]
        rfl
      · simp only [aaR] at h
        obtain ⟨x', h, ho⟩ := h
        simp only [h, ho, acB, bnd, Bool.not_true, Bool.false_eq_true, if_false, if_true, Int.reduceEq, abJ, acm, aac]
        by_cases hc : c = 3
        · simp only [hc, if_true]; rfl
        · simp only [hc, if_false]; rfl
    | s4 s =>
      have h := amW (e := e) (w := w) (v := lv) hl s
      simp only [aiE hS hT hct (show (4 : Int) ≤ 7 ∧ (7 : Int) ≤ 8 by decide)]
      revert h
      simp only [aaZ, adJ, bnd]
      rcases aio w lv e s with ⟨r | ⟨c, y⟩, e'⟩ <;> intro h
      · simp only [aaR] at h
        simp only [h, bnd, Bool.not_false, if_true]
        rfl
      · simp only [aaR] at h
        obtain ⟨x', h, ho⟩ := h
        simp only [h, ho, acB, bnd, Bool.not_true, Bool.false_eq_true, if_false, if_true, Int.reduceEq, aac]
        rfl
    | s5 =>
      obtain ⟨x', h, ho⟩ := aje (w := w) (t := id) hl hK.st
      simp only [aiE hS hT hct (show (4 : Int) ≤ 8 ∧ (8 : Int) ≤ 8 by decide)]
      simp only [aaZ, adJ, bnd, h, acB, Bool.not_true, Bool.false_eq_true, if_false, if_true, Int.reduceEq, aac]
      have hsl : ((st.length + ([id] : List Int).length : Nat) : Int) < 1000000000000 := by
        have h2 : st.length ≤ 999999999 := hS.le
        clear hR hct hl hk hK
        trace_state
        rw [List.length_singleton]
        omega
      rcases Bool.eq_false_or_eq_true (ae6 id e) with hc | hc
      · simp only [hc, if_true] at ho ⊢
        simp only [ho, if_true, hsl]
        rfl
      · simp only [hc, Bool.false_eq_true, if_false] at ho ⊢
        simp only [ho, Int.reduceEq, if_false]
        rfl
    | j2 =>
      simp only [ahv hS hT hct (show (9 : Int) ≤ 10 ∧ (10 : Int) ≤ 15 by decide), aaD, hS.n, hS.a, hS.g, if_true, Int.reduceEq, if_false, aee, aa7, aac, bnd]
      rfl
    | j3 =>
      simp only [ahv hS hT hct (show (9 : Int) ≤ 11 ∧ (11 : Int) ≤ 15 by decide), aaD, hS.n, hS.a, hS.g, if_true, Int.reduceEq, if_false, anm, ag6, aac, he _ { e with m := e.m.cas (ae3 e.l ch) 0 (wu (wi (aaH st + 1))) } hl, bnd]
      exact aaR.iteN (fun _ => rfl) fun _ => rfl
    | j4 =>
      simp only [ahv hS hT hct (show (9 : Int) ≤ 12 ∧ (12 : Int) ≤ 15 by decide), aaD, hS.n, hS.a, hS.g, if_true, Int.reduceEq, if_false, aeY, abi, ahm, aac, bnd]
      rfl
    | j5 s =>
      have h := aut (w := w) (v := lv) hK hk s
      have hn := ar2 (e := e) (w := w) (v := lv) s
      simp only [ahv hS hT hct (show (9 : Int) ≤ 13 ∧ (13 : Int) ≤ 15 by decide)]
      revert h hn
      simp only [aaD, hS.n, hS.a, hS.g, if_true, Int.reduceEq, if_false, adJ, bnd]
      rcases ah6 w lv e s with ⟨r | ⟨c, y⟩, e'⟩ <;> intro h hn
      · simp only [aaR] at h
        simp only [h, bnd, Bool.not_false, if_true]
        rfl
      · simp only [aaR] at h
        obtain ⟨x', h, ho⟩ := h
        have hl' : e'.evs.length ≤ 999999999 := by have h1 : e'.evs.length ≤ e.evs.length + 1 := hn.ev; have := hK.ev; omega
        simp only [h, bnd, Bool.not_true, Bool.false_eq_true, if_false, he _ e' hl']
        exact afK hS
    | j6 =>
      simp only [ahv hS hT hct (show (9 : Int) ≤ 14 ∧ (14 : Int) ≤ 15 by decide), aaD, hS.n, hS.a, hS.g, if_true, Int.reduceEq, if_false, aee, aa7, aac, bnd]
      rfl
    | j7 =>
      simp only [ahv hS hT hct (show (9 : Int) ≤ 15 ∧ (15 : Int) ≤ 15 by decide), aaD, hS.n, hS.a, hS.g, hR, and_self, if_true, Int.reduceEq, if_false, aiN, aa7, aac, bnd]
      have he2 : ∀ (x : RunV MV) (m' : MemV) (rs : List RecP) (v : Ev), aaA x { e with m := m', recs := rs } v = some ((), (x, { e with m := m', recs := rs, evs := e.evs ++ [{ v with worker := x.worker }] }, ())) := fun x m' rs v => ajw (e := { e with m := m', recs := rs }) hl
      rw [he2, bnd]
      rfl
    | f2 =>
      simp only [afG hS hT hct (show (16 : Int) ≤ 17 by decide), aao, hS.n, hS.a, hS.g, if_true, Int.reduceEq, if_false, anm, ag6, aac, he _ { e with m := e.m.cas (ae3 e.l (aaH st)) 0 4294967296 } hl, bnd]
      refine aaR.ite (fun _ => ?_) fun _ => rfl
      exact afK hS
    | f3 =>
      simp only [afG hS hT hct (show (16 : Int) ≤ 18 by decide), aao, hS.n, hS.a, hS.g, if_true, Int.reduceEq, if_false, anm, abi, aac, afv, bnd]
      by_cases h1 : wi (wi (e.m.gt (ae3 e.l (aaH st))) - 1) < 0
      · rw [if_pos h1, if_neg (show ¬ IsT e (wi (wi (e.m.gt (ae3 e.l (aaH st))) - 1)) from fun h => by have := h.1; omega)]
        exact afK hS
      by_cases h2 : e.c.tasks ≤ wi (wi (e.m.gt (ae3 e.l (aaH st))) - 1)
      · rw [if_neg h1, if_pos h2, if_neg (show ¬ IsT e (wi (wi (e.m.gt (ae3 e.l (aaH st))) - 1)) from fun h => by have := h.2; omega)]
        exact afK hS
      · rw [if_neg h1, if_neg h2, if_pos (show IsT e (wi (wi (e.m.gt (ae3 e.l (aaH st))) - 1)) from ⟨by omega, by omega⟩)]
        rfl
    | f4 s =>
      have h := atA (w := w) (t := wt) hK s
      simp only [afG hS hT hct (show (16 : Int) ≤ 19 by decide)]
      revert h
      simp only [aao, hS.n, hS.a, hS.g, if_true, Int.reduceEq, if_false, adJ, bnd]
      rcases afN w wt e s with ⟨r | ⟨c, y⟩, e'⟩ <;> intro h
      · simp only [aaR] at h
        simp only [h, bnd, Bool.not_false, if_true]
        rfl
      · simp only [aaR] at h
        obtain ⟨x', h, ho⟩ := h
        simp only [h, ho, acB, bnd, Bool.not_true, Bool.false_eq_true, if_false, if_true, Int.reduceEq, abJ, acm, aac]
        by_cases hc : c = 3
        · simp only [hc, if_true]; rfl
        · simp only [hc, if_false]; rfl
    | f5 v s =>
      have h := amW (e := e) (w := w) (v := v) hl s
      simp only [afG hS hT hct (show (16 : Int) ≤ 20 by decide)]
      revert h
      simp only [aao, hS.n, hS.a, hS.g, if_true, Int.reduceEq, if_false, adJ, bnd]
      rcases aio w v e s with ⟨r | ⟨c, y⟩, e'⟩ <;> intro h
      · simp only [aaR] at h
        simp only [h, bnd, Bool.not_false, if_true]
        rfl
      · simp only [aaR] at h
        obtain ⟨x', h, ho⟩ := h
        simp only [h, ho, acB, bnd, Bool.not_true, Bool.false_eq_true, if_false]
        exact afK hS
    | f6 =>
      obtain ⟨x', h, ho⟩ := aje (w := w) (t := wt) hl hK.st
      simp only [afG hS hT hct (show (16 : Int) ≤ 21 by decide)]
      simp only [aao, hS.n, hS.a, hS.g, hS.s, adJ, bnd, h, acB, Bool.not_true, Bool.false_eq_true, if_false, if_true, Int.reduceEq, aac]
      rcases Bool.eq_false_or_eq_true (ae6 wt e) with hc | hc
      · simp only [hc, if_true] at ho ⊢
        simp only [ho, if_true]
        rfl
      · simp only [hc, Bool.false_eq_true, if_false] at ho ⊢
        simp only [ho, Int.reduceEq, if_false]
        exact afK hS
  · rw [if_pos hT]
    have hb : aaH st < 0 ∨ e.c.tasks ≤ aaH st := by
      unfold IsT at hT
      omega
    simp only [aa2, aau, aaX, o0, bnd, hS.n, hS.a, hS.g, if_true, Bool.false_eq_true, if_false]
    rcases hb with hb | hb
    · rw [if_pos hb]; exact ⟨_, rfl, rfl⟩
    · by_cases h0 : aaH st < 0
      · rw [if_pos h0]; exact ⟨_, rfl, rfl⟩
      · rw [if_neg h0, if_pos hb]; exact ⟨_, rfl, rfl⟩
end
@[reducible] def avY (l : LayV) (w vi lv x : Int) : WorkC → Int × MV
  | .top => (0, .nil)
  | .t1 t s => (1, .sweep (aeP l w t s))
  | .t2 s => (2, .take (awx l w s))
  | .t3 s => (3, .drain (aq9 l w s))
  | .t4 s => (4, .probe (aiK w s))
  | .t5 s => (5, .steal (aqq (aa6 l vi lv) s))
  | .t6 => (6, .claim ⟨o0, w, x⟩)
  | .t7 s => (7, .run (azH l w s))
  | .t8 s => (8, .sleep (aoe w s))
  | .t9 s => (9, .reset (aoo (aaN l vi) lv (aa6 l vi lv) s))
@[reducible] def aft (l : LayV) (w : Int) (k : WorkS) : WorkerV MV :=
  ⟨w, k.cursor, (avY l w k.victim k.level k.x k.c).1, (avY l w k.victim k.level k.x k.c).2, k.victim, k.level, k.x⟩
def aAS (K : Nat) (r : RunS) : Prop := r.stack ≠ [] ∧ r.stack.length ≤ K
def aue (K : Nat) (n : Int) (k : WorkS) : Prop := match k.c with
  | .t3 s => aug s
  | .t4 s => aqf n s
  | .t7 s => aAS K s
  | _ => True
section
variable [Tb] {K : Nat} {e : EnvP} {w : Int}
theorem ai7 {j : Nat} {e' : EnvP} {r : RunS} (h : Stp j e e') : Stp j e (ai8 r e').2 := h
theorem axc {a v t : Int} {r : RecP} (hr : ∀ K, (∀ r ∈ e.recs, r.kids.length ≤ K) → r.kids.length ≤ K + 1) : Stp 0 e ((e.pt 2 a v).pr t r) := Stp.pr (Stp.pt (by decide)) hr
theorem atK {x : RecP} {i : Ins} : (arO x i).kids = x.kids := by
  unfold arO
  repeat' split
  all_goals rfl
theorem ayA (hK : EOk K e) (r : RunS) : Stp 2 e (asu w e r).2 := by
  obtain ⟨st, id, ch, lv, wt, c⟩ := r
  unfold asu
  by_cases hT : IsT e (aaH st)
  · have hR : 0 ≤ aaH st ∧ aaH st < (e.recs.length : Int) := ⟨hT.1, by have := hT.2; have := hK.ct; omega⟩
    have hkid : ∀ K, (∀ r ∈ e.recs, r.kids.length ≤ K) → (e.rc (aaH st)).kids.length ≤ K + 1 := fun K h => Nat.le_succ_of_le (anc hR K h)
    have hkid1 : ∀ v : Int, ∀ K, (∀ r ∈ e.recs, r.kids.length ≤ K) → ((e.rc (aaH st)).kids ++ [v]).length ≤ K + 1 := fun v K h => by
      have := anc hR K h
      rw [List.length_append, List.length_singleton]; omega
    rw [if_neg (fun h => h hT)]
    cases c with
    | next =>
      simp only [arx, as9]
      split
      · exact Stp.le (axc hkid) (Nat.zero_le _)
      split
      · exact Stp.le (.pt (by decide)) (by decide)
      split
      · exact Stp.le (Stp.pr Stp.refl fun K h => by rw [atK]; exact hkid K h) (Nat.zero_le _)
      split
      · split
        · exact Stp.le (Stp.pr (Stp.pr arn (hkid1 _)) fun K h => Nat.zero_le _) (Nat.zero_le _)
        · exact Stp.le (Stp.em (Stp.pr arn (hkid1 _))) (Nat.le_succ 1)
      split
      · exact Stp.le (Stp.pr Stp.refl hkid) (Nat.zero_le _)
      · exact Stp.le (axc hkid) (Nat.zero_le _)
    | s2 s =>
      have h := amt (e := e) (t := id) (v := lv) s
      revert h
      simp only [arx]
      rcases aff id lv e s with ⟨r | ⟨c, y⟩, e'⟩ <;> intro h
      · exact h.le (by decide)
      · exact h.em.le (by decide)
    | s3 s =>
      have h := aeC (e := e) (w := w) (v := lv) (x := id) s
      revert h
      simp only [arx]
      rcases acZ w lv id e s with ⟨r | ⟨c, y⟩, e'⟩ <;> intro h <;> exact h.le (by decide)
    | s4 s =>
      have h := apo (e := e) (w := w) (v := lv) s
      revert h
      simp only [arx]
      rcases aio w lv e s with ⟨r | ⟨c, y⟩, e'⟩ <;> intro h <;> exact h.le (by decide)
    | s5 => exact (ajf (w := w) (t := id) hK.st).le (by decide)
    | j2 => exact Stp.le (.pt (by decide)) (by decide)
    | j3 =>
      simp only [arx]
      split
      · exact Stp.cas.em.le (by decide)
      · exact Stp.cas.le (by decide)
    | j4 => exact Stp.lk.le (by decide)
    | j5 s =>
      have h := ar2 (e := e) (w := w) (v := lv) s
      revert h
      simp only [arx]
      rcases ah6 w lv e s with ⟨r | ⟨c, y⟩, e'⟩ <;> intro h
      · exact h.le (by decide)
      · exact ai7 h.em
    | j6 => exact Stp.le (.pt (by decide)) (by decide)
    | j7 => exact Stp.le (Stp.em (axc hkid)) (Nat.le_succ 1)
    | f2 =>
      simp only [arx]
      split
      · exact ai7 (Stp.cas.em.le (by decide))
      · exact Stp.cas.em.le (by decide)
    | f3 =>
      simp only [arx]
      split
      · exact Stp.lk.le (by decide)
      · exact ai7 (Stp.lk.le (by decide))
    | f4 s =>
      have h := avH (e := e) (w := w) (t := wt) s
      revert h
      simp only [arx]
      rcases afN w wt e s with ⟨r | ⟨c, y⟩, e'⟩ <;> intro h <;> exact h.le (by decide)
    | f5 v s =>
      have h := apo (e := e) (w := w) (v := v) s
      revert h
      simp only [arx]
      rcases aio w v e s with ⟨r | ⟨c, y⟩, e'⟩ <;> intro h
      · exact h.le (by decide)
      · exact ai7 (h.le (by decide))
    | f6 =>
      simp only [arx]
      split
      · exact (ajf (w := w) (t := wt) hK.st).le (by decide)
      · exact ai7 ((ajf (w := w) (t := wt) hK.st).le (by decide))
  · rw [if_pos hT]; exact Stp.refl.le (by decide)
theorem auH {cur vi lv x : Int} : aat ⟨w, cur, 0, .nil, vi, lv, x⟩ e = aat (aft e.l w ⟨cur, vi, lv, x, abf w e ⟨cur, vi, lv, x, .top⟩⟩) e := by
  unfold abf
  by_cases ha : e.c.age = 0
  · simp only [ha, if_true, aat, acQ, aaj, adZ, aeg, bnd, if_false, Int.reduceEq, ar7, Int.reduceLE, o0]
  · simp only [ha, if_false, aat, acQ, aaj, aj2, ajM, bnd, if_true, Int.reduceEq, Int.reduceLE, o0]
def arp (l : LayV) (w : Int) (res : Option ((Bool × Unit) × (WorkerV MV × EnvP × Unit))) (r : WorkS × EnvP) : Prop := res = some ((false, ()), (aft l w r.1, r.2, ()))
theorem arp.ite {l : LayV} {c : Prop} [Decidable c] {a b : Option ((Bool × Unit) × (WorkerV MV × EnvP × Unit))} {r s : WorkS × EnvP} (h1 : c → arp l w a r) (h2 : ¬ c → arp l w b s) : arp l w (if c then a else b) (if c then r else s) := by
  by_cases h : c
  · rw [if_pos h, if_pos h]; exact h1 h
  · rw [if_neg h, if_neg h]; exact h2 h
theorem akY {c : Prop} [Decidable c] {x y : WorkS} {e : EnvP} : ((if c then x else y), e) = if c then (x, e) else (y, e) := by split <;> rfl
theorem an6 (hK : EOk K e) (hk : K ≤ 100000000) (k : WorkS) (hc : k.c ≠ .top) (hW : aue K (ab6 e) k) : arp e.l w (aat (aft e.l w k) e) (aaY w e k) := by
  have hl : e.evs.length ≤ 999999999 := by have := hK.ev; omega
  obtain ⟨cur, vi, lv, x, c⟩ := k
  cases c with
  | top => exact absurd rfl hc
  | t1 t s =>
    have h := asa (w := w) (t := t) hK hk s
    revert h
    simp only [aaY, abf, aat, afw, bnd, Int.reduceEq, if_false]
    rcases acp w t e s with ⟨r | ⟨c, y⟩, e'⟩ <;> intro h
    · simp only [aaR] at h
      simp only [h, bnd, Bool.not_false, if_true]
      rfl
    · simp only [aaR] at h
      obtain ⟨x', h, ho⟩ := h
      simp only [h, ho, acU, abl, aaj, adZ, aeg, bnd, Bool.not_true, Bool.false_eq_true, if_true, if_false, Int.reduceEq, Int.reduceLE]
      rfl
  | t2 s =>
    have h := aux (w := w) hK hk s
    revert h
    simp only [aaY, abf, aat, afw, bnd, Int.reduceEq, if_false]
    rcases aex w e s with ⟨r | ⟨c, y⟩, e'⟩ <;> intro h
    · simp only [aaR] at h
      simp only [h, bnd, Bool.not_false, if_true]
      rfl
    · simp only [aaR] at h
      obtain ⟨x', h, ho⟩ := h
      simp only [h, ho, acU, abl, aca, aaj, aiD, ahG, bnd, Bool.not_true, Bool.false_eq_true, if_true, if_false, Int.reduceEq, Int.reduceLE, abT, akY]
      exact arp.ite (fun _ => rfl) fun _ => rfl
  | t3 s =>
    have h := atC (w := w) hK hk s hW
    revert h
    simp only [aaY, abf, aat, afw, bnd, Int.reduceEq, if_false]
    rcases aeu w e s with ⟨r | ⟨c, y⟩, e'⟩ <;> intro h
    · simp only [aaR] at h
      simp only [h, bnd, Bool.not_false, if_true]
      rfl
    · simp only [aaR] at h
      obtain ⟨x', h, ho⟩ := h
      simp only [h, ho, acU, abl, abI, aaU, abJ, adZ, aeg, acs, ajH, aaj, bnd, Bool.not_true, Bool.false_eq_true, if_true, if_false, Int.reduceEq, Int.reduceLE, abT, akY]
      refine arp.ite (fun _ => rfl) fun _ => arp.ite (fun _ => rfl) fun _ => ?_
      unfold avu
      by_cases h1 : e'.c.workers = 1
      · rw [if_pos h1, if_pos h1]; rfl
      · rw [if_neg h1, if_neg h1]; rfl
  | t4 s =>
    have h := asH (w := w) hK.wk s hW
    have hn := aqI (e := e) (w := w) s
    revert h hn
    simp only [aaY, abf, aat, afw, bnd, Int.reduceEq, if_false]
    rcases aox w e s with ⟨r | ⟨c, y⟩, e'⟩ <;> intro h hn
    · simp only [aaR] at h
      simp only [h, bnd, Bool.not_false, if_true]
      rfl
    · simp only [aaR] at h
      obtain ⟨x', h, ho⟩ := h
      have hnl : e'.l = e.l := hn.l
      simp only [h, ho, acU, abl, acw, acs, ag4, aaj, bnd, Bool.not_true, Bool.false_eq_true, if_true, if_false, Int.reduceEq, Int.reduceLE, abT, akY, hnl]
      exact arp.ite (fun _ => rfl) fun _ => rfl
  | t5 s =>
    have h := asd (e := e) (hK.q vi lv) s
    have hn := aqp (e := e) (q := aa6 e.l vi lv) s
    revert h hn
    simp only [aaY, abf, aat, afw, bnd, Int.reduceEq, if_false]
    rcases ak6 (aa6 e.l vi lv) e s with ⟨r | ⟨c, y⟩, e'⟩ <;> intro h hn
    · simp only [aaR] at h
      simp only [h, bnd, Bool.not_false, if_true]
      rfl
    · simp only [aaR] at h
      obtain ⟨x', h, ho⟩ := h
      have hnl : e'.l = e.l := hn.l
      have hl' : e'.evs.length ≤ 999999999 := by have h1 : e'.evs.length ≤ e.evs.length + 0 := hn.ev; have := hK.ev; omega
      simp only [h, ho, acU, acA, abI, aaL, abJ, ae8, adr, ag4, ab9 hl', aaj, bnd, Bool.not_true, Bool.false_eq_true, if_true, if_false, Int.reduceEq, Int.reduceLE, abT, hnl]
      exact arp.ite (fun _ => by simp only [arp, EnvP.em, hnl]) fun _ => arp.ite (fun _ => rfl) fun _ => rfl
  | t6 =>
    obtain ⟨x', h, ho⟩ := aje (w := w) (t := x) hl hK.st
    simp only [aaY, abf, aat, afw, h, acU, aca, aaL, aaj, aiD, bnd, Bool.not_true, Bool.false_eq_true, if_true, if_false, Int.reduceEq, Int.reduceLE]
    rcases Bool.eq_false_or_eq_true (ae6 x e) with hc | hc
    · simp only [hc, if_true] at ho ⊢
      simp only [ho, if_true]
      rfl
    · simp only [hc, Bool.false_eq_true, if_false] at ho ⊢
      simp only [ho, Int.reduceEq, if_false]
      rfl
  | t7 s =>
    have h := awZ (w := w) hK hk s ⟨hW.1, by have := hW.2; omega⟩
    revert h
    simp only [aaY, abf, aat, afw, bnd, Int.reduceEq, if_false]
    rcases asu w e s with ⟨r | ⟨c, y⟩, e'⟩ <;> intro h
    · simp only [aaR] at h
      simp only [h, bnd, Bool.not_false, if_true]
      rfl
    · simp only [aaR] at h
      obtain ⟨x', h, ho⟩ := h
      simp only [h, ho, acU, aaL, bnd, Bool.not_true, Bool.false_eq_true, if_true, if_false, Int.reduceEq, Int.reduceLE]
      rfl
  | t8 s =>
    have h := asp (w := w) hl s
    revert h
    simp only [aaY, abf, aat, afw, bnd, Int.reduceEq, if_false]
    rcases ags w e s with ⟨r | ⟨c, y⟩, e'⟩ <;> intro h
    · simp only [aaR] at h
      simp only [h, bnd, Bool.not_false, if_true]
      rfl
    · simp only [aaR] at h
      obtain ⟨x', h, ho⟩ := h
      simp only [h, ho, acU, aaL, bnd, Bool.not_true, Bool.false_eq_true, if_true, if_false, Int.reduceEq, Int.reduceLE]
      rfl
  | t9 s =>
    have h := aon (e := e) (a := aaN e.l vi) (b := lv) (q := aa6 e.l vi lv) s
    revert h
    simp only [aaY, abf, aat, afw, bnd, Int.reduceEq, if_false]
    rcases afH (aaN e.l vi) lv (aa6 e.l vi lv) e s with ⟨r | ⟨c, y⟩, e'⟩ <;> intro h
    · simp only [aaR] at h
      simp only [h, bnd, Bool.not_false, if_true]
      rfl
    · simp only [aaR] at h
      obtain ⟨x', h, ho⟩ := h
      simp only [h, ho, acU, aaL, bnd, Bool.not_true, Bool.false_eq_true, if_true, if_false, Int.reduceEq, Int.reduceLE]
      rfl
theorem an7 {k : WorkS} : abf w e k ≠ .top := by
  unfold abf
  split
  · split <;> intro h <;> cases h
  · rename_i h
    intro h2
    exact h h2
theorem aus (hK : EOk K e) (hk : K ≤ 100000000) (k : WorkS) (hW : aue K (ab6 e) k) : arp e.l w (aat (aft e.l w k) e) (aaY w e k) := by
  obtain ⟨cur, vi, lv, x, c⟩ := k
  cases c with
  | top =>
    have h1 := an6 (w := w) hK hk ⟨cur, vi, lv, x, abf w e ⟨cur, vi, lv, x, .top⟩⟩ (show abf w e ⟨cur, vi, lv, x, .top⟩ ≠ .top from an7) (by
      unfold abf
      simp only
      split <;> trivial)
    have h2 : aaY w e ⟨cur, vi, lv, x, abf w e ⟨cur, vi, lv, x, .top⟩⟩ = aaY w e ⟨cur, vi, lv, x, .top⟩ := by
      unfold abf
      simp only
      by_cases ha : e.c.age = 0
      · simp only [aaY, abf, ha, if_true]
      · simp only [aaY, abf, ha, if_false]
    rw [h2] at h1
    unfold arp at h1 ⊢
    rw [← h1]
    exact auH
  | _ => exact an6 hK hk _ (fun h => by cases h) hW
end
end
section
open Go Go.RowKit
set_option maxRecDepth 100000
variable [Tb]
theorem adF {α β : Type} (a : α) (f : α → Option β) : (some a).bind f = f a := rfl
structure LenOk (c : Cfg) : Prop where
  ps : c.progs.length ≤ 1000000
  pl : ∀ p ∈ c.progs, p.length ≤ 1000000
  ss : c.subs.length ≤ 1000000
theorem aov {lv np : Int} : ∀ {ps : List (List Ins)}, abh lv np ps = 0 → ∀ p ∈ ps, p.length ≤ 32
  | [], _, p, h => by cases h
  | q :: ps, h, p, hm => by
    unfold abh at h
    split at h
    · omega
    · split at h
      · rcases List.mem_cons.1 hm with e | e
        · subst e; omega
        · exact aov h p e
      · omega
theorem ak0 {c : Cfg} (h : ae7 c = 0) : akd c = true ∧ c.progs.length ≤ 32 ∧ (∀ p ∈ c.progs, p.length ≤ 32) ∧ c.subs.length ≤ 64 := by
  unfold ae7 at h
  split at h
  · omega
  · rename_i hn
    split at h
    · omega
    · rename_i hp
      have hp0 : adc c = 0 := by omega
      unfold adc at hp0
      split at hp0
      · omega
      · rename_i hl
        simp only [inB, Bool.not_eq_true', Bool.and_eq_false_iff, decide_eq_false_iff_not, not_or, Classical.not_not, Bool.not_eq_false, Bool.and_eq_true, decide_eq_true_eq] at hl
        refine ⟨by simpa using hn, by omega, aov hp0, ?_⟩
        unfold agP at h
        split at h
        · omega
        · omega
theorem LenOk.of {c : Cfg} (h : ae7 c = 0) : LenOk c := by
  obtain ⟨_, h1, h2, h3⟩ := ak0 h
  exact ⟨by omega, fun p hp => by have := h2 p hp; omega, by omega⟩
abbrev ClS := Int × Int × Int × Int × Int × Int × Int × Int × Int × List (List Ins) × List Sub × Unit
def clS (c : Cfg) : ClS := (c.workers, c.levels, c.classes, c.tasks, c.deque, c.heap, c.batch, c.age, c.patience, c.progs, c.subs, ())
theorem asq {α : Type} {xs : List α} {i : Nat} {x : α} (h : xs[i]? = some x) : xs.set i x = xs := by
  obtain ⟨hlt, rfl⟩ := List.getElem?_eq_some_iff.1 h
  simp
theorem avS {c : Cfg} (h : LenOk c) : ae5 c = some ((c, ()), ()) := by
  have hg : acG (ae5 c) fun o => o.1.1 = c := by
    unfold ae5
    have e0 : afR c.progs = some ((c.progs, ()), ()) := by unfold afR; rw [if_pos h.ps]
    rw [e0, adF]
    refine acG.bind (P := fun z => z.2.1 = clS c) (ajQ (fun x => x.2.1 = clS c ∧ 0 ≤ x.1 ∧ x.1 ≤ (c.progs.length : Int)) (fun x => ((c.progs.length : Int) - x.1).toNat) (fun self x ⟨q0, q1, q2⟩ ih => ?_) _ _ ⟨rfl, Int.le_refl 0, by show (0 : Int) ≤ _; omega⟩ (by show ((c.progs.length : Int) - 0).toNat < _; have := h.ps; omega)) fun z hz => ?_
    rotate_left
    · obtain ⟨i, s, u⟩ := x
      simp only at q0 q1 q2
      subst q0
      refine acG.ite (fun hlt => ?_) fun _ => .some_ rfl
      have hin : 0 ≤ i ∧ i < ((c.progs.length : Nat) : Int) := ⟨q1, hlt⟩
      refine acG.guard (show 0 ≤ i ∧ i < (((clS c).2.2.2.2.2.2.2.2.2.1.length : Nat) : Int) from hin) fun _ => ?_
      have hm := h.pl _ (azE (d := (dfR 18 : List Ins)) hin)
      have e1 : ahH (at2 (clS c).2.2.2.2.2.2.2.2.2.1 i) = some ((at2 c.progs i, ()), ()) := by
        unfold ahH; exact if_pos hm
      rw [e1, adF]
      refine acG.guard (show 0 ≤ i ∧ i < (((clS c).2.2.2.2.2.2.2.2.2.1.length : Nat) : Int) from hin) fun _ => ?_
      have e2 : wi (i + 1) = i + 1 := adm (abN (by have := h.ps; omega))
      have e3 : c.progs.set i.toNat (at2 c.progs i) = c.progs := asq (adV hin)
      rw [e2]
      refine ih _ ⟨?_, by show 0 ≤ i + 1; omega, by show i + 1 ≤ _; omega⟩ (by show ((c.progs.length : Int) - (i + 1)).toNat < ((c.progs.length : Int) - i).toNat; omega)
      show (c.workers, c.levels, c.classes, c.tasks, c.deque, c.heap, c.batch, c.age, c.patience, c.progs.set i.toNat (at2 c.progs i), c.subs, ()) = clS c
      rw [e3]; rfl
    · rw [hz]
      have e4 : afQ (clS c).2.2.2.2.2.2.2.2.2.2.1 = some ((c.subs, ()), ()) := by unfold afQ; exact if_pos h.ss
      rw [e4, adF]
      exact .some_ rfl
  obtain ⟨o, e, ho⟩ := hg
  rw [e]
  obtain ⟨⟨o1, ⟨⟩⟩, ⟨⟩⟩ := o
  simp only at ho
  rw [ho]
def avr (c : Cfg) : LayV := { workers := c.workers, levels := c.levels, classes := c.classes, tasks := c.tasks, deque := c.deque, heap := c.heap, sleepers := 4 + c.heap, epochs := 4 + c.heap + c.classes, bitmaps := 4 + c.heap + c.classes + c.workers, queues := 4 + c.heap + c.classes + c.workers + c.workers, table := 4 + c.heap + c.classes + c.workers + c.workers + c.workers * c.levels * (2 + c.deque) }
def aew (c : Cfg) : Int := (avr c).table + 5 * c.tasks
theorem aAX {a b A B : Int} (ha : 0 ≤ a) (hA : a ≤ A) (hb : 0 ≤ b) (hB : b ≤ B) : 0 ≤ a * b ∧ a * b ≤ A * B :=
  ⟨Int.mul_nonneg ha hb, Int.le_trans (Int.mul_le_mul_of_nonneg_right hA hb) (Int.mul_le_mul_of_nonneg_left hB (Int.le_trans ha hA))⟩
theorem aqm {c : Cfg} (h : akd c = true) : (0 ≤ c.workers * c.levels ∧ c.workers * c.levels ≤ 1024) ∧ (0 ≤ c.workers * c.levels * (2 + c.deque) ∧ c.workers * c.levels * (2 + c.deque) ≤ 67584) := by
  have hs := af6 h
  have h1 := aAX (a := c.workers) (b := c.levels) (A := 16) (B := 64) (by omega) (by omega) (by omega) (by omega)
  have h2 := aAX (a := c.workers * c.levels) (b := 2 + c.deque) (A := 1024) (B := 66) h1.1 (by omega) (by omega) (by omega)
  omega
theorem atf {c : Cfg} (h : ae7 c = 0) : ai9 c = some ((avr c, 0, ()), ()) := by
  have hn := (ak0 h).1
  have hs := af6 hn
  have ht := aqm hn
  unfold ai9 anP
  rw [adF]
  have e0 : ¬ ae7 c ≠ 0 := by omega
  simp only [if_neg e0]
  have e1 : wi (4 + c.heap) = 4 + c.heap := adm (abN (by omega))
  have e2 : wi (4 + c.heap + c.classes) = 4 + c.heap + c.classes := adm (abN (by omega))
  have e3 : wi (4 + c.heap + c.classes + c.workers) = 4 + c.heap + c.classes + c.workers := adm (abN (by omega))
  have e4 : wi (4 + c.heap + c.classes + c.workers + c.workers) = 4 + c.heap + c.classes + c.workers + c.workers := adm (abN (by omega))
  have e5 : wi (c.workers * c.levels) = c.workers * c.levels := adm (abN (by omega))
  have e6 : wi (2 + c.deque) = 2 + c.deque := adm (abN (by omega))
  have e7 : wi (c.workers * c.levels * (2 + c.deque)) = c.workers * c.levels * (2 + c.deque) := adm (abN (by omega))
  have e8 : wi (4 + c.heap + c.classes + c.workers + c.workers + c.workers * c.levels * (2 + c.deque)) = 4 + c.heap + c.classes + c.workers + c.workers + c.workers * c.levels * (2 + c.deque) := adm (abN (by omega))
  simp only [e1, e2, e3, e4, e5, e6, e7, e8]
  rfl
def av7 : RecP := ⟨0, -1, 0, 0, -1, [], false⟩
def avG (c : Cfg) : EnvP := ⟨c, avr c, ⟨List.replicate (aew c).toNat 0, ⟨0, 0, 0, 0⟩, 0⟩, ⟨0, 0⟩, List.replicate c.tasks.toNat av7, []⟩
theorem azd {c : Cfg} (h : ae7 c = 0) : adS c = some ((avG c, 0, ()), ()) := by
  have hn := (ak0 h).1
  have hs := af6 hn
  have ht := aqm hn
  have hg : acG (adS c) fun o => o.1.1 = avG c ∧ o.1.2.1 = 0 := by
    unfold adS
    rw [atf h, adF]
    refine acG.ite (fun e => absurd rfl e) fun _ => ?_
    have c1 : wi (5 * c.tasks) = 5 * c.tasks := adm (abN (by omega))
    have c2 : wi ((avr c).table + 5 * c.tasks) = aew c := adm (abN (by unfold avr; simp only; omega))
    have e1 : aqU (avr c) = some ((aew c, ()), ()) := by
      unfold aqU
      have : wi (5 * (avr c).tasks) = 5 * c.tasks := c1
      rw [this, c2]
    rw [e1, adF]
    have hc : 0 ≤ aew c ∧ aew c ≤ 131072 := by unfold aew avr; simp only; omega
    have e2 : af7 (aew c) = some ((⟨⟨0, 0, 0, 0, 0, 0, 0, 0, 0, [], []⟩, ⟨0, 0, 0, 0, 0, 0, 0, 0, 0, 0, 0⟩, ⟨List.replicate (aew c).toNat 0, ⟨0, 0, 0, 0⟩, 0⟩, ⟨0, 0⟩, [], []⟩, ()), ()) := by
      unfold af7 alw anO
      have i1 : (if aew c < 0 then (0 : Int) else aew c) = aew c := if_neg (by omega)
      have i2 : (if 131072 < aew c then (131072 : Int) else aew c) = aew c := if_neg (by omega)
      have i3 : 0 ≤ aew c ∧ aew c ≤ 1099511627776 := by omega
      simp only [i1, i2, if_true, if_pos i3, adF]
    rw [e2, adF, avS (.of h), adF]
    simp only [if_true]
    refine acG.bind (P := fun z => z.2.1 = avG c) (ajQ (fun x => 0 ≤ x.1 ∧ x.1 ≤ c.tasks ∧ x.2.1 = { avG c with recs := List.replicate x.1.toNat av7 }) (fun x => (c.tasks - x.1).toNat) (fun self x ⟨q0, q1, q2⟩ ih => ?_) _ _ ⟨Int.le_refl 0, by show (0 : Int) ≤ _; omega, rfl⟩ (by show (c.tasks - 0).toNat < _; omega)) fun z hz => .some_ ⟨hz, rfl⟩
    obtain ⟨i, e, u⟩ := x
    simp only at q0 q1 q2
    subst q2
    refine acG.ite (fun hlt => ?_) fun hge => .some_ ?_
    · have hl : (List.replicate i.toNat av7).length = i.toNat := List.length_replicate
      refine acG.guard ?_ fun _ => ?_
      · show (((List.replicate i.toNat av7).length + 1 : Nat) : Int) < 100000000000
        rw [hl]
        have hlt' : i < c.tasks := hlt
        omega
      · have hlt' : i < c.tasks := hlt
        have e2 : wi (i + 1) = i + 1 := adm (abN (by omega))
        rw [e2]
        refine ih _ ⟨by show 0 ≤ i + 1; omega, by show i + 1 ≤ _; omega, ?_⟩ (by show (c.tasks - (i + 1)).toNat < (c.tasks - i).toNat; omega)
        show ({ avG c with recs := List.replicate i.toNat av7 ++ [av7] } : EnvP) = { avG c with recs := List.replicate (i + 1).toNat av7 }
        have e3 : (i + 1).toNat = i.toNat + 1 := by omega
        rw [e3, List.replicate_succ']
    · show ({ avG c with recs := List.replicate i.toNat av7 } : EnvP) = avG c
      have : i = c.tasks := by have hge' : ¬ i < c.tasks := hge; omega
      rw [this]; rfl
  obtain ⟨o, e, ho1, ho2⟩ := hg
  rw [e]
  obtain ⟨⟨o1, o2, ⟨⟩⟩, ⟨⟩⟩ := o
  simp only at ho1 ho2
  rw [ho1, ho2]
end
section
open Go Go.RowKit
set_option maxRecDepth 1000000
def arh : Cfg := ⟨1, 4, 1, 12, 12, 1, 1, 0, 1, [[]], []⟩
def akf : LayV := avr arh
theorem aAM : anw [] = some ((⟨1, 1, 1, 1, 1, 1, 1, 0, 1, [[]], []⟩, ()), ()) := by kernel_rfl
def auk : RecP := ⟨0, -1, 0, 0, -1, [], false⟩
theorem aA7 {xs : List Int} {a v : Int} (h : 0 ≤ a ∧ a < (xs.length : Int)) : aeG (xs.set a.toNat v) a = v := by
  show (((xs.set a.toNat v)[a.toNat]?).getD _) = v
  rw [List.getElem?_set_self (by omega)]; rfl
theorem gtP {e : EnvP} {k a v b : Int} (ha : 0 ≤ a ∧ a < (e.m.cells.length : Int)) : (e.pt k a v).gt b = if b = a then v else e.gt b := by
  show (e.m.pt k a v).gt b = if _ then v else e.m.gt b
  unfold MemV.pt
  rw [if_pos ha]
  unfold MemV.gt
  simp only [List.length_set]
  by_cases hb : 0 ≤ b ∧ b < (e.m.cells.length : Int)
  · rw [if_pos hb, if_pos hb]
    by_cases hab : b = a
    · rw [if_pos hab, hab, aA7 ha]
    · rw [if_neg hab]
      show atL _ (e.m.cells.set a.toNat v) b = atL _ e.m.cells b
      unfold atL
      rw [List.getElem?_set_ne (by omega)]
  · rw [if_neg hb, if_neg hb, if_neg (fun (h : b = a) => hb (by rw [h]; exact ha))]
theorem ajD {e : EnvP} {k a v : Int} : (e.pt k a v).m.cells.length = e.m.cells.length := by
  show (e.m.pt k a v).cells.length = _
  unfold MemV.pt
  split
  · simp
  · rfl
theorem aAm {e : EnvP} {a o : Int} (ha : 0 ≤ a ∧ a < (e.m.cells.length : Int)) : e.hit a o = true ↔ e.gt a = o := by
  show e.m.hit a o = true ↔ e.m.gt a = o
  unfold MemV.hit MemV.gt
  rw [if_pos ha, decide_eq_true_iff]
  exact ⟨fun h => h.2, fun h => ⟨ha, h⟩⟩
theorem aAN {e : EnvP} {a o v : Int} : e.cas a o v = e.pt 3 a (if e.gt a = o then v else e.gt a) := rfl
theorem lkP {e : EnvP} {a : Int} : e.lk a = e.pt 1 a (e.gt a) := rfl
theorem gtL {e : EnvP} {a b : Int} (ha : 0 ≤ a ∧ a < (e.m.cells.length : Int)) : (e.lk a).gt b = e.gt b := by
  rw [lkP, gtP ha]
  split
  · rename_i h; rw [h]
  · rfl
def qW (h : Nat) : QV := ⟨8 + 14 * h, 9 + 14 * h, 10 + 14 * h, 12⟩
theorem ayG {h : Nat} (hh : h < 4) : aa6 akf 0 (h : Int) = qW h := by
  rcases h with _ | _ | _ | _ | h
  · kernel_rfl
  · kernel_rfl
  · kernel_rfl
  · kernel_rfl
  · exact absurd hh (by omega)
theorem av2 {t : Nat} (ht : t < 12) : acq akf (t : Int) = 64 + 5 * t := by
  rcases t with _ | _ | _ | _ | _ | _ | _ | _ | _ | _ | _ | _ | t
  all_goals first | exact absurd ht (by omega) | kernel_rfl
theorem aAj {t : Nat} (ht : t < 12) : ae3 akf (t : Int) = 66 + 5 * t := by
  rcases t with _ | _ | _ | _ | _ | _ | _ | _ | _ | _ | _ | _ | t
  all_goals first | exact absurd ht (by omega) | kernel_rfl
theorem azy {h i : Nat} (hh : h < 4) (hi : i < 12) : alX (qW h) (i : Int) = 10 + 14 * h + i := by
  unfold alX qW
  have e1 : wu (12 : Int) = 12 := by kernel_rfl
  show (if (12 : Int) < 1 then -1 else wi ((10 + 14 * (h : Int)) + wi (Int.tmod (i : Int) (wu 12)))) = _
  rw [if_neg (by decide), e1, Int.tmod_eq_of_lt (by omega) (by omega), adm (x := (i : Int)) (abN (by omega)), adm (abN (by omega))]
theorem bmW : aaN akf 0 = 7 := by kernel_rfl
theorem epW : ahg akf 0 = 6 := by kernel_rfl
theorem slW (e : EnvP) (hc : e.c = arh) (hl : e.l = akf) : agR 0 e = 5 := by
  unfold agR
  rw [hc, hl]
  kernel_rfl
theorem wuN {x : Int} (h : 0 ≤ x ∧ x ≤ 1000000000000) : wu x = x := by
  show Int.emod x 18446744073709551616 = x
  exact Int.emod_eq_of_lt h.1 (by omega)
theorem szW {b t : Nat} (hb : b ≤ 1000) (ht : t ≤ b) : szP (b : Int) (t : Int) = (b : Int) - t := by
  unfold szP
  rw [wuN (by omega), adm (abN (by omega))]
def an2 (b v : Nat) : Bool := b / 2 ^ v % 2 == 1
def al8 (b : Nat) : Nat := b % 2 + b / 2 % 2 + b / 4 % 2 + b / 8 % 2
theorem azl (b : Nat) (h0 : b ≠ 0) (hb : b < 16) : ∃ h : Nat, h < 4 ∧ ami (b : Int) = (h : Int) ∧ an2 b h = true ∧ ∀ v, v < 4 → h < v → an2 b v = false := by
  rcases b with _ | _ | _ | _ | _ | _ | _ | _ | _ | _ | _ | _ | _ | _ | _ | _ | b
  · exact absurd rfl h0
  · exact ⟨0, by decide, by kernel_rfl, by decide, by decide⟩
  · exact ⟨1, by decide, by kernel_rfl, by decide, by decide⟩
  · exact ⟨1, by decide, by kernel_rfl, by decide, by decide⟩
  · exact ⟨2, by decide, by kernel_rfl, by decide, by decide⟩
  · exact ⟨2, by decide, by kernel_rfl, by decide, by decide⟩
  · exact ⟨2, by decide, by kernel_rfl, by decide, by decide⟩
  · exact ⟨2, by decide, by kernel_rfl, by decide, by decide⟩
  · exact ⟨3, by decide, by kernel_rfl, by decide, by decide⟩
  · exact ⟨3, by decide, by kernel_rfl, by decide, by decide⟩
  · exact ⟨3, by decide, by kernel_rfl, by decide, by decide⟩
  · exact ⟨3, by decide, by kernel_rfl, by decide, by decide⟩
  · exact ⟨3, by decide, by kernel_rfl, by decide, by decide⟩
  · exact ⟨3, by decide, by kernel_rfl, by decide, by decide⟩
  · exact ⟨3, by decide, by kernel_rfl, by decide, by decide⟩
  · exact ⟨3, by decide, by kernel_rfl, by decide, by decide⟩
  · exact absurd hb (by omega)
theorem aw2 (b h : Nat) (hb : b < 16) (hh : h < 4) (hs : an2 b h = true) : ∃ b' : Nat, aqe (b : Int) (auo (arX (h : Int))) = (b' : Int) ∧ b' < 16 ∧ al8 b' + 1 = al8 b ∧ ∀ v, v < 4 → v ≠ h → an2 b' v = an2 b v := by
  refine ⟨b - 2 ^ h, ?_⟩
  rcases h with _ | _ | _ | _ | h
  rotate_left 4
  · exact absurd hh (by omega)
  all_goals rcases b with _ | _ | _ | _ | _ | _ | _ | _ | _ | _ | _ | _ | _ | _ | _ | _ | b
  all_goals first | exact absurd hb (by omega) | exact absurd hs (by decide) | exact ⟨by kernel_rfl, by decide, by decide, by decide⟩
theorem ayP (b h : Nat) (hb : b < 16) (hh : h < 4) : ∃ b' : Nat, orU (b : Int) (wu (1 * 2 ^ min (h : Int).toNat IntKind.u64.bits)) = (b' : Int) ∧ b' < 16 ∧ an2 b' h = true ∧ ∀ v, v < 4 → an2 b v = true → an2 b' v = true := by
  refine ⟨b ||| 2 ^ h, ?_⟩
  rcases h with _ | _ | _ | _ | h
  rotate_left 4
  · exact absurd hh (by omega)
  all_goals rcases b with _ | _ | _ | _ | _ | _ | _ | _ | _ | _ | _ | _ | _ | _ | _ | _ | b
  all_goals first | exact absurd hb (by omega) | exact ⟨by kernel_rfl, by decide, by decide, by decide⟩
section
variable (n : Nat) (lv : Nat → Nat)
def Lq (v : Nat) : List Nat := (List.range n).filter fun t => lv t == v
def aph (r : Nat → Nat) (t : Nat) : Prop := ∃ v i, v < 4 ∧ i < r v ∧ (Lq n lv v)[i]? = some t
end
section
variable {n : Nat} {lv : Nat → Nat} {v w i j t u : Nat} {r : Nat → Nat}
theorem atc (h : (Lq n lv v)[i]? = some t) : t < n ∧ lv t = v := by
  have h1 := List.mem_of_getElem? h
  unfold Lq at h1
  rw [List.mem_filter, List.mem_range] at h1
  exact ⟨h1.1, by simpa using h1.2⟩
theorem aAg (h : (Lq n lv v)[i]? = some t) (h' : (Lq n lv v)[j]? = some u) (hij : i < j) : t < u := by
  have hs : (Lq n lv v).Pairwise (· < ·) := List.Pairwise.filter _ List.pairwise_lt_range
  obtain ⟨a1, rfl⟩ := List.getElem?_eq_some_iff.1 h
  obtain ⟨a2, rfl⟩ := List.getElem?_eq_some_iff.1 h'
  exact List.pairwise_iff_getElem.1 hs i j a1 a2 hij
theorem aph.mono {r' : Nat → Nat} (h : aph n lv r t) (hr : ∀ v, r v ≤ r' v) : aph n lv r' t := by
  obtain ⟨v, i, a, b, c⟩ := h
  exact ⟨v, i, a, Nat.lt_of_lt_of_le b (hr v), c⟩
end
structure WM (n : Nat) (lv : Nat → Nat) (r tp bo : Nat → Nat) (bm : Nat) (e : EnvP) : Prop where
  len : e.m.cells.length = 124
  c : e.c = arh
  l : e.l = akf
  rl : e.recs.length = 12
  g2 : e.gt 2 = 0
  g7 : e.gt 7 = (bm : Int)
  tp : ∀ v : Nat, v < 4 → e.gt (8 + 14 * v) = (tp v : Int)
  bo : ∀ v : Nat, v < 4 → e.gt (9 + 14 * v) = (bo v : Int)
  rg : ∀ v i t : Nat, v < 4 → i < r v → (Lq n lv v)[i]? = some t → e.gt (10 + 14 * v + i) = (t : Int)
  rm : ∀ t : Nat, aph n lv r t → e.gt (64 + 5 * t) = 1 ∧ e.gt (66 + 5 * t) = 0 ∧ e.rc t = auk
  rr : ∀ v : Nat, v < 4 → r v ≤ 12
section
variable {n : Nat} {lv : Nat → Nat} {r tp bo : Nat → Nat} {bm : Nat} {e : EnvP} {k a x : Int}
theorem WM.pt (h : WM n lv r tp bo bm e) (hn : n ≤ 12) (ha : 0 ≤ a ∧ a < 124) {tp' bo' : Nat → Nat} {bm' : Nat} (h2 : a ≠ 2) (h7 : if a = 7 then x = (bm' : Int) else bm' = bm)
    (ht : ∀ v : Nat, v < 4 → if a = 8 + 14 * v then x = (tp' v : Int) else tp' v = tp v) (hb : ∀ v : Nat, v < 4 → if a = 9 + 14 * v then x = (bo' v : Int) else bo' v = bo v)
    (hr : ∀ v i : Nat, v < 4 → i < 12 → a ≠ 10 + 14 * v + i) (hm : ∀ t : Nat, aph n lv r t → a ≠ 64 + 5 * t ∧ a ≠ 66 + 5 * t) : WM n lv r tp' bo' bm' (e.pt k a x) := by
  have hl : 0 ≤ a ∧ a < (e.m.cells.length : Int) := by rw [h.len]; exact ha
  refine ⟨by rw [ajD, h.len], h.c, h.l, h.rl, ?_, ?_, fun v hv => ?_, fun v hv => ?_, fun v i t hv hi hq => ?_, fun t hT => ?_, h.rr⟩
  · rw [gtP hl, if_neg (Ne.symm h2)]; exact h.g2
  · rw [gtP hl]
    by_cases h' : a = 7
    · rw [if_pos h'] at h7; rw [if_pos h'.symm]; exact h7
    · rw [if_neg h'] at h7; rw [if_neg (Ne.symm h'), h7]; exact h.g7
  · rw [gtP hl]
    have := ht v hv
    by_cases h' : a = 8 + 14 * v
    · rw [if_pos h'] at this; rw [if_pos h'.symm]; exact this
    · rw [if_neg h'] at this; rw [if_neg (Ne.symm h'), this]; exact h.tp v hv
  · rw [gtP hl]
    have := hb v hv
    by_cases h' : a = 9 + 14 * v
    · rw [if_pos h'] at this; rw [if_pos h'.symm]; exact this
    · rw [if_neg h'] at this; rw [if_neg (Ne.symm h'), this]; exact h.bo v hv
  · rw [gtP hl, if_neg (Ne.symm (hr v i hv (by have := h.rr v hv; omega)))]
    exact h.rg v i t hv hi hq
  · obtain ⟨m1, m2⟩ := hm t hT
    rw [gtP hl, gtP hl, if_neg (Ne.symm m1), if_neg (Ne.symm m2)]
    exact h.rm t hT
theorem WM.pt0 (h : WM n lv r tp bo bm e) (hn : n ≤ 12) (ha : 0 ≤ a ∧ a < 124) (hq : (3 ≤ a ∧ a ≤ 6) ∨ 64 ≤ a) (hm : ∀ t : Nat, aph n lv r t → a ≠ 64 + 5 * t ∧ a ≠ 66 + 5 * t) : WM n lv r tp bo bm (e.pt k a x) :=
  h.pt hn ha (by omega) (by rw [if_neg (by omega)]) (fun v hv => by rw [if_neg (by omega)]) (fun v hv => by rw [if_neg (by omega)]) (fun v i hv hi => by omega) hm
theorem WM.lk (h : WM n lv r tp bo bm e) (ha : 0 ≤ a ∧ a < 124) : WM n lv r tp bo bm (e.lk a) := by
  have hl : 0 ≤ a ∧ a < (e.m.cells.length : Int) := by rw [h.len]; exact ha
  refine ⟨by rw [lkP, ajD, h.len], h.c, h.l, h.rl, ?_, ?_, fun v hv => ?_, fun v hv => ?_, fun v i t hv hi hq => ?_, fun t hT => ?_, h.rr⟩
  · rw [gtL hl]; exact h.g2
  · rw [gtL hl]; exact h.g7
  · rw [gtL hl]; exact h.tp v hv
  · rw [gtL hl]; exact h.bo v hv
  · rw [gtL hl]; exact h.rg v i t hv hi hq
  · rw [gtL hl, gtL hl]; exact h.rm t hT
theorem WM.em {w t o v : Int} (h : WM n lv r tp bo bm e) : WM n lv r tp bo bm (e.em k w t o v) := ⟨h.len, h.c, h.l, h.rl, h.g2, h.g7, h.tp, h.bo, h.rg, h.rm, h.rr⟩
theorem WM.pr {y : Nat} {z : RecP} (h : WM n lv r tp bo bm e) (hn : n ≤ 12) (hy : ∀ t, aph n lv r t → t ≠ y) : WM n lv r tp bo bm (e.pr (y : Int) z) := by
  refine ⟨h.len, h.c, h.l, by show (e.recs.set _ z).length = 12; rw [List.length_set]; exact h.rl, h.g2, h.g7, h.tp, h.bo, h.rg, fun t hT => ?_, h.rr⟩
  obtain ⟨m1, m2, m3⟩ := h.rm t hT
  refine ⟨m1, m2, ?_⟩
  have hne := hy t hT
  show aab (e.recs.set ((y : Int)).toNat z) (t : Int) = auk
  rw [← m3]
  show atL _ (e.recs.set ((y : Int)).toNat z) (t : Int) = atL _ e.recs (t : Int)
  unfold atL
  rw [List.getElem?_set_ne (by omega)]
theorem WM.sub {r' : Nat → Nat} (h : WM n lv r tp bo bm e) (hr : ∀ v, r' v ≤ r v) : WM n lv r' tp bo bm e :=
  ⟨h.len, h.c, h.l, h.rl, h.g2, h.g7, h.tp, h.bo, fun v i t hv hi hq => h.rg v i t hv (Nat.lt_of_lt_of_le hi (hr v)) hq, fun t hT => h.rm t (hT.mono hr), fun v hv => Nat.le_trans (hr v) (h.rr v hv)⟩
theorem WM.in {a : Int} (h : WM n lv r tp bo bm e) (ha : 0 ≤ a ∧ a < 124) : 0 ≤ a ∧ a < (e.m.cells.length : Int) := by rw [h.len]; exact ha
end
end
section
open Go Go.RowKit
set_option maxRecDepth 100000
def ans (n : Nat) (lv : Nat → Nat) : List Ev → Int → Int → Option (Int × Int)
  | [], a, c => some (a, c)
  | v :: l, a, c => if v.kind ≠ 5 then ans n lv l a c else if v.task < 0 ∨ (n : Int) ≤ v.task then none else if 0 < c ∧ (lv a.toNat < lv v.task.toNat ∨ (lv v.task.toNat = lv a.toNat ∧ a < v.task)) then none else ans n lv l v.task (c + 1)
theorem akS {n : Nat} {lv : Nat → Nat} {v : Ev} : ∀ {l : List Ev} {a c : Int}, ans n lv (l ++ [v]) a c = (ans n lv l a c).bind fun z => ans n lv [v] z.1 z.2
  | [], a, c => rfl
  | u :: l, a, c => by
    show ans n lv (u :: (l ++ [v])) a c = _
    unfold ans
    split
    · exact akS
    split
    · rfl
    split
    · rfl
    · exact akS
abbrev ah8 (r : Nat → Nat) : Nat := r 0 + r 1 + r 2 + r 3
def EO (n : Nat) (lv : Nat → Nat) (r : Nat → Nat) (evs : List Ev) : Prop :=
  ∃ last cnt : Nat, ans n lv evs 0 0 = some ((last : Int), (cnt : Int)) ∧ cnt + ah8 r = n ∧ (cnt = 0 ∨ ∀ t, aph n lv r t → lv t < lv last ∨ lv t = lv last ∧ t < last)
def EH (n : Nat) (lv : Nat → Nat) (r : Nat → Nat) (x : Nat) (evs : List Ev) : Prop :=
  ∃ last cnt : Nat, ans n lv evs 0 0 = some ((last : Int), (cnt : Int)) ∧ cnt + ah8 r + 1 = n ∧ (cnt = 0 ∨ lv x < lv last ∨ lv x = lv last ∧ x < last)
section
variable {n : Nat} {lv : Nat → Nat} {r : Nat → Nat} {x : Nat} {evs : List Ev} {w t o l k : Int}
theorem EO.other (h : EO n lv r evs) (hk : k ≠ 5) : EO n lv r (evs ++ [⟨k, w, t, o, l⟩]) := by
  obtain ⟨last, cnt, h1, h2⟩ := h
  refine ⟨last, cnt, ?_, h2⟩
  rw [akS, h1]
  show ans n lv [⟨k, w, t, o, l⟩] _ _ = _
  unfold ans
  rw [if_pos hk]
  rfl
theorem EH.start (h : EH n lv r x evs) (hx : x < n) (hr : ∀ t, aph n lv r t → lv t < lv x ∨ lv t = lv x ∧ t < x) : EO n lv r (evs ++ [⟨5, w, (x : Int), o, l⟩]) := by
  obtain ⟨last, cnt, h1, h2, h3⟩ := h
  refine ⟨x, cnt + 1, ?_, by omega, .inr hr⟩
  rw [akS, h1]
  show ans n lv [⟨5, w, (x : Int), o, l⟩] (last : Int) (cnt : Int) = _
  unfold ans
  rw [if_neg (show ¬ (5 : Int) ≠ 5 by decide), if_neg (by show ¬ ((x : Int) < 0 ∨ (n : Int) ≤ (x : Int)); omega), if_neg (by show ¬ (0 < (cnt : Int) ∧ (lv (last : Int).toNat < lv (x : Int).toNat ∨ (lv (x : Int).toNat = lv (last : Int).toNat ∧ (last : Int) < (x : Int)))); rw [Int.toNat_natCast, Int.toNat_natCast]; omega)]
  rfl
end
structure WI (n : Nat) (lv : Nat → Nat) (r tp bo : Nat → Nat) (bm : Nat) (e : EnvP) : Prop where
  m : WM n lv r tp bo bm e
  t : ∀ v : Nat, v < 4 → bo v = tp v + r v ∧ tp v ≤ 1 ∧ (0 < r v → tp v = 0)
  b : bm < 16 ∧ ∀ v, v < 4 → 0 < r v → an2 bm v = true
  q : ∀ v, v < 4 → r v ≤ (Lq n lv v).length
structure HandX (n : Nat) (lv : Nat → Nat) (r : Nat → Nat) (x : Nat) (e : EnvP) : Prop where
  xn : x < n
  s : e.gt (64 + 5 * x) = 1
  j : e.gt (66 + 5 * x) = 0
  rc : e.rc x = auk
  nr : ∀ t, aph n lv r t → t ≠ x ∧ (lv t < lv x ∨ lv t = lv x ∧ t < x)
structure PW (n : Nat) (lv : Nat → Nat) (r tp bo : Nat → Nat) (bm h m x : Nat) (e : EnvP) : Prop where
  w : WM n lv r tp bo bm e
  t : ∀ v : Nat, v < 4 → v ≠ h → bo v = tp v + r v ∧ tp v ≤ 1 ∧ (0 < r v → tp v = 0)
  b : bm < 16 ∧ ∀ v, v < 4 → 0 < r v → an2 bm v = true
  q : ∀ v, v < 4 → r v ≤ (Lq n lv v).length
  hh : h < 4
  rh : r h = m
  hm : m < 12
  cell : e.gt (10 + 14 * h + m) = (x : Int)
  hx : HandX n lv r x e
  eo : EH n lv r x e.evs
inductive PH (n : Nat) (lv : Nat → Nat) : WorkC → EnvP → Nat → Prop
  | top {e r tp bo bm} (h : WI n lv r tp bo bm e) (o : EO n lv r e.evs) : PH n lv .top e (30 * ah8 r + 8 * al8 bm + 6)
  | again {e r tp bo bm v} (h : WI n lv r tp bo bm e) (o : EO n lv r e.evs) : PH n lv (.t2 (.pop (.l1 v))) e (30 * ah8 r + 8 * al8 bm + 6)
  | look {e r tp bo bm} {h : Nat} (i : WI n lv r tp bo bm e) (o : EO n lv r e.evs) (hh : h < 4) (hb : an2 bm h = true) (hv : ∀ v, v < 4 → h < v → an2 bm v = false) : PH n lv (.t2 (.pop (.l2 (h : Int) .l1))) e (30 * ah8 r + 8 * al8 bm + 5)
  | look2 {e r tp bo bm} {h : Nat} (i : WI n lv r tp bo bm e) (o : EO n lv r e.evs) (hh : h < 4) (hb : an2 bm h = true) (hv : ∀ v, v < 4 → h < v → an2 bm v = false) : PH n lv (.t2 (.pop (.l2 (h : Int) (.l2 (bo h : Int))))) e (30 * ah8 r + 8 * al8 bm + 4)
  | res1 {e r tp bo bm} {h : Nat} (i : WI n lv r tp bo bm e) (o : EO n lv r e.evs) (hh : h < 4) (hb : an2 bm h = true) (hr : r h = 0) : PH n lv (.t2 (.pop (.l3 (h : Int) .l1))) e (30 * ah8 r + 8 * al8 bm + 3)
  | res2 {e r tp bo bm} {h : Nat} (i : WI n lv r tp bo bm e) (o : EO n lv r e.evs) (hh : h < 4) (hr : r h = 0) : PH n lv (.t2 (.pop (.l3 (h : Int) .l2))) e (30 * ah8 r + 8 * al8 bm + 10)
  | res3 {e r tp bo bm} {h : Nat} (i : WI n lv r tp bo bm e) (o : EO n lv r e.evs) (hh : h < 4) (hr : r h = 0) : PH n lv (.t2 (.pop (.l3 (h : Int) (.l3 (bo h : Int))))) e (30 * ah8 r + 8 * al8 bm + 9)
  | p3 {e r tp bo bm} {h m x : Nat} (p : PW n lv r tp bo bm h m x e) (h1 : bo h = m + 1) (h2 : tp h = 0) : PH n lv (.t2 (.pop (.l2 (h : Int) (.l3 ((m + 1 : Nat) : Int) 0)))) e (30 * ah8 r + 8 * al8 bm + 20)
  | p4 {e r tp bo bm} {h m x : Nat} (p : PW n lv r tp bo bm h m x e) (h1 : bo h = m) (h2 : tp h = 0) : PH n lv (.t2 (.pop (.l2 (h : Int) (.l4 ((m + 1 : Nat) : Int) 0)))) e (30 * ah8 r + 8 * al8 bm + 19)
  | p5 {e r tp bo bm} {h m x : Nat} (p : PW n lv r tp bo bm h m x e) (h1 : bo h = m) (h2 : tp h = 0) : PH n lv (.t2 (.pop (.l2 (h : Int) (.l5 ((m + 1 : Nat) : Int) 0)))) e (30 * ah8 r + 8 * al8 bm + 18)
  | p6 {e r tp bo bm} {h x : Nat} (p : PW n lv r tp bo bm h 0 x e) (h1 : bo h = 0) (h2 : tp h = 0) : PH n lv (.t2 (.pop (.l2 (h : Int) (.l6 ((0 + 1 : Nat) : Int) 0)))) e (30 * ah8 r + 8 * al8 bm + 18)
  | p7 {e r tp bo bm} {h x : Nat} (p : PW n lv r tp bo bm h 0 x e) (h2 : tp h = 1) : PH n lv (.t2 (.pop (.l2 (h : Int) (.l7 ((0 + 1 : Nat) : Int) 0)))) e (30 * ah8 r + 8 * al8 bm + 17)
  | p8 {e r tp bo bm} {h x : Nat} (p : PW n lv r tp bo bm h 0 x e) (h1 : bo h = 1) (h2 : tp h = 1) : PH n lv (.t2 (.pop (.l2 (h : Int) (.l8 ((0 + 1 : Nat) : Int) 0)))) e (30 * ah8 r + 8 * al8 bm + 16)
  | claim {e r tp bo bm} {x : Nat} (i : WI n lv r tp bo bm e) (hx : HandX n lv r x e) (o : EH n lv r x e.evs) : PH n lv (.t2 (.claim (x : Int))) e (30 * ah8 r + 8 * al8 bm + 15)
  | run {e r tp bo bm} {x : Nat} (i : WI n lv r tp bo bm e) (o : EO n lv r e.evs) (xn : x < n) (nr : ∀ t, aph n lv r t → t ≠ x) (j : e.gt (66 + 5 * x) = 0) (rc : e.rc x = { auk with started := true }) : PH n lv (.t7 (ary (x : Int))) e (30 * ah8 r + 8 * al8 bm + 14)
  | f2 {e r tp bo bm} {x : Nat} (i : WI n lv r tp bo bm e) (o : EO n lv r e.evs) (xn : x < n) (nr : ∀ t, aph n lv r t → t ≠ x) (j : e.gt (66 + 5 * x) = 0) : PH n lv (.t7 { ary (x : Int) with c := .f2 }) e (30 * ah8 r + 8 * al8 bm + 13)
  | drn {e r tp bo} (i : WI n lv r tp bo 0 e) (o : EO n lv r e.evs) (hr : ah8 r = 0) : PH n lv (.t3 aoX) e 5
  | s1 {e r tp bo} (i : WI n lv r tp bo 0 e) (o : EO n lv r e.evs) (hr : ah8 r = 0) : PH n lv (.t8 .l1) e 4
  | s2 {e r tp bo ep} (i : WI n lv r tp bo 0 e) (o : EO n lv r e.evs) (hr : ah8 r = 0) : PH n lv (.t8 (.l2 ep)) e 3
  | s3 {e r tp bo ep} (i : WI n lv r tp bo 0 e) (o : EO n lv r e.evs) (hr : ah8 r = 0) : PH n lv (.t8 (.l3 ep)) e 2
  | s4 {e r tp bo ep} (i : WI n lv r tp bo 0 e) (o : EO n lv r e.evs) (hr : ah8 r = 0) : PH n lv (.t8 (.l4 ep 0)) e 1
  | s5 {e ep v s} (l : e.c = arh ∧ e.l = akf ∧ e.recs.length = 12) (o : EO n lv (fun _ => 0) e.evs) : PH n lv (.t8 (.l5 ep v s)) e 0
section
variable {n : Nat} {lv : Nat → Nat} {r tp bo : Nat → Nat} {bm h m x : Nat} {e : EnvP} {a : Int}
theorem WI.lk (i : WI n lv r tp bo bm e) (ha : 0 ≤ a ∧ a < 124) : WI n lv r tp bo bm (e.lk a) := ⟨i.m.lk ha, i.t, i.b, i.q⟩
theorem WI.em {k w t o v : Int} (i : WI n lv r tp bo bm e) : WI n lv r tp bo bm (e.em k w t o v) := ⟨i.m.em, i.t, i.b, i.q⟩
theorem HandX.lk (H : HandX n lv r x e) (i : WM n lv r tp bo bm e) (hn : n ≤ 12) (ha : 0 ≤ a ∧ a < 124) : HandX n lv r x (e.lk a) :=
  ⟨H.xn, by rw [gtL (i.in ha)]; exact H.s, by rw [gtL (i.in ha)]; exact H.j, H.rc, H.nr⟩
theorem HandX.pt {k y : Int} (H : HandX n lv r x e) (i : WM n lv r tp bo bm e) (ha : 0 ≤ a ∧ a < 64) : HandX n lv r x (e.pt k a y) :=
  ⟨H.xn, by rw [gtP (i.in ⟨ha.1, by omega⟩), if_neg (by omega)]; exact H.s, by rw [gtP (i.in ⟨ha.1, by omega⟩), if_neg (by omega)]; exact H.j, H.rc, H.nr⟩
theorem apz (hn : n ≤ 12) {y : Nat} (hy : ∀ t, aph n lv r t → t ≠ y) (c : Int) (hc : c = 64 ∨ c = 66) : ∀ t : Nat, aph n lv r t → c + 5 * (y : Int) ≠ 64 + 5 * t ∧ c + 5 * (y : Int) ≠ 66 + 5 * t := fun t ht => by
  have := hy t ht
  omega
end
end
section
open Go Go.RowKit
set_option maxRecDepth 100000
variable [Tb]
def amX (f : Nat → Nat) (h x : Nat) : Nat → Nat := fun v => if v = h then x else f v
section
variable {n : Nat} {lv : Nat → Nat} {r tp bo : Nat → Nat} {bm h m x : Nat} {e : EnvP} {a : Int} {cu vi lw x0 : Int}
def Nxt (n : Nat) (lv : Nat → Nat) (o : WorkS × EnvP) (μ : Nat) : Prop := ∃ μ', μ' < μ ∧ PH n lv o.1.c o.2 μ'
theorem aob (i : WI n lv r tp bo bm e) (o : EO n lv r e.evs) {v : Int} : Nxt n lv (aaY 0 e ⟨cu, vi, lw, x0, .t2 (.pop (.l1 v))⟩) (30 * ah8 r + 8 * al8 bm + 6) := by
  have hb : aaN e.l 0 = 7 := by rw [i.m.l]; exact bmW
  by_cases h0 : bm = 0
  · subst h0
    have hg : e.gt 7 = 0 := i.m.g7
    have hw : aaY 0 e ⟨cu, vi, lw, x0, .t2 (.pop (.l1 v))⟩ = (⟨cu, vi, lw, x0, .t3 aoX⟩, e.lk 7) := by
      simp only [aaY, abf, aex, aen, hb, hg, if_true, if_neg (show ¬ (2 : Int) = 1 by decide)]
    have hr : ah8 r = 0 := by
      have hz : ∀ v, v < 4 → r v = 0 := fun v hv => Classical.byContradiction fun k => by
        have h1 := i.b.2 v hv (by omega)
        revert h1
        rcases v with _ | _ | _ | _ | v
        all_goals first | decide | exact absurd hv (by omega)
      show r 0 + r 1 + r 2 + r 3 = 0
      rw [hz 0 (by decide), hz 1 (by decide), hz 2 (by decide), hz 3 (by decide)]
    rw [hw]
    exact ⟨5, by omega, .drn (i.lk (by decide)) o hr⟩
  · obtain ⟨h, hh, h1, h2, h3⟩ := azl bm h0 i.b.1
    have hg : e.gt 7 = (bm : Int) := i.m.g7
    have hw : aaY 0 e ⟨cu, vi, lw, x0, .t2 (.pop (.l1 v))⟩ = (⟨cu, vi, lw, x0, .t2 (.pop (.l2 (h : Int) .l1))⟩, e.lk 7) := by
      simp only [aaY, abf, aex, aen, hb, hg, if_neg (show ¬ (bm : Int) = 0 by omega), h1]
    rw [hw]
    exact ⟨_, by omega, .look (i.lk (by decide)) o hh h2 h3⟩
theorem asD (i : WM n lv r tp bo bm e) (hh : h < 4) : aa6 e.l 0 (h : Int) = qW h := by rw [i.l]; exact ayG hh
theorem Nxt.to {o : WorkS × EnvP} {μ μ' : Nat} {c : WorkC} {k : WorkS} {e' : EnvP} (hw : o = (k, e')) (hc : k.c = c) (h : PH n lv c e' μ') (hl : μ' < μ) : Nxt n lv o μ := by
  subst hw hc; exact ⟨μ', hl, h⟩
theorem awA (i : WI n lv r tp bo bm e) (o : EO n lv r e.evs) (hn : n ≤ 12) (hh : h < 4) (hb : an2 bm h = true) (hv : ∀ v, v < 4 → h < v → an2 bm v = false) : Nxt n lv (aaY 0 e ⟨cu, vi, lw, x0, .t2 (.pop (.l2 (h : Int) (.l2 (bo h : Int))))⟩) (30 * ah8 r + 8 * al8 bm + 4) := by
  have hq := asD i.m hh
  have ht := i.m.tp h hh
  obtain ⟨t1, t2, t3⟩ := i.t h hh
  have hr := i.m.rr h hh
  have hsz : szP (bo h : Int) (tp h : Int) = (bo h : Int) - tp h := szW (by omega) (by omega)
  by_cases h0 : r h = 0
  · have hc : szP (bo h : Int) (e.gt (8 + 14 * (h : Int))) ≤ 0 := by rw [ht, hsz]; omega
    refine Nxt.to (k := ⟨cu, vi, lw, x0, .t2 (.pop (.l3 (h : Int) .l1))⟩) (e' := e.lk (8 + 14 * h)) ?_ rfl (.res1 (i.lk (by omega)) o hh hb h0) (by omega)
    simp only [aaY, abf, aex, aen, hq, qW, ag7, if_pos hc, if_neg (show ¬ (2 : Int) = 1 by decide)]
  · obtain ⟨m, hm⟩ : ∃ m, r h = m + 1 := ⟨r h - 1, by omega⟩
    have hc : ¬ szP (bo h : Int) (e.gt (8 + 14 * (h : Int))) ≤ 0 := by rw [ht, hsz]; omega
    have e1 : tp h = 0 := t3 (by omega)
    have e2 : bo h = m + 1 := by omega
    have hx0 : m < (Lq n lv h).length := by have := i.q h hh; omega
    obtain ⟨x, hx⟩ : ∃ x, (Lq n lv h)[m]? = some x := ⟨_, List.getElem?_eq_getElem hx0⟩
    obtain ⟨x1, x2⟩ := atc hx
    have hR : aph n lv r x := ⟨h, m, hh, by omega, hx⟩
    have hsub : ∀ v, amX r h m v ≤ r v := fun v => by unfold amX; split <;> (try subst_vars) <;> omega
    have hs4 : ah8 (amX r h m) + 1 = ah8 r := by
      unfold ah8 amX
      rcases h with _ | _ | _ | _ | h
      · rw [if_pos rfl, if_neg (by decide), if_neg (by decide), if_neg (by decide)]; omega
      · rw [if_neg (by decide), if_pos rfl, if_neg (by decide), if_neg (by decide)]; have : r 1 = m + 1 := hm; omega
      · rw [if_neg (by decide), if_neg (by decide), if_pos rfl, if_neg (by decide)]; have : r 2 = m + 1 := hm; omega
      · rw [if_neg (by decide), if_neg (by decide), if_neg (by decide), if_pos rfl]; have : r 3 = m + 1 := hm; omega
      · exact absurd hh (by omega)
    have hord : ∀ t, aph n lv (amX r h m) t → t ≠ x ∧ (lv t < lv x ∨ lv t = lv x ∧ t < x) := fun t ⟨v, k, k1, k2, k3⟩ => by
      have hlv := (atc k3).2
      by_cases hvh : v = h
      · subst hvh
        unfold amX at k2
        rw [if_pos rfl] at k2
        have := aAg k3 hx k2
        omega
      · have hvr : r v ≠ 0 := by unfold amX at k2; rw [if_neg hvh] at k2; omega
        have hlt : v < h := by
          rcases Nat.lt_trichotomy v h with q | q | q
          · exact q
          · exact absurd q hvh
          · have b1 := i.b.2 v k1 (by omega)
            rw [hv v k1 q] at b1
            cases b1
        refine ⟨fun hk => ?_, .inl (by omega)⟩
        subst hk
        omega
    obtain ⟨m1, m2, m3⟩ := i.m.rm x hR
    have hrg := i.m.rg h m x hh (by omega) hx
    obtain ⟨last, cnt, o1, o2, o3⟩ := o
    have hP : PW n lv (amX r h m) tp bo bm h m x (e.lk (8 + 14 * h)) := by
      have hin : 0 ≤ 8 + 14 * (h : Int) ∧ 8 + 14 * (h : Int) < 124 := by omega
      have hl : 0 ≤ 8 + 14 * (h : Int) ∧ 8 + 14 * (h : Int) < (e.m.cells.length : Int) := i.m.in hin
      refine ⟨(i.m.sub hsub).lk hin, fun v hv' hne => ?_, ⟨i.b.1, fun v hv' hr' => i.b.2 v hv' (Nat.lt_of_lt_of_le hr' (hsub v))⟩, fun v hv' => Nat.le_trans (hsub v) (i.q v hv'), hh, by unfold amX; rw [if_pos rfl], by omega, by rw [gtL hl]; exact hrg, ⟨x1, by rw [gtL hl]; exact m1, by rw [gtL hl]; exact m2, m3, hord⟩, last, cnt, o1, by omega, ?_⟩
      · have := i.t v hv'
        unfold amX
        rw [if_neg hne]
        exact this
      · rcases o3 with o3 | o3
        · exact .inl o3
        · exact .inr (o3 x hR)
    refine Nxt.to (k := ⟨cu, vi, lw, x0, .t2 (.pop (.l2 (h : Int) (.l3 ((m + 1 : Nat) : Int) 0)))⟩) (e' := e.lk (8 + 14 * h)) ?_ rfl (.p3 hP e2 e1) (by omega)
    simp only [aaY, abf, aex, aen, hq, qW, ag7, if_neg hc]
    rw [ht, e1, e2]
    rfl
theorem PW.pt {k y : Int} {tp' bo' : Nat → Nat} (p : PW n lv r tp bo bm h m x e) (hn : n ≤ 12) (ha : a = 8 + 14 * h ∨ a = 9 + 14 * h)
    (ht : ∀ v : Nat, v < 4 → if a = 8 + 14 * v then y = (tp' v : Int) else tp' v = tp v) (hb : ∀ v : Nat, v < 4 → if a = 9 + 14 * v then y = (bo' v : Int) else bo' v = bo v) : PW n lv r tp' bo' bm h m x (e.pt k a y) := by
  have hh := p.hh
  have hin : 0 ≤ a ∧ a < 64 := by omega
  refine ⟨p.w.pt hn ⟨hin.1, by omega⟩ (by omega) (by rw [if_neg (by omega)]) ht hb (fun v i hv hi => by omega) (fun t ht => by omega), fun v hv hne => ?_, p.b, p.q, hh, p.rh, p.hm, ?_, p.hx.pt p.w hin, p.eo⟩
  · have h1 := ht v hv
    have h2 := hb v hv
    rw [if_neg (by omega)] at h1 h2
    rw [h1, h2]
    exact p.t v hv hne
  · have := p.hm
    rw [gtP (p.w.in ⟨hin.1, by omega⟩), if_neg (by omega)]
    exact p.cell
theorem PW.lk (p : PW n lv r tp bo bm h m x e) (hn : n ≤ 12) (ha : 0 ≤ a ∧ a < 124) : PW n lv r tp bo bm h m x (e.lk a) :=
  ⟨p.w.lk ha, p.t, p.b, p.q, p.hh, p.rh, p.hm, by rw [gtL (p.w.in ha)]; exact p.cell, p.hx.lk p.w hn ha, p.eo⟩
theorem PW.wi (p : PW n lv r tp bo bm h m x e) (h1 : bo h = tp h + m ∧ tp h ≤ 1 ∧ (0 < m → tp h = 0)) : WI n lv r tp bo bm e :=
  ⟨p.w, fun v hv => by
    by_cases hvh : v = h
    · subst hvh; rw [p.rh]; exact h1
    · exact p.t v hv hvh, p.b, p.q⟩
theorem axd (hn : n ≤ 12) {k : WorkS} {μ : Nat} (H : PH n lv k.c e μ) (hs : μ ≠ 0) : Nxt n lv (aaY 0 e k) μ := by
  obtain ⟨cu, vi, lw, x0, c⟩ := k
  have H : PH n lv c e μ := H
  cases H with
  | @top e r tp bo bm i o =>
    have hw : aaY 0 e ⟨cu, vi, lw, x0, .top⟩ = aaY 0 e ⟨cu, vi, lw, x0, .t2 (.pop (.l1 0))⟩ := by
      have ha : e.c.age = 0 := by rw [i.m.c]; rfl
      simp only [aaY, abf, ar7, if_pos ha]
    rw [hw]
    exact aob i o
  | again i o => exact aob i o
  | @look e r tp bo bm h i o hh hb hv =>
    have hq := asD i.m hh
    refine Nxt.to (k := ⟨cu, vi, lw, x0, .t2 (.pop (.l2 (h : Int) (.l2 (bo h : Int))))⟩) (e' := e.lk (9 + 14 * h)) ?_ rfl (.look2 (i.lk (by omega)) o hh hb hv) (by omega)
    simp only [aaY, abf, aex, aen, hq, qW, ag7]
    rw [i.m.bo h hh]
  | look2 i o hh hb hv => exact awA i o hn hh hb hv
  | @res1 e r tp bo bm h i o hh hb hr =>
    have hq := asD i.m hh
    have hbm : aaN e.l 0 = 7 := by rw [i.m.l]; exact bmW
    obtain ⟨b', b1, b2, b3, b4⟩ := aw2 bm h i.b.1 hh hb
    have hi : WI n lv r tp bo b' (e.pt 5 7 (b' : Int)) := ⟨i.m.pt hn (by decide) (by decide) (by rw [if_pos rfl]) (fun v hv => by rw [if_neg (by omega)]) (fun v hv => by rw [if_neg (by omega)]) (fun v j hv hj => by omega) (fun t ht => by omega), i.t, ⟨b2, fun v hv hv' => by
      rw [b4 v hv (by intro q; subst q; omega)]; exact i.b.2 v hv hv'⟩, i.q⟩
    refine Nxt.to (k := ⟨cu, vi, lw, x0, .t2 (.pop (.l3 (h : Int) .l2))⟩) (e' := e.pt 5 7 (b' : Int)) ?_ rfl (.res2 hi o hh hr) (by omega)
    simp only [aaY, abf, aex, aen, hq, hbm, afH]
    rw [i.m.g7, b1]
  | @res2 e r tp bo bm h i o hh hr =>
    have hq := asD i.m hh
    refine Nxt.to (k := ⟨cu, vi, lw, x0, .t2 (.pop (.l3 (h : Int) (.l3 (bo h : Int))))⟩) (e' := e.lk (9 + 14 * h)) ?_ rfl (.res3 (i.lk (by omega)) o hh hr) (by omega)
    simp only [aaY, abf, aex, aen, hq, qW, afH]
    rw [i.m.bo h hh]
  | @res3 e r tp bo bm h i o hh hr =>
    have hq := asD i.m hh
    obtain ⟨t1, t2, t3⟩ := i.t h hh
    have hc : szP (bo h : Int) (e.gt (8 + 14 * (h : Int))) ≤ 0 := by rw [i.m.tp h hh, szW (by omega) (by omega)]; omega
    refine Nxt.to (k := ⟨cu, vi, lw, x0, .t2 (.pop (.l1 (h : Int)))⟩) (e' := e.lk (8 + 14 * h)) ?_ rfl (.again (i.lk (by omega)) o) (by omega)
    simp only [aaY, abf, aex, aen, hq, qW, afH, if_pos hc]
  | @p3 e r tp bo bm h m x p h1 h2 =>
    have hq := asD p.w p.hh
    have hm := p.hm
    have hw : wu (((m + 1 : Nat) : Int) - 1) = (m : Int) := by rw [wuN (by omega)]; omega
    refine Nxt.to (k := ⟨cu, vi, lw, x0, .t2 (.pop (.l2 (h : Int) (.l4 ((m + 1 : Nat) : Int) 0)))⟩) (e' := e.pt 2 (9 + 14 * h) (m : Int)) ?_ rfl (.p4 (tp := tp) (bo := amX bo h m) (p.pt hn (.inr rfl) (fun v hv => by rw [if_neg (by omega)]) fun v hv => ?_) ?_ h2) (by omega)
    · simp only [aaY, abf, aex, aen, hq, qW, ag7, hw]
    · unfold amX
      by_cases q : v = h
      · subst q; rw [if_pos rfl, if_pos rfl]
      · rw [if_neg (by omega), if_neg q]
    · unfold amX; rw [if_pos rfl]
  | @p4 e r tp bo bm h m x p h1 h2 =>
    have hq := asD p.w p.hh
    have hm := p.hm
    have hh := p.hh
    have hw : wu (((m + 1 : Nat) : Int) - 1) = (m : Int) := by rw [wuN (by omega)]; omega
    have ht : e.gt (8 + 14 * (h : Int)) = 0 := by rw [p.w.tp h hh, h2]; rfl
    have hz : szP (m : Int) 0 = (m : Int) := by have := szW (b := m) (t := 0) (by omega) (by omega); rw [show ((0 : Nat) : Int) = 0 from rfl] at this; omega
    by_cases h0 : m = 0
    · subst h0
      refine Nxt.to (k := ⟨cu, vi, lw, x0, .t2 (.pop (.l2 (h : Int) (.l6 ((0 + 1 : Nat) : Int) 0)))⟩) (e' := e.lk (8 + 14 * h)) ?_ rfl (.p6 (p.lk hn (by omega)) h1 h2) (by omega)
      simp only [aaY, abf, aex, aen, hq, qW, ag7, hw, ht, hz, if_neg (show ¬ (0 : Int) < ((0 : Nat) : Int) by decide), if_pos (show ((0 : Nat) : Int) = 0 from rfl)]
    · refine Nxt.to (k := ⟨cu, vi, lw, x0, .t2 (.pop (.l2 (h : Int) (.l5 ((m + 1 : Nat) : Int) 0)))⟩) (e' := e.lk (8 + 14 * h)) ?_ rfl (.p5 (p.lk hn (by omega)) h1 h2) (by omega)
      simp only [aaY, abf, aex, aen, hq, qW, ag7, hw, ht, hz, if_pos (show (0 : Int) < (m : Int) by omega)]
  | @p5 e r tp bo bm h m x p h1 h2 =>
    have hq := asD p.w p.hh
    have hm := p.hm
    have hh := p.hh
    have hw : wu (((m + 1 : Nat) : Int) - 1) = (m : Int) := by rw [wuN (by omega)]; omega
    have hc := azy (h := h) (i := m) hh hm
    have hx := p.hx.xn
    have hv : wi (e.gt (10 + 14 * (h : Int) + m)) = (x : Int) := by rw [p.cell, adm (abN (by omega))]
    refine Nxt.to (k := ⟨cu, vi, lw, x0, .t2 (.claim (x : Int))⟩) (e' := e.lk (10 + 14 * h + m)) ?_ rfl (.claim ((p.wi (by omega)).lk (by omega)) (p.hx.lk p.w hn (by omega)) p.eo) (by omega)
    simp only [aaY, abf, aex, aen, hq, ag7, hw, hc, hv, if_true, if_neg (show ¬ (1 : Int) = 2 by decide)]
  | @p6 e r tp bo bm h x p h1 h2 =>
    have hq := asD p.w p.hh
    have hh := p.hh
    have hin := p.w.in (a := 8 + 14 * (h : Int)) (by omega)
    have hg : e.gt (8 + 14 * (h : Int)) = 0 := by rw [p.w.tp h hh, h2]; rfl
    have hc : e.hit (8 + 14 * (h : Int)) 0 = true := (aAm hin).2 hg
    have hcas : e.cas (8 + 14 * (h : Int)) 0 (wu (0 + 1)) = e.pt 3 (8 + 14 * h) ((1 : Nat) : Int) := by rw [aAN, if_pos hg]; rfl
    refine Nxt.to (k := ⟨cu, vi, lw, x0, .t2 (.pop (.l2 (h : Int) (.l7 ((0 + 1 : Nat) : Int) 0)))⟩) (e' := e.pt 3 (8 + 14 * h) ((1 : Nat) : Int)) ?_ rfl (.p7 (tp := amX tp h 1) (bo := bo) (p.pt hn (.inl rfl) (fun v hv => ?_) fun v hv => by rw [if_neg (by omega)]) ?_) (by omega)
    · simp only [aaY, abf, aex, aen, hq, qW, ag7, hc, if_true, hcas]
    · unfold amX
      by_cases q : v = h
      · subst q; rw [if_pos rfl, if_pos rfl]
      · rw [if_neg (by omega), if_neg q]
    · unfold amX; rw [if_pos rfl]
  | @p7 e r tp bo bm h x p h2 =>
    have hq := asD p.w p.hh
    have hh := p.hh
    refine Nxt.to (k := ⟨cu, vi, lw, x0, .t2 (.pop (.l2 (h : Int) (.l8 ((0 + 1 : Nat) : Int) 0)))⟩) (e' := e.pt 2 (9 + 14 * h) ((0 + 1 : Nat) : Int)) ?_ rfl (.p8 (tp := tp) (bo := amX bo h 1) (p.pt hn (.inr rfl) (fun v hv => by rw [if_neg (by omega)]) fun v hv => ?_) ?_ h2) (by omega)
    · simp only [aaY, abf, aex, aen, hq, qW, ag7]
    · unfold amX
      by_cases q : v = h
      · subst q; rw [if_pos rfl, if_pos rfl]
      · rw [if_neg (by omega), if_neg q]
    · unfold amX; rw [if_pos rfl]
  | @p8 e r tp bo bm h x p h1 h2 =>
    have hq := asD p.w p.hh
    have hh := p.hh
    have hw : wu (((0 + 1 : Nat) : Int) - 1) = ((0 : Nat) : Int) := by kernel_rfl
    have hc := azy (h := h) (i := 0) hh (by omega)
    have hx := p.hx.xn
    have hv : wi (e.gt (10 + 14 * (h : Int) + ((0 : Nat) : Int))) = (x : Int) := by rw [p.cell, adm (abN (by omega))]
    refine Nxt.to (k := ⟨cu, vi, lw, x0, .t2 (.claim (x : Int))⟩) (e' := e.lk (10 + 14 * h + ((0 : Nat) : Int))) ?_ rfl (.claim ((p.wi (by omega)).lk (by omega)) (p.hx.lk p.w hn (by omega)) p.eo) (by omega)
    simp only [aaY, abf, aex, aen, hq, ag7, hw, hc, hv, if_true, if_neg (show ¬ (1 : Int) = 2 by decide)]
  | @claim e r tp bo bm x i hx o =>
    have hxn := hx.xn
    have hsp : acq e.l (x : Int) = 64 + 5 * x := by rw [i.m.l]; exact av2 (by omega)
    have hin := i.m.in (a := 64 + 5 * (x : Int)) (by omega)
    have hc : ae6 (x : Int) e = true := by unfold ae6; rw [hsp]; exact (aAm hin).2 hx.s
    have hcas : e.cas (64 + 5 * (x : Int)) 1 2 = e.pt 3 (64 + 5 * x) 2 := by rw [aAN, if_pos hx.s]
    have hce : ahi 0 (x : Int) e = ((e.pt 3 (64 + 5 * x) 2).pr x { auk with started := true }).em 5 0 x 0 0 := by
      unfold ahi
      rw [if_pos hc, hsp, hcas, hx.rc]
      rfl
    have hm : WI n lv r tp bo bm (((e.pt 3 (64 + 5 * (x : Int)) 2).pr x { auk with started := true }).em 5 0 x 0 0) :=
      ⟨((i.m.pt0 hn (by omega) (.inr (by omega)) (apz hn (fun t ht => (hx.nr t ht).1) 64 (.inl rfl))).pr hn fun t ht => (hx.nr t ht).1).em, i.t, i.b, i.q⟩
    refine Nxt.to (k := ⟨cu, vi, lw, (x : Int), .t7 (ary (x : Int))⟩) (e' := ((e.pt 3 (64 + 5 * (x : Int)) 2).pr x { auk with started := true }).em 5 0 x 0 0) ?_ rfl (.run hm (o.start hxn fun t ht => (hx.nr t ht).2) hxn (fun t ht => (hx.nr t ht).1) ?_ ?_) (by omega)
    · simp only [aaY, abf, aex, hc, if_true, hce]
    · show (e.pt 3 (64 + 5 * (x : Int)) 2).gt _ = 0
      rw [gtP hin, if_neg (by omega)]
      exact hx.j
    · show aab (e.recs.set ((x : Int)).toNat _) (x : Int) = _
      have hrl := i.m.rl
      show (((e.recs.set ((x : Int)).toNat _)[((x : Int)).toNat]?).getD _) = _
      rw [List.getElem?_set_self (by rw [Int.toNat_natCast]; omega)]
      rfl
  | @run e r tp bo bm x i o xn nr j rc =>
    have hsp : acq e.l (x : Int) = 64 + 5 * x := by rw [i.m.l]; exact av2 (by omega)
    have hin := i.m.in (a := 64 + 5 * (x : Int)) (by omega)
    have hT : IsT e (aaH (ary (x : Int)).stack) := by show 0 ≤ (x : Int) ∧ (x : Int) < e.c.tasks; rw [i.m.c]; show 0 ≤ (x : Int) ∧ (x : Int) < 12; omega
    have hp : e.prog { auk with started := true } = [] := by
      unfold EnvP.prog
      rw [i.m.c]
      rfl
    have hr : asu 0 e (ary (x : Int)) = (.go { ary (x : Int) with c := .f2 }, e.pt 2 (64 + 5 * x) 4) := by
      unfold asu
      rw [if_neg (fun h => h hT)]
      show as9 0 e (ary (x : Int)) (x : Int) (e.rc x) (e.prog (e.rc x)) = _
      rw [rc, hp]
      unfold as9
      rw [if_neg (by decide), if_pos (.inr (by decide)), hsp]
    refine Nxt.to (k := ⟨cu, vi, lw, x0, .t7 { ary (x : Int) with c := .f2 }⟩) (e' := e.pt 2 (64 + 5 * x) 4) ?_ rfl (.f2 ⟨i.m.pt0 hn (by omega) (.inr (by omega)) (apz hn nr 64 (.inl rfl)), i.t, i.b, i.q⟩ o xn nr ?_) (by omega)
    · simp only [aaY, abf, hr]
    · rw [gtP hin, if_neg (by omega)]; exact j
  | @f2 e r tp bo bm x i o xn nr j =>
    have hjp : ae3 e.l (x : Int) = 66 + 5 * x := by rw [i.m.l]; exact aAj (by omega)
    have hin := i.m.in (a := 66 + 5 * (x : Int)) (by omega)
    have hT : IsT e (aaH ({ ary (x : Int) with c := .f2 } : RunS).stack) := by show 0 ≤ (x : Int) ∧ (x : Int) < e.c.tasks; rw [i.m.c]; show 0 ≤ (x : Int) ∧ (x : Int) < 12; omega
    have hc : e.hit (66 + 5 * (x : Int)) 0 = true := (aAm hin).2 j
    have hcas : e.cas (66 + 5 * (x : Int)) 0 4294967296 = e.pt 3 (66 + 5 * x) 4294967296 := by rw [aAN, if_pos j]
    have hr : asu 0 e { ary (x : Int) with c := .f2 } = (.fin 0 0, (e.pt 3 (66 + 5 * x) 4294967296).em 10 0 x 0 0) := by
      unfold asu
      rw [if_neg (fun h => h hT)]
      show (if e.hit (ae3 e.l (x : Int)) 0 = true then ai8 ({ ary (x : Int) with c := .f2 } : RunS) ((e.cas (ae3 e.l (x : Int)) 0 4294967296).em 10 0 x 0 0) else _) = _
      rw [hjp, if_pos hc, hcas]
      rfl
    refine Nxt.to (k := ⟨cu, vi, lw, x0, .top⟩) (e' := (e.pt 3 (66 + 5 * x) 4294967296).em 10 0 x 0 0) ?_ rfl (.top ⟨(i.m.pt0 hn (by omega) (.inr (by omega)) (apz hn nr 66 (.inr rfl))).em, i.t, i.b, i.q⟩ (o.other (by decide))) (by omega)
    simp only [aaY, abf, hr]
  | @drn e r tp bo i o hr =>
    have hg : wi (e.gt 2) ≤ 0 := by rw [i.m.g2]; decide
    have hi := i.lk (a := 2) (by decide)
    refine Nxt.to (k := ⟨cu, vi, lw, x0, .t8 .l1⟩) (e' := e.lk 2) ?_ rfl (.s1 hi o hr) (by omega)
    have hic : avu (e.lk 2) = .t8 .l1 := by unfold avu; rw [hi.m.c]; rfl
    simp only [aaY, abf, aeu, aoX, if_pos hg, if_neg (show ¬ (2 : Int) = 1 by decide), if_neg (show ¬ (2 : Int) = 0 by decide), hic]
  | @s1 e r tp bo i o hr =>
    have he : ahg e.l 0 = 6 := by rw [i.m.l]; exact epW
    refine Nxt.to (k := ⟨cu, vi, lw, x0, .t8 (.l2 (e.gt 6))⟩) (e' := e.lk 6) ?_ rfl (.s2 (i.lk (by decide)) o hr) (by omega)
    simp only [aaY, abf, ags, he]
  | @s2 e r tp bo ep i o hr =>
    have he : agR 0 e = 5 := slW e i.m.c i.m.l
    refine Nxt.to (k := ⟨cu, vi, lw, x0, .t8 (.l3 ep)⟩) (e' := e.pt 4 5 (orU (e.gt 5) (arX 0))) ?_ rfl (.s3 ⟨i.m.pt0 hn (by decide) (.inl (by decide)) (fun t ht => by omega), i.t, i.b, i.q⟩ o hr) (by omega)
    simp only [aaY, abf, ags, he]
  | @s3 e r tp bo ep i o hr =>
    refine Nxt.to (k := ⟨cu, vi, lw, x0, .t8 (.l4 ep 0)⟩) (e' := e.lk 2) ?_ rfl (.s4 (i.lk (by decide)) o hr) (by omega)
    simp only [aaY, abf, ags, if_neg (show ¬ e.gt 2 ≠ 0 from fun k => k i.m.g2)]
  | @s4 e r tp bo ep i o hr =>
    have hb : aaN e.l 0 = 7 := by rw [i.m.l]; exact bmW
    have hw : e.c.workers ≤ wi (0 + 1) := by rw [i.m.c]; decide
    refine Nxt.to (k := ⟨cu, vi, lw, x0, .t8 (.l5 ep (wi (0 + 1)) e.k.now)⟩) (e' := (e.lk 7).em 16 0 0 0 0) ?_ rfl (.s5 ⟨i.m.c, i.m.l, i.m.rl⟩ ?_) (by omega)
    · simp only [aaY, abf, ags, hb, if_neg (show ¬ e.gt 7 ≠ 0 from fun k => k i.m.g7), if_pos hw]
    · obtain ⟨last, cnt, o1, o2, o3⟩ := EO.other (w := 0) (t := 0) (o := 0) (l := 0) o (show (16 : Int) ≠ 5 by decide)
      refine ⟨last, cnt, o1, by show cnt + (0 + 0 + 0 + 0) = n; omega, .inr fun t ⟨v, k, _, k2, _⟩ => absurd k2 (Nat.not_lt_zero _)⟩
  | s5 => exact absurd rfl hs
end
end
section
open Go Go.RowKit
set_option maxRecDepth 100000
section
variable [Tb] {K : Nat} {e : EnvP} {w : Int}
theorem aj6 (hK : EOk K e) (k : WorkS) (hc : k.c ≠ .top) : Stp 2 e (aaY w e k).2 := by
  obtain ⟨cur, vi, lv, x, c⟩ := k
  cases c with
  | top => exact absurd rfl hc
  | t1 t s =>
    have h := auz (e := e) (w := w) (t := t) s
    revert h
    simp only [aaY, abf]
    rcases acp w t e s with ⟨r | ⟨c, y⟩, e'⟩ <;> intro h
    · exact h.le (by decide)
    · exact h.le (by decide)
  | t2 s =>
    have h := aww (w := w) (fun t => hK.st) s
    revert h
    simp only [aaY, abf]
    rcases aex w e s with ⟨r | ⟨c, y⟩, e'⟩ <;> intro h
    · exact h.le (by decide)
    · exact h.le (by decide)
  | t3 s =>
    have h := avJ (e := e) (w := w) s
    revert h
    simp only [aaY, abf]
    rcases aeu w e s with ⟨r | ⟨c, y⟩, e'⟩ <;> intro h
    · exact h.le (by decide)
    · exact h.le (by decide)
  | t4 s =>
    have h := aqI (e := e) (w := w) s
    revert h
    simp only [aaY, abf]
    rcases aox w e s with ⟨r | ⟨c, y⟩, e'⟩ <;> intro h
    · exact h.le (by decide)
    · exact h.le (by decide)
  | t5 s =>
    have h := aqp (e := e) (q := aa6 e.l vi lv) s
    revert h
    simp only [aaY, abf]
    rcases ak6 (aa6 e.l vi lv) e s with ⟨r | ⟨c, y⟩, e'⟩ <;> intro h
    · exact h.le (by decide)
    · simp only
      split
      · exact Stp.le (Stp.em h) (by decide)
      · split <;> exact Stp.le h (by decide)
  | t6 => exact (ajf (w := w) (t := x) hK.st).le (by decide)
  | t7 s =>
    have h := ayA (w := w) hK s
    revert h
    simp only [aaY, abf]
    rcases asu w e s with ⟨r | ⟨c, y⟩, e'⟩ <;> intro h
    · exact h.le (by decide)
    · exact h.le (by decide)
  | t8 s =>
    have h := auL (e := e) (w := w) s
    revert h
    simp only [aaY, abf]
    rcases ags w e s with ⟨r | ⟨c, y⟩, e'⟩ <;> intro h
    · exact h.le (by decide)
    · exact h.le (by decide)
  | t9 s =>
    have h := aqy (e := e) (a := aaN e.l vi) (b := lv) (q := aa6 e.l vi lv) s
    revert h
    simp only [aaY, abf]
    rcases afH (aaN e.l vi) lv (aa6 e.l vi lv) e s with ⟨r | ⟨c, y⟩, e'⟩ <;> intro h
    · exact h.le (by decide)
    · exact h.le (by decide)
theorem ar1 {cur vi lv x : Int} : aaY w e ⟨cur, vi, lv, x, abf w e ⟨cur, vi, lv, x, .top⟩⟩ = aaY w e ⟨cur, vi, lv, x, .top⟩ := by
  unfold abf
  simp only
  by_cases ha : e.c.age = 0
  · simp only [aaY, abf, ha, if_true]
  · simp only [aaY, abf, ha, if_false]
theorem awp (hK : EOk K e) (k : WorkS) : Stp 2 e (aaY w e k).2 := by
  obtain ⟨cur, vi, lv, x, c⟩ := k
  cases c with
  | top =>
    rw [← ar1]
    exact aj6 hK _ (show abf w e ⟨cur, vi, lv, x, .top⟩ ≠ .top from an7)
  | _ => exact aj6 hK _ (fun h => by cases h)
end
end
section
open Go.RowKit Go.Maps
set_option maxRecDepth 100000
theorem asi (w : World) : (Go.underlying 86).run Tryz.prog w = .ok (.pointer 91) w := abt Tryz.underlying86
theorem ash (w : World) : (zeroValue 86).run Tryz.prog w = .ok (.pointer none) w := by
  obtain ⟨i, hi⟩ : ∃ i, Tryz.prog.info? 86 = some i ∧ i.zero = some (.pointer none) := ⟨_, rfl, by kernel_rfl⟩
  unfold zeroValue
  rw [aaa (abp hi.1)]
  simp [hi.2]
theorem ayt (w : World) : (Instr.typeAssert .nilIface 37 86 true).run Tryz.prog w = .ok (.tuple #[.pointer none, .bool false]) w := by
  simp [Instr.typeAssert, asi, ash]
theorem auJ (w : World) (T : TypeId) (u : Value) (h : T ≠ 86) : (Instr.typeAssert (.iface T u) 37 86 true).run Tryz.prog w = .ok (.tuple #[.pointer none, .bool false]) w := by
  simp [Instr.typeAssert, asi, ash, h]
theorem az3 (w : World) (u : Value) : (Instr.typeAssert (.iface 86 u) 37 86 true).run Tryz.prog w = .ok (.tuple #[u, .bool true]) w := by
  simp [Instr.typeAssert, asi]
theorem asf (w : World) : Calls Tryz.prog 18 #[.nilIface] w fun e w' => e = .returned (.slice none 0 0) ∧ w' = w := by
  have q := ayt
  go_enter Tryz.func18, Tryz.ntmps18
  go_wp2
  go_ret
  exact ⟨rfl, rfl⟩
theorem apt (w : World) (T : TypeId) (u : Value) (h : T ≠ 86) : Calls Tryz.prog 18 #[.iface T u] w fun e w' => e = .returned (.slice none 0 0) ∧ w' = w := by
  have q : ∀ w, (Instr.typeAssert (.iface T u) 37 86 true).run Tryz.prog w = .ok (.tuple #[.pointer none, .bool false]) w := fun w => auJ w T u h
  clear h
  go_enter Tryz.func18, Tryz.ntmps18
  go_wp2
  go_ret
  exact ⟨rfl, rfl⟩
theorem ase (w : World) (b o : Nat) (A : Option Addr) (cap : Nat) (xs : List Int) (h : w.cell? ⟨b, o + 4, none⟩ = some (.slice A xs.length cap)) (hx : Sl alP 1 w w.heap.size A xs) (hn : xs.length ≤ 1000000) :
    Calls Tryz.prog 18 #[.iface 86 (.pointer (some ⟨b, o, none⟩))] w (amS alP 1 3 w xs) := by
  have q : ∀ w, (Instr.typeAssert (.iface 86 (.pointer (some ⟨b, o, none⟩))) 37 86 true).run Tryz.prog w = .ok (.tuple #[.pointer (some ⟨b, o, none⟩), .bool true]) w := fun w => az3 w _
  go_enter Tryz.func18, Tryz.ntmps18
  go_wp2_with fail
  refine (ao2 A cap xs w hx hn).mono ?_
  rintro e w3 ⟨⟨A3, q3, rfl, hs3⟩, hb3⟩
  go_wp2
  go_ret
  exact ⟨⟨A3, q3, rfl, hs3⟩, hb3⟩
end
section
open Go Go.RowKit
variable [Tb]
set_option maxRecDepth 100000
def ajr : MV → List Int
  | .run x => x.stack
  | _ => []
noncomputable def af3 (m : MV) : Option ((List Int × Unit) × (MV × Unit)) := if (ajr m).length ≤ 1000000 then some ((ajr m, ()), (m, ())) else none
noncomputable abbrev af2 : Con SR1 := ⟨18, [.mch], [.sh (.row 1)], fun x => af3 x.1⟩
theorem ae4 {F : Type} {pc : F → Value → aaf} {f : F} {fs : List F} {vs : List Value} {L : List aaf} {B : Nat} {w : World} (s : Sat B w (fsS pc (f :: fs) vs ++ L)) : ∃ v vs', vs = v :: vs' ∧ Sat B w (pc f v :: (fsS pc fs vs' ++ L)) := by
  cases vs with
  | nil => exact aaB s
  | cons v vs => exact ⟨v, vs, rfl, s⟩
theorem asg {m : MV} (hn : (ajr m).length ≤ 1000000) {B : Nat} {w : World} {v : Value} {F : aaf} (hB : B ≤ w.heap.size) (hs : Sat B w (pcS SR1.kt (.mach m) v :: [F])) : Calls Tryz.prog 18 #[v] w fun e w' => ∃ u, e = .returned u ∧ Below w.heap.size w w' ∧ Sat B w' (pcS SR1.kt (.row 1 (ajr m)) u :: pcS SR1.kt (.mach m) v :: [F]) := by
  have nil : ∀ {m' : MV}, ajr m' = [] → Sat B w (pcS SR1.kt (.mach m) v :: [F]) → Sat B w (pcS SR1.kt (.row 1 (ajr m')) (.slice none 0 0) :: pcS SR1.kt (.mach m) v :: [F]) := fun h s => by
    rw [h]
    exact af1 (S := SR1) (c := 1) (fun _ => rfl) (s.imp (alO 1))
  have hs0 := hs
  obtain ⟨hh, Hh, j1, j2, ja, je, h1, hL⟩ := hs
  cases m
  case nil =>
    rw [aaC] at h1
    obtain rfl : v = .nilIface := h1
    exact (asf w).mono fun e w' ⟨he, hw⟩ => ⟨_, he, by rw [hw]; exact Below.refl _ _, by rw [hw]; exact nil (m' := .nil) rfl hs0⟩
  case run x =>
    obtain ⟨⟨q1, q2⟩, rfl, ho⟩ := (afJ (K := SR1.kt) rfl).1 h1
    obtain ⟨vs, hst⟩ := ag8.1 ho
    have s1 : Sat B w (pts q1 q2 vs :: (fsS (pcS SR1.kt) (SR1.kt.vw 32 x) vs ++ [F])) := (⟨hh, Hh, aal.2 ⟨j1, j2, ja, je, hst, hL⟩⟩)
    have s2 := s1.drop
    obtain ⟨v0, vs0, rfl, s3⟩ := ae4 s2
    obtain ⟨v1, vs1, rfl, s4⟩ := ae4 s3.drop
    obtain ⟨v2, vs2, rfl, s5⟩ := ae4 s4.drop
    obtain ⟨v3, vs3, rfl, s6⟩ := ae4 s5.drop
    obtain ⟨v4, vs4, rfl, s7⟩ := ae4 s6.drop
    have s8 : Sat B w (pcS SR1.kt (.row 1 x.stack) v4 :: _) := s7
    obtain ⟨hh', Hh', k1, k2, ka, ke, h4, hL4⟩ := s8
    rw [aaC] at h4
    obtain ⟨A, cap, rfl, hr⟩ := h4
    have s9 : Sat B w (rwS SR1.kt 1 x.stack A cap :: _) := ⟨hh', Hh', k1, k2, ka, ke, hr, hL4⟩
    have hsl := (aol (aqv (K := SR1.kt) (c := 1) rfl (by decide) s9) List.mem_cons_self).1
    have hc := (s1.cell (i := 4) (v := .slice A x.stack.length cap) rfl).2.1
    refine (ase w q1 q2 A cap x.stack hc hsl hn).mono fun e w' ⟨⟨A', c', he, hown⟩, hb'⟩ => ⟨_, he, hb', ?_⟩
    exact af1 (S := SR1) (c := 1) (fun _ => rfl) (ah9 hs0 hb' hB hown)
  all_goals
    obtain ⟨q, rfl, _⟩ := (afJ (K := SR1.kt) rfl).1 h1
    exact (apt w _ _ (Nat.ne_of_beq_eq_false (by kernel_rfl))).mono fun e w' ⟨he, hw⟩ => ⟨_, he, by rw [hw]; exact Below.refl _ _, by rw [hw]; exact nil (m' := .nil) rfl hs0⟩
theorem amb : CO Tryz.prog af2 := fun x out hx B W hg vs F w hw => by
  obtain ⟨hb, hB, hs⟩ := hw
  obtain ⟨m, u⟩ := x
  have hx : af3 m = some out := hx
  unfold af3 at hx
  split at hx
  case isFalse => cases hx
  rename_i hn
  cases hx
  show adM Tryz.prog af2.f _ w _
  rw [acu rfl]
  rcases vs with _ | ⟨v, _ | ⟨v2, vs⟩⟩
  · exact aaB hs
  · have hs0 : Sat B w (pcS SR1.kt (.mach m) v :: [F]) := hs
    exact (asg hn hB hs0).mono fun e w' ⟨u, he, hb', s⟩ => ⟨[u], he, hb.trans (hb'.mono hB), Nat.le_trans hB hb'.size, s⟩
  · replace hs : Sat B w (pcS SR1.kt (.mach m) v :: ([fun _ => False] ++ [F])) := hs
    exact aaB hs.drop
end
end Go.Proofs.YtlcelajkhklkbaaGreat
