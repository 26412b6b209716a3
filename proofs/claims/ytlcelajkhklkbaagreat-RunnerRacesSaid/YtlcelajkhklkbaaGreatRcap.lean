/- The program's machines do what was said plainly, 7: running a task. The program's environment made anew, at a valid configuration. A task that joins its child while another worker runs the child: the states, and each step. aay in the evaluator's form. aay in the evaluator's form. aay in the evaluator's form. A task that joins its child while another worker runs the child: what holds behind any steps. The law RunnerRaces answers true. -/
import Derived.Test.YtlcelajkhklkbaaGreatRcao
set_option linter.all false
namespace Go.Proofs.YtlcelajkhklkbaaGreat
section
open Go Go.RowKit
set_option maxRecDepth 100000
@[reducible] def avQ (l : LayV) (w id lv wt : Int) : RunC → Int × MV
  | .next => (0, .nil)
  | .s2 s => (5, .publish (ahu id lv s))
  | .s3 s => (6, .lpush (ajZ l w lv id s))
  | .s4 s => (7, .wake (ans w lv s))
  | .s5 => (8, .claim ⟨o0, w, id⟩)
  | .j2 => (10, .nil)
  | .j3 => (11, .nil)
  | .j4 => (12, .nil)
  | .j5 s => (13, .walk (atJ l w lv s))
  | .j6 => (14, .nil)
  | .j7 => (15, .nil)
  | .f2 => (17, .nil)
  | .f3 => (18, .nil)
  | .f4 s => (19, .enter (arl l w wt s))
  | .f5 v s => (20, .wake (ans w v s))
  | .f6 => (21, .claim ⟨o0, w, wt⟩)
@[reducible] def aqd (l : LayV) (w : Int) (r : RunS) : RunV MV :=
  ⟨o0, w, r.stack, (avQ l w r.id r.level r.waiter r.c).1, (avQ l w r.id r.level r.waiter r.c).2, r.id, r.child, r.level, r.waiter⟩
section
variable [Tb] {K : Nat} {e : EnvP} {w : Int}
theorem aeW {l : LayV} {e' : EnvP} {st : List Int} {ln id ch lv wt : Int} {m : MV} {c : RunC} (hS : SOk st) : acS RunV.o (aqd l w) ((aal ⟨⟨false, 0, 0⟩, w, st, ln, m, id, ch, lv, wt⟩).bind fun r => some ((r.1.1, ()), (r.2.1, e', ()))) (aj6 ⟨st, id, ch, lv, wt, c⟩ e') := by
  have h1 := List.length_pos_iff.2 hS.ne
  have h2 := hS.le
  unfold aal aj6
  simp only [hS.n, hS.g2, hS.t, if_true, List.length_dropLast, abi, aac, bnd, ah2, acY]
  by_cases hl : st.length = 1
  · rw [if_pos (by omega), if_pos hl]; exact ⟨_, rfl, rfl⟩
  · rw [if_neg (by omega), if_neg hl]; rfl
theorem auf (hK : EOk K e) (hk : K ≤ 100000000) (r : RunS) (hS : SOk r.stack) : acS RunV.o (aqd e.l w) (aaF (aqd e.l w r) e) (asi w e r) := by
  have hl : e.evs.length ≤ 999999999 := by have := hK.ev; omega
  obtain ⟨st, id, ch, lv, wt, c⟩ := r
  have hS : SOk st := hS
  unfold asi
  by_cases hT : IsT e (aaC st)
  · have hR : 0 ≤ aaC st ∧ aaC st < (e.recs.length : Int) := ⟨hT.1, by have := hT.2; have := hK.ct; omega⟩
    have hct := hK.ct
    have he : ∀ (x : RunV MV) (e' : EnvP) (_ : e'.evs.length ≤ 999999999) (v : Ev), aaw x e' v = some ((), (x, { e' with evs := e'.evs ++ [{ v with worker := x.worker }] }, ())) := fun x e' h v => aic h
    rw [if_neg (fun h => h hT)]
    unfold ayb
    cases c with
    | next =>
      simp only [apG]
      have hkd : (e.rc (aaC st)).kids.length ≤ 999999999 := by have := aur hR K hK.kd; omega
      have hnx := fun c h => ash (w := w) (id := id) (ch := ch) (lv := lv) (wt := wt) (m := .nil) hS hT hct (c := c) h hR
      by_cases c1 : (e.rc (aaC st)).waiting ≠ -1
      · rw [if_pos c1]
        rw [hnx 1 (by unfold adj; rw [if_pos c1])]
        simp only [Int.reduceEq, if_false, true_or, if_true]
        rw [at8 hS hR]
        rfl
      rw [if_neg c1]
      by_cases c2 : (e.rc (aaC st)).pc < 0 ∨ ((e.prog (e.rc (aaC st))).length : Int) ≤ (e.rc (aaC st)).pc
      · rw [if_pos c2]
        rw [hnx 16 (by unfold adj; rw [if_neg c1, if_pos c2])]
        simp only [Int.reduceEq, if_false, or_self]
        simp only [aam, hS.n, hS.a, hS.g, if_true, aea, acz, aac, bnd]
        rfl
      rw [if_neg c2]
      by_cases c3 : (aaY (e.prog (e.rc (aaC st))) (e.rc (aaC st)).pc).op = 0
      · rw [if_pos c3]
        rw [hnx 2 (by unfold adj; rw [if_neg c1, if_neg c2, if_pos c3])]
        simp only [Int.reduceEq, if_false, false_or, true_or, or_true, if_true]
        rw [at7 hS hR c2]
        rfl
      rw [if_neg c3]
      by_cases c4 : (aaY (e.prog (e.rc (aaC st))) (e.rc (aaC st)).pc).op = 1
      · rw [if_pos c4]
        rw [hnx 4 (by unfold adj; rw [if_neg c1, if_neg c2, if_neg c3, if_pos c4])]
        obtain ⟨x', h, ho⟩ := arO (e := e)
        simp only [if_true, aaR, adb, bnd, h, ab2, Bool.not_true, Bool.false_eq_true, if_false]
        by_cases ci : IsT e (wi (e.gt 0))
        · rw [if_pos ci] at ho ⊢
          have hv : 0 ≤ wi (e.gt 0) ∧ wi (e.gt 0) < ((alg e).recs.length : Int) := ⟨ci.1, by have := ci.2; show _ < (e.recs.length : Int); omega⟩
          have ha := arP (e := alg e) (o := o0) (w := w) (id := id) (ch := ch) (lv := lv) (wt := wt) (m := .alloc x') hS hR c2 hkd (wi (e.gt 0)) hv
          simp only [ho]
          rw [ha]
          rfl
        · rw [if_neg ci] at ho ⊢
          have ha := apT (e := alg e) (o := o0) (w := w) (id := id) (ch := ch) (lv := lv) (wt := wt) (m := .alloc x') hS hR c2 hl hkd 0
          simp only [ho]
          rw [ha]
          rfl
      rw [if_neg c4]
      by_cases c5 : (aaY (e.prog (e.rc (aaC st))) (e.rc (aaC st)).pc).a < 0 ∨ ((e.rc (aaC st)).kids.length : Int) ≤ (aaY (e.prog (e.rc (aaC st))) (e.rc (aaC st)).pc).a ∨ aae (e.rc (aaC st)).kids (aaY (e.prog (e.rc (aaC st))) (e.rc (aaC st)).pc).a = -1
      · rw [if_pos c5]
        rw [hnx 3 (by unfold adj; rw [if_neg c1, if_neg c2, if_neg c3, if_neg c4, if_pos c5])]
        simp only [Int.reduceEq, if_false, false_or, or_true, if_true]
        rw [at6 hS hR]
        rfl
      · rw [if_neg c5]
        rw [hnx 9 (by unfold adj; rw [if_neg c1, if_neg c2, if_neg c3, if_neg c4, if_neg c5])]
        simp only [Int.reduceEq, if_false, or_self, if_true]
        rw [axx hS hR c2 (fun h => c5 (h.elim .inl fun h => .inr (.inl h)))]
        rfl
    | s2 s =>
      have h := anO (e := e) (t := id) (v := lv) s
      have hn := apB (e := e) (t := id) (v := lv) s
      simp only [ahs hS hT hct (show (4 : Int) ≤ 5 ∧ (5 : Int) ≤ 8 by decide)]
      revert h hn
      simp only [aaR, adb, bnd]
      rcases afc id lv e s with ⟨r | ⟨c, y⟩, e'⟩ <;> intro h hn
      · simp only [acS] at h
        simp only [h, bnd, Bool.not_false, if_true]
        rfl
      · simp only [acS] at h
        obtain ⟨x', h, ho⟩ := h
        have hl' : e'.evs.length ≤ 999999999 := by have h1 : e'.evs.length ≤ e.evs.length + 0 := hn.ev; have := hK.ev; omega
        simp only [h, ho, ab2, bnd, Bool.not_true, Bool.false_eq_true, if_false, if_true, Int.reduceEq, hS.n, hS.a, hS.g, he _ e' hl', abG, aac]
        rfl
    | s3 s =>
      have h := ajY (w := w) (v := lv) (x := id) hK s
      simp only [ahs hS hT hct (show (4 : Int) ≤ 6 ∧ (6 : Int) ≤ 8 by decide)]
      revert h
      simp only [aaR, adb, bnd]
      rcases aep w lv id e s with ⟨r | ⟨c, y⟩, e'⟩ <;> intro h
      · simp only [acS] at h
        simp only [h, bnd, Bool.not_false, if_true]
        rfl
      · simp only [acS] at h
        obtain ⟨x', h, ho⟩ := h
        simp only [h, ho, ab2, bnd, Bool.not_true, Bool.false_eq_true, if_false, if_true, Int.reduceEq, abF, ab3, aac]
        by_cases hc : c = 3
        · simp only [hc, if_true]; rfl
        · simp only [hc, if_false]; rfl
    | s4 s =>
      have h := aop (e := e) (w := w) (v := lv) hl s
      simp only [ahs hS hT hct (show (4 : Int) ≤ 7 ∧ (7 : Int) ≤ 8 by decide)]
      revert h
      simp only [aaR, adb, bnd]
      rcases anr w lv e s with ⟨r | ⟨c, y⟩, e'⟩ <;> intro h
      · simp only [acS] at h
        simp only [h, bnd, Bool.not_false, if_true]
        rfl
      · simp only [acS] at h
        obtain ⟨x', h, ho⟩ := h
        simp only [h, ho, ab2, bnd, Bool.not_true, Bool.false_eq_true, if_false, if_true, Int.reduceEq, aac]
        rfl
    | s5 =>
      obtain ⟨x', h, ho⟩ := anb (w := w) (t := id) hl hK.st
      simp only [ahs hS hT hct (show (4 : Int) ≤ 8 ∧ (8 : Int) ≤ 8 by decide)]
      simp only [aaR, adb, bnd, h, ab2, Bool.not_true, Bool.false_eq_true, if_false, if_true, Int.reduceEq, aac]
      have hsl : ((st.length + ([id] : List Int).length : Nat) : Int) < 1000000000000 := by
        have h2 : st.length ≤ 999999999 := hS.le
        clear hR hct hl hk hK
        trace_state
        rw [List.length_singleton]
        omega
      rcases Bool.eq_false_or_eq_true (akp id e) with hc | hc
      · simp only [hc, if_true] at ho ⊢
        simp only [ho, if_true, hsl]
        rfl
      · simp only [hc, Bool.false_eq_true, if_false] at ho ⊢
        simp only [ho, Int.reduceEq, if_false]
        rfl
    | j2 =>
      simp only [agw hS hT hct (show (9 : Int) ≤ 10 ∧ (10 : Int) ≤ 15 by decide), aax, hS.n, hS.a, hS.g, if_true, Int.reduceEq, if_false, aea, acz, aac, bnd]
      rfl
    | j3 =>
      simp only [agw hS hT hct (show (9 : Int) ≤ 11 ∧ (11 : Int) ≤ 15 by decide), aax, hS.n, hS.a, hS.g, if_true, Int.reduceEq, if_false, alD, alG, aac, he _ { e with m := e.m.cas (afl e.l ch) 0 (wu (wi (aaC st + 1))) } hl, bnd]
      exact acS.iteN (fun _ => rfl) fun _ => rfl
    | j4 =>
      simp only [agw hS hT hct (show (9 : Int) ≤ 12 ∧ (12 : Int) ≤ 15 by decide), aax, hS.n, hS.a, hS.g, if_true, Int.reduceEq, if_false, ahH, adU, agm, aac, bnd]
      rfl
    | j5 s =>
      have h := ar4 (w := w) (v := lv) hK hk s
      have hn := atI (e := e) (w := w) (v := lv) s
      simp only [agw hS hT hct (show (9 : Int) ≤ 13 ∧ (13 : Int) ≤ 15 by decide)]
      revert h hn
      simp only [aax, hS.n, hS.a, hS.g, if_true, Int.reduceEq, if_false, adb, bnd]
      rcases ahc w lv e s with ⟨r | ⟨c, y⟩, e'⟩ <;> intro h hn
      · simp only [acS] at h
        simp only [h, bnd, Bool.not_false, if_true]
        rfl
      · simp only [acS] at h
        obtain ⟨x', h, ho⟩ := h
        have hl' : e'.evs.length ≤ 999999999 := by have h1 : e'.evs.length ≤ e.evs.length + 1 := hn.ev; have := hK.ev; omega
        simp only [h, bnd, Bool.not_true, Bool.false_eq_true, if_false, he _ e' hl']
        exact aeW hS
    | j6 =>
      simp only [agw hS hT hct (show (9 : Int) ≤ 14 ∧ (14 : Int) ≤ 15 by decide), aax, hS.n, hS.a, hS.g, if_true, Int.reduceEq, if_false, aea, acz, aac, bnd]
      rfl
    | j7 =>
      simp only [agw hS hT hct (show (9 : Int) ≤ 15 ∧ (15 : Int) ≤ 15 by decide), aax, hS.n, hS.a, hS.g, hR, and_self, if_true, Int.reduceEq, if_false, ahA, acz, aac, bnd]
      have he2 : ∀ (x : RunV MV) (m' : MemV) (rs : List RecP) (v : Ev), aaw x { e with m := m', recs := rs } v = some ((), (x, { e with m := m', recs := rs, evs := e.evs ++ [{ v with worker := x.worker }] }, ())) := fun x m' rs v => aic (e := { e with m := m', recs := rs }) hl
      rw [he2, bnd]
      rfl
    | f2 =>
      simp only [aeQ hS hT hct (show (16 : Int) ≤ 17 by decide), aam, hS.n, hS.a, hS.g, if_true, Int.reduceEq, if_false, alD, alG, aac, he _ { e with m := e.m.cas (afl e.l (aaC st)) 0 4294967296 } hl, bnd]
      refine acS.ite (fun _ => ?_) fun _ => rfl
      exact aeW hS
    | f3 =>
      simp only [aeQ hS hT hct (show (16 : Int) ≤ 18 by decide), aam, hS.n, hS.a, hS.g, if_true, Int.reduceEq, if_false, alD, adU, aac, aeG, bnd]
      by_cases h1 : wi (wi (e.m.gt (afl e.l (aaC st))) - 1) < 0
      · rw [if_pos h1, if_neg (show ¬ IsT e (wi (wi (e.m.gt (afl e.l (aaC st))) - 1)) from fun h => by have := h.1; omega)]
        exact aeW hS
      by_cases h2 : e.c.tasks ≤ wi (wi (e.m.gt (afl e.l (aaC st))) - 1)
      · rw [if_neg h1, if_pos h2, if_neg (show ¬ IsT e (wi (wi (e.m.gt (afl e.l (aaC st))) - 1)) from fun h => by have := h.2; omega)]
        exact aeW hS
      · rw [if_neg h1, if_neg h2, if_pos (show IsT e (wi (wi (e.m.gt (afl e.l (aaC st))) - 1)) from ⟨by omega, by omega⟩)]
        rfl
    | f4 s =>
      have h := ark (w := w) (t := wt) hK s
      simp only [aeQ hS hT hct (show (16 : Int) ≤ 19 by decide)]
      revert h
      simp only [aam, hS.n, hS.a, hS.g, if_true, Int.reduceEq, if_false, adb, bnd]
      rcases aiP w wt e s with ⟨r | ⟨c, y⟩, e'⟩ <;> intro h
      · simp only [acS] at h
        simp only [h, bnd, Bool.not_false, if_true]
        rfl
      · simp only [acS] at h
        obtain ⟨x', h, ho⟩ := h
        simp only [h, ho, ab2, bnd, Bool.not_true, Bool.false_eq_true, if_false, if_true, Int.reduceEq, abF, ab3, aac]
        by_cases hc : c = 3
        · simp only [hc, if_true]; rfl
        · simp only [hc, if_false]; rfl
    | f5 v s =>
      have h := aop (e := e) (w := w) (v := v) hl s
      simp only [aeQ hS hT hct (show (16 : Int) ≤ 20 by decide)]
      revert h
      simp only [aam, hS.n, hS.a, hS.g, if_true, Int.reduceEq, if_false, adb, bnd]
      rcases anr w v e s with ⟨r | ⟨c, y⟩, e'⟩ <;> intro h
      · simp only [acS] at h
        simp only [h, bnd, Bool.not_false, if_true]
        rfl
      · simp only [acS] at h
        obtain ⟨x', h, ho⟩ := h
        simp only [h, ho, ab2, bnd, Bool.not_true, Bool.false_eq_true, if_false]
        exact aeW hS
    | f6 =>
      obtain ⟨x', h, ho⟩ := anb (w := w) (t := wt) hl hK.st
      simp only [aeQ hS hT hct (show (16 : Int) ≤ 21 by decide)]
      simp only [aam, hS.n, hS.a, hS.g, hS.s, adb, bnd, h, ab2, Bool.not_true, Bool.false_eq_true, if_false, if_true, Int.reduceEq, aac]
      rcases Bool.eq_false_or_eq_true (akp wt e) with hc | hc
      · simp only [hc, if_true] at ho ⊢
        simp only [ho, if_true]
        rfl
      · simp only [hc, Bool.false_eq_true, if_false] at ho ⊢
        simp only [ho, Int.reduceEq, if_false]
        exact aeW hS
  · rw [if_pos hT]
    have hb : aaC st < 0 ∨ e.c.tasks ≤ aaC st := by
      unfold IsT at hT
      omega
    simp only [aaF, aaH, abi, o0, bnd, hS.n, hS.a, hS.g, if_true, Bool.false_eq_true, if_false]
    rcases hb with hb | hb
    · rw [if_pos hb]; exact ⟨_, rfl, rfl⟩
    · by_cases h0 : aaC st < 0
      · rw [if_pos h0]; exact ⟨_, rfl, rfl⟩
      · rw [if_neg h0, if_pos hb]; exact ⟨_, rfl, rfl⟩
end
end
section
open Go Go.RowKit
set_option maxRecDepth 100000
variable [Tb]
theorem aeU {α β : Type} (a : α) (f : α → Option β) : (some a).bind f = f a := rfl
structure LenOk (c : Cfg) : Prop where
  ps : c.progs.length ≤ 1000000
  pl : ∀ p ∈ c.progs, p.length ≤ 1000000
  ss : c.subs.length ≤ 1000000
theorem amC {lv np : Int} : ∀ {ps : List (List Ins)}, aaM lv np ps = 0 → ∀ p ∈ ps, p.length ≤ 32
  | [], _, p, h => by cases h
  | q :: ps, h, p, hm => by
    unfold aaM at h
    split at h
    · omega
    · split at h
      · rcases List.mem_cons.1 hm with e | e
        · subst e; omega
        · exact amC h p e
      · omega
theorem ajr {c : Cfg} (h : adN c = 0) : ahL c = true ∧ c.progs.length ≤ 32 ∧ (∀ p ∈ c.progs, p.length ≤ 32) ∧ c.subs.length ≤ 64 := by
  unfold adN at h
  split at h
  · omega
  · rename_i hn
    split at h
    · omega
    · rename_i hp
      have hp0 : abT c = 0 := by omega
      unfold abT at hp0
      split at hp0
      · omega
      · rename_i hl
        simp only [inB, Bool.not_eq_true', Bool.and_eq_false_iff, decide_eq_false_iff_not, not_or, Classical.not_not, Bool.not_eq_false, Bool.and_eq_true, decide_eq_true_eq] at hl
        refine ⟨by simpa using hn, by omega, amC hp0, ?_⟩
        unfold afa at h
        split at h
        · omega
        · omega
theorem LenOk.of {c : Cfg} (h : adN c = 0) : LenOk c := by
  obtain ⟨_, h1, h2, h3⟩ := ajr h
  exact ⟨by omega, fun p hp => by have := h2 p hp; omega, by omega⟩
abbrev ClS := Int × Int × Int × Int × Int × Int × Int × Int × Int × List (List Ins) × List Sub × Unit
def clS (c : Cfg) : ClS := (c.workers, c.levels, c.classes, c.tasks, c.deque, c.heap, c.batch, c.age, c.patience, c.progs, c.subs, ())
theorem ap9 {α : Type} {xs : List α} {i : Nat} {x : α} (h : xs[i]? = some x) : xs.set i x = xs := by
  obtain ⟨hlt, rfl⟩ := List.getElem?_eq_some_iff.1 h
  simp
theorem as7 {c : Cfg} (h : LenOk c) : aeg c = some ((c, ()), ()) := by
  have hg : abB (aeg c) fun o => o.1.1 = c := by
    unfold aeg
    have e0 : ae1 c.progs = some ((c.progs, ()), ()) := by unfold ae1; rw [if_pos h.ps]
    rw [e0, aeU]
    refine abB.bind (P := fun z => z.2.1 = clS c) (af9 (fun x => x.2.1 = clS c ∧ 0 ≤ x.1 ∧ x.1 ≤ (c.progs.length : Int)) (fun x => ((c.progs.length : Int) - x.1).toNat) (fun self x ⟨q0, q1, q2⟩ ih => ?_) _ _ ⟨rfl, Int.le_refl 0, by show (0 : Int) ≤ _; omega⟩ (by show ((c.progs.length : Int) - 0).toNat < _; have := h.ps; omega)) fun z hz => ?_
    rotate_left
    · obtain ⟨i, s, u⟩ := x
      simp only at q0 q1 q2
      subst q0
      refine abB.ite (fun hlt => ?_) fun _ => .some_ rfl
      have hin : 0 ≤ i ∧ i < ((c.progs.length : Nat) : Int) := ⟨q1, hlt⟩
      refine abB.guard (show 0 ≤ i ∧ i < (((clS c).2.2.2.2.2.2.2.2.2.1.length : Nat) : Int) from hin) fun _ => ?_
      have hm := h.pl _ (atb (d := (dfR 18 : List Ins)) hin)
      have e1 : agG (arG (clS c).2.2.2.2.2.2.2.2.2.1 i) = some ((arG c.progs i, ()), ()) := by
        unfold agG; exact if_pos hm
      rw [e1, aeU]
      refine abB.guard (show 0 ≤ i ∧ i < (((clS c).2.2.2.2.2.2.2.2.2.1.length : Nat) : Int) from hin) fun _ => ?_
      have e2 : wi (i + 1) = i + 1 := ad2 (acf (by have := h.ps; omega))
      have e3 : c.progs.set i.toNat (arG c.progs i) = c.progs := ap9 (adk hin)
      rw [e2]
      refine ih _ ⟨?_, by show 0 ≤ i + 1; omega, by show i + 1 ≤ _; omega⟩ (by show ((c.progs.length : Int) - (i + 1)).toNat < ((c.progs.length : Int) - i).toNat; omega)
      show (c.workers, c.levels, c.classes, c.tasks, c.deque, c.heap, c.batch, c.age, c.patience, c.progs.set i.toNat (arG c.progs i), c.subs, ()) = clS c
      rw [e3]; rfl
    · rw [hz]
      have e4 : ae0 (clS c).2.2.2.2.2.2.2.2.2.2.1 = some ((c.subs, ()), ()) := by unfold ae0; exact if_pos h.ss
      rw [e4, aeU]
      exact .some_ rfl
  obtain ⟨o, e, ho⟩ := hg
  rw [e]
  obtain ⟨⟨o1, ⟨⟩⟩, ⟨⟩⟩ := o
  simp only at ho
  rw [ho]
def asK (c : Cfg) : LayV := { workers := c.workers, levels := c.levels, classes := c.classes, tasks := c.tasks, deque := c.deque, heap := c.heap, sleepers := 4 + c.heap, epochs := 4 + c.heap + c.classes, bitmaps := 4 + c.heap + c.classes + c.workers, queues := 4 + c.heap + c.classes + c.workers + c.workers, table := 4 + c.heap + c.classes + c.workers + c.workers + c.workers * c.levels * (2 + c.deque) }
def adO (c : Cfg) : Int := (asK c).table + 5 * c.tasks
theorem ayg {a b A B : Int} (ha : 0 ≤ a) (hA : a ≤ A) (hb : 0 ≤ b) (hB : b ≤ B) : 0 ≤ a * b ∧ a * b ≤ A * B :=
  ⟨Int.mul_nonneg ha hb, Int.le_trans (Int.mul_le_mul_of_nonneg_right hA hb) (Int.mul_le_mul_of_nonneg_left hB (Int.le_trans ha hA))⟩
theorem aov {c : Cfg} (h : ahL c = true) : (0 ≤ c.workers * c.levels ∧ c.workers * c.levels ≤ 1024) ∧ (0 ≤ c.workers * c.levels * (2 + c.deque) ∧ c.workers * c.levels * (2 + c.deque) ≤ 67584) := by
  have hs := afh h
  have h1 := ayg (a := c.workers) (b := c.levels) (A := 16) (B := 64) (by omega) (by omega) (by omega) (by omega)
  have h2 := ayg (a := c.workers * c.levels) (b := 2 + c.deque) (A := 1024) (B := 66) h1.1 (by omega) (by omega) (by omega)
  omega
theorem aqV {c : Cfg} (h : adN c = 0) : ahT c = some ((asK c, 0, ()), ()) := by
  have hn := (ajr h).1
  have hs := afh hn
  have ht := aov hn
  unfold ahT al4
  rw [aeU]
  have e0 : ¬ adN c ≠ 0 := by omega
  simp only [if_neg e0]
  have e1 : wi (4 + c.heap) = 4 + c.heap := ad2 (acf (by omega))
  have e2 : wi (4 + c.heap + c.classes) = 4 + c.heap + c.classes := ad2 (acf (by omega))
  have e3 : wi (4 + c.heap + c.classes + c.workers) = 4 + c.heap + c.classes + c.workers := ad2 (acf (by omega))
  have e4 : wi (4 + c.heap + c.classes + c.workers + c.workers) = 4 + c.heap + c.classes + c.workers + c.workers := ad2 (acf (by omega))
  have e5 : wi (c.workers * c.levels) = c.workers * c.levels := ad2 (acf (by omega))
  have e6 : wi (2 + c.deque) = 2 + c.deque := ad2 (acf (by omega))
  have e7 : wi (c.workers * c.levels * (2 + c.deque)) = c.workers * c.levels * (2 + c.deque) := ad2 (acf (by omega))
  have e8 : wi (4 + c.heap + c.classes + c.workers + c.workers + c.workers * c.levels * (2 + c.deque)) = 4 + c.heap + c.classes + c.workers + c.workers + c.workers * c.levels * (2 + c.deque) := ad2 (acf (by omega))
  simp only [e1, e2, e3, e4, e5, e6, e7, e8]
  rfl
def atm : RecP := ⟨0, -1, 0, 0, -1, [], false⟩
def aty (c : Cfg) : EnvP := ⟨c, asK c, ⟨List.replicate (adO c).toNat 0, ⟨0, 0, 0, 0⟩, 0⟩, ⟨0, 0⟩, List.replicate c.tasks.toNat atm, []⟩
theorem awt {c : Cfg} (h : adN c = 0) : aeV c = some ((aty c, 0, ()), ()) := by
  have hn := (ajr h).1
  have hs := afh hn
  have ht := aov hn
  have hg : abB (aeV c) fun o => o.1.1 = aty c ∧ o.1.2.1 = 0 := by
    unfold aeV
    rw [aqV h, aeU]
    refine abB.ite (fun e => absurd rfl e) fun _ => ?_
    have c1 : wi (5 * c.tasks) = 5 * c.tasks := ad2 (acf (by omega))
    have c2 : wi ((asK c).table + 5 * c.tasks) = adO c := ad2 (acf (by unfold asK; simp only; omega))
    have e1 : aoV (asK c) = some ((adO c, ()), ()) := by
      unfold aoV
      have : wi (5 * (asK c).tasks) = 5 * c.tasks := c1
      rw [this, c2]
    rw [e1, aeU]
    have hc : 0 ≤ adO c ∧ adO c ≤ 131072 := by unfold adO asK; simp only; omega
    have e2 : afi (adO c) = some ((⟨⟨0, 0, 0, 0, 0, 0, 0, 0, 0, [], []⟩, ⟨0, 0, 0, 0, 0, 0, 0, 0, 0, 0, 0⟩, ⟨List.replicate (adO c).toNat 0, ⟨0, 0, 0, 0⟩, 0⟩, ⟨0, 0⟩, [], []⟩, ()), ()) := by
      unfold afi ajX al3
      have i1 : (if adO c < 0 then (0 : Int) else adO c) = adO c := if_neg (by omega)
      have i2 : (if 131072 < adO c then (131072 : Int) else adO c) = adO c := if_neg (by omega)
      have i3 : 0 ≤ adO c ∧ adO c ≤ 1099511627776 := by omega
      simp only [i1, i2, if_true, if_pos i3, aeU]
    rw [e2, aeU, as7 (.of h), aeU]
    simp only [if_true]
    refine abB.bind (P := fun z => z.2.1 = aty c) (af9 (fun x => 0 ≤ x.1 ∧ x.1 ≤ c.tasks ∧ x.2.1 = { aty c with recs := List.replicate x.1.toNat atm }) (fun x => (c.tasks - x.1).toNat) (fun self x ⟨q0, q1, q2⟩ ih => ?_) _ _ ⟨Int.le_refl 0, by show (0 : Int) ≤ _; omega, rfl⟩ (by show (c.tasks - 0).toNat < _; omega)) fun z hz => .some_ ⟨hz, rfl⟩
    obtain ⟨i, e, u⟩ := x
    simp only at q0 q1 q2
    subst q2
    refine abB.ite (fun hlt => ?_) fun hge => .some_ ?_
    · have hl : (List.replicate i.toNat atm).length = i.toNat := List.length_replicate
      refine abB.guard ?_ fun _ => ?_
      · show (((List.replicate i.toNat atm).length + 1 : Nat) : Int) < 100000000000
        rw [hl]
        have hlt' : i < c.tasks := hlt
        omega
      · have hlt' : i < c.tasks := hlt
        have e2 : wi (i + 1) = i + 1 := ad2 (acf (by omega))
        rw [e2]
        refine ih _ ⟨by show 0 ≤ i + 1; omega, by show i + 1 ≤ _; omega, ?_⟩ (by show (c.tasks - (i + 1)).toNat < (c.tasks - i).toNat; omega)
        show ({ aty c with recs := List.replicate i.toNat atm ++ [atm] } : EnvP) = { aty c with recs := List.replicate (i + 1).toNat atm }
        have e3 : (i + 1).toNat = i.toNat + 1 := by omega
        rw [e3, List.replicate_succ']
    · show ({ aty c with recs := List.replicate i.toNat atm } : EnvP) = aty c
      have : i = c.tasks := by have hge' : ¬ i < c.tasks := hge; omega
      rw [this]; rfl
  obtain ⟨o, e, ho1, ho2⟩ := hg
  rw [e]
  obtain ⟨⟨o1, o2, ⟨⟩⟩, ⟨⟩⟩ := o
  simp only at ho1 ho2
  rw [ho1, ho2]
end
section
open Go Go.RowKit
set_option maxRecDepth 1000000
def awA : List Ins := [⟨1, 1, 1⟩, ⟨0, 3, 0⟩, ⟨2, 0, 0⟩]
def ann (q : List Ins) : Cfg := ⟨2, 2, 1, 12, 2, 1, 1, 0, 1, [awA, q], []⟩
def ax0 (w0 s0 j0 j1 s1 bo bm : Int) : List Int :=
  [2, 0, 0, 0, 0, 0, 0, 0, 2, bm, 0, 0, 0, 0, 0, 1, 1, 0, 0, bo, 0, 0, 0, 0, 0, 0, s0, 0, j0, w0, 0, s1, 1, j1, 0, 0] ++ List.replicate 50 0
def axl (pc left waiting : Int) : RecP := ⟨0, -1, pc, left, waiting, [1], true⟩
def ac3 (pc left : Int) : RecP := ⟨1, 0, pc, left, -1, [], true⟩
def axk (a b : RecP) : List RecP := a :: b :: List.replicate 10 ⟨0, -1, 0, 0, -1, [], false⟩
def apI : LayV := asK (ann [])
def w0I (i : Nat) : Int := if i < 4 then 0 else if i < 12 then 2 else 0
def s0I (i j : Nat) : Int := if i < 5 then 2 else if i < 6 then 3 else if i < 10 then (if j < 5 then 3 else 1) else if i < 11 then 3 else if i < 13 then 2 else 4
def j0I (i : Nat) : Int := if i < 14 then 0 else 4294967296
def j1I (i j : Nat) : Int := if j = 13 then 4294967296 else if i < 6 then 0 else 1
def s1J (j : Nat) : Int := if j < 1 then 2 else 4
def boJ (j : Nat) : Int := if j < 10 then 0 else if j < 13 then 1 else 0
def bmJ (j : Nat) : Int := if j < 11 then 0 else if j < 13 then 1 else 0
def pcI (i : Nat) : Int := if i < 3 then 1 else if i < 4 then 2 else 3
def lfI (i : Nat) : Int := if i = 1 then 2 else if i = 2 then 1 else 0
def wtI (i : Nat) : Int := if i < 4 then -1 else if i < 12 then 1 else -1
def amg (i j : Nat) : Bool := (decide (i < 6) && (decide (j < 2) || decide (j = 13))) || (decide (6 ≤ i) && decide (i < 10) && decide (j < 13)) || (decide (10 ≤ i) && decide (i < 15) && decide (j = 13))
def xs0 : RunS := ⟨[0], 1, 0, 1, 0, .next⟩
def xsA (c : RunC) : RunS := ⟨[0], 1, 1, 1, 0, c⟩
def xsB (c : RunC) : RunS := ⟨[0], 1, 1, 0, 0, c⟩
def xSt : Nat → Option RunS
  | 0 => some xs0
  | 1 => some xs0
  | 2 => some xs0
  | 3 => some xs0
  | 4 => some (xsA .j2)
  | 5 => some (xsA .j3)
  | 6 => some (xsA .j4)
  | 7 => some (xsB (.j5 (.l1 1)))
  | 8 => some (xsB (.j5 (.l4 1)))
  | 10 => some (xsA .j6)
  | 11 => some (xsA .j7)
  | 12 => some (xsA .next)
  | 13 => some (xsA .f2)
  | _ => none
def ysC (c : RunC) : RunS := ⟨[1], 0, 0, 0, 0, c⟩
def ySt : Nat → Option RunS
  | 0 => some (ysC .next)
  | 1 => some (ysC .f2)
  | 2 => some (ysC .f3)
  | 3 => some (ysC (.f4 .l1))
  | 4 => some (ysC (.f4 .l2))
  | 5 => some (ysC (.f4 .l3))
  | 6 => some (ysC (.f4 (.l4 0 .new)))
  | 7 => some (ysC (.f4 (.l4 0 (.push (.l2 0)))))
  | 8 => some (ysC (.f4 (.l4 0 (.push (.l3 0)))))
  | 9 => some (ysC (.f4 (.l4 0 (.push (.l4 0)))))
  | 10 => some (ysC (.f4 (.l4 0 .set)))
  | 11 => some (ysC (.f5 0 (.l1 0)))
  | _ => none
def xN (i j : Nat) : Nat := if i = 5 then (if j = 13 then 10 else 6) else i + 1
def yN (i j : Nat) : Nat := if j = 1 then (if i < 6 then 13 else 2) else j + 1
def xEv (i j : Nat) : List Ev := if i = 5 ∧ j ≠ 13 then [⟨6, 0, 0, 1, 0⟩] else if i = 8 then [⟨7, 0, 0, 0, 0⟩] else if i = 11 then [⟨8, 0, 0, 1, 0⟩] else if i = 13 then [⟨10, 0, 0, 0, 0⟩] else []
def yEv (j : Nat) : List Ev := if j = 1 then [⟨10, 1, 1, 0, 0⟩] else []
def apW (q : List Ins) (i j : Nat) (pc1 lf1 : Int) (la : AccV) (ct : Int) (evs : List Ev) : EnvP :=
  ⟨ann q, apI, ⟨ax0 (w0I i) (s0I i j) (j0I i) (j1I i j) (s1J j) (boJ j) (bmJ j), la, ct⟩, ⟨0, 0⟩, axk (axl (pcI i) (lfI i) (wtI i)) (ac3 pc1 lf1), evs⟩
def rsO (s : Option RunS) : Rs RunS := match s with
  | some r => .go r
  | none => .fin 0 0
variable [Tb]
section
variable {q : List Ins} {pc1 lf1 ct : Int} {la : AccV} {evs : List Ev}
def StQ (r : Rs RunS × EnvP) (s : Option RunS) (q : List Ins) (i j : Nat) (pc1 lf1 : Int) (evs : List Ev) : Prop :=
  r = (rsO s, apW q i j pc1 lf1 r.2.m.last r.2.m.count evs)
theorem avE {i j : Nat} (h : amg i j = true) (h9 : i ≠ 9) (h14 : i ≠ 14) {r : RunS} (hr : xSt i = some r) : StQ (asi 0 (apW q i j pc1 lf1 la ct evs) r) (xSt (xN i j)) q (xN i j) j pc1 lf1 (if (xEv i j).isEmpty then evs else evs ++ xEv i j) := by
  have hi : i < 15 := Classical.byContradiction fun k => by
    unfold amg at h; simp at h; omega
  have hj : j < 14 := Classical.byContradiction fun k => by
    unfold amg at h; simp at h; omega
  unfold StQ
  rcases i with _ | _ | _ | _ | _ | _ | _ | _ | _ | _ | _ | _ | _ | _ | _ | i
  all_goals first | exact absurd rfl h9 | exact absurd rfl h14 | exact absurd hi (by omega) | skip
  all_goals cases hr
  all_goals rcases j with _ | _ | _ | _ | _ | _ | _ | _ | _ | _ | _ | _ | _ | _ | j
  all_goals first | exact absurd h (by decide) | exact absurd hj (by omega) | (show _ = _; kernel_rfl)
theorem avB {i j : Nat} (h : amg i j = true) (h0 : j ≠ 0) (h12 : j ≠ 12) (h13 : j ≠ 13) {r : RunS} (hr : ySt j = some r) : StQ (asi 1 (apW q i j pc1 lf1 la ct evs) r) (ySt (yN i j)) q i (yN i j) pc1 lf1 (if (yEv j).isEmpty then evs else evs ++ yEv j) := by
  have hi : i < 15 := Classical.byContradiction fun k => by
    unfold amg at h; simp at h; omega
  have hj : j < 14 := Classical.byContradiction fun k => by
    unfold amg at h; simp at h; omega
  unfold StQ
  rcases j with _ | _ | _ | _ | _ | _ | _ | _ | _ | _ | _ | _ | _ | _ | j
  all_goals first | exact absurd rfl h0 | exact absurd rfl h12 | exact absurd rfl h13 | exact absurd hj (by omega) | skip
  all_goals cases hr
  all_goals rcases i with _ | _ | _ | _ | _ | _ | _ | _ | _ | _ | _ | _ | _ | _ | _ | i
  all_goals first | exact absurd h (by decide) | exact absurd hi (by omega) | (show _ = _; kernel_rfl)
theorem hT1 {i j : Nat} : IsT (apW q i j pc1 lf1 la ct evs) (aaC (ysC .next).stack) := by show (0 : Int) ≤ 1 ∧ (1 : Int) < 12; decide
theorem avC {i : Nat} (h : 0 ≤ pc1 ∧ pc1 < ((q.length : Nat) : Int)) (ho : (aaY q pc1).op = 0) : StQ (asi 1 (apW q i 0 pc1 lf1 la ct evs) (ysC .next)) (ySt 0) q i 0 (aey (ac3 pc1 lf1) (aaY q pc1)).pc (aey (ac3 pc1 lf1) (aaY q pc1)).left evs := by
  unfold asi
  rw [if_neg (fun h => h hT1)]
  show StQ (apG 1 _ (ysC .next) 1 (ac3 pc1 lf1) q) _ _ _ _ _ _ _
  unfold apG
  rw [if_neg (show ¬ (ac3 pc1 lf1).waiting ≠ -1 by show ¬ (-1 : Int) ≠ -1; decide), if_neg (show ¬ ((ac3 pc1 lf1).pc < 0 ∨ (q.length : Int) ≤ (ac3 pc1 lf1).pc) by show ¬ (pc1 < 0 ∨ (q.length : Int) ≤ pc1); omega), if_pos (show (aaY q (ac3 pc1 lf1).pc).op = 0 from ho)]
  have hc : aey (ac3 pc1 lf1) (aaY q pc1) = ac3 (aey (ac3 pc1 lf1) (aaY q pc1)).pc (aey (ac3 pc1 lf1) (aaY q pc1)).left := by
    unfold aey; repeat' split
    all_goals rfl
  show StQ (.go (ysC .next), EnvP.pr _ 1 (aey (ac3 pc1 lf1) (aaY q pc1))) _ _ _ _ _ _ _
  generalize aey (ac3 pc1 lf1) (aaY q pc1) = r at hc ⊢
  rw [hc]
  rfl
theorem axe {i : Nat} (hi : i < 10) (h : pc1 = ((q.length : Nat) : Int)) : StQ (asi 1 (apW q i 0 pc1 lf1 la ct evs) (ysC .next)) (ySt 1) q i 1 pc1 lf1 evs := by
  unfold asi
  rw [if_neg (fun h => h hT1)]
  show StQ (apG 1 _ (ysC .next) 1 (ac3 pc1 lf1) q) _ _ _ _ _ _ _
  unfold apG
  rw [if_neg (show ¬ (ac3 pc1 lf1).waiting ≠ -1 by show ¬ (-1 : Int) ≠ -1; decide), if_pos (show ((ac3 pc1 lf1).pc < 0 ∨ (q.length : Int) ≤ (ac3 pc1 lf1).pc) by show (pc1 < 0 ∨ (q.length : Int) ≤ pc1); omega)]
  clear h
  unfold StQ
  rcases i with _ | _ | _ | _ | _ | _ | _ | _ | _ | _ | i
  all_goals first | exact absurd hi (by omega) | (show _ = _; kernel_rfl)
end
end
section
open Go Go.RowKit
set_option maxRecDepth 100000
variable [Tb]
noncomputable def aaI (y0 : EnvP) (y1 : MV) (y2 : Int) : Option ((Int × Int × Int × Unit) × (EnvP × MV × Unit)) :=
 if (SR1.spl y1).isNone = true then
  some (((-1), 0, 0, ()), (y0, y1, ()))
 else
 (lpF (σ := Int × EnvP × MV × Unit) (β := (Int × EnvP × MV × Unit) ⊕ ((Int × Int × Int × Unit) × (EnvP × MV × Unit))) (fun self3 x1 =>
  if x1.1 < y2 then
   (afz x1.2.2.1 x1.2.1).bind fun r4 =>
   if r4.1.1 = true then
   (alv r4.2.1).bind fun r5 =>
   Option.map Sum.inr (
   some ((r5.1.1, r5.1.2.1, wi (x1.1 + 1), ()), (r4.2.2.1, r5.2.1, ()))
   )
   else
   self3 (wi (x1.1 + 1), r4.2.2.1, r4.2.1, ())
  else
  some (Sum.inl (x1.1, x1.2.1, x1.2.2.1, ()))
 ) 18446744073709551616 (0, y0, y1, ())).bind fun z2 => match z2 with
 | .inr o6 => some o6
 | .inl z2 =>
 some (((-1), 0, z2.1, ()), (z2.2.1, z2.2.2.1, ()))
noncomputable abbrev abr : Con SR1 := ⟨11, [.ref 27, .mch, .sh sI_], [.sh sI_, .sh sI_, .sh sI_], fun x => aaI x.1 x.2.1 x.2.2.1⟩
theorem ab0 : CO Tryz.prog abr := aar aaq Tryz.func11 [aln, akS] ⟨amn, anD, trivial⟩ [] trivial (fun _ => []) [(3, .loopR [.rg 8 sI_, .ob 0 27, .ma 1] 18446744073709551616 0)] fun x => by kernel_rfl
noncomputable def aaT (y0 : Cfg) : Option ((EnvP × Bool × Unit) × (Unit)) :=
 (aeV y0).bind fun r1 =>
 if r1.1.2.1 ≠ 0 then
  none
 else
 (adT).bind fun r2 =>
 (aaI r1.1.1 r2.1.1 5).bind fun r3 =>
 (aek 0 0).bind fun r4 =>
 (aaI r3.2.1 r4.1.1 5).bind fun r5 =>
 (abF 0 0).bind fun r6 =>
 (aaI r5.2.1 r6.1.1 5).bind fun r7 =>
 some ((r7.2.1, true, ()), (()))
noncomputable abbrev acb : Con SR1 := ⟨8, [.val 13], [.sh (.own 27), .sh .b], fun x => aaT x.1⟩
theorem ada : CO Tryz.prog acb := aar aaq Tryz.func8 [aiN, ad3, abr, aet, acN] ⟨alM, afy, ab0, afW, acU, trivial⟩ [] trivial (fun _ => []) [] fun x => by kernel_rfl
noncomputable def aa3 (y0 : List Ins) (y1 : List Ins) (y2 : Int) : Option ((Cfg × Unit) × (Unit)) :=
 (aqX ([])).bind fun r1 =>
 some ((({ r1.1.1 with levels := 2, tasks := 12, deque := y2, progs := [y0, y1] } : Cfg), ()), (()))
noncomputable abbrev aca : Con SR1 := ⟨7, [.sh (.ro 3), .sh (.ro 3), .sh sI_], [.val 13], fun x => aa3 x.1 x.2.1 x.2.2.1⟩
theorem ac9 : CO Tryz.prog aca := aar aaq Tryz.func7 [amZ] ⟨apJ, trivial⟩ [] trivial (fun _ => []) [] fun x => by kernel_rfl
noncomputable def adK (y0 : Cfg) : Option ((Int × Unit) × (Unit)) :=
 some ((wi ((wi ((wi (4 + y0.heap)) + y0.classes)) + (wi (2 * y0.workers))), ()), (()))
noncomputable abbrev ac8 : Con SR1 := ⟨45, [.val 13], [.sh sI_], fun x => adK x.1⟩
theorem ae7 : CO Tryz.prog ac8 := aar aaq Tryz.func45 [] trivial [] trivial (fun _ => []) [] fun x => by kernel_rfl
noncomputable def ad0 (y0 : Int) (y1 : Int) (y2 : Int) (y3 : Int) : Option ((Int × Unit) × (Unit)) :=
 if y1 < 0 then
  some (((-1), ()), (()))
 else
 if y2 ≤ y1 then
  some (((-1), ()), (()))
 else
 some ((wi (y0 + (wi (y1 * y3))), ()), (()))
noncomputable abbrev adu : Con SR1 := ⟨49, [.sh sI_, .sh sI_, .sh sI_, .sh sI_], [.sh sI_], fun x => ad0 x.1 x.2.1 x.2.2.1 x.2.2.2.1⟩
theorem afJ : CO Tryz.prog adu := aar aaq Tryz.func49 [] trivial [] trivial (fun _ => []) [] fun x => by kernel_rfl
noncomputable def aej (y0 : Cfg) (y1 : Int) (y2 : Int) : Option ((Int × Unit) × (Unit)) :=
 (adK y0).bind fun r1 =>
 if y0.tasks = y0.tasks then
  if y0.deque = y0.deque then
   if y0.levels = y0.levels then
   if y0.workers = y0.workers then
   (ad0 (wi (r1.1.1 + (wi ((wi (y0.workers * y0.levels)) * (wi (2 + y0.deque)))))) y1 y0.tasks 5).bind fun r2 =>
   if r2.1.1 < 0 then
   some (((-1), ()), (()))
   else
   some ((wi (r2.1.1 + y2), ()), (()))
   else none
   else none
  else none
 else none
noncomputable abbrev adJ : Con SR1 := ⟨34, [.val 13, .sh sI_, .sh sI_], [.sh sI_], fun x => aej x.1 x.2.1 x.2.2.1⟩
theorem afS : CO Tryz.prog adJ := aar aaq Tryz.func34 [ac8, adu] ⟨ae7, afJ, trivial⟩ [] trivial (fun _ => []) [] fun x => by kernel_rfl
noncomputable def abM (y0 : Cfg) (y1 : Int) : Option ((Int × Unit) × (Unit)) :=
 (aej y0 y1 0).bind fun r1 =>
 some ((r1.1.1, ()), (()))
noncomputable abbrev ab9 : Con SR1 := ⟨16, [.val 13, .sh sI_], [.sh sI_], fun x => abM x.1 x.2.1⟩
theorem ac7 : CO Tryz.prog ab9 := aar aaq Tryz.func16 [adJ] ⟨afS, trivial⟩ [] trivial (fun _ => []) [] fun x => by kernel_rfl
noncomputable def acK  : Option ((Bool × Unit) × (Unit)) :=
 (aa3 ([]) ([]) 2).bind fun r1 =>
 (aaT r1.1.1).bind fun r2 =>
 (aa3 ([(⟨1, 1, 1⟩ : Ins), (⟨2, 0, 0⟩ : Ins)]) ([]) 2).bind fun r3 =>
 (aaT r3.1.1).bind fun r4 =>
 if (!r2.1.2.1) = true then
  some ((false, ()), (()))
 else
 if (!r4.1.2.1) = true then
  some ((false, ()), (()))
 else
 (af2 0 0).bind fun r5 =>
 (aaI r2.1.1 r5.1.1 99).bind fun r6 =>
 (af2 0 0).bind fun r7 =>
 (aaI r4.1.1 r7.1.1 99).bind fun r8 =>
 if r6.1.1 = 0 then
  if r6.1.2.2.1 = 2 then
   if r8.1.1 = 0 then
   if r8.1.2.2.1 = 16 then
   if ((r8.2.1.evs.length : Nat) : Int) = 4 then
   if 0 ≤ (3 : Int) ∧ (3 : Int) < ((r8.2.1.evs.length : Nat) : Int) then
   if ((aw9 r8.2.1.evs 3).kind) = 7 then
   (abM r8.2.1.c 0).bind fun r9 =>
   if r9.1.1 < 0 then
   some ((false, ()), (()))
   else
   if ((r8.2.1.m.cells.length : Nat) : Int) ≤ r9.1.1 then
   some ((false, ()), (()))
   else
   if 0 ≤ r9.1.1 ∧ r9.1.1 < ((r8.2.1.m.cells.length : Nat) : Int) then
   some ((decide ((aeh r8.2.1.m.cells r9.1.1) = 3), ()), (()))
   else none
   else
   some ((false, ()), (()))
   else none
   else
   some ((false, ()), (()))
   else
   some ((false, ()), (()))
   else
   some ((false, ()), (()))
  else
  some ((false, ()), (()))
 else
 some ((false, ()), (()))
noncomputable abbrev adx : Con SR1 := ⟨10, [], [.sh .b], fun x => acK ⟩
noncomputable def afL : List (Nat × Func) := [(15, Tryz.f15)]
theorem afM : CO Tryz.prog adx := aar aaq Tryz.func10 [aca, acb, ag0, abr, ab9] ⟨ac9, ada, aiK, ab0, ac7, trivial⟩ afL ⟨Tryz.func15, trivial⟩ (fun _ => []) [] fun x => by kernel_rfl
noncomputable def abt (y0 : List Int) : Option ((List Ins × Unit) × (Unit)) :=
 (lpF (σ := List Ins × Int × Unit) (β := List Ins × Int × Unit) (fun self3 x1 =>
  if x1.2.1 < ((y0.length : Nat) : Int) then
   if x1.2.1 < 6 then
   if 0 ≤ x1.2.1 ∧ x1.2.1 < ((y0.length : Nat) : Int) then
   if (wi ((Int.tmod (ac6 y0 x1.2.1) 3))) = 0 then
   if 0 ≤ x1.2.1 ∧ x1.2.1 < ((y0.length : Nat) : Int) then
   if (((x1.1.length + ([(⟨wi ((Int.tmod (ac6 y0 x1.2.1) 3)), wi (1 + (wi ((Int.tmod (IntKind.u8.wrap (Int.tdiv (ac6 y0 x1.2.1) 3)) 4)))), 0⟩ : Ins)] : List Ins).length : Nat)) : Int) < 1000000000000 then
   self3 (x1.1 ++ ([(⟨wi ((Int.tmod (ac6 y0 x1.2.1) 3)), wi (1 + (wi ((Int.tmod (IntKind.u8.wrap (Int.tdiv (ac6 y0 x1.2.1) 3)) 4)))), 0⟩ : Ins)]), wi (x1.2.1 + 1), ())
   else none
   else none
   else
   if (wi ((Int.tmod (ac6 y0 x1.2.1) 3))) = 1 then
   if 0 ≤ x1.2.1 ∧ x1.2.1 < ((y0.length : Nat) : Int) then
   if (ac6 y0 x1.2.1) = (ac6 y0 x1.2.1) then
   if (((x1.1.length + ([(⟨wi ((Int.tmod (ac6 y0 x1.2.1) 3)), 1, wi ((Int.tmod (IntKind.u8.wrap (Int.tdiv (ac6 y0 x1.2.1) 3)) 2))⟩ : Ins)] : List Ins).length : Nat)) : Int) < 1000000000000 then
   self3 (x1.1 ++ ([(⟨wi ((Int.tmod (ac6 y0 x1.2.1) 3)), 1, wi ((Int.tmod (IntKind.u8.wrap (Int.tdiv (ac6 y0 x1.2.1) 3)) 2))⟩ : Ins)]), wi (x1.2.1 + 1), ())
   else none
   else none
   else none
   else
   if 0 ≤ x1.2.1 ∧ x1.2.1 < ((y0.length : Nat) : Int) then
   if (((x1.1.length + ([(⟨wi ((Int.tmod (ac6 y0 x1.2.1) 3)), wi ((Int.tmod (IntKind.u8.wrap (Int.tdiv (ac6 y0 x1.2.1) 3)) 3)), 0⟩ : Ins)] : List Ins).length : Nat)) : Int) < 1000000000000 then
   self3 (x1.1 ++ ([(⟨wi ((Int.tmod (ac6 y0 x1.2.1) 3)), wi ((Int.tmod (IntKind.u8.wrap (Int.tdiv (ac6 y0 x1.2.1) 3)) 3)), 0⟩ : Ins)]), wi (x1.2.1 + 1), ())
   else none
   else none
   else none
   else
   some (x1.1, x1.2.1, ())
  else
  some (x1.1, x1.2.1, ())
 ) 18446744073709551616 ([], 0, ())).bind fun z2 =>
 some ((z2.1, ()), (()))
noncomputable abbrev acT : Con SR1 := ⟨6, [.sh (.ro 17)], [.sh (.row 3)], fun x => abt x.1⟩
theorem aeE : CO Tryz.prog acT := aar aaq Tryz.func6 [] trivial [] trivial (fun _ => []) [(3, .loop [.rg 3 (.row 3), .rg 4 sI_] 18446744073709551616 0)] fun x => by kernel_rfl
noncomputable def aaP (y0 : Int) (y1 : Int) : Option ((Int × Unit) × (Unit)) :=
 if y1 < 1 then
  some ((0, ()), (()))
 else
 if y1 ≠ 0 then
  if (Int.tmod y0 y1) < 0 then
   if y1 ≠ 0 then
   some ((wi ((Int.tmod y0 y1) + y1), ()), (()))
   else none
  else
  if y1 ≠ 0 then
   some (((Int.tmod y0 y1), ()), (()))
  else none
 else none
noncomputable abbrev act : Con SR1 := ⟨13, [.sh sI_, .sh sI_], [.sh sI_], fun x => aaP x.1 x.2.1⟩
theorem adv : CO Tryz.prog act := aar aaq Tryz.func13 [] trivial [] trivial (fun _ => []) [] fun x => by kernel_rfl
noncomputable def aq8 {β : Type} (i : Int) (f : Nat → Option β) : Nat → Option β
 | 0 => none
 | k + 1 => if i = ((k : Nat) : Int) then f k else aq8 i f k
def ae6 (a : A20) (n : Nat) : Int := match n with
 | 0 => a.a0
 | 1 => a.a1
 | 2 => a.a2
 | 3 => a.a3
 | 4 => a.a4
 | 5 => a.a5
 | 6 => a.a6
 | 7 => a.a7
 | 8 => a.a8
 | 9 => a.a9
 | 10 => a.a10
 | 11 => a.a11
 | 12 => a.a12
 | 13 => a.a13
 | 14 => a.a14
 | 15 => a.a15
 | 16 => a.a16
 | 17 => a.a17
 | 18 => a.a18
 | 19 => a.a19
 | _ => 0
def apm (a : A20) (v : Int) (n : Nat) : A20 := match n with
 | 0 => { a with a0 := v }
 | 1 => { a with a1 := v }
 | 2 => { a with a2 := v }
 | 3 => { a with a3 := v }
 | 4 => { a with a4 := v }
 | 5 => { a with a5 := v }
 | 6 => { a with a6 := v }
 | 7 => { a with a7 := v }
 | 8 => { a with a8 := v }
 | 9 => { a with a9 := v }
 | 10 => { a with a10 := v }
 | 11 => { a with a11 := v }
 | 12 => { a with a12 := v }
 | 13 => { a with a13 := v }
 | 14 => { a with a14 := v }
 | 15 => { a with a15 := v }
 | 16 => { a with a16 := v }
 | 17 => { a with a17 := v }
 | 18 => { a with a18 := v }
 | 19 => { a with a19 := v }
 | _ => a
noncomputable def abN (y0 : List Ev) : Option ((A20 × Unit) × (Unit)) :=
 (lpF (σ := Int × A20 × Unit) (β := Int × A20 × Unit) (fun self3 x1 =>
  if x1.1 < ((y0.length : Nat) : Int) then
   if 0 ≤ x1.1 ∧ x1.1 < ((y0.length : Nat) : Int) then
   (aaP ((aw9 y0 x1.1).kind) 20).bind fun r4 =>
   aq8 r4.1.1 (fun j => aq8 r4.1.1 (fun i => self3 (wi (x1.1 + 1), apm x1.2.1 (wi (ae6 x1.2.1 j + 1)) i, ())) 20) 20
   else none
  else
  some (x1.1, x1.2.1, ())
 ) 18446744073709551616 (0, (⟨0, 0, 0, 0, 0, 0, 0, 0, 0, 0, 0, 0, 0, 0, 0, 0, 0, 0, 0, 0⟩ : A20), ())).bind fun z2 =>
 some ((z2.2.1, ()), (()))
noncomputable abbrev adw : Con SR1 := ⟨14, [.sh (.ro 2)], [.val 61], fun x => abN x.1⟩
theorem afK : CO Tryz.prog adw := aar aaq Tryz.func14 [act] ⟨adv, trivial⟩ [] trivial (fun _ => []) [(3, .loop [.rg 4 sI_, .rg 3 (.own 61)] 18446744073709551616 0)] fun x => by kernel_rfl
noncomputable def aig (l : List Ins) (self4 : List Ins × Int × Unit → Option (List Ins × Int × Unit)) (x2 : List Ins × Int × Unit) : Option (List Ins × Int × Unit) :=
  if x2.2.1 < ((l.length : Nat) : Int) then
   if 0 ≤ x2.2.1 ∧ x2.2.1 < ((l.length : Nat) : Int) then
   if ((aaY l x2.2.1).op) = 0 then
   if (((x2.1.length + ([aaY l x2.2.1] : List Ins).length : Nat)) : Int) < 1000000000000 then
   self4 (x2.1 ++ ([aaY l x2.2.1]), wi (x2.2.1 + 1), ())
   else none
   else
   self4 (x2.1, wi (x2.2.1 + 1), ())
   else none
  else
  some (x2.1, x2.2.1, ())
noncomputable def alz (self11 : Int × EnvP × MV × Unit → Option (Int × EnvP × MV × Unit)) (x9 : Int × EnvP × MV × Unit) : Option (Int × EnvP × MV × Unit) :=
  if x9.1 < 10 then
   (afz x9.2.2.1 x9.2.1).bind fun r12 =>
   self11 (wi (x9.1 + 1), r12.2.2.1, r12.2.1, ())
  else
  some (x9.1, x9.2.1, x9.2.2.1, ())
noncomputable def ajG (l : List Int) (self18 : Int × EnvP × MV × MV × Unit → Option (Int × EnvP × MV × MV × Unit)) (x16 : Int × EnvP × MV × MV × Unit) : Option (Int × EnvP × MV × MV × Unit) :=
  if x16.1 < ((l.length : Nat) : Int) then
   if 0 ≤ x16.1 ∧ x16.1 < ((l.length : Nat) : Int) then
   (aaP (aae l x16.1) 2).bind fun r19 =>
   if r19.1.1 = 0 then
   (afz x16.2.2.1 x16.2.1).bind fun r20 =>
   self18 (wi (x16.1 + 1), r20.2.2.1, r20.2.1, x16.2.2.2.1, ())
   else
   (afz x16.2.2.2.1 x16.2.1).bind fun r21 =>
   self18 (wi (x16.1 + 1), r21.2.2.1, x16.2.2.1, r21.2.1, ())
   else none
  else
  some (x16.1, x16.2.1, x16.2.2.1, x16.2.2.2.1, ())
noncomputable def ajH (self24 : Int × EnvP × MV × MV × Unit → Option (Int × EnvP × MV × MV × Unit)) (x22 : Int × EnvP × MV × MV × Unit) : Option (Int × EnvP × MV × MV × Unit) :=
  if x22.1 < 200 then
   (afz x22.2.2.1 x22.2.1).bind fun r25 =>
   (afz x22.2.2.2.1 r25.2.2.1).bind fun r26 =>
   self24 (wi (x22.1 + 1), r26.2.2.1, r25.2.1, r26.2.1, ())
  else
  some (x22.1, x22.2.1, x22.2.2.1, x22.2.2.2.1, ())
noncomputable def ajF (c0 : Cfg) (env : EnvP) (a : A20) : Option ((Bool × Unit) × Unit) :=
 ((
  if a.a10 < 1 then
   some (true, (env.c.workers, env.c.levels, env.c.classes, env.c.tasks, env.c.deque, env.c.heap, env.c.batch, env.c.age, env.c.patience, env.c.progs, env.c.subs, env.l.workers, env.l.levels, env.l.classes, env.l.tasks, env.l.deque, env.l.heap, env.l.sleepers, env.l.epochs, env.l.bitmaps, env.l.queues, env.l.table, env.m, env.k, env.recs, ()), ())
  else
  if (wi (a.a6 + a.a8)) ≠ 1 then
   some (true, (env.c.workers, env.c.levels, env.c.classes, env.c.tasks, env.c.deque, env.c.heap, env.c.batch, env.c.age, env.c.patience, env.c.progs, env.c.subs, env.l.workers, env.l.levels, env.l.classes, env.l.tasks, env.l.deque, env.l.heap, env.l.sleepers, env.l.epochs, env.l.bitmaps, env.l.queues, env.l.table, env.m, env.k, env.recs, ()), ())
  else
  (abM ({ c0 with workers := 2 } : Cfg) 1).bind fun r28 =>
  if r28.1.1 < 0 then
   some (true, (env.c.workers, env.c.levels, env.c.classes, env.c.tasks, env.c.deque, env.c.heap, env.c.batch, env.c.age, env.c.patience, env.c.progs, env.c.subs, env.l.workers, env.l.levels, env.l.classes, env.l.tasks, env.l.deque, env.l.heap, env.l.sleepers, env.l.epochs, env.l.bitmaps, env.l.queues, env.l.table, env.m, env.k, env.recs, ()), ())
  else
  if ((env.m.cells.length : Nat) : Int) ≤ r28.1.1 then
   some (true, (env.c.workers, env.c.levels, env.c.classes, env.c.tasks, env.c.deque, env.c.heap, env.c.batch, env.c.age, env.c.patience, env.c.progs, env.c.subs, env.l.workers, env.l.levels, env.l.classes, env.l.tasks, env.l.deque, env.l.heap, env.l.sleepers, env.l.epochs, env.l.bitmaps, env.l.queues, env.l.table, env.m, env.k, env.recs, ()), ())
  else
  if 0 ≤ r28.1.1 ∧ r28.1.1 < ((env.m.cells.length : Nat) : Int) then
   some (decide ((aeh env.m.cells r28.1.1) ≠ 4), (env.c.workers, env.c.levels, env.c.classes, env.c.tasks, env.c.deque, env.c.heap, env.c.batch, env.c.age, env.c.patience, env.c.progs, env.c.subs, env.l.workers, env.l.levels, env.l.classes, env.l.tasks, env.l.deque, env.l.heap, env.l.sleepers, env.l.epochs, env.l.bitmaps, env.l.queues, env.l.table, env.m, env.k, env.recs, ()), ())
  else none
 ) : Option (Bool × (Int × Int × Int × Int × Int × Int × Int × Int × Int × List (List Ins) × List Sub × Int × Int × Int × Int × Int × Int × Int × Int × Int × Int × Int × MemV × ClkV × List RecP × Unit) × Unit)).bind fun z29 =>
 if z29.1 = true then
  some ((false, ()), (()))
 else
 ((
  (abM ({ c0 with workers := 2 } : Cfg) 0).bind fun r30 =>
  if r30.1.1 < 0 then
   some (0, (z29.2.1.1, z29.2.1.2.1, z29.2.1.2.2.1, z29.2.1.2.2.2.1, z29.2.1.2.2.2.2.1, z29.2.1.2.2.2.2.2.1, z29.2.1.2.2.2.2.2.2.1, z29.2.1.2.2.2.2.2.2.2.1, z29.2.1.2.2.2.2.2.2.2.2.1, z29.2.1.2.2.2.2.2.2.2.2.2.1, z29.2.1.2.2.2.2.2.2.2.2.2.2.1, z29.2.1.2.2.2.2.2.2.2.2.2.2.2.1, z29.2.1.2.2.2.2.2.2.2.2.2.2.2.2.1, z29.2.1.2.2.2.2.2.2.2.2.2.2.2.2.2.1, z29.2.1.2.2.2.2.2.2.2.2.2.2.2.2.2.2.1, z29.2.1.2.2.2.2.2.2.2.2.2.2.2.2.2.2.2.1, z29.2.1.2.2.2.2.2.2.2.2.2.2.2.2.2.2.2.2.1, z29.2.1.2.2.2.2.2.2.2.2.2.2.2.2.2.2.2.2.2.1, z29.2.1.2.2.2.2.2.2.2.2.2.2.2.2.2.2.2.2.2.2.1, z29.2.1.2.2.2.2.2.2.2.2.2.2.2.2.2.2.2.2.2.2.2.1, z29.2.1.2.2.2.2.2.2.2.2.2.2.2.2.2.2.2.2.2.2.2.2.1, z29.2.1.2.2.2.2.2.2.2.2.2.2.2.2.2.2.2.2.2.2.2.2.2.1, z29.2.1.2.2.2.2.2.2.2.2.2.2.2.2.2.2.2.2.2.2.2.2.2.2.1, z29.2.1.2.2.2.2.2.2.2.2.2.2.2.2.2.2.2.2.2.2.2.2.2.2.2.1, z29.2.1.2.2.2.2.2.2.2.2.2.2.2.2.2.2.2.2.2.2.2.2.2.2.2.2.1, ()), ())
  else
  if ((z29.2.1.2.2.2.2.2.2.2.2.2.2.2.2.2.2.2.2.2.2.2.2.2.2.1.cells.length : Nat) : Int) ≤ r30.1.1 then
   some (0, (z29.2.1.1, z29.2.1.2.1, z29.2.1.2.2.1, z29.2.1.2.2.2.1, z29.2.1.2.2.2.2.1, z29.2.1.2.2.2.2.2.1, z29.2.1.2.2.2.2.2.2.1, z29.2.1.2.2.2.2.2.2.2.1, z29.2.1.2.2.2.2.2.2.2.2.1, z29.2.1.2.2.2.2.2.2.2.2.2.1, z29.2.1.2.2.2.2.2.2.2.2.2.2.1, z29.2.1.2.2.2.2.2.2.2.2.2.2.2.1, z29.2.1.2.2.2.2.2.2.2.2.2.2.2.2.1, z29.2.1.2.2.2.2.2.2.2.2.2.2.2.2.2.1, z29.2.1.2.2.2.2.2.2.2.2.2.2.2.2.2.2.1, z29.2.1.2.2.2.2.2.2.2.2.2.2.2.2.2.2.2.1, z29.2.1.2.2.2.2.2.2.2.2.2.2.2.2.2.2.2.2.1, z29.2.1.2.2.2.2.2.2.2.2.2.2.2.2.2.2.2.2.2.1, z29.2.1.2.2.2.2.2.2.2.2.2.2.2.2.2.2.2.2.2.2.1, z29.2.1.2.2.2.2.2.2.2.2.2.2.2.2.2.2.2.2.2.2.2.1, z29.2.1.2.2.2.2.2.2.2.2.2.2.2.2.2.2.2.2.2.2.2.2.1, z29.2.1.2.2.2.2.2.2.2.2.2.2.2.2.2.2.2.2.2.2.2.2.2.1, z29.2.1.2.2.2.2.2.2.2.2.2.2.2.2.2.2.2.2.2.2.2.2.2.2.1, z29.2.1.2.2.2.2.2.2.2.2.2.2.2.2.2.2.2.2.2.2.2.2.2.2.2.1, z29.2.1.2.2.2.2.2.2.2.2.2.2.2.2.2.2.2.2.2.2.2.2.2.2.2.2.1, ()), ())
  else
  if 0 ≤ r30.1.1 ∧ r30.1.1 < ((z29.2.1.2.2.2.2.2.2.2.2.2.2.2.2.2.2.2.2.2.2.2.2.2.2.1.cells.length : Nat) : Int) then
   some (aeh z29.2.1.2.2.2.2.2.2.2.2.2.2.2.2.2.2.2.2.2.2.2.2.2.2.1.cells r30.1.1, (z29.2.1.1, z29.2.1.2.1, z29.2.1.2.2.1, z29.2.1.2.2.2.1, z29.2.1.2.2.2.2.1, z29.2.1.2.2.2.2.2.1, z29.2.1.2.2.2.2.2.2.1, z29.2.1.2.2.2.2.2.2.2.1, z29.2.1.2.2.2.2.2.2.2.2.1, z29.2.1.2.2.2.2.2.2.2.2.2.1, z29.2.1.2.2.2.2.2.2.2.2.2.2.1, z29.2.1.2.2.2.2.2.2.2.2.2.2.2.1, z29.2.1.2.2.2.2.2.2.2.2.2.2.2.2.1, z29.2.1.2.2.2.2.2.2.2.2.2.2.2.2.2.1, z29.2.1.2.2.2.2.2.2.2.2.2.2.2.2.2.2.1, z29.2.1.2.2.2.2.2.2.2.2.2.2.2.2.2.2.2.1, z29.2.1.2.2.2.2.2.2.2.2.2.2.2.2.2.2.2.2.1, z29.2.1.2.2.2.2.2.2.2.2.2.2.2.2.2.2.2.2.2.1, z29.2.1.2.2.2.2.2.2.2.2.2.2.2.2.2.2.2.2.2.2.1, z29.2.1.2.2.2.2.2.2.2.2.2.2.2.2.2.2.2.2.2.2.2.1, z29.2.1.2.2.2.2.2.2.2.2.2.2.2.2.2.2.2.2.2.2.2.2.1, z29.2.1.2.2.2.2.2.2.2.2.2.2.2.2.2.2.2.2.2.2.2.2.2.1, z29.2.1.2.2.2.2.2.2.2.2.2.2.2.2.2.2.2.2.2.2.2.2.2.2.1, z29.2.1.2.2.2.2.2.2.2.2.2.2.2.2.2.2.2.2.2.2.2.2.2.2.2.1, z29.2.1.2.2.2.2.2.2.2.2.2.2.2.2.2.2.2.2.2.2.2.2.2.2.2.2.1, ()), ())
  else none
 ) : Option (Int × (Int × Int × Int × Int × Int × Int × Int × Int × Int × List (List Ins) × List Sub × Int × Int × Int × Int × Int × Int × Int × Int × Int × Int × Int × MemV × ClkV × List RecP × Unit) × Unit)).bind fun z31 =>
 if a.a8 = 1 then
  if z31.1 = 4 then
   some ((decide (a.a10 = 2), ()), (()))
  else
  some ((false, ()), (()))
 else
 if z31.1 = 1 then
  if a.a7 = 1 then
   some ((decide (a.a10 = 1), ()), (()))
  else
  some ((false, ()), (()))
 else
 some ((false, ()), (()))
noncomputable def aay (y0 : List Int) (y1 : List Int) : Option ((Bool × Unit) × (Unit)) :=
 if 400 < ((y1.length : Nat) : Int) then
  some ((true, ()), (()))
 else
 (abt y0).bind fun r1 =>
 (lpF (aig r1.1.1) 18446744073709551616 ([], 0, ())).bind fun z3 =>
 (aa3 ([(⟨1, 1, 1⟩ : Ins), (⟨0, 3, 0⟩ : Ins), (⟨2, 0, 0⟩ : Ins)]) z3.1 2).bind fun r5 =>
 (aaT ({ r5.1.1 with workers := 2 } : Cfg)).bind fun r6 =>
 (af2 0 0).bind fun r7 =>
 (acK).bind fun r8 =>
 if (!r8.1.1) = true then
  some ((false, ()), (()))
 else
 if (!r6.1.2.1) = true then
  some ((false, ()), (()))
 else
 if (SR1.spl r7.1.1).isNone = true then
  some ((false, ()), (()))
 else
 (lpF (alz) 18446744073709551616 (0, r6.1.1, r7.1.1, ())).bind fun z10 =>
 (abF 1 1).bind fun r13 =>
 (aaI z10.2.1 r13.1.1 5).bind fun r14 =>
 if r14.1.1 ≠ 1 then
  some ((false, ()), (()))
 else
 (af2 1 1).bind fun r15 =>
 if (SR1.spl r15.1.1).isNone = true then
  some ((false, ()), (()))
 else
 (lpF (ajG y1) 18446744073709551616 (0, r14.2.1, z10.2.2.1, r15.1.1, ())).bind fun z17 =>
 (lpF (ajH) 18446744073709551616 (0, z17.2.1, z17.2.2.1, z17.2.2.2.1, ())).bind fun z23 =>
 (abN z23.2.1.evs).bind fun r27 =>
 ajF r5.1.1 z23.2.1 r27.1.1
noncomputable abbrev ad1 : Con SR1 := ⟨3, [.sh (.ro 17), .sh (.ro 1)], [.sh .b], fun x => aay x.1 x.2.1⟩
noncomputable def adQ : List (Nat × Func) := [(15, Tryz.f15)]
theorem adR : CO Tryz.prog ad1 := aar aaq Tryz.func3 [acT, aca, acb, ag0, adx, aln, acN, abr, act, adw, ab9] ⟨aeE, ac9, ada, aiK, afM, amn, acU, ab0, adv, afK, ac7, trivial⟩ adQ ⟨Tryz.func15, trivial⟩ (fun _ => []) [(5, .loop [.rg 5 (.row 3), .rg 27 sI_] 18446744073709551616 0), (17, .loop [.rg 13 sI_, .rg 9 (.own 27), .ma 20] 18446744073709551616 2), (27, .loop [.rg 17 sI_, .rg 9 (.own 27), .ma 20, .ma 28] 18446744073709551616 4), (33, .loop [.rg 18 sI_, .rg 9 (.own 27), .ma 20, .ma 28] 18446744073709551616 6), (39, .cut [.rg 134 .b, .cx 32 [.inl sI_, .inl sI_, .inl sI_, .inl sI_, .inl sI_, .inl sI_, .inl sI_, .inl sI_, .inl sI_, .inl (.rr 3), .inl (.ro 4), .inl sI_, .inl sI_, .inl sI_, .inl sI_, .inl sI_, .inl sI_, .inl sI_, .inl sI_, .inl sI_, .inl sI_, .inl sI_, .inl (.own 9), .inl (.own 25), .inl (.row 26), .inr (.sl 33)]] [0, 1, 2, 3, 5, 15, 16, 17, 20, 24, 28, 33, 54]), (41, .cut [.rg 20 sU_, .cx 32 [.inl sI_, .inl sI_, .inl sI_, .inl sI_, .inl sI_, .inl sI_, .inl sI_, .inl sI_, .inl sI_, .inl (.rr 3), .inl (.ro 4), .inl sI_, .inl sI_, .inl sI_, .inl sI_, .inl sI_, .inl sI_, .inl sI_, .inl sI_, .inl sI_, .inl sI_, .inl sI_, .inl (.own 9), .inl (.own 25), .inl (.row 26), .inr (.sl 33)]] [0, 1, 2, 3, 5, 15, 16, 17, 20, 24, 28, 33, 54])] fun x => by kernel_rfl
end
section
open Go Go.RowKit
set_option maxRecDepth 1000000
variable [Tb]
def evN (l : List Ev) (k : Int) : Int := (((l.filter fun v => decide (v.kind = k)).length : Nat) : Int)
theorem aki (l : List Ev) (v : Ev) (k : Int) : evN (l ++ [v]) k = evN l k + if v.kind = k then 1 else 0 := by
  unfold evN
  rw [List.filter_append, List.length_append]
  by_cases h : v.kind = k
  · rw [if_pos h, List.filter_cons_of_pos (by simpa using h)]; simp
  · rw [if_neg h, List.filter_cons_of_neg (by simpa using h)]; simp
def n6 (i : Nat) : Int := if i < 6 then 0 else if i < 10 then 1 else 0
def n7 (i : Nat) : Int := if i = 9 then 1 else 0
def n8 (i : Nat) : Int := if i < 12 then 0 else 1
def n10 (i j : Nat) : Int := (if i = 14 then 1 else 0) + (if j < 2 then 0 else 1)
structure EC (l : List Ev) (a6 a7 a8 a10 : Int) : Prop where
  len : (l.length : Int) = 3 + a6 + a7 + a8 + a10
  rg : ∀ v ∈ l, 0 ≤ v.kind ∧ v.kind < 20
  c6 : evN l 6 = a6
  c7 : evN l 7 = a7
  c8 : evN l 8 = a8
  c10 : evN l 10 = a10
section
variable {l : List Ev} {a6 a7 a8 a10 w t o v : Int}
theorem EC.rg' (h : EC l a6 a7 a8 a10) {u : Ev} (hu : 0 ≤ u.kind ∧ u.kind < 20) : ∀ v ∈ l ++ [u], 0 ≤ v.kind ∧ v.kind < 20 := fun v hv => by
  rcases List.mem_append.1 hv with h1 | h1
  · exact h.rg v h1
  · rw [List.mem_singleton] at h1; subst h1; exact hu
theorem EC.e6 (h : EC l a6 a7 a8 a10) : EC (l ++ [⟨6, w, t, o, v⟩]) (a6 + 1) a7 a8 a10 := by
  have h1 := h.len
  refine ⟨by rw [List.length_append, List.length_singleton]; omega, h.rg' ⟨by show (0 : Int) ≤ 6; decide, by show (6 : Int) < 20; decide⟩, ?_, ?_, ?_, ?_⟩ <;> rw [aki]
  · rw [h.c6]; rfl
  · rw [h.c7]; exact Int.add_zero _
  · rw [h.c8]; exact Int.add_zero _
  · rw [h.c10]; exact Int.add_zero _
theorem EC.e7 (h : EC l a6 a7 a8 a10) : EC (l ++ [⟨7, w, t, o, v⟩]) a6 (a7 + 1) a8 a10 := by
  have h1 := h.len
  refine ⟨by rw [List.length_append, List.length_singleton]; omega, h.rg' ⟨by show (0 : Int) ≤ 7; decide, by show (7 : Int) < 20; decide⟩, ?_, ?_, ?_, ?_⟩ <;> rw [aki]
  · rw [h.c6]; exact Int.add_zero _
  · rw [h.c7]; rfl
  · rw [h.c8]; exact Int.add_zero _
  · rw [h.c10]; exact Int.add_zero _
theorem EC.e8 (h : EC l a6 a7 a8 a10) : EC (l ++ [⟨8, w, t, o, v⟩]) a6 a7 (a8 + 1) a10 := by
  have h1 := h.len
  refine ⟨by rw [List.length_append, List.length_singleton]; omega, h.rg' ⟨by show (0 : Int) ≤ 8; decide, by show (8 : Int) < 20; decide⟩, ?_, ?_, ?_, ?_⟩ <;> rw [aki]
  · rw [h.c6]; exact Int.add_zero _
  · rw [h.c7]; exact Int.add_zero _
  · rw [h.c8]; rfl
  · rw [h.c10]; exact Int.add_zero _
theorem EC.e10 (h : EC l a6 a7 a8 a10) : EC (l ++ [⟨10, w, t, o, v⟩]) a6 a7 a8 (a10 + 1) := by
  have h1 := h.len
  refine ⟨by rw [List.length_append, List.length_singleton]; omega, h.rg' ⟨by show (0 : Int) ≤ 10; decide, by show (10 : Int) < 20; decide⟩, ?_, ?_, ?_, ?_⟩ <;> rw [aki]
  · rw [h.c6]; exact Int.add_zero _
  · rw [h.c7]; exact Int.add_zero _
  · rw [h.c8]; exact Int.add_zero _
  · rw [h.c10]; rfl
end
abbrev avz (l : List Ev) (i j : Nat) : Prop := EC l (n6 i) (n7 i) (n8 i) (n10 i j)
theorem awr {i j : Nat} (h : amg i j = true) : i < 15 ∧ j < 14 := by
  unfold amg at h; simp at h; omega
theorem ays {l : List Ev} {i j : Nat} (h : amg i j = true) (h9 : i ≠ 9) (h14 : i ≠ 14) (e : avz l i j) : avz (if (xEv i j).isEmpty then l else l ++ xEv i j) (xN i j) j := by
  have hi := (awr h).1
  by_cases h5 : i = 5
  · subst h5
    by_cases hj : j = 13
    · subst hj; exact e
    · have e1 : xEv 5 j = [⟨6, 0, 0, 1, 0⟩] := by unfold xEv; rw [if_pos ⟨rfl, hj⟩]
      have e2 : xN 5 j = 6 := by unfold xN; rw [if_pos rfl, if_neg hj]
      rw [e1, e2]
      exact e.e6
  · have e1 : xEv i j = if i = 8 then [⟨7, 0, 0, 0, 0⟩] else if i = 11 then [⟨8, 0, 0, 1, 0⟩] else if i = 13 then [⟨10, 0, 0, 0, 0⟩] else [] := by unfold xEv; rw [if_neg (fun k => h5 k.1)]
    have e2 : xN i j = i + 1 := by unfold xN; rw [if_neg h5]
    rw [e1, e2]
    clear e1 e2 h
    rcases i with _ | _ | _ | _ | _ | _ | _ | _ | _ | _ | _ | _ | _ | _ | _ | i
    all_goals first | exact absurd rfl h9 | exact absurd rfl h14 | exact absurd rfl h5 | exact absurd hi (by omega) | skip
    all_goals first | exact e | exact e.e7 | exact e.e8 | skip
    show EC (l ++ [⟨10, 0, 0, 0, 0⟩]) 0 0 1 (1 + if j < 2 then 0 else 1)
    have e3 : EC l 0 0 1 (0 + if j < 2 then 0 else 1) := e
    rw [Int.add_comm 1]
    rw [Int.zero_add] at e3
    exact e3.e10
theorem ayr {l : List Ev} {i j : Nat} (h : amg i j = true) (h0 : j ≠ 0) (h12 : j ≠ 12) (h13 : j ≠ 13) (e : avz l i j) : avz (if (yEv j).isEmpty then l else l ++ yEv j) i (yN i j) := by
  have hj := (awr h).2
  by_cases h1 : j = 1
  · subst h1
    have e1 : n10 i (yN i 1) = n10 i 1 + 1 := by
      unfold n10 yN
      rw [if_pos rfl]
      by_cases hi : i < 6
      · rw [if_pos hi]; show (if i = 14 then (1 : Int) else 0) + 1 = (if i = 14 then (1 : Int) else 0) + 0 + 1; omega
      · rw [if_neg hi]; show (if i = 14 then (1 : Int) else 0) + 1 = (if i = 14 then (1 : Int) else 0) + 0 + 1; omega
    show EC (l ++ [⟨10, 1, 1, 0, 0⟩]) _ _ _ (n10 i (yN i 1))
    rw [e1]
    exact e.e10
  · have e1 : yEv j = [] := by unfold yEv; rw [if_neg h1]
    have e2 : yN i j = j + 1 := by unfold yN; rw [if_neg h1]
    have e3 : n10 i (j + 1) = n10 i j := by unfold n10; rw [if_neg (by omega : ¬ j + 1 < 2), if_neg (by omega : ¬ j < 2)]
    rw [e1, e2]
    show EC l _ _ _ (n10 i (j + 1))
    rw [e3]
    exact e
def MX (w : Int) (s : Option RunS) (m : MV) : Prop := match s with
  | some r => m = .run (aqd apI w r)
  | none => ∃ x : RunV MV, m = .run x ∧ x.o.ended = true
theorem ao9 {x : RunV MV} {e : EnvP} (h : x.o.ended = true) : afz (.run x) e = some ((true, ()), (.run x, e, ())) := by
  show (aaF x e).bind _ = _
  unfold aaF aaH
  rw [aeU, if_pos h]
  rfl
theorem awK {q : List Ins} {i j : Nat} {pc lf : Int} {la : AccV} {ct : Int} {evs : List Ev} (h : evs.length ≤ 100) : EOk 100 (apW q i j pc lf la ct evs) :=
  ⟨⟨by show (0 : Int) ≤ 2; decide, by show (2 : Int) ≤ 65535; decide⟩, rfl, rfl, by show (1 : Int) ≤ 2; decide, h, fun r hr => by
    rcases List.mem_cons.1 hr with rfl | hr
    · show 1 ≤ 100; decide
    rcases List.mem_cons.1 hr with rfl | hr
    · show 0 ≤ 100; decide
    · rw [List.mem_replicate] at hr; rw [hr.2]; show 0 ≤ 100; decide⟩
theorem alK {w : Int} {r : RunS} {e : EnvP} {s : Option RunS} {e' : EnvP} (hK : EOk 100 e) (hl : e.l = apI) (hS : SOk r.stack) (hs : asi w e r = (rsO s, e')) : abB (afz (.run (aqd apI w r)) e) fun o => o.2.2.1 = e' ∧ MX w s o.2.1 := by
  have h1 := auf (w := w) hK (by omega) r hS
  rw [hs, hl] at h1
  show abB ((aaF _ e).bind _) _
  cases s with
  | some r' =>
    have h2 : aaF (aqd apI w r) e = some ((false, ()), (aqd apI w r', e', ())) := h1
    rw [h2]
    exact .some_ ⟨rfl, rfl⟩
  | none =>
    obtain ⟨x, h2, h3⟩ := h1
    rw [h2]
    exact .some_ ⟨rfl, x, rfl, by rw [h3]⟩
structure RS (q : List Ins) (i j : Nat) (pc lf : Int) (e : EnvP) (mx my : MV) : Prop where
  ok : amg i j = true
  he : e = apW q i j pc lf e.m.last e.m.count e.evs
  x : MX 0 (xSt i) mx
  y : MX 1 (ySt j) my
  c : j = 0 → (0 ≤ pc ∧ pc ≤ (q.length : Int)) ∧ (0 ≤ lf ∧ lf ≤ 4) ∧ (lf ≠ 0 → pc < (q.length : Int))
  ev : avz e.evs i j
def apU (q : List Ins) : Prop := q.length ≤ 6 ∧ ∀ x ∈ q, x.op = 0 ∧ (1 ≤ x.a ∧ x.a ≤ 4) ∧ x.b = 0
def wtQ : List Ins → Nat
  | [] => 0
  | x :: l => x.a.toNat + wtQ l
def asn (q : List Ins) (pc lf : Int) : Nat := if lf = 0 then wtQ (q.drop pc.toNat) else lf.toNat + wtQ (q.drop (pc.toNat + 1))
def muX (i : Nat) : Nat := if i < 6 then 10 - i else if i < 10 then 9 - i else 14 - i
def muY (q : List Ins) (j : Nat) (pc lf : Int) : Nat := if j = 0 then 12 + asn q pc lf else 12 - j
theorem arm {l : List Ev} {i j : Nat} (h : avz l i j) : l.length ≤ 100 := by
  have h1 := h.len
  have : n6 i ≤ 1 := by unfold n6; split <;> (try split) <;> decide
  have : n7 i ≤ 1 := by unfold n7; split <;> decide
  have : n8 i ≤ 1 := by unfold n8; split <;> decide
  have : n10 i j ≤ 2 := by unfold n10; split <;> split <;> decide
  omega
theorem avD {i : Nat} {r : RunS} (h : xSt i = some r) : SOk r.stack := by
  unfold xSt at h
  split at h <;> cases h <;> exact ⟨(by intro k; cases k), by show 1 ≤ 999999999; decide⟩
theorem apZ {i : Nat} {r : RunS} (h : ySt i = some r) : SOk r.stack := by
  unfold ySt at h
  split at h <;> cases h <;> exact ⟨(by intro k; cases k), by show 1 ≤ 999999999; decide⟩
theorem ayn {i j : Nat} (h : amg i j = true) (h9 : i ≠ 9) (h14 : i ≠ 14) : amg (xN i j) j = true := by
  unfold amg xN at *; simp at *; split <;> (try split) <;> simp <;> omega
theorem aye {i j : Nat} (h : amg i j = true) (h12 : j ≠ 12) (h13 : j ≠ 13) : amg i (yN i j) = true := by
  unfold amg yN at *; simp at *; split <;> (try split) <;> simp <;> omega
theorem ar3 {i : Nat} (hi : i < 15) (h : xSt i = none) : i = 9 ∨ i = 14 := by
  rcases i with _ | _ | _ | _ | _ | _ | _ | _ | _ | _ | _ | _ | _ | _ | _ | i
  all_goals first | exact .inl rfl | exact .inr rfl | (exfalso; cases h; done) | (exfalso; omega)
theorem ar2 {i : Nat} (hi : i < 14) (h : ySt i = none) : i = 12 ∨ i = 13 := by
  rcases i with _ | _ | _ | _ | _ | _ | _ | _ | _ | _ | _ | _ | _ | _ | i
  all_goals first | exact .inl rfl | exact .inr rfl | (exfalso; cases h; done) | (exfalso; omega)
section
variable {q : List Ins} {i j : Nat} {pc lf : Int} {e : EnvP} {mx my : MV}
theorem ao8 {e : EnvP} {q : List Ins} {i j : Nat} {pc lf : Int} {evs : List Ev} {la : AccV} {ct : Int} (h : e = apW q i j pc lf la ct evs) : e = apW q i j pc lf e.m.last e.m.count e.evs := by subst h; rfl
theorem ax6 (h : RS q i j pc lf e mx my) : abB (afz mx e) fun o => ∃ i', RS q i' j pc lf o.2.2.1 o.2.1 my ∧ muX i' ≤ muX i - 1 := by
  have hx := h.x
  have hi := (awr h.ok).1
  rcases hs : xSt i with _ | r
  · rw [hs] at hx
    obtain ⟨x, rfl, hx⟩ := hx
    rw [ao9 hx]
    refine .some_ ⟨i, ⟨h.ok, h.he, by rw [hs]; exact ⟨x, rfl, hx⟩, h.y, h.c, h.ev⟩, ?_⟩
    rcases ar3 hi hs with rfl | rfl <;> decide
  · rw [hs] at hx
    obtain rfl : mx = .run (aqd apI 0 r) := hx
    have h9 : i ≠ 9 := by rintro rfl; cases hs
    have h14 : i ≠ 14 := by rintro rfl; cases hs
    have h1 := avE (q := q) (pc1 := pc) (lf1 := lf) (la := e.m.last) (ct := e.m.count) (evs := e.evs) h.ok h9 h14 hs
    rw [← h.he] at h1
    have hK : EOk 100 e := by have := awK (q := q) (i := i) (j := j) (pc := pc) (lf := lf) (la := e.m.last) (ct := e.m.count) (arm h.ev); rwa [← h.he] at this
    refine (alK hK (by rw [h.he]; rfl) (avD hs) h1).mono fun o ⟨o1, o2⟩ => ⟨xN i j, ⟨ayn h.ok h9 h14, ao8 o1, o2, h.y, h.c, ?_⟩, ?_⟩
    · rw [o1]; exact ays h.ok h9 h14 h.ev
    · have hx : i ≠ 5 ∧ xN i j = i + 1 ∨ i = 5 ∧ (xN i j = 10 ∨ xN i j = 6) := by
        unfold xN; split <;> (try split) <;> omega
      generalize xN i j = n at hx ⊢
      unfold muX
      (repeat' split) <;> omega
theorem atH {q : List Ins} {k : Nat} (h : k < q.length) : wtQ (q.drop k) = (q[k]).a.toNat + wtQ (q.drop (k + 1)) := by
  rw [List.drop_eq_getElem_cons h]; rfl
theorem ave (hq : apU q) (h1 : 0 ≤ pc ∧ pc < (q.length : Int)) (h2 : 0 ≤ lf ∧ lf ≤ 4) :
    ((0 ≤ (aey (ac3 pc lf) (aaY q pc)).pc ∧ (aey (ac3 pc lf) (aaY q pc)).pc ≤ (q.length : Int)) ∧ (0 ≤ (aey (ac3 pc lf) (aaY q pc)).left ∧ (aey (ac3 pc lf) (aaY q pc)).left ≤ 4) ∧ ((aey (ac3 pc lf) (aaY q pc)).left ≠ 0 → (aey (ac3 pc lf) (aaY q pc)).pc < (q.length : Int))) ∧
    asn q (aey (ac3 pc lf) (aaY q pc)).pc (aey (ac3 pc lf) (aaY q pc)).left + 1 = asn q pc lf := by
  obtain ⟨k, rfl⟩ : ∃ k : Nat, pc = (k : Int) := ⟨pc.toNat, by omega⟩
  have hk : k < q.length := by omega
  have hat : aaY q (k : Int) = q[k] := by
    have a1 := adk (d := (dfR 3 : Ins)) (xs := q) (i := (k : Int)) h1
    have a2 : q[((k : Nat) : Int).toNat]? = some q[k] := by simp [hk]
    exact Option.some.inj (a1.symm.trans a2)
  have hx := (hq.2 _ (List.getElem_mem hk)).2.1
  have hw := atH hk
  have hl := hq.1
  rw [hat]
  generalize q[k] = u at hx hw ⊢
  unfold aey
  show ((0 ≤ (if wi ((if lf = 0 then u.a else lf) - 1) = 0 then _ else _ : RecP).pc ∧ _) ∧ _) ∧ _
  have e1 : wi ((if lf = 0 then u.a else lf) - 1) = (if lf = 0 then u.a else lf) - 1 := ad2 (acf (by split <;> omega))
  have e2 : wi ((k : Int) + 1) = (k : Int) + 1 := ad2 (acf (by omega))
  have e3 : (ac3 (k : Int) lf).left = lf := rfl
  have e4 : (ac3 (k : Int) lf).pc = (k : Int) := rfl
  simp only [e3, e4, e1, e2]
  by_cases hv : (if lf = 0 then u.a else lf) - 1 = 0
  · rw [if_pos hv]
    refine ⟨⟨⟨by show 0 ≤ (k : Int) + 1; omega, by show (k : Int) + 1 ≤ _; omega⟩, ⟨by show 0 ≤ _ - 1; omega, by show _ - 1 ≤ 4; omega⟩, fun h => absurd hv h⟩, ?_⟩
    show asn q ((k : Int) + 1) ((if lf = 0 then u.a else lf) - 1) + 1 = asn q k lf
    unfold asn
    rw [if_pos hv]
    have t1 : ((k : Int) + 1).toNat = k + 1 := by omega
    have t2 : ((k : Int)).toNat = k := by omega
    rw [t1, t2]
    by_cases hz : lf = 0
    · rw [if_pos hz] at hv ⊢; omega
    · rw [if_neg hz] at hv ⊢; omega
  · rw [if_neg hv]
    refine ⟨⟨⟨by show 0 ≤ (k : Int); omega, by show (k : Int) ≤ _; omega⟩, ⟨by show 0 ≤ (if lf = 0 then u.a else lf) - 1; split <;> omega, by show (if lf = 0 then u.a else lf) - 1 ≤ 4; split <;> omega⟩, fun _ => h1.2⟩, ?_⟩
    show asn q (k : Int) ((if lf = 0 then u.a else lf) - 1) + 1 = asn q k lf
    unfold asn
    rw [if_neg hv]
    have t2 : ((k : Int)).toNat = k := by omega
    rw [t2]
    by_cases hz : lf = 0
    · rw [if_pos hz] at hv ⊢; rw [if_pos hz]; omega
    · rw [if_neg hz] at hv ⊢; rw [if_neg hz]; omega
theorem ax5 (hq : apU q) (h : RS q i j pc lf e mx my) : abB (afz my e) fun o => ∃ j' pc' lf', RS q i j' pc' lf' o.2.2.1 mx o.2.1 ∧ muY q j' pc' lf' ≤ muY q j pc lf - 1 := by
  have hy := h.y
  have hj := (awr h.ok).2
  have hK : EOk 100 e := by have := awK (q := q) (i := i) (j := j) (pc := pc) (lf := lf) (la := e.m.last) (ct := e.m.count) (arm h.ev); rwa [← h.he] at this
  have hL : e.l = apI := by rw [h.he]; rfl
  rcases hs : ySt j with _ | r
  · rw [hs] at hy
    obtain ⟨x, rfl, hx⟩ := hy
    rw [ao9 hx]
    refine .some_ ⟨j, pc, lf, ⟨h.ok, h.he, h.x, by rw [hs]; exact ⟨x, rfl, hx⟩, h.c, h.ev⟩, ?_⟩
    rcases ar2 hj hs with rfl | rfl <;> (unfold muY; simp)
  · rw [hs] at hy
    obtain rfl : my = .run (aqd apI 1 r) := hy
    have h12 : j ≠ 12 := by rintro rfl; cases hs
    have h13 : j ≠ 13 := by rintro rfl; cases hs
    by_cases h0 : j = 0
    · subst h0
      obtain rfl : ysC .next = r := Option.some.inj hs
      obtain ⟨c1, c2, c3⟩ := h.c rfl
      have hi10 : i < 10 := by have := h.ok; unfold amg at this; simp at this; omega
      by_cases hlt : pc < (q.length : Int)
      · have ho : (aaY q pc).op = 0 := (hq.2 _ (atb ⟨c1.1, hlt⟩)).1
        have h1 := avC (q := q) (i := i) (pc1 := pc) (lf1 := lf) (la := e.m.last) (ct := e.m.count) (evs := e.evs) ⟨c1.1, hlt⟩ ho
        rw [← h.he] at h1
        obtain ⟨m1, m2⟩ := ave hq ⟨c1.1, hlt⟩ c2
        refine (alK hK hL (apZ hs) h1).mono fun o ⟨o1, o2⟩ => ⟨0, _, _, ⟨h.ok, ao8 o1, h.x, o2, fun _ => m1, ?_⟩, ?_⟩
        · rw [o1]; exact h.ev
        · unfold muY; rw [if_pos rfl, if_pos rfl]; omega
      · have hz : lf = 0 := Classical.byContradiction fun k => hlt (c3 k)
        have h1 := axe (q := q) (i := i) (pc1 := pc) (lf1 := lf) (la := e.m.last) (ct := e.m.count) (evs := e.evs) hi10 (by omega)
        rw [← h.he] at h1
        refine (alK hK hL (apZ hs) h1).mono fun o ⟨o1, o2⟩ => ⟨1, pc, lf, ⟨?_, ao8 o1, h.x, o2, fun k => (by cases k), ?_⟩, ?_⟩
        · have := aye h.ok (by decide) (by decide); exact this
        · rw [o1]; exact h.ev
        · unfold muY; rw [if_pos rfl, if_neg (by decide)]; omega
    · have h1 := avB (q := q) (i := i) (pc1 := pc) (lf1 := lf) (la := e.m.last) (ct := e.m.count) (evs := e.evs) h.ok h0 h12 h13 hs
      rw [← h.he] at h1
      have hn : yN i j ≠ 0 := by unfold yN; split <;> (try split) <;> omega
      refine (alK hK hL (apZ hs) h1).mono fun o ⟨o1, o2⟩ => ⟨yN i j, pc, lf, ⟨aye h.ok h12 h13, ao8 o1, h.x, o2, fun k => absurd k hn, ?_⟩, ?_⟩
      · rw [o1]; exact ayr h.ok h0 h12 h13 h.ev
      · unfold muY; rw [if_neg hn, if_neg h0]; unfold yN; split <;> (try split) <;> omega
end
theorem apw {l : List Int} (hl : ∀ x ∈ l, 0 ≤ x ∧ x ≤ 255) : abB (abt l) fun o => o.1.1.length ≤ 6 ∧ ∀ x ∈ o.1.1, x.op = 0 → (1 ≤ x.a ∧ x.a ≤ 4) ∧ x.b = 0 := by
  unfold abt
  refine abB.bind (P := fun z => z.1.length ≤ 6 ∧ ∀ x ∈ z.1, x.op = 0 → (1 ≤ x.a ∧ x.a ≤ 4) ∧ x.b = 0) (af9 (fun x => (x.2.1 = (x.1.length : Int) ∧ x.1.length ≤ 6) ∧ ∀ y ∈ x.1, y.op = 0 → (1 ≤ y.a ∧ y.a ≤ 4) ∧ y.b = 0) (fun x => 7 - x.1.length) (fun self x ⟨⟨q0, q1⟩, q2⟩ ih => ?_) _ _ ⟨⟨rfl, Nat.zero_le _⟩, fun y hy => by cases hy⟩ (by show 7 - 0 < _; decide)) fun z hz => .some_ hz
  have e1 : wi (x.2.1 + 1) = x.2.1 + 1 := ad2 (acf (by omega))
  rw [e1]
  refine abB.ite (fun h1 => abB.ite (fun h6 => ?_) fun _ => .some_ ⟨q1, q2⟩) fun _ => .some_ ⟨q1, q2⟩
  have hin : 0 ≤ x.2.1 ∧ x.2.1 < ((l.length : Nat) : Int) := ⟨by omega, h1⟩
  have nx : ∀ u : Ins, (u.op = 0 → (1 ≤ u.a ∧ u.a ≤ 4) ∧ u.b = 0) → abB (self (x.1 ++ [u], x.2.1 + 1, ())) fun z => z.1.length ≤ 6 ∧ ∀ x ∈ z.1, x.op = 0 → (1 ≤ x.a ∧ x.a ≤ 4) ∧ x.b = 0 := fun u hu =>
    ih _ ⟨⟨by show x.2.1 + 1 = _; rw [List.length_append, List.length_singleton]; omega, by rw [List.length_append, List.length_singleton]; omega⟩, fun y hy => by
      rcases List.mem_append.1 hy with h | h
      · exact q2 y h
      · rw [List.mem_singleton] at h; subst h; exact hu⟩ (by show 7 - (x.1 ++ [u]).length < 7 - x.1.length; rw [List.length_append, List.length_singleton]; omega)
  have hg : ∀ u : Ins, (((x.1.length + ([u] : List Ins).length : Nat)) : Int) < 1000000000000 := fun u => by rw [List.length_singleton]; omega
  have hb := hl _ (atb (d := dfR 17) hin)
  refine abB.guard hin fun _ => abB.ite (fun h0 => abB.guard hin fun _ => abB.guard (hg _) fun _ => nx _ fun _ => ⟨?_, rfl⟩) fun h0 => ?_
  · have w1 : IntKind.u8.wrap (Int.tdiv (ac6 l x.2.1) 3) = Int.tdiv (ac6 l x.2.1) 3 := by
      have t1 : 0 ≤ Int.tdiv (ac6 l x.2.1) 3 := Int.tdiv_nonneg hb.1 (by decide)
      have t2 : Int.tdiv (ac6 l x.2.1) 3 ≤ ac6 l x.2.1 := Int.tdiv_le_self 3 hb.1
      have t3 : ac6 l x.2.1 ≤ 255 := hb.2
      show Int.emod _ 256 = _
      exact Int.emod_eq_of_lt t1 (by omega)
    have t1 := atQ (a := Int.tdiv (ac6 l x.2.1) 3) (b := 4) (by decide) (Int.tdiv_nonneg hb.1 (by decide))
    rw [w1]
    have w2 : wi (Int.tmod (Int.tdiv (ac6 l x.2.1) 3) 4) = Int.tmod (Int.tdiv (ac6 l x.2.1) 3) 4 := ad2 (acf (by omega))
    show 1 ≤ wi (1 + wi (Int.tmod (Int.tdiv (ac6 l x.2.1) 3) 4)) ∧ wi (1 + wi (Int.tmod (Int.tdiv (ac6 l x.2.1) 3) 4)) ≤ 4
    rw [w2, ad2 (acf (by omega))]
    omega
  · refine abB.ite (fun hs => abB.guard hin fun _ => abB.guard rfl fun _ => abB.guard (hg _) fun _ => nx _ fun h => absurd h h0) fun hs => abB.guard hin fun _ => abB.guard (hg _) fun _ => nx _ fun h => absurd h h0
theorem anJ {l : List Ins} (hl : l.length ≤ 6) (hx : ∀ x ∈ l, x.op = 0 → (1 ≤ x.a ∧ x.a ≤ 4) ∧ x.b = 0) : abB (lpF (aig l) 18446744073709551616 ([], 0, ())) fun z => apU z.1 := by
  refine af9 (fun x => (0 ≤ x.2.1 ∧ x.2.1 ≤ (l.length : Int)) ∧ (x.1.length : Int) ≤ x.2.1 ∧ ∀ y ∈ x.1, y.op = 0 ∧ (1 ≤ y.a ∧ y.a ≤ 4) ∧ y.b = 0) (fun x => (7 - x.2.1).toNat) (fun self x ⟨q0, q1, q2⟩ ih => ?_) _ _ ⟨⟨Int.le_refl _, by show (0 : Int) ≤ _; omega⟩, Int.le_refl _, fun y hy => by cases hy⟩ (by show (7 - (0 : Int)).toNat < _; decide)
  have e1 : wi (x.2.1 + 1) = x.2.1 + 1 := ad2 (acf (by omega))
  unfold aig
  rw [e1]
  refine abB.ite (fun h1 => ?_) fun _ => .some_ ⟨by show x.1.length ≤ 6; omega, q2⟩
  have hin : 0 ≤ x.2.1 ∧ x.2.1 < ((l.length : Nat) : Int) := ⟨q0.1, h1⟩
  refine abB.guard hin fun _ => abB.ite (fun h0 => abB.guard (by rw [List.length_singleton]; omega) fun _ => ih _ ⟨⟨by show 0 ≤ x.2.1 + 1; omega, by show x.2.1 + 1 ≤ _; omega⟩, by show ((x.1 ++ _).length : Int) ≤ x.2.1 + 1; rw [List.length_append, List.length_singleton]; omega, fun y hy => ?_⟩ (by show (7 - (x.2.1 + 1)).toNat < (7 - x.2.1).toNat; omega)) fun _ => ih _ ⟨⟨by show 0 ≤ x.2.1 + 1; omega, by show x.2.1 + 1 ≤ _; omega⟩, by show (x.1.length : Int) ≤ x.2.1 + 1; omega, q2⟩ (by show (7 - (x.2.1 + 1)).toNat < (7 - x.2.1).toNat; omega)
  rcases List.mem_append.1 hy with h | h
  · exact q2 y h
  · rw [List.mem_singleton] at h
    subst h
    exact ⟨h0, hx _ (atb hin) h0⟩
theorem anF {q : List Ins} (h : apU q) : adN (ann q) = 0 := by
  have h1 : q.all (akb 2 2) = true := List.all_eq_true.2 fun x hx => by
    obtain ⟨a, b, c⟩ := h.2 x hx
    unfold akb
    rw [if_pos a]
    simp only [inB, c, Bool.and_eq_true, decide_eq_true_eq, beq_self_eq_true, and_true]
    omega
  have hl := h.1
  have h2 : aaM 2 2 [awA, q] = 0 := by
    have h3 : aaM 2 2 [q] = 0 := by
      unfold aaM
      rw [if_neg (by omega), if_pos h1]
      rfl
    unfold aaM
    rw [if_neg (by decide), if_pos (by decide)]
    exact h3
  have h3 : abT (ann q) = 0 := by
    show (if !inB (2 : Int) 1 32 then 2 else aaM 2 2 [awA, q]) = 0
    rw [h2]; rfl
  show (if !ahL (ann q) then 1 else if abT (ann q) ≠ 0 then abT (ann q) else afa (ann q)) = 0
  rw [h3]; rfl
def asV : List Ev := [⟨5, 0, 0, 0, 0⟩]
def axX (q : List Ins) : EnvP := ⟨ann q, apI, ⟨[1] ++ List.replicate 25 0 ++ [2] ++ List.replicate 59 0, ⟨3, 26, 1, 2⟩, 5⟩, ⟨0, 0⟩, ⟨0, -1, 0, 0, -1, [], true⟩ :: List.replicate 11 ⟨0, -1, 0, 0, -1, [], false⟩, asV⟩
theorem anK {q : List Ins} (h : adN (ann q) = 0) : aaT (ann q) = some ((axX q, true, ()), ()) := by
  unfold aaT
  rw [awt h, aeU]
  kernel_rfl
def axW (q : List Ins) : EnvP := ⟨ann q, apI, ⟨[2, 0, 0, 0, 0, 0, 0, 0, 2, 0, 0, 0, 0, 0, 0, 1, 1, 0, 0, 0, 0, 0, 0, 0, 0, 0, 2, 0, 0, 0, 0, 1, 1] ++ List.replicate 53 0, ⟨1, 5, 0, 0⟩, 15⟩, ⟨0, 0⟩, ⟨0, -1, 1, 0, -1, [1], true⟩ :: ⟨1, 0, 0, 0, -1, [], false⟩ :: List.replicate 10 ⟨0, -1, 0, 0, -1, [], false⟩, asV ++ [⟨3, 0, 1, 0, 1⟩]⟩
def aug : RunV MV := ⟨⟨false, 0, 0⟩, 0, [0], 0, MV.nil, 0, 0, 0, 0⟩
theorem aql (q : List Ins) : lpF alz 18446744073709551616 (0, axX q, .run aug, ()) = some (10, axW q, .run (aqd apI 0 xs0), ()) := by kernel_rfl
theorem anI (q : List Ins) : aaI (axW q) (.claim ⟨⟨false, 0, 0⟩, 1, 1⟩) 5 = some ((1, 1, 1, ()), (apW q 0 0 0 0 ⟨3, 31, 1, 2⟩ 16 (asV ++ [⟨3, 0, 1, 0, 1⟩] ++ [⟨5, 1, 1, 0, 0⟩]), .claim ⟨⟨true, 1, 1⟩, 1, 1⟩, ())) := by kernel_rfl
theorem anL : acK = some ((true, ()), ()) := by kernel_rfl
theorem anH (q : List Ins) : aa3 awA q 2 = some (({ ann q with workers := 1 }, ()), ()) := by kernel_rfl
theorem apz (z : Int) : abB (aaP z 2) fun _ => True := by
  unfold aaP
  refine abB.ite (fun _ => .some_ trivial) fun _ => abB.guard (by decide) fun _ => abB.ite (fun _ => abB.guard (by decide) fun _ => .some_ trivial) fun _ => abB.guard (by decide) fun _ => .some_ trivial
def atG (q : List Ins) (a b : Int) (e : EnvP) (mx my : MV) : Prop := ∃ i j pc lf, RS q i j pc lf e mx my ∧ ((muX i : Int) ≤ a ∨ muX i = 0) ∧ ((muY q j pc lf : Int) ≤ b ∨ muY q j pc lf = 0)
theorem apx {q : List Ins} (hq : apU q) {l : List Int} (hl : l.length ≤ 1000000) {e : EnvP} {mx my : MV} (h : atG q 100 100 e mx my) : abB (lpF (ajG l) 18446744073709551616 (0, e, mx, my, ())) fun z => atG q 100 100 z.2.1 z.2.2.1 z.2.2.2.1 := by
  refine af9 (fun x => (0 ≤ x.1 ∧ x.1 ≤ (l.length : Int)) ∧ atG q 100 100 x.2.1 x.2.2.1 x.2.2.2.1) (fun x => ((l.length : Int) - x.1).toNat) (fun self x ⟨q0, q1⟩ ih => ?_) _ _ ⟨⟨Int.le_refl _, by show (0 : Int) ≤ _; omega⟩, h⟩ (by show ((l.length : Int) - 0).toNat < _; omega)
  have e1 : wi (x.1 + 1) = x.1 + 1 := ad2 (acf (by omega))
  unfold ajG
  rw [e1]
  refine abB.ite (fun h1 => abB.guard ⟨q0.1, h1⟩ fun _ => (apz _).bind fun r _ => ?_) fun _ => .some_ q1
  obtain ⟨i, j, pc, lf, r1, r2, r3⟩ := q1
  refine abB.ite (fun _ => (ax6 r1).bind fun o ⟨i', o1, o2⟩ => ih _ ⟨⟨by show 0 ≤ x.1 + 1; omega, by show x.1 + 1 ≤ _; omega⟩, i', j, pc, lf, o1, by omega, r3⟩ (by show ((l.length : Int) - (x.1 + 1)).toNat < ((l.length : Int) - x.1).toNat; omega)) fun _ => (ax5 hq r1).bind fun o ⟨j', pc', lf', o1, o2⟩ => ih _ ⟨⟨by show 0 ≤ x.1 + 1; omega, by show x.1 + 1 ≤ _; omega⟩, i, j', pc', lf', o1, r2, by omega⟩ (by show ((l.length : Int) - (x.1 + 1)).toNat < ((l.length : Int) - x.1).toNat; omega)
theorem apy {q : List Ins} (hq : apU q) {e : EnvP} {mx my : MV} (h : atG q 100 100 e mx my) : abB (lpF ajH 18446744073709551616 (0, e, mx, my, ())) fun z => atG q 0 0 z.2.1 z.2.2.1 z.2.2.2.1 := by
  refine af9 (fun x => (0 ≤ x.1 ∧ x.1 ≤ 200) ∧ atG q (100 - x.1) (100 - x.1) x.2.1 x.2.2.1 x.2.2.2.1) (fun x => (200 - x.1).toNat) (fun self x ⟨q0, q1⟩ ih => ?_) _ _ ⟨⟨Int.le_refl _, by show (0 : Int) ≤ 200; decide⟩, h⟩ (by show (200 - (0 : Int)).toNat < _; decide)
  have e1 : wi (x.1 + 1) = x.1 + 1 := ad2 (acf (by omega))
  unfold ajH
  rw [e1]
  obtain ⟨i, j, pc, lf, r1, r2, r3⟩ := q1
  refine abB.ite (fun h1 => (ax6 r1).bind fun o ⟨i', o1, o2⟩ => (ax5 hq o1).bind fun u ⟨j', pc', lf', u1, u2⟩ => ih _ ⟨⟨by show 0 ≤ x.1 + 1; omega, by show x.1 + 1 ≤ _; omega⟩, i', j', pc', lf', u1, ?_, ?_⟩ (by show (200 - (x.1 + 1)).toNat < (200 - x.1).toNat; omega)) fun h1 => .some_ ⟨i, j, pc, lf, r1, by omega, by omega⟩
  · show (muX i' : Int) ≤ 100 - (x.1 + 1) ∨ _; omega
  · show (muY q j' pc' lf' : Int) ≤ 100 - (x.1 + 1) ∨ _; omega
theorem awL {k : Int} (h : 0 ≤ k ∧ k < 20) : aaP k 20 = some ((k, ()), ()) := by
  unfold aaP
  have e1 : Int.tmod k 20 = k := Int.tmod_eq_of_lt h.1 h.2
  rw [if_neg (by decide), if_pos (by decide), e1, if_neg (by omega), if_pos (by decide)]
theorem aob {β : Type} {i : Int} {k : Nat} (h : i = (k : Int)) (f : Nat → Option β) : ∀ n, k < n → aq8 i f n = f k
  | 0, hn => by omega
  | n + 1, hn => by
    unfold aq8
    by_cases hk : k = n
    · subst hk; rw [if_pos h]
    · rw [if_neg (by omega)]; exact aob h f n (by omega)
theorem awW (a : A20) (v : Int) : ∀ i, i < 20 → ∀ k, k < 20 → ae6 (apm a v i) k = if k = i then v else ae6 a k := by
  intro i hi k hk
  rcases i with _ | _ | _ | _ | _ | _ | _ | _ | _ | _ | _ | _ | _ | _ | _ | _ | _ | _ | _ | _ | i
  all_goals first | exact absurd hi (by omega) | skip
  all_goals rcases k with _ | _ | _ | _ | _ | _ | _ | _ | _ | _ | _ | _ | _ | _ | _ | _ | _ | _ | _ | _ | k
  all_goals first | rfl | exact absurd hk (by omega)
theorem anG {l : List Ev} (hn : l.length ≤ 1000000) (hl : ∀ v ∈ l, 0 ≤ v.kind ∧ v.kind < 20) : abB (abN l) fun o => ∀ k : Nat, k < 20 → ae6 o.1.1 k = evN l (k : Int) := by
  unfold abN
  refine abB.bind (P := fun z => ∀ k : Nat, k < 20 → ae6 z.2.1 k = evN l (k : Int)) (af9 (fun x => ∃ n : Nat, x.1 = (n : Int) ∧ n ≤ l.length ∧ ∀ k : Nat, k < 20 → ae6 x.2.1 k = evN (l.take n) (k : Int)) (fun x => ((l.length : Int) - x.1).toNat) (fun self x ⟨n, q0, q1, q2⟩ ih => ?_) _ _ ⟨0, rfl, Nat.zero_le _, fun k hk => ?_⟩ (by show ((l.length : Int) - 0).toNat < _; omega)) fun z hz => .some_ hz
  rotate_left
  · obtain ⟨i, a, u⟩ := x
    obtain rfl : i = (n : Int) := q0
    have e1 : wi ((n : Int) + 1) = ((n + 1 : Nat) : Int) := (ad2 (acf (by omega))).trans (by omega)
    refine abB.ite (fun h1 => ?_) fun h1 => .some_ fun k hk => ?_
    · have hlt : n < l.length := by have : (n : Int) < ((l.length : Nat) : Int) := h1; omega
      have hat : aw9 l (n : Int) = l[n] := by
        have a1 := adk (d := (dfR 2 : Ev)) (xs := l) (i := (n : Int)) ⟨by omega, Int.ofNat_lt.2 hlt⟩
        have a2 : l[((n : Nat) : Int).toNat]? = some l[n] := by simp [hlt]
        exact Option.some.inj (a1.symm.trans a2)
      refine abB.guard ⟨by show (0 : Int) ≤ (n : Int); omega, h1⟩ fun _ => ?_
      show abB ((aaP (aw9 l (n : Int)).kind 20).bind _) _
      have hv := hl _ (List.getElem_mem hlt)
      rw [hat, awL hv, aeU]
      obtain ⟨m, hm⟩ : ∃ m : Nat, (l[n]).kind = (m : Int) := ⟨(l[n]).kind.toNat, by omega⟩
      have hm20 : m < 20 := by omega
      rw [aob hm _ 20 hm20, aob hm _ 20 hm20]
      show abB (self (wi ((n : Int) + 1), apm a (wi (ae6 a m + 1)) m, ())) _
      have ht : l.take (n + 1) = l.take n ++ [l[n]] := by rw [List.take_add_one, List.getElem?_eq_getElem hlt]; rfl
      have hb : ∀ k : Nat, 0 ≤ evN (l.take n) (k : Int) ∧ evN (l.take n) (k : Int) ≤ 1000000 := fun k => by
        unfold evN
        have := List.length_filter_le (fun v : Ev => decide (v.kind = (k : Int))) (l.take n)
        rw [List.length_take] at this
        omega
      rw [e1]
      refine ih _ ⟨n + 1, rfl, hlt, fun k hk => ?_⟩ (by show ((l.length : Int) - ((n + 1 : Nat) : Int)).toNat < ((l.length : Int) - (n : Int)).toNat; omega)
      show ae6 (apm a (wi (ae6 a m + 1)) m) k = _
      have e2 : ae6 a m = evN (l.take n) (m : Int) := q2 m hm20
      have e3 : ae6 a k = evN (l.take n) (k : Int) := q2 k hk
      rw [awW a _ m hm20 k hk, ht, aki, hm, e2, e3, ad2 (acf (by have := hb m; omega))]
      by_cases hkm : k = m
      · subst hkm; rw [if_pos rfl, if_pos rfl]
      · rw [if_neg hkm, if_neg (by omega)]; omega
    · have : ¬ (n : Int) < ((l.length : Nat) : Int) := h1
      have hnl : n = l.length := by omega
      have e3 := q2 k hk
      rw [hnl, List.take_length] at e3
      exact e3
  · show ae6 (⟨0, 0, 0, 0, 0, 0, 0, 0, 0, 0, 0, 0, 0, 0, 0, 0, 0, 0, 0, 0⟩ : A20) k = 0
    rcases k with _ | _ | _ | _ | _ | _ | _ | _ | _ | _ | _ | _ | _ | _ | _ | _ | _ | _ | _ | _ | k
    all_goals first | rfl | exact absurd hk (by omega)
theorem apv {q : List Ins} {e : EnvP} {mx my : MV} (h : atG q 0 0 e mx my) {a : A20} (ha : ∀ k : Nat, k < 20 → ae6 a k = evN e.evs (k : Int)) : ajF (ann q) e a = some ((true, ()), ()) := by
  obtain ⟨i, j, pc, lf, r, r2, r3⟩ := h
  have hi := awr r.ok
  have h6 := (ha 6 (by decide)).trans r.ev.c6
  have h7 := (ha 7 (by decide)).trans r.ev.c7
  have h8 := (ha 8 (by decide)).trans r.ev.c8
  have h10 := (ha 10 (by decide)).trans r.ev.c10
  have he := r.he
  have hok := r.ok
  clear ha r
  rw [he]
  generalize e.evs = evs
  generalize e.m.last = la
  generalize e.m.count = ct
  clear he
  obtain ⟨a0, a1, a2, a3, a4, a5, a6, a7, a8, a9, a10, a11, a12, a13, a14, a15, a16, a17, a18, a19⟩ := a
  replace h6 : a6 = _ := h6
  replace h7 : a7 = _ := h7
  replace h8 : a8 = _ := h8
  replace h10 : a10 = _ := h10
  have h1 : i = 9 ∨ i = 14 := by
    have : muX i = 0 := by omega
    unfold muX at this; split at this <;> (try split at this) <;> omega
  have h2 : j = 12 ∨ j = 13 := by
    have : muY q j pc lf = 0 := by omega
    unfold muY at this; split at this <;> omega
  subst h6 h7 h8 h10
  rcases h1 with rfl | rfl <;> rcases h2 with rfl | rfl
  · show _ = _; kernel_rfl
  · exact absurd hok (by decide)
  · exact absurd hok (by decide)
  · show _ = _; kernel_rfl
theorem apu {l p : List Int} (hl : ∀ x ∈ l, 0 ≤ x ∧ x ≤ 255) : aay l p = some ((true, ()), ()) := by
  have key : abB (aay l p) fun o => o = ((true, ()), ()) := by
    unfold aay
    refine abB.ite (fun _ => .some_ rfl) fun hp => ?_
    refine (apw hl).bind fun r ⟨p1, p2⟩ => (anJ p1 p2).bind fun z hz => ?_
    show abB ((aa3 awA z.1 2).bind _) _
    rw [anH, aeU]
    show abB ((aaT (ann z.1)).bind _) _
    rw [anK (anF hz), aeU]
    show abB (Option.bind (some ((MV.run aug, ()), ())) _) _
    rw [aeU, anL, aeU]
    refine abB.ite (fun k => by cases k) fun _ => abB.ite (fun k => by cases k) fun _ => abB.ite (fun k => by cases k) fun _ => ?_
    show abB ((lpF alz 18446744073709551616 (0, axX z.1, .run aug, ())).bind _) _
    rw [aql, aeU]
    show abB (Option.bind (some ((MV.claim ⟨⟨false, 0, 0⟩, 1, 1⟩, ()), ())) _) _
    rw [aeU]
    show abB ((aaI (axW z.1) (.claim ⟨⟨false, 0, 0⟩, 1, 1⟩) 5).bind _) _
    rw [anI, aeU]
    refine abB.ite (fun k => absurd rfl k) fun _ => ?_
    show abB (Option.bind (some ((MV.run ⟨⟨false, 0, 0⟩, 1, [1], 0, MV.nil, 0, 0, 0, 0⟩, ()), ())) _) _
    rw [aeU]
    refine abB.ite (fun k => by cases k) fun _ => ?_
    have h0 : atG z.1 100 100 (apW z.1 0 0 0 0 ⟨3, 31, 1, 2⟩ 16 (asV ++ [⟨3, 0, 1, 0, 1⟩] ++ [⟨5, 1, 1, 0, 0⟩])) (.run (aqd apI 0 xs0)) (.run ⟨⟨false, 0, 0⟩, 1, [1], 0, MV.nil, 0, 0, 0, 0⟩) := by
      refine ⟨0, 0, 0, 0, ⟨rfl, rfl, rfl, rfl, fun _ => ⟨⟨Int.le_refl _, by omega⟩, ⟨by decide, by decide⟩, fun h => absurd rfl h⟩, ⟨rfl, ?_, rfl, rfl, rfl, rfl⟩⟩, .inl (by decide), .inl ?_⟩
      · intro v hv
        have hv : v ∈ [(⟨5, 0, 0, 0, 0⟩ : Ev), ⟨3, 0, 1, 0, 1⟩, ⟨5, 1, 1, 0, 0⟩] := hv
        simp only [List.mem_cons, List.not_mem_nil, or_false] at hv
        rcases hv with rfl | rfl | rfl <;> decide
      · have hw : ∀ q : List Ins, (∀ x ∈ q, 1 ≤ x.a ∧ x.a ≤ 4) → wtQ q ≤ 4 * q.length := fun q => by
          induction q with
          | nil => intro _; exact Nat.le_refl _
          | cons x q ih =>
            intro h
            have h1 := h x (List.mem_cons_self ..)
            have h2 := ih fun y hy => h y (List.mem_cons_of_mem _ hy)
            simp only [wtQ, List.length_cons]
            omega
        have h1 := hw z.1 fun x hx => (hz.2 x hx).2.1
        have h2 := hz.1
        show ((12 + wtQ z.1 : Nat) : Int) ≤ 100
        omega
    refine (apx hz (by omega) h0).bind fun u hu => (apy hz hu).bind fun v hv => ?_
    have hev : v.2.1.evs.length ≤ 1000000 ∧ ∀ x ∈ v.2.1.evs, 0 ≤ x.kind ∧ x.kind < 20 := by
      obtain ⟨i, j, pc, lf, r, _, _⟩ := hv
      exact ⟨by have := arm r.ev; omega, r.ev.rg⟩
    refine (anG hev.1 hev.2).bind fun a ha => ?_
    show abB (ajF (ann z.1) v.2.1 a.1.1) _
    rw [apv hv ha]
    exact .some_ rfl
  obtain ⟨o, h1, rfl⟩ := key
  exact h1
theorem aqm {l p : List Int} (hl : ∀ x ∈ l, 0 ≤ x ∧ x ≤ 255) : abB (aay l p) fun o => o.1.1 = true := ⟨_, apu hl, rfl⟩
end
end Go.Proofs.YtlcelajkhklkbaaGreat
