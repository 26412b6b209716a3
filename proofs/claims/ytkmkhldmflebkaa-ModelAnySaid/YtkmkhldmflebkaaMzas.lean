/- The two models: what keeps that their states agree (tasks that run, stop, are new). The two models: they agree at each kind of event. The two models: they agree at each kind of event (tops of stacks, the queue). The two models: they agree at every event. The two models: one event. The two models: their first states, and what the program's says of the tasks. -/
import Derived.Test.YtkmkhldmflebkaaMzar
set_option linter.all false
namespace Go.Proofs.Ytkmkhldmflebkaa
section
open Go Go.RowKit
set_option maxRecDepth 10000
variable [Tb]
section
variable {n : Nat} {p : SyP} {r : SaV} {w t o : Int}
theorem ani {xs : List TkV} (ht : 0 ≤ t ∧ t < (xs.length : Int)) {x : TkV} (h0 : (aaa xs t).view.phase ≠ 0) (h : x.view.phase ≠ 0) : ada (xs.set t.toNat x) = ada xs := by
  have e : ∀ l : List TkV, ada l = (l.map fun y => decide (y.view.phase ≠ 0)).countP id := fun l => by
    unfold ada; rw [List.countP_map]; rfl
  rw [e, e]
  have h1 : decide (x.view.phase ≠ 0) = decide ((aaa xs t).view.phase ≠ 0) := by rw [decide_eq_true h, decide_eq_true h0]
  have : (xs.set t.toNat x).map (fun y => decide (y.view.phase ≠ 0)) = xs.map fun y => decide (y.view.phase ≠ 0) := by
    rw [List.map_set, h1, ← List.map_set]
    exact congrArg _ (ajb (α := TkV) (d := (dfR 61 : TkV)) ht)
  rw [this]
theorem anh : ∀ {xs : List TkV} {i : Nat} {x z : TkV}, xs[i]? = some z → z.view.phase = 0 → x.view.phase ≠ 0 → ada (xs.set i x) = ada xs + 1 ∧ ada xs < xs.length
  | [], i, x, z, h, _, _ => by simp at h
  | a :: xs, 0, x, z, h, h0, h1 => by
    obtain rfl : a = z := by simpa using h
    unfold ada
    refine ⟨?_, ?_⟩
    · rw [List.set_cons_zero, List.countP_cons, List.countP_cons]
      simp [h0, h1]
    · rw [List.countP_cons, List.length_cons]
      have := List.countP_le_length (p := fun (x : TkV) => decide (x.view.phase ≠ 0)) (l := xs)
      have e : (if decide (a.view.phase ≠ 0) = true then 1 else 0) = 0 := by simp [h0]
      rw [e]; omega
  | a :: xs, i + 1, x, z, h, h0, h1 => by
    have ih := anh (xs := xs) (i := i) (x := x) (z := z) (by simpa using h) h0 h1
    unfold ada at *
    refine ⟨?_, ?_⟩
    · rw [List.set_cons_succ, List.countP_cons, List.countP_cons, ih.1]
      omega
    · rw [List.countP_cons, List.length_cons]
      split <;> omega
theorem aqL {xs : List TkV} (ht : 0 ≤ t ∧ t < (xs.length : Int)) {x : TkV} (h0 : (aaa xs t).view.phase = 0) (h : x.view.phase ≠ 0) : ada (xs.set t.toNat x) = ada xs + 1 ∧ ada xs < xs.length :=
  anh (abV (d := (dfR 61 : TkV)) ht) h0 h
theorem ai6 {s : List Int} (h : adg s = t) (ht : 0 ≤ t) : s = ajs s ++ [t] := by
  unfold adg at h
  have h1 : ¬ (s.length : Int) = 0 := fun e => by rw [if_pos e] at h; omega
  rw [if_neg h1] at h
  have h2 : s.length - 1 < s.length := by omega
  have h3 : s[s.length - 1] = t := by
    have a1 := abV (α := Int) (d := (dfR 1 : Int)) (xs := s) (i := (s.length : Int) - 1) (by omega)
    have a2 : ((s.length : Int) - 1).toNat = s.length - 1 := by omega
    rw [a2, List.getElem?_eq_getElem h2] at a1
    exact (Option.some.inj a1).trans h
  unfold ajs
  have a2 : ((s.length : Int) - 1).toNat = s.length - 1 := by omega
  rw [a2, ← h3, ← List.take_succ_eq_append_getElem h2]
  exact (List.take_of_length_le (by omega)).symm
theorem BR.setR (h : BR n p r) (hw : 0 ≤ w ∧ w < p.c.workers) (ht : 0 ≤ t ∧ t < (p.tasks.length : Int)) (h0 : (aaa r.tasks t).view.phase ≠ 0) (h2 : (aaa r.tasks t).view.phase ≠ 2)
    {x : TkP} {y : TkV} (k : TR1 n p.c x y) (k1 : y.view.phase = 2) (k2 : y.view.worker = w) (k3 : y.view.parent = (aaa r.tasks t).view.parent) {X : WkP} {Y : WlV} (kw : WR1 n p.c X Y) (hs : Y.stack = (aac r.works w).stack ++ [t]) :
    BR n { p with tasks := p.tasks.set t.toNat x, works := p.works.set w.toNat X } { r with tasks := r.tasks.set t.toNat y, works := r.works.set w.toNat Y } := by
  have hr : 0 ≤ t ∧ t < (r.tasks.length : Int) := by have := h.tl2; omega
  have hwp : 0 ≤ w ∧ w < (p.works.length : Int) := by have := h.wl; omega
  have hwr : 0 ≤ w ∧ w < (r.works.length : Int) := by have := h.wl2; omega
  have nst : ∀ v, 0 ≤ v ∧ v < p.c.workers → t ∉ (aac r.works v).stack := fun v hv hm => h2 (h.st v hv t hm).2.1
  have e0 : ∀ i, 0 ≤ i → (aaa r.tasks i).view.phase ≠ 0 → (aaa (r.tasks.set t.toNat y) i).view.phase ≠ 0 := fun i hi hp => by
    rw [agJ hr hi]; split
    · rw [k1]; decide
    · exact hp
  have e3 : ∀ i, 0 ≤ i → (aaa (r.tasks.set t.toNat y) i).view.parent = (aaa r.tasks i).view.parent := fun i hi => by
    rw [agJ hr hi]; split
    · rename_i e; subst e; exact k3
    · rfl
  have hc : ada (r.tasks.set t.toNat y) = ada r.tasks := ani hr h0 (by rw [k1]; decide)
  exact { h with
    tl := (congrArg (fun (n : Nat) => (n : Int)) List.length_set).trans h.tl
    tl2 := (List.length_set ..).trans (h.tl2.trans (List.length_set ..).symm)
    tl3 := by rw [List.length_set]; exact h.tl3
    wl := (congrArg (fun (n : Nat) => (n : Int)) List.length_set).trans h.wl
    wl2 := (congrArg (fun (n : Nat) => (n : Int)) List.length_set).trans h.wl2
    tk := fun i hi => by
      have hi : 0 ≤ i ∧ i < (p.tasks.length : Int) := by rw [List.length_set] at hi; exact hi
      show TR1 n p.c (aab (p.tasks.set t.toNat x) i) (aaa (r.tasks.set t.toNat y) i)
      rw [asq ht hi.1, agJ hr hi.1]
      split
      · exact k
      · exact h.tk i hi
    wk := fun i hi => by
      show WR1 n p.c (aad (p.works.set w.toNat X) i) (aac (r.works.set w.toNat Y) i)
      rw [app hwp hi.1, anL hwr hi.1]
      split
      · exact kw
      · exact h.wk i hi
    cl := by
      show (aad (p.works.set w.toNat X) p.c.workers).stack = [] ∧ (aad (p.works.set w.toNat X) p.c.workers).sleeps = false
      rw [app hwp (by omega), if_neg (by omega)]
      exact h.cl
    kn := by
      show p.known = (ada (r.tasks.set t.toNat y) : Int)
      rw [hc]; exact h.kn
    st := fun v hv i hi => by
      have hi : i ∈ (aac (r.works.set w.toNat Y) v).stack := hi
      rw [anL hwr hv.1] at hi
      show (0 ≤ i ∧ i < ((p.tasks.set t.toNat x).length : Int)) ∧ (aaa (r.tasks.set t.toNat y) i).view.phase = 2 ∧ (aaa (r.tasks.set t.toNat y) i).view.worker = v
      rw [List.length_set]
      have old : i ∈ (aac r.works v).stack → (0 ≤ i ∧ i < (p.tasks.length : Int)) ∧ (aaa (r.tasks.set t.toNat y) i).view.phase = 2 ∧ (aaa (r.tasks.set t.toNat y) i).view.worker = v := fun hm => by
        obtain ⟨q1, q2, q3⟩ := h.st v hv i hm
        have hne : ¬ i = t := fun e => nst v hv (e ▸ hm)
        rw [agJ hr q1.1, if_neg hne]
        exact ⟨q1, q2, q3⟩
      split at hi
      · rename_i e
        rw [hs] at hi
        rcases List.mem_append.1 hi with hi | hi
        · exact old (by rw [e]; exact hi)
        · obtain rfl : i = t := List.mem_singleton.1 hi
          rw [agJ hr ht.1, if_pos rfl]
          exact ⟨ht, k1, k2.trans e.symm⟩
      · exact old hi
    nd := fun v hv => by
      show (aac (r.works.set w.toNat Y) v).stack.Nodup
      rw [anL hwr hv.1]
      split
      · rw [hs]
        refine List.nodup_append.2 ⟨h.nd w hw, List.nodup_cons.2 ⟨List.not_mem_nil, List.nodup_nil⟩, fun a ha b hb e => ?_⟩
        obtain rfl : b = t := List.mem_singleton.1 hb
        exact nst w hw (e ▸ ha)
      · exact h.nd v hv
    run := fun i hi hp => by
      have hi : 0 ≤ i ∧ i < (p.tasks.length : Int) := by rw [List.length_set] at hi; exact hi
      have hp : (aaa (r.tasks.set t.toNat y) i).view.phase = 2 := hp
      show (0 ≤ (aaa (r.tasks.set t.toNat y) i).view.worker ∧ (aaa (r.tasks.set t.toNat y) i).view.worker < p.c.workers) ∧ i ∈ (aac (r.works.set w.toNat Y) (aaa (r.tasks.set t.toNat y) i).view.worker).stack
      by_cases e : i = t
      · subst e
        rw [agJ hr hi.1, if_pos rfl, k2, ads hwr, hs]
        exact ⟨hw, List.mem_append.2 (.inr (List.mem_singleton.2 rfl))⟩
      · rw [agJ hr hi.1, if_neg e] at hp ⊢
        obtain ⟨q1, q2⟩ := h.run i hi hp
        refine ⟨q1, ?_⟩
        rw [anL hwr q1.1]
        split
        · rename_i e2
          rw [hs, ← e2]
          exact List.mem_append.2 (.inl q2)
        · exact q2
    rk := by
      obtain ⟨rk, q1, q2⟩ := h.rk
      refine ⟨rk, fun i hi => ?_, fun i hi => ?_⟩
      · have hi : 0 ≤ i ∧ i < (r.tasks.length : Int) := by rw [List.length_set] at hi; exact hi
        show (aaa (r.tasks.set t.toNat y) i).view.parent = -1 ∨ ((0 ≤ (aaa (r.tasks.set t.toNat y) i).view.parent ∧ (aaa (r.tasks.set t.toNat y) i).view.parent < ((r.tasks.set t.toNat y).length : Int)) ∧ (aaa (r.tasks.set t.toNat y) (aaa (r.tasks.set t.toNat y) i).view.parent).view.phase ≠ 0 ∧ rk (aaa (r.tasks.set t.toNat y) i).view.parent < rk i)
        rw [e3 i hi.1, List.length_set]
        rcases q1 i hi with q3 | ⟨q3, q4, q5⟩
        · exact .inl q3
        · exact .inr ⟨q3, e0 _ q3.1 q4, q5⟩
      · have hi : 0 ≤ i ∧ i < (r.tasks.length : Int) := by rw [List.length_set] at hi; exact hi
        show rk i < (r.tasks.set t.toNat y).length ∧ ((aaa (r.tasks.set t.toNat y) i).view.phase ≠ 0 → rk i < ada (r.tasks.set t.toNat y))
        rw [List.length_set, hc]
        refine ⟨(q2 i hi).1, fun hp => (q2 i hi).2 ?_⟩
        rw [agJ hr hi.1] at hp
        split at hp
        · rename_i e; rw [e]; exact h0
        · exact hp }
theorem BR.setP (h : BR n p r) (hw : 0 ≤ w ∧ w < p.c.workers) (ht : 0 ≤ t ∧ t < (p.tasks.length : Int)) (htop : adg (aac r.works w).stack = t)
    {x : TkP} {y : TkV} (k : TR1 n p.c x y) (k0 : y.view.phase ≠ 0) (k1 : y.view.phase ≠ 2) (k3 : y.view.parent = (aaa r.tasks t).view.parent) {X : WkP} {Y : WlV} (kw : WR1 n p.c X Y) (hs : Y.stack = ajs (aac r.works w).stack) :
    BR n { p with tasks := p.tasks.set t.toNat x, works := p.works.set w.toNat X } { r with tasks := r.tasks.set t.toNat y, works := r.works.set w.toNat Y } := by
  have hr : 0 ≤ t ∧ t < (r.tasks.length : Int) := by have := h.tl2; omega
  have hwp : 0 ≤ w ∧ w < (p.works.length : Int) := by have := h.wl; omega
  have hwr : 0 ≤ w ∧ w < (r.works.length : Int) := by have := h.wl2; omega
  have sp := ai6 htop ht.1
  have hnd := h.nd w hw
  have htm : t ∈ (aac r.works w).stack := by rw [sp]; exact List.mem_append.2 (.inr (List.mem_singleton.2 rfl))
  have tst := h.st w hw t htm
  have h0 : (aaa r.tasks t).view.phase ≠ 0 := by rw [tst.2.1]; decide
  have nt : t ∉ ajs (aac r.works w).stack := fun hm => by
    rw [sp] at hnd
    exact (List.nodup_append.1 hnd).2.2 t hm t (List.mem_singleton.2 rfl) rfl
  have e0 : ∀ i, 0 ≤ i → (aaa r.tasks i).view.phase ≠ 0 → (aaa (r.tasks.set t.toNat y) i).view.phase ≠ 0 := fun i hi hp => by
    rw [agJ hr hi]; split
    · exact k0
    · exact hp
  have e3 : ∀ i, 0 ≤ i → (aaa (r.tasks.set t.toNat y) i).view.parent = (aaa r.tasks i).view.parent := fun i hi => by
    rw [agJ hr hi]; split
    · rename_i e; subst e; exact k3
    · rfl
  have hc : ada (r.tasks.set t.toNat y) = ada r.tasks := ani hr h0 k0
  have sub : ∀ v, 0 ≤ v ∧ v < p.c.workers → ∀ i, i ∈ (aac (r.works.set w.toNat Y) v).stack → i ∈ (aac r.works v).stack ∧ ¬ i = t := fun v hv i hi => by
    rw [anL hwr hv.1] at hi
    split at hi
    · rename_i e
      rw [hs] at hi
      refine ⟨?_, fun e2 => nt (e2 ▸ hi)⟩
      rw [e, sp]; exact List.mem_append.2 (.inl hi)
    · rename_i e
      refine ⟨hi, fun e2 => e ?_⟩
      have := (h.st v hv i hi).2.2
      rw [e2, tst.2.2] at this
      exact this.symm
  exact { h with
    tl := (congrArg (fun (n : Nat) => (n : Int)) List.length_set).trans h.tl
    tl2 := (List.length_set ..).trans (h.tl2.trans (List.length_set ..).symm)
    tl3 := by rw [List.length_set]; exact h.tl3
    wl := (congrArg (fun (n : Nat) => (n : Int)) List.length_set).trans h.wl
    wl2 := (congrArg (fun (n : Nat) => (n : Int)) List.length_set).trans h.wl2
    tk := fun i hi => by
      have hi : 0 ≤ i ∧ i < (p.tasks.length : Int) := by rw [List.length_set] at hi; exact hi
      show TR1 n p.c (aab (p.tasks.set t.toNat x) i) (aaa (r.tasks.set t.toNat y) i)
      rw [asq ht hi.1, agJ hr hi.1]
      split
      · exact k
      · exact h.tk i hi
    wk := fun i hi => by
      show WR1 n p.c (aad (p.works.set w.toNat X) i) (aac (r.works.set w.toNat Y) i)
      rw [app hwp hi.1, anL hwr hi.1]
      split
      · exact kw
      · exact h.wk i hi
    cl := by
      show (aad (p.works.set w.toNat X) p.c.workers).stack = [] ∧ (aad (p.works.set w.toNat X) p.c.workers).sleeps = false
      rw [app hwp (by omega), if_neg (by omega)]
      exact h.cl
    kn := by
      show p.known = (ada (r.tasks.set t.toNat y) : Int)
      rw [hc]; exact h.kn
    st := fun v hv i hi => by
      obtain ⟨hm, hne⟩ := sub v hv i hi
      obtain ⟨q1, q2, q3⟩ := h.st v hv i hm
      show (0 ≤ i ∧ i < ((p.tasks.set t.toNat x).length : Int)) ∧ (aaa (r.tasks.set t.toNat y) i).view.phase = 2 ∧ (aaa (r.tasks.set t.toNat y) i).view.worker = v
      rw [List.length_set, agJ hr q1.1, if_neg hne]
      exact ⟨q1, q2, q3⟩
    nd := fun v hv => by
      show (aac (r.works.set w.toNat Y) v).stack.Nodup
      rw [anL hwr hv.1]
      split
      · rw [hs]
        rw [sp] at hnd
        exact (List.nodup_append.1 hnd).1
      · exact h.nd v hv
    run := fun i hi hp => by
      have hi : 0 ≤ i ∧ i < (p.tasks.length : Int) := by rw [List.length_set] at hi; exact hi
      have hp : (aaa (r.tasks.set t.toNat y) i).view.phase = 2 := hp
      show (0 ≤ (aaa (r.tasks.set t.toNat y) i).view.worker ∧ (aaa (r.tasks.set t.toNat y) i).view.worker < p.c.workers) ∧ i ∈ (aac (r.works.set w.toNat Y) (aaa (r.tasks.set t.toNat y) i).view.worker).stack
      by_cases e : i = t
      · subst e
        rw [agJ hr hi.1, if_pos rfl] at hp
        exact absurd hp k1
      · rw [agJ hr hi.1, if_neg e] at hp ⊢
        obtain ⟨q1, q2⟩ := h.run i hi hp
        refine ⟨q1, ?_⟩
        rw [anL hwr q1.1]
        split
        · rename_i e2
          rw [hs]
          rw [e2, sp] at q2
          rcases List.mem_append.1 q2 with q2 | q2
          · exact q2
          · exact absurd (List.mem_singleton.1 q2) e
        · exact q2
    rk := by
      obtain ⟨rk, q1, q2⟩ := h.rk
      refine ⟨rk, fun i hi => ?_, fun i hi => ?_⟩
      · have hi : 0 ≤ i ∧ i < (r.tasks.length : Int) := by rw [List.length_set] at hi; exact hi
        show (aaa (r.tasks.set t.toNat y) i).view.parent = -1 ∨ ((0 ≤ (aaa (r.tasks.set t.toNat y) i).view.parent ∧ (aaa (r.tasks.set t.toNat y) i).view.parent < ((r.tasks.set t.toNat y).length : Int)) ∧ (aaa (r.tasks.set t.toNat y) (aaa (r.tasks.set t.toNat y) i).view.parent).view.phase ≠ 0 ∧ rk (aaa (r.tasks.set t.toNat y) i).view.parent < rk i)
        rw [e3 i hi.1, List.length_set]
        rcases q1 i hi with q3 | ⟨q3, q4, q5⟩
        · exact .inl q3
        · exact .inr ⟨q3, e0 _ q3.1 q4, q5⟩
      · have hi : 0 ≤ i ∧ i < (r.tasks.length : Int) := by rw [List.length_set] at hi; exact hi
        show rk i < (r.tasks.set t.toNat y).length ∧ ((aaa (r.tasks.set t.toNat y) i).view.phase ≠ 0 → rk i < ada (r.tasks.set t.toNat y))
        rw [List.length_set, hc]
        refine ⟨(q2 i hi).1, fun hp => (q2 i hi).2 ?_⟩
        rw [agJ hr hi.1] at hp
        split at hp
        · rename_i e; rw [e]; exact h0
        · exact hp }
theorem BR.setN (h : BR n p r) (ht : 0 ≤ t ∧ t < (p.tasks.length : Int)) (h0 : (aaa r.tasks t).view.phase = 0) (ho : o = -1 ∨ (0 ≤ o ∧ o < (p.tasks.length : Int)) ∧ (aaa r.tasks o).view.phase ≠ 0)
    {x : TkP} {y : TkV} (k : TR1 n p.c x y) (k1 : y.view.phase = 1) (k3 : y.view.parent = o) :
    BR n { p with tasks := p.tasks.set t.toNat x, known := wi (p.known + 1) } { r with tasks := r.tasks.set t.toNat y } := by
  have hr : 0 ≤ t ∧ t < (r.tasks.length : Int) := by have := h.tl2; omega
  obtain ⟨hc, hlt⟩ := aqL hr h0 (x := y) (by rw [k1]; decide)
  have nst : ∀ v, 0 ≤ v ∧ v < p.c.workers → t ∉ (aac r.works v).stack := fun v hv hm => by have := (h.st v hv t hm).2.1; omega
  exact { h with
    tl := (congrArg (fun (n : Nat) => (n : Int)) List.length_set).trans h.tl
    tl2 := (List.length_set ..).trans (h.tl2.trans (List.length_set ..).symm)
    tl3 := by rw [List.length_set]; exact h.tl3
    tk := fun i hi => by
      have hi : 0 ≤ i ∧ i < (p.tasks.length : Int) := by rw [List.length_set] at hi; exact hi
      show TR1 n p.c (aab (p.tasks.set t.toNat x) i) (aaa (r.tasks.set t.toNat y) i)
      rw [asq ht hi.1, agJ hr hi.1]
      split
      · exact k
      · exact h.tk i hi
    kn := by
      show wi (p.known + 1) = (ada (r.tasks.set t.toNat y) : Int)
      have := h.kn
      have := h.tl3
      have := h.tl2
      rw [hc, abR (aaZ (by omega))]; omega
    st := fun v hv i hi => by
      obtain ⟨q1, q2, q3⟩ := h.st v hv i hi
      have hne : ¬ i = t := fun e => nst v hv (e ▸ hi)
      show (0 ≤ i ∧ i < ((p.tasks.set t.toNat x).length : Int)) ∧ (aaa (r.tasks.set t.toNat y) i).view.phase = 2 ∧ (aaa (r.tasks.set t.toNat y) i).view.worker = v
      rw [List.length_set, agJ hr q1.1, if_neg hne]
      exact ⟨q1, q2, q3⟩
    run := fun i hi hp => by
      have hi : 0 ≤ i ∧ i < (p.tasks.length : Int) := by rw [List.length_set] at hi; exact hi
      have hp : (aaa (r.tasks.set t.toNat y) i).view.phase = 2 := hp
      show (0 ≤ (aaa (r.tasks.set t.toNat y) i).view.worker ∧ (aaa (r.tasks.set t.toNat y) i).view.worker < p.c.workers) ∧ i ∈ (aac r.works (aaa (r.tasks.set t.toNat y) i).view.worker).stack
      rw [agJ hr hi.1] at hp ⊢
      split at hp
      · rw [k1] at hp; exact absurd hp (by decide)
      · rename_i e
        rw [if_neg e]
        exact h.run i hi hp
    rk := by
      obtain ⟨rk, q1, q2⟩ := h.rk
      have old : ∀ i, 0 ≤ i ∧ i < (r.tasks.length : Int) → (aaa r.tasks i).view.phase ≠ 0 → ¬ i = t := fun i _ hp e => hp (by rw [e]; exact h0)
      have ho2 : o = -1 ∨ ((0 ≤ o ∧ o < (r.tasks.length : Int)) ∧ (aaa r.tasks o).view.phase ≠ 0) := by rw [h.tl2]; exact ho
      refine ⟨fun i => if i = t then ada r.tasks else rk i, fun i hi => ?_, fun i hi => ?_⟩
      · have hi : 0 ≤ i ∧ i < (r.tasks.length : Int) := by rw [List.length_set] at hi; exact hi
        show (aaa (r.tasks.set t.toNat y) i).view.parent = -1 ∨ ((0 ≤ (aaa (r.tasks.set t.toNat y) i).view.parent ∧ (aaa (r.tasks.set t.toNat y) i).view.parent < ((r.tasks.set t.toNat y).length : Int)) ∧ (aaa (r.tasks.set t.toNat y) (aaa (r.tasks.set t.toNat y) i).view.parent).view.phase ≠ 0 ∧ (if (aaa (r.tasks.set t.toNat y) i).view.parent = t then ada r.tasks else rk (aaa (r.tasks.set t.toNat y) i).view.parent) < (if i = t then ada r.tasks else rk i))
        rw [List.length_set]
        by_cases e : i = t
        · subst e
          rw [ac9 hr, k3, if_pos rfl]
          rcases ho2 with e1 | ⟨e1, e2⟩
          · exact .inl e1
          · have hne := old o e1 e2
            rw [agJ hr e1.1, if_neg hne, if_neg hne]
            exact .inr ⟨e1, e2, (q2 o e1).2 e2⟩
        · rw [agJ hr hi.1, if_neg e, if_neg e]
          rcases q1 i hi with q3 | ⟨q3, q4, q5⟩
          · exact .inl q3
          · have hne := old _ q3 q4
            rw [agJ hr q3.1, if_neg hne, if_neg hne]
            exact .inr ⟨q3, q4, q5⟩
      · have hi : 0 ≤ i ∧ i < (r.tasks.length : Int) := by rw [List.length_set] at hi; exact hi
        show (if i = t then ada r.tasks else rk i) < (r.tasks.set t.toNat y).length ∧ ((aaa (r.tasks.set t.toNat y) i).view.phase ≠ 0 → (if i = t then ada r.tasks else rk i) < ada (r.tasks.set t.toNat y))
        rw [List.length_set, hc]
        by_cases e : i = t
        · rw [if_pos e]
          exact ⟨hlt, fun _ => by omega⟩
        · rw [if_neg e, agJ hr hi.1, if_neg e]
          exact ⟨(q2 i hi).1, fun hp => Nat.lt_succ_of_lt ((q2 i hi).2 hp)⟩ }
end
structure VC (c : Cfg) : Prop where
  pg : ∀ k, 0 ≤ k ∧ k < (c.progs.length : Int) → (atL [] c.progs k).length ≤ 1000000 ∧ ∀ a, 0 ≤ a → a < ((atL [] c.progs k).length : Int) → ((adQ (atL [] c.progs k) a).op = 1 → 0 ≤ (adQ (atL [] c.progs k) a).a ∧ (adQ (atL [] c.progs k) a).a < (c.progs.length : Int)) ∧ ((adQ (atL [] c.progs k) a).op = 2 → 0 ≤ (adQ (atL [] c.progs k) a).a)
  sb : ∀ o, 0 ≤ o ∧ o < (c.subs.length : Int) → 0 ≤ (acz c.subs o).prog ∧ (acz c.subs o).prog < (c.progs.length : Int)
  tk : 1 ≤ c.tasks
section
variable {n : Nat} {p : SyP} {r : SaV} {w t o l : Int}
theorem ape {P : List Ins} {kids : List Int} : ∀ {f : Nat} {a : Int}, (afK P kids f a).2.2 = true → (afK P kids f a).2.1.op = 1 ∨ (afK P kids f a).2.1.op = 2 ∧ chV kids (afK P kids f a).2.1.a ≠ -1
  | 0, a, h => by cases h
  | f + 1, a, h => by
    unfold afK at *
    split at h
    · rename_i h1
      rw [if_pos h1]
      split at h
      · rename_i h2
        rw [if_pos h2]; exact .inl h2
      · rename_i h2
        rw [if_neg h2]
        split at h
        · rename_i h3
          rw [if_pos h3]; exact .inr h3
        · rename_i h3
          rw [if_neg h3]; exact ape h
    · cases h
theorem att {kids : List Int} {a : Int} (h : chV kids a ≠ -1) : (0 ≤ a ∧ a < (kids.length : Int)) ∧ chV kids a = aaQ kids a := by
  unfold chV at *
  split at h
  · exact absurd rfl h
  · split at h
    · exact absurd rfl h
    · rename_i h1 h2
      rw [if_neg h1, if_neg h2]
      exact ⟨by omega, rfl⟩
theorem ah7 {c : Cfg} {x : WkP} {y : WlV} (h : WR1 n c x y) : anM x.stack x.walks = ah8 y.stack y.walk := by
  unfold anM ah8
  rw [h.stack]
  split
  · cases hx : x.walks with
    | true =>
      have := (h.won hx).2.1
      exact (decide_eq_false (by omega)).symm
    | false => exact (decide_eq_true (h.woff hx)).symm
  · rfl
theorem WR1.lst {c : Cfg} {x : WkP} {y : WlV} {e : Ev} (h : WR1 n c x y) : WR1 n c { x with last := e } { y with last := e } := { h with last := rfl }
theorem aq8 {c : Cfg} {x : WkP} {y : WlV} (h : WR1 n c x y) (hw : x.walks = true) : (x.up ≠ -1 → x.up = l) ↔ (0 ≤ y.up → y.up = l) := by
  obtain ⟨_, _, _, h1, h2⟩ := h.won hw
  rw [h1]; omega
theorem BR.po (h : BR n p r) (hn : n ≤ 1000000) : PO p where
  tl := h.tl
  wl := h.wl
  stk w hw := by
    have := h.wl
    by_cases e : w = p.c.workers
    · rw [e, h.cl.1]; exact Nat.zero_le _
    · exact Nat.le_trans (h.wk w (by omega)).sn hn
  kid t ht := Nat.le_trans (h.tk t ht).kn hn
  prg t ht := (h.tk t ht).pl
  at0 t ht := (h.tk t ht).at0
theorem BR.ro (h : BR n p r) (hn : n ≤ 1000000) : RO r where
  wl := by rw [h.c]; exact h.wl2
  stk w hw := by
    have := h.wl2
    have k := h.wk w (by omega)
    rw [← k.stack]; exact Nat.le_trans k.sn hn
  kid t ht := by
    have := h.tl2
    have k := h.tk t (by omega)
    rw [← k.kids]; exact Nat.le_trans k.kn hn
  tl := by have := h.tl2; have := h.tl3; omega
def StM (n : Nat) (p : SyP) (r : SaV) (e : Ev) : Prop :=
  (∃ p' r', aah p e = some ((true, ()), (p', ())) ∧ aam r e = some ((true, ()), (r', ())) ∧ BR (n + 1) p' r' ∧ p'.c = p.c) ∨
  (∃ q q', aah p e = some ((false, ()), (q, ())) ∧ SameV p q ∧ aam r e = some ((false, ()), (q', ())))
theorem aic {e : Ev} {C D : Prop} {p' : SyP} {r' : SaV} (hp : PS p e C p') (hr : RS r e D r') (hC : C ↔ D) (hB : C → BR (n + 1) p' r') (hc : p'.c = p.c) : StM n p r e := by
  obtain ⟨b, q, h1, h2, h3⟩ := hp
  obtain ⟨b', q', h4, h5, h6⟩ := hr
  cases b with
  | true =>
    obtain ⟨h7, rfl⟩ := h2 rfl
    cases b' with
    | true =>
      obtain ⟨h8, rfl⟩ := h5 rfl
      exact .inl ⟨_, _, h1, h4, hB h7, hc⟩
    | false => exact absurd (hC.1 h7) (h6 rfl)
  | false =>
    obtain ⟨h7, h8⟩ := h3 rfl
    cases b' with
    | true => exact absurd (hC.2 (h5 rfl).1) h7
    | false => exact .inr ⟨_, _, h1, h8, h4⟩
structure EI (p : SyP) (r : SaV) (k w t o l : Int) : Prop where
  hw : 0 ≤ w ∧ w < p.c.workers
  ht : 0 ≤ t ∧ t < (p.tasks.length : Int)
  hr : aai p ⟨k, w, t, o, l⟩ = some ((true, ()), (p, ()))
  hf : aaf r ⟨k, w, t, o, l⟩ = some ((true, ()), (r, ()))
section
variable {k : Int} (hn : n ≤ 999999) (h : BR n p r) (e : EI p r k w t o l)
include h e
theorem EI.wp : 0 ≤ w ∧ w < (p.works.length : Int) := by have := h.wl; have := e.hw; omega
theorem EI.wr : 0 ≤ w ∧ w < (r.works.length : Int) := by have := h.wl2; have := e.hw; omega
theorem EI.tr : 0 ≤ t ∧ t < (r.tasks.length : Int) := by have := h.tl2; have := e.ht; omega
end
theorem atW (hn : n ≤ 999999) (h : BR n p r) (e : EI p r 12 w t o l) (hs : (aad p.works w).sleeps = false) : StM n p r ⟨12, w, t, o, l⟩ := by
  have T := h.tk t e.ht
  have W := h.wk w e.hw
  refine aic (auh (h.po (by omega)) (e.wp h) e.ht e.hr hs) (at6 (h.ro (by omega)) (e.wr h) (e.tr h) e.hf) ?_ (fun hC => ?_) rfl
  · rw [h.c, ah7 W, T.ph, T.lv]
  · exact (h.mono.setT e.ht (x := { aab p.tasks t with lv := l }) (y := { aaa r.tasks t with view := { (aaa r.tasks t).view with level := l } }) { T.mono with lv := rfl } rfl rfl rfl).setW e.hw W.mono.lst rfl
theorem atT (hn : n ≤ 999999) (h : BR n p r) (e : EI p r 14 w t o l) (ho : 0 ≤ o ∧ o < p.c.workers) (hs : (aad p.works w).sleeps = false) : StM n p r ⟨14, w, t, o, l⟩ := by
  have T := h.tk t e.ht
  have W := h.wk w e.hw
  refine aic (auf (h.po (by omega)) (e.wp h) e.ht e.hr hs) (atC (h.ro (by omega)) (e.wr h) (e.tr h) e.hf) ?_ (fun hC => ?_) rfl
  · rw [h.c, ah7 W, T.ph]
    exact ⟨fun ⟨a, b, c⟩ => ⟨a, b, ho, c⟩, fun ⟨a, b, _, c⟩ => ⟨a, b, c⟩⟩
  · exact h.mono.setW e.hw W.mono.lst rfl
theorem atS (hn : n ≤ 999999) (h : BR n p r) (e : EI p r 15 w t o l) (hs : (aad p.works w).sleeps = false) : StM n p r ⟨15, w, t, o, l⟩ := by
  have T := h.tk t e.ht
  have W := h.wk w e.hw
  refine aic (aue (h.po (by omega)) (e.wp h) e.ht e.hr hs) (at4 (h.ro (by omega)) (e.wr h) (e.tr h) e.hf) ?_ (fun hC => ?_) rfl
  · rw [T.ph]
  · exact h.mono.setW e.hw W.mono.lst rfl
theorem atR (hn : n ≤ 999999) (h : BR n p r) (e : EI p r 16 w t o l) (hs : (aad p.works w).sleeps = false) : StM n p r ⟨16, w, t, o, l⟩ := by
  have W := h.wk w e.hw
  refine aic (aud (h.po (by omega)) (e.wp h) e.ht e.hr hs) (at3 (h.ro (by omega)) (e.wr h) (e.tr h) e.hf) ?_ (fun hC => ?_) rfl
  · rw [ah7 W]
  · exact h.mono.setW e.hw (x := { aad p.works w with sleeps := true, last := ⟨16, w, t, o, l⟩ }) (y := { aac r.works w with sleeps := true, last := ⟨16, w, t, o, l⟩ }) { W.mono with sleeps := rfl, last := rfl } rfl
theorem atQ (hn : n ≤ 999999) (h : BR n p r) (e : EI p r 17 w t o l) (hs : (aad p.works w).sleeps = true) : StM n p r ⟨17, w, t, o, l⟩ := by
  have W := h.wk w e.hw
  refine aic (auc (h.po (by omega)) (e.wp h) e.ht e.hr hs) (at2 (h.ro (by omega)) (e.wr h) (e.tr h) e.hf) Iff.rfl (fun hC => ?_) rfl
  exact h.mono.setW e.hw (x := { aad p.works w with sleeps := false, last := ⟨17, w, t, o, l⟩ }) (y := { aac r.works w with sleeps := false, last := ⟨17, w, t, o, l⟩ }) { W.mono with sleeps := rfl, last := rfl } rfl
theorem atP (hn : n ≤ 999999) (h : BR n p r) (e : EI p r 18 w t o l) (ho : 0 ≤ o ∧ o < p.c.workers) (hs : (aad p.works w).sleeps = false) : StM n p r ⟨18, w, t, o, l⟩ := by
  have W := h.wk w e.hw
  refine aic (atF (h.po (by omega)) (e.wp h) e.ht e.hr hs) (atB (h.ro (by omega)) (e.wr h) (e.tr h) e.hf) ?_ (fun hC => ?_) rfl
  · rw [h.c]; exact ⟨fun _ => ho, fun _ => True.intro⟩
  · exact h.mono.setW e.hw W.mono.lst rfl
theorem atO (hn : n ≤ 999999) (h : BR n p r) (e : EI p r 19 w t o l) (hs : (aad p.works w).sleeps = false) : StM n p r ⟨19, w, t, o, l⟩ := by
  have T := h.tk t e.ht
  have W := h.wk w e.hw
  refine aic (aub (h.po (by omega)) (e.wp h) e.ht e.hr hs) (at1 (h.ro (by omega)) (e.wr h) (e.tr h) e.hf) ?_ (fun hC => ?_) rfl
  · rw [T.ph]
  · exact h.mono.setW e.hw W.mono.lst rfl
theorem st7 (hn : n ≤ 999999) (h : BR n p r) (e : EI p r 7 w t o l) (hs : (aad p.works w).sleeps = false) : StM n p r ⟨7, w, t, o, l⟩ := by
  have T := h.tk t e.ht
  have W := h.wk w e.hw
  refine aic (pk7 (h.po (by omega)) (e.wp h) e.ht e.hr hs) (rk7 (h.ro (by omega)) (e.wr h) (e.tr h) e.hf) ?_ (fun hC => ?_) rfl
  · cases hw : (aad p.works w).walks with
    | true =>
      obtain ⟨h1, _, h2, h3, h4⟩ := W.won hw
      rw [h1, h2, T.lv, aq8 W hw]
      exact ⟨fun ⟨_, a⟩ => a, fun a => ⟨rfl, a⟩⟩
    | false =>
      have h1 := W.woff hw
      rw [h1]
      exact ⟨(fun h => by cases h.1), (fun h => by have := h.1; have := e.ht; omega)⟩
  · exact h.mono.setW e.hw (x := { aad p.works w with walks := false, last := ⟨7, w, t, o, l⟩ }) (y := { aac r.works w with walk := -1, last := ⟨7, w, t, o, l⟩ }) { W.mono with won := (fun h => nomatch h), woff := fun _ => rfl, last := rfl } rfl
theorem atX (hn : n ≤ 999999) (hl0 : 0 ≤ l) (h : BR n p r) (e : EI p r 11 w t o l) (hs : (aad p.works w).sleeps = false) : StM n p r ⟨11, w, t, o, l⟩ := by
  have T := h.tk t e.ht
  have W := h.wk w e.hw
  obtain ⟨rk, k1, k2⟩ := h.rk
  have hl := h.tl2
  have hl3 := h.tl3
  have htl := h.tl
  have k3 : ∀ i, 0 ≤ i ∧ i < (r.tasks.length : Int) → (aaa r.tasks i).view.parent = -1 ∨ (0 ≤ (aaa r.tasks i).view.parent ∧ (aaa r.tasks i).view.parent < (r.tasks.length : Int)) ∧ rk (aaa r.tasks i).view.parent < rk i := fun i hi => (k1 i hi).imp_right fun h => ⟨h.1, h.2.2⟩
  have k4 : ∀ i, 0 ≤ i ∧ i < (p.tasks.length : Int) → (aab p.tasks i).pa = -1 ∨ (0 ≤ (aab p.tasks i).pa ∧ (aab p.tasks i).pa < (p.tasks.length : Int)) ∧ rk (aab p.tasks i).pa < rk i := fun i hi => by
    rw [(h.tk i hi).pa, ← hl]
    exact k3 i (by omega)
  have wkP : (aad p.works w).walks = true → 0 ≤ (aad p.works w).walk ∧ (aad p.works w).walk < (p.tasks.length : Int) := fun hw => by
    obtain ⟨h1, h2, _⟩ := W.won hw
    rw [h1]; omega
  have wkR : (aac r.works w).walk ≠ -1 → 0 ≤ (aac r.works w).walk ∧ (aac r.works w).walk < (r.tasks.length : Int) := fun hne => by
    cases hw : (aad p.works w).walks with
    | true => have := (W.won hw).2.1; omega
    | false => exact absurd (W.woff hw) hne
  have hrt := (k2 t (e.tr h)).1
  have des : ∀ (x : Int) (m : Nat) (i : Int), 0 ≤ i ∧ i < (p.tasks.length : Int) → alI (fun i => (aab p.tasks i).pa) x m i = alI (fun i => (aaa r.tasks i).view.parent) x m i := fun x m => by
    induction m with
    | zero => intro i _; rfl
    | succ m ih =>
      intro i hi
      unfold alI
      rw [(h.tk i hi).pa]
      rcases k3 i (by omega) with h1 | ⟨h1, _⟩
      · rw [if_pos h1, if_pos h1]
      · rw [ih _ (by omega)]
  refine aic (aui (h.po (by omega)) (e.wp h) e.ht wkP k4 (by omega) (by omega) e.hr hs) (at7 (h.ro (by omega)) (e.wr h) (e.tr h) wkR k3 hrt e.hf) ?_ (fun hC => ?_) rfl
  · cases hw : (aad p.works w).walks with
    | true =>
      obtain ⟨h1, h2, _, h3, h4⟩ := W.won hw
      have h5 := (h.tk (aac r.works w).walk (by omega)).lv
      rw [h1, h5, T.lv, aq8 W hw, des _ _ _ e.ht, hl]
      exact ⟨fun ⟨_, a⟩ => ⟨by omega, a⟩, fun ⟨_, a⟩ => ⟨rfl, a⟩⟩
    | false =>
      have h1 := W.woff hw
      exact ⟨(fun h => by cases h.1), (fun h => absurd h1 h.1)⟩
  · obtain ⟨h1, h2, h3, h4, h5⟩ := W.won hC.1
    exact (h.mono.setT e.ht (x := { aab p.tasks t with lv := l }) (y := { aaa r.tasks t with view := { (aaa r.tasks t).view with level := l } }) { T.mono with lv := rfl } rfl rfl rfl).setW e.hw (x := { aad p.works w with up := l, last := ⟨11, w, t, o, l⟩ }) (y := { aac r.works w with up := l, last := ⟨11, w, t, o, l⟩ }) { W.mono with won := fun hx => ⟨h1, h2, h3, rfl, by show -1 ≤ l; omega⟩, last := rfl } rfl
end
section
variable {n : Nat} {p : SyP} {r : SaV} {w t o l : Int}
theorem ahr {c : Cfg} {x : TkP} {y : TkV} (T : TR1 n c x y) : prT x = prR x.prog y := by
  unfold prT prR; rw [T.kids, T.pc]
theorem BR.top (h : BR n p r) (hw : 0 ≤ w ∧ w < p.c.workers) (htop : adg (aac r.works w).stack = t) (ht : 0 ≤ t) : (0 ≤ t ∧ t < (p.tasks.length : Int)) ∧ (aaa r.tasks t).view.phase = 2 ∧ (aaa r.tasks t).view.worker = w := by
  refine h.st w hw t ?_
  rw [ai6 htop ht]
  exact List.mem_append.2 (.inr (List.mem_singleton.2 rfl))
theorem BR.rp (hv : VC p.c) (h : BR n p r) (hw : 0 ≤ w ∧ w < p.c.workers) (ht : 0 ≤ t) (htop : adg (aac r.works w).stack = t) : RP r t (aab p.tasks t).prog := by
  obtain ⟨h1, h2, _⟩ := h.top hw htop ht
  have T := h.tk t h1
  obtain ⟨h3, h4⟩ := T.prog (by rw [T.ph, h2]; decide)
  have h5 := hv.pg _ h3
  exact { p0 := by rw [h.c]; exact h3
          pe := by rw [h.c]; exact h4.symm
          pc := by rw [← T.pc]; exact T.at0
          pl := T.pl
          ja := fun a a0 a1 a2 => by
            rw [h4] at a1 a2 ⊢
            exact (h5.2 a a0 a1).2 a2 }
theorem aij {c : Cfg} {x : TkP} {y : TkV} (T : TR1 n c x y) (hb : (prT x).2.2 = true) : wi ((prT x).1 + 1) = (prT x).1 + 1 ∧ 0 ≤ (prT x).1 ∧ (prT x).1 < (x.prog.length : Int) ∧ (prT x).2.1 = adQ x.prog (prT x).1 := by
  have h := ahq (kids := x.kids) T.at0.1 T.at0.2
  have hb : (ajn x.prog x.kids x.at_).2.2 = true := hb
  have h2 := h.2 hb
  have := T.pl
  have := T.at0
  have h3 : x.at_ ≤ (prT x).1 := h.1.1
  have h4 : (prT x).1 < (x.prog.length : Int) := h2.1
  exact ⟨abR (aaZ (by omega)), by omega, h4, h2.2⟩
theorem aln {c : Cfg} {x : TkP} {y : TkV} (T : TR1 n c x y) (hb : (prT x).2.2 = true) : 0 ≤ wi ((prT x).1 + 1) ∧ wi ((prT x).1 + 1) ≤ (x.prog.length : Int) := by
  obtain ⟨a1, a2, a3, _⟩ := aij T hb
  rw [a1]; omega
theorem akL {xs : List Int} {a : Int} (h : xs.length ≤ n) : (xs ++ [a]).length ≤ n + 1 := by
  rw [List.length_append]; exact Nat.add_le_add_right h 1
theorem agH {P : List Ins} {y : TkV} (hb : (prR P y).2.2 = true) (h2 : (prR P y).2.1.op = 2) : (0 ≤ (prR P y).2.1.a ∧ (prR P y).2.1.a < (y.kids.length : Int)) ∧ chV y.kids (prR P y).2.1.a = aaQ y.kids (prR P y).2.1.a := by
  have hb : (afK P y.kids (P.length + 1) y.pc).2.2 = true := hb
  rcases ape hb with h | h
  · have h2 : (afK P y.kids (P.length + 1) y.pc).2.1.op = 2 := h2
    omega
  · exact att h.2
theorem WR1.push {c : Cfg} {x : WkP} {y : WlV} {e : Ev} (W : WR1 n c x y) : WR1 (n + 1) c { x with stack := x.stack ++ [t], last := e } { y with stack := y.stack ++ [t], last := e } :=
  { W with stack := by show x.stack ++ [t] = y.stack ++ [t]; rw [W.stack]
           sn := by show (x.stack ++ [t]).length ≤ n + 1; rw [List.length_append]; exact Nat.add_le_add_right W.sn 1
           last := rfl }
theorem WR1.pop {c : Cfg} {x : WkP} {y : WlV} {e : Ev} (W : WR1 n c x y) : WR1 (n + 1) c { x with stack := ajs x.stack, last := e } { y with stack := amn y.stack, last := e } :=
  { W with stack := by show ajs x.stack = ajs y.stack; rw [W.stack]
           sn := by
            show (ajs x.stack).length ≤ n + 1
            unfold ajs
            rw [List.length_take]
            have := W.sn
            omega
           last := rfl }
theorem TR1.run {c : Cfg} {x : TkP} {y : TkV} (T : TR1 n c x y) (h0 : x.ph ≠ 0) : TR1 (n + 1) c { x with ph := 2, wt := -1 } { y with view := { y.view with phase := 2, worker := w, other := -1 } } :=
  { T.mono with ph := rfl, wt := rfl, prog := fun _ => T.prog h0, ot := fun _ => rfl, wr := (fun h => by cases h), wk := fun h => absurd rfl h }
theorem st5 (hn : n ≤ 999999) (h : BR n p r) (e : EI p r 5 w t o l) (hs : (aad p.works w).sleeps = false) : StM n p r ⟨5, w, t, o, l⟩ := by
  have T := h.tk t e.ht
  have W := h.wk w e.hw
  refine aic (pk5 (h.po (by omega)) (e.wp h) e.ht e.hr hs) (rk5 (h.ro (by omega)) (e.wr h) (e.tr h) e.hf) ?_ (fun hC => ?_) rfl
  · rw [ah7 W, T.ph, W.last]
  · have h1 := hC.1
    have h2 := T.ph
    exact h.mono.setR e.hw e.ht (by omega) (by omega) (T.run (by omega)) rfl rfl rfl W.push rfl
theorem st9 (hn : n ≤ 999999) (h : BR n p r) (e : EI p r 9 w t o l) (hs : (aad p.works w).sleeps = false) : StM n p r ⟨9, w, t, o, l⟩ := by
  have T := h.tk t e.ht
  have W := h.wk w e.hw
  have hl := h.tl2
  have hl2 := h.tl
  have wr : (aab p.tasks t).ph = 3 → 0 ≤ (aab p.tasks t).wt ∧ (aab p.tasks t).wt < (p.tasks.length : Int) := fun h3 => by have := T.wr h3; omega
  refine aic (pk9 (h.po (by omega)) (e.wp h) e.ht wr e.hr hs) (rk9 (h.ro (by omega)) (e.wr h) (e.tr h) (fun h3 => by rw [← T.wt, hl]; exact wr (T.ph.trans h3)) e.hf) ?_ (fun hC => ?_) rfl
  · rw [ah7 W, W.last, ← T.wt, ← T.ph]
    refine ⟨fun ⟨h1, h2⟩ => ⟨h1, ?_⟩, fun ⟨h1, h2⟩ => ⟨h1, ?_⟩⟩
    · rw [← (h.tk _ (wr h1)).ph]; exact h2
    · rw [(h.tk _ (wr h1)).ph]; exact h2
  · have h1 := hC.1
    have h2 := T.ph
    exact h.mono.setR e.hw e.ht (by omega) (by omega) (T.run (by omega)) rfl rfl rfl W.push rfl
theorem atY (hv : VC p.c) (hn : n ≤ 999999) (h : BR n p r) (e : EI p r 10 w t o l) (hs : (aad p.works w).sleeps = false) : StM n p r ⟨10, w, t, o, l⟩ := by
  have T := h.tk t e.ht
  have W := h.wk w e.hw
  refine aic (auj (h.po (by omega)) (e.wp h) e.ht e.hr hs) (at8 (h.ro (by omega)) (e.wr h) (e.tr h) (h.rp hv e.hw e.ht.1) e.hf) ?_ (fun hC => ?_) rfl
  · rw [W.stack, ahr T]
  · have htop : adg (aac r.works w).stack = t := by rw [← W.stack]; exact hC.1
    obtain ⟨_, h2, _⟩ := h.top e.hw htop e.ht.1
    have h3 := T.ph
    refine h.mono.setP e.hw e.ht htop (x := { aab p.tasks t with at_ := (prT (aab p.tasks t)).1, ph := 4 }) (y := { aaa r.tasks t with pc := (prR (aab p.tasks t).prog (aaa r.tasks t)).1, view := { (aaa r.tasks t).view with phase := 4, worker := -1 } }) ?_ (show (4 : Int) ≠ 0 by decide) (show (4 : Int) ≠ 2 by decide) rfl W.pop rfl
    exact { T.mono with ph := rfl, pc := congrArg (fun v => v.1) (ahr T), at0 := ⟨Int.le_trans T.at0.1 (ahq T.at0.1 T.at0.2).1.1, (ahq T.at0.1 T.at0.2).1.2⟩, prog := fun _ => T.prog (by omega), ot := fun _ => T.ot (by omega), wr := (fun h => by cases h), wk := fun _ => rfl }
theorem st8 (hv : VC p.c) (hn : n ≤ 999999) (h : BR n p r) (e : EI p r 8 w t o l) (ho : 0 ≤ o ∧ o < (p.tasks.length : Int)) (hs : (aad p.works w).sleeps = false) : StM n p r ⟨8, w, t, o, l⟩ := by
  have T := h.tk t e.ht
  have W := h.wk w e.hw
  have O := h.tk o ho
  have hl := h.tl2
  refine aic (pk8 (h.po (by omega)) (e.wp h) e.ht ho e.hr hs) (rk8 (P := (aab p.tasks t).prog) (h.ro (by omega)) (e.wr h) (e.tr h) (by omega) (fun P _ _ hb h2 => (agH hb h2).1) (h.rp hv e.hw e.ht.1) e.hf) ?_ (fun hC => ?_) rfl
  · rw [W.stack, ahr T, T.kids, O.ph]
    exact ⟨fun ⟨a, b, c, d, f⟩ => ⟨a, b, c, (agH b c).2.symm.trans d, f⟩, fun ⟨a, b, c, d, f⟩ => ⟨a, b, c, (agH b c).2.trans d, f⟩⟩
  · obtain ⟨a1, a2, a3, _⟩ := aij T hC.2.1
    refine (h.mono.setT e.ht (x := { aab p.tasks t with at_ := wi ((prT (aab p.tasks t)).1 + 1) }) (y := { aaa r.tasks t with pc := wi ((prR (aab p.tasks t).prog (aaa r.tasks t)).1 + 1) }) ?_ rfl rfl rfl).setW e.hw W.mono.lst rfl
    exact { T.mono with pc := congrArg (fun v => wi (v.1 + 1)) (ahr T), at0 := aln T hC.2.1 }
theorem st6 (hv : VC p.c) (hn : n ≤ 999999) (h : BR n p r) (e : EI p r 6 w t o l) (ho : 0 ≤ o ∧ o < (p.tasks.length : Int)) (hs : (aad p.works w).sleeps = false) : StM n p r ⟨6, w, t, o, l⟩ := by
  have T := h.tk t e.ht
  have W := h.wk w e.hw
  have O := h.tk o ho
  have hl := h.tl2
  have htl := h.tl
  refine aic (pk6 (h.po (by omega)) (e.wp h) e.ht ho e.hr hs) (rk6 (P := (aab p.tasks t).prog) (h.ro (by omega)) (e.wr h) (e.tr h) (by omega) (fun P _ _ hb h2 => (agH hb h2).1) (h.rp hv e.hw e.ht.1) e.hf) ?_ (fun hC => ?_) rfl
  · rw [W.stack, ahr T, T.kids, O.ph]
    exact ⟨fun ⟨a, b, c, d, f⟩ => ⟨a, b, c, (agH b c).2.symm.trans d, f⟩, fun ⟨a, b, c, d, f⟩ => ⟨a, b, c, (agH b c).2.trans d, f⟩⟩
  · obtain ⟨a1, a2, a3, _⟩ := aij T hC.2.1
    have htop : adg (aac r.works w).stack = t := by rw [← W.stack]; exact hC.1
    obtain ⟨_, h2, _⟩ := h.top e.hw htop e.ht.1
    have h3 := T.ph
    have ht := e.ht
    refine h.mono.setP e.hw e.ht htop (x := { aab p.tasks t with at_ := wi ((prT (aab p.tasks t)).1 + 1), ph := 3, wt := o }) (y := { aaa r.tasks t with pc := wi ((prR (aab p.tasks t).prog (aaa r.tasks t)).1 + 1), view := { (aaa r.tasks t).view with phase := 3, worker := -1, other := o } }) ?_ (show (3 : Int) ≠ 0 by decide) (show (3 : Int) ≠ 2 by decide) rfl
      (X := ⟨ajs (aad p.works w).stack, true, t, (aab p.tasks t).lv, -1, (aad p.works w).sleeps, ⟨6, w, t, o, l⟩⟩) (Y := { aac r.works w with stack := amn (aac r.works w).stack, walk := t, low := (aaa r.tasks t).view.level, up := -1, last := ⟨6, w, t, o, l⟩ }) ?_ rfl
    · exact { T.mono with ph := rfl, wt := rfl, pc := congrArg (fun v => wi (v.1 + 1)) (ahr T), at0 := aln T hC.2.1, prog := fun _ => T.prog (by omega), ot := fun h => absurd rfl h, wr := fun _ => by show 0 ≤ o ∧ o < p.c.tasks; omega, wk := fun _ => rfl }
    · have Q := W.pop (e := ⟨6, w, t, o, l⟩)
      exact { stack := Q.stack, sn := Q.sn, sleeps := W.sleeps, last := rfl, won := fun _ => ⟨rfl, (by show 0 ≤ t ∧ t < p.c.tasks; omega), T.lv, rfl, Int.le_refl _⟩, woff := (fun h => nomatch h) }
theorem st4 (hv : VC p.c) (hn : n ≤ 999999) (h : BR n p r) (e : EI p r 4 w t o l) (hs : (aad p.works w).sleeps = false) : StM n p r ⟨4, w, t, o, l⟩ := by
  have T := h.tk t e.ht
  have W := h.wk w e.hw
  refine aic (pk4 (h.po (by omega)) (e.wp h) e.ht e.hr hs) (rk4 (P := (aab p.tasks t).prog) (h.ro (by omega)) (e.wr h) (e.tr h) (h.rp hv e.hw e.ht.1) e.hf) ?_ (fun hC => ?_) rfl
  · rw [W.stack, ahr T, h.c, h.kn]
    exact ⟨fun ⟨a, b, c, d⟩ => ⟨a, c, d, b⟩, fun ⟨a, b, c, d⟩ => ⟨a, d, b, c⟩⟩
  · obtain ⟨a1, a2, a3, _⟩ := aij T hC.2.2.1
    refine (h.mono.setT e.ht (x := { aab p.tasks t with at_ := wi ((prT (aab p.tasks t)).1 + 1), kids := (aab p.tasks t).kids ++ [-1] }) (y := { aaa r.tasks t with pc := wi ((prR (aab p.tasks t).prog (aaa r.tasks t)).1 + 1), kids := (aaa r.tasks t).kids ++ [-1] }) ?_ rfl rfl rfl).setW e.hw W.mono.lst rfl
    exact { T.mono with pc := congrArg (fun v => wi (v.1 + 1)) (ahr T), at0 := aln T hC.2.2.1, kids := by show _ ++ _ = _ ++ _; rw [T.kids], kn := akL T.kn }
theorem st3 (hv : VC p.c) (hn : n ≤ 999999) (h : BR n p r) (e : EI p r 3 w t o l) (ho : 0 ≤ o ∧ o < (p.tasks.length : Int)) (hs : (aad p.works w).sleeps = false) : StM n p r ⟨3, w, t, o, l⟩ := by
  have T := h.tk t e.ht
  have W := h.wk w e.hw
  have O := h.tk o ho
  have hl := h.tl2
  have rp := h.rp hv e.hw ho.1
  have hi : adg (aad p.works w).stack = o → (prT (aab p.tasks o)).2.2 = true → (prT (aab p.tasks o)).2.1.op = 1 → (0 ≤ (prT (aab p.tasks o)).2.1.a ∧ (prT (aab p.tasks o)).2.1.a < (p.c.progs.length : Int)) := fun htp hb h1 => by
    rw [W.stack] at htp
    obtain ⟨_, h2, _⟩ := h.top e.hw htp ho.1
    obtain ⟨a1, a2, a3, a4⟩ := aij O hb
    obtain ⟨h3, h4⟩ := O.prog (by rw [O.ph, h2]; decide)
    rw [a4] at h1 ⊢
    rw [h4] at h1 a3 ⊢
    exact ((hv.pg _ h3).2 _ a2 a3).1 h1
  refine aic (pk3 (h.po (by omega)) (e.wp h) e.ht ho hi e.hr hs) (rk3 (P := (aab p.tasks o).prog) (h.ro (by omega)) (e.wr h) (e.tr h) (by omega) (fun htp => by rw [(h.top e.hw htp ho.1).2.1]; decide) rp e.hf) ?_ (fun hC => ?_) rfl
  · rw [W.stack, ahr O, T.ph]
    exact ⟨fun ⟨a, b, c, d, f⟩ => ⟨a, c, d, f, b⟩, fun ⟨a, b, c, d, f⟩ => ⟨a, f, b, c, d⟩⟩
  · obtain ⟨c1, c2, c3, c4, c5⟩ := hC
    obtain ⟨a1, a2, a3, a4⟩ := aij O c3
    have htp : adg (aac r.works w).stack = o := by rw [← W.stack]; exact c1
    obtain ⟨_, h2, _⟩ := h.top e.hw htp ho.1
    have hin := hi c1 c3 c4
    have hne : ¬ t = o := fun e2 => by rw [e2, O.ph, h2] at c2; exact absurd c2 (by decide)
    have B1 := h.mono.setT ho (x := { aab p.tasks o with at_ := wi ((prT (aab p.tasks o)).1 + 1), kids := (aab p.tasks o).kids ++ [t] }) (y := { aaa r.tasks o with pc := wi ((prR (aab p.tasks o).prog (aaa r.tasks o)).1 + 1), kids := (aaa r.tasks o).kids ++ [t] })
      { O.mono with pc := congrArg (fun v => wi (v.1 + 1)) (ahr O), at0 := aln O c3, kids := by show _ ++ _ = _ ++ _; rw [O.kids], kn := akL O.kn } rfl rfl rfl
    have ht2 : 0 ≤ t ∧ t < ((p.tasks.set o.toNat { aab p.tasks o with at_ := wi ((prT (aab p.tasks o)).1 + 1), kids := (aab p.tasks o).kids ++ [t] }).length : Int) := by rw [List.length_set]; exact e.ht
    have ho2 : 0 ≤ o ∧ o < ((p.tasks.set o.toNat { aab p.tasks o with at_ := wi ((prT (aab p.tasks o)).1 + 1), kids := (aab p.tasks o).kids ++ [t] }).length : Int) := by rw [List.length_set]; exact ho
    have hor : 0 ≤ o ∧ o < (r.tasks.length : Int) := by omega
    refine (B1.setN (o := o) (x := ⟨1, l, o, atL [] p.c.progs (prT (aab p.tasks o)).2.1.a, 0, [], -1⟩) (y := ⟨⟨1, l, o, -1, -1⟩, (prR (aab p.tasks o).prog (aaa r.tasks o)).2.1.a, 0, []⟩) ht2 ?_ (.inr ⟨ho2, ?_⟩) ?_ rfl rfl).setW e.hw W.mono.lst rfl
    · show (aaa (r.tasks.set o.toNat _) t).view.phase = 0
      rw [agJ hor e.ht.1, if_neg hne, ← T.ph]; exact c2
    · show (aaa (r.tasks.set o.toNat _) o).view.phase ≠ 0
      rw [ac9 hor]
      show (aaa r.tasks o).view.phase ≠ 0
      rw [h2]; decide
    · exact { ph := rfl, lv := rfl, pa := rfl, wt := rfl, pc := rfl, kids := rfl, kn := Nat.zero_le _, at0 := ⟨Int.le_refl _, Int.natCast_nonneg _⟩, prog := fun _ => by rw [← ahr O]; exact ⟨hin, rfl⟩, pl := (hv.pg _ hin).1, ot := fun _ => rfl, wr := (fun h => by cases h), wk := fun _ => rfl }
end
section
variable {n : Nat} {p : SyP} {r : SaV} {w t o l : Int}
theorem aiY {ks : List KyV} {i : Nat} (h : i < ks.length) : adi ks (i : Int) = ks[i] := by
  have a1 := abV (α := KyV) (d := (dfR 68 : KyV)) (xs := ks) (i := (i : Int)) ⟨by omega, by omega⟩
  rw [Int.toNat_natCast, List.getElem?_eq_getElem h] at a1
  exact (Option.some.inj a1).symm
theorem aqT {ks : List KyV} {i : Nat} (h : i < ks.length) : aax ks (i : Int) = ks[i] := by
  have a1 := abV (α := KyV) (d := (dfR 63 : KyV)) (xs := ks) (i := (i : Int)) ⟨by omega, by omega⟩
  rw [Int.toNat_natCast, List.getElem?_eq_getElem h] at a1
  exact (Option.some.inj a1).symm
theorem Srt.pw {ks : List KyV} {m : Int} (h : Srt ks m) : ks.Pairwise leK ∧ ∀ a ∈ ks, a.arrival < m := by
  refine ⟨List.pairwise_iff_getElem.2 fun i j hi hj hij => ?_, fun a ha => ?_⟩
  · have := h.s i j hij hj
    rw [aiY hi, aiY hj] at this
    exact this
  · obtain ⟨i, hi, rfl⟩ := List.getElem_of_mem ha
    have := h.a i hi
    rw [aiY hi] at this
    exact this
theorem Srt.of {ks : List KyV} {m : Int} (h1 : ks.Pairwise leK) (h2 : ∀ a ∈ ks, a.arrival < m) : Srt ks m where
  s i j hij hj := by
    rw [aiY (by omega), aiY hj]
    exact List.pairwise_iff_getElem.1 h1 i j (by omega) hj hij
  a i hi := by
    rw [aiY hi]; exact h2 _ (List.getElem_mem hi)
theorem amf {x : CtP} {y : QuV} {i : Nat} (h : QR n x y) (h0 : 0 < x.keys.length) (hi : i < y.keys.length) (hm : ∀ j : Nat, j < y.keys.length → ¬ leK (aax y.keys (j : Int)) (aax y.keys (i : Int))) : y.keys[i] = x.keys[0] := by
  have ha : y.keys[i] ∈ x.keys := h.pm.mem_iff.2 (List.getElem_mem hi)
  obtain ⟨m, hm1, hm2⟩ := List.getElem_of_mem ha
  by_cases e : m = 0
  · subst e; exact hm2.symm
  · exfalso
    have hb : x.keys[0] ∈ y.keys := h.pm.mem_iff.1 (List.getElem_mem h0)
    obtain ⟨j, hj1, hj2⟩ := List.getElem_of_mem hb
    have k := hm j hj1
    rw [aqT hj1, aqT hi, hj2, ← hm2] at k
    exact k (List.pairwise_iff_getElem.1 h.s.pw.1 0 m h0 hm1 (by omega))
theorem atU (hn : n ≤ 999999) (h : BR n p r) (e : EI p r 13 w t o l) (hs : (aad p.works w).sleeps = false) : StM n p r ⟨13, w, t, o, l⟩ := by
  have W := h.wk w e.hw
  have Q := h.qu
  have hl := Q.pm.length_eq
  have nb := Q.nb
  obtain ⟨i, h1, h2⟩ := at5 (h.ro (by omega)) (e.wr h) (by omega) e.hf
  refine aic (aug (h.po (by omega)) (e.wp h) e.ht e.hr hs) h2 ?_ (fun hC => ?_) rfl
  · rw [ah7 W, hl]
    refine and_congr_right fun _ => and_congr_right fun h3 => ?_
    obtain ⟨h4, h5⟩ := h1 h3
    have h6 := amf Q (by omega) h4 h5
    rw [aqT h4, h6]
    have : adi p.queue.keys 0 = p.queue.keys[0] := aiY (i := 0) (by omega)
    rw [this]
  · have h3 : 0 < r.queue.keys.length := by rw [← hl]; exact hC.2.1
    obtain ⟨h4, h5⟩ := h1 h3
    have h6 := amf Q (by omega) h4 h5
    refine (h.mono.setW e.hw (W.mono.lst (e := ⟨13, w, t, o, l⟩)) rfl).setQ (x := ⟨p.queue.keys.drop 1, p.queue.count⟩) (y := ⟨r.queue.keys.take i ++ r.queue.keys.drop (i + 1), r.queue.count⟩) (o := p.offers) ?_ ⟨h.of0.1, by have := h.of0.2; omega⟩ |> fun B => by
      have e1 : ({ r with works := r.works.set w.toNat { aac r.works w with last := ⟨13, w, t, o, l⟩ }, queue := ⟨r.queue.keys.take i ++ r.queue.keys.drop (i + 1), r.queue.count⟩ } : SaV) = { r with works := r.works.set w.toNat { aac r.works w with last := ⟨13, w, t, o, l⟩ }, queue := ⟨r.queue.keys.take i ++ r.queue.keys.drop (i + 1), r.queue.count⟩, offers := p.offers } := by rw [← h.of]
      rw [e1]; exact B
    obtain ⟨p1, p2⟩ := Q.s.pw
    have e1 : p.queue.keys = p.queue.keys[0]'(by omega) :: p.queue.keys.drop 1 := by
      rw [← List.drop_eq_getElem_cons (i := 0) (by omega), List.drop_zero]
    have e2 : r.queue.keys = r.queue.keys.take i ++ r.queue.keys[i] :: r.queue.keys.drop (i + 1) := by
      rw [← List.drop_eq_getElem_cons h4, List.take_append_drop]
    refine { s := Srt.of (List.Pairwise.sublist (List.drop_sublist 1 _) p1) (fun a ha => p2 a ((List.drop_sublist 1 _).mem ha)), c := Q.c, pm := ?_, nb := ⟨by show 0 ≤ p.queue.count ∧ p.queue.count ≤ ((n + 1 : Nat) : Int); omega, by show (p.queue.keys.drop 1).length ≤ n + 1; rw [List.length_drop]; omega⟩ }
    have pm : List.Perm p.queue.keys r.queue.keys := Q.pm
    rw [e1, e2, h6] at pm
    exact (pm.trans List.perm_middle).cons_inv
theorem st2 (hn : n ≤ 999999) (h : BR n p r) (hw : w = p.c.workers) (ht : 0 ≤ t ∧ t < (p.tasks.length : Int))
    (hr : aai p ⟨2, w, t, o, l⟩ = some ((true, ()), (p, ()))) (hf : aaf r ⟨2, w, t, o, l⟩ = some ((true, ()), (r, ()))) (hs : (aad p.works w).sleeps = false) : StM n p r ⟨2, w, t, o, l⟩ := by
  have hwl := h.wl
  have hwl2 := h.wl2
  have hl := h.qu.pm.length_eq
  have h0 := h.of0
  refine aic (pk2 (h.po (by omega)) (by omega) ht hr hs) (rk2 (h.ro (by omega)) hf) ?_ (fun hC => ?_) rfl
  · rw [h.c, h.of, ← h.kn, hl]
    exact ⟨fun h => ⟨hw, h⟩, fun h => h.2⟩
  · have e1 : wi (p.offers + 1) = p.offers + 1 := abR (aaZ (by omega))
    have e2 : wi (r.offers + 1) = p.offers + 1 := by rw [h.of, e1]
    rw [e1, e2]
    have hcl : (aad p.works w).stack = [] := by rw [hw]; exact h.cl.1
    exact (h.mono.setC hw (by omega) (x := { aad p.works w with last := ⟨2, w, t, o, l⟩ }) ⟨hcl, hs⟩).setQ h.mono.qu ⟨by omega, by omega⟩
theorem st1 (hv : VC p.c) (hn : n ≤ 999999) (h : BR n p r) (hw : w = p.c.workers) (ht : 0 ≤ t ∧ t < (p.tasks.length : Int))
    (hr : aai p ⟨1, w, t, o, l⟩ = some ((true, ()), (p, ()))) (hf : aaf r ⟨1, w, t, o, l⟩ = some ((true, ()), (r, ()))) (hs : (aad p.works w).sleeps = false) : StM n p r ⟨1, w, t, o, l⟩ := by
  have hwl := h.wl
  have hwl2 := h.wl2
  have Q := h.qu
  have nb := Q.nb
  have hl := Q.pm.length_eq
  have h0 := h.of0
  have htl := h.tl2
  have T := h.tk t ht
  by_cases ho : o = p.offers
  · have hsub : 0 ≤ o ∧ o < (p.c.subs.length : Int) → 0 ≤ (acz p.c.subs o).prog ∧ (acz p.c.subs o).prog < (p.c.progs.length : Int) := fun hh => hv.sb o hh
    obtain ⟨i, i1, i2, i3⟩ := pk1 (h.po (by omega)) (by omega) ht h0.1 hsub Q.s (by omega) hr hs
    refine aic i3 (rk1 (by omega) (by rw [h.of]; exact h0.1) (by omega) hf) ?_ (fun hC => ?_) rfl
    · rw [h.c, h.of, hl, T.ph]
      exact ⟨fun h => ⟨hw, h⟩, fun h => h.2⟩
    · obtain ⟨c1, c2, c3, c4, c5⟩ := hC
      obtain ⟨i4, i5⟩ := i2 ⟨c1, c2⟩ c5
      have e1 : wi (p.offers + 1) = p.offers + 1 := abR (aaZ (by omega))
      have e2 : wi (r.offers + 1) = p.offers + 1 := by rw [h.of, e1]
      have e3 : wi (p.queue.count + 1) = p.queue.count + 1 := abR (aaZ (by omega))
      have hcl : (aad p.works w).stack = [] := by rw [hw]; exact h.cl.1
      have hsub := hsub ⟨by omega, c2⟩
      rw [h.c, e1, e2, e3, ← Q.c, e3]
      have B := ((h.mono.setN (o := -1) ht (by rw [← T.ph]; exact c4) (.inl rfl) (x := ⟨1, l, -1, atL [] p.c.progs (acz p.c.subs o).prog, 0, [], -1⟩) (y := ⟨⟨1, l, -1, -1, -1⟩, (acz p.c.subs o).prog, 0, []⟩)
        { ph := rfl, lv := rfl, pa := rfl, wt := rfl, pc := rfl, kids := rfl, kn := Nat.zero_le _, at0 := ⟨Int.le_refl _, Int.natCast_nonneg _⟩, prog := fun _ => ⟨hsub, rfl⟩, pl := (hv.pg _ hsub).1, ot := fun _ => rfl, wr := (fun h => by cases h), wk := fun _ => rfl } rfl rfl).setC hw (by omega) (x := { aad p.works w with last := ⟨1, w, t, o, l⟩ }) ⟨hcl, hs⟩).setQ (o := p.offers + 1)
        (x := ⟨p.queue.keys.take i ++ [⟨(acz p.c.subs o).deadline, p.queue.count, t⟩] ++ p.queue.keys.drop i, p.queue.count + 1⟩) (y := ⟨r.queue.keys ++ [⟨(acz p.c.subs o).deadline, p.queue.count, t⟩], p.queue.count + 1⟩) ?_ ⟨by omega, by omega⟩
      · rw [← h.c] at B ⊢
        exact B
      obtain ⟨p1, p2⟩ := Q.s.pw
      generalize hk : (⟨(acz p.c.subs o).deadline, p.queue.count, t⟩ : KyV) = k
      have k1 : k.arrival = p.queue.count := by rw [← hk]
      have k2 : k.deadline = (acz p.c.subs o).deadline := by rw [← hk]
      have q1 : ∀ a ∈ p.queue.keys.take i, leK a k := fun a ha => by
        obtain ⟨j, hj, rfl⟩ := List.getElem_of_mem ha
        rw [List.length_take] at hj
        have := i4 j (by omega)
        rw [aiY (by omega)] at this
        rw [List.getElem_take]
        have h3 := p2 _ (List.getElem_mem (show j < p.queue.keys.length by omega))
        unfold leK; omega
      have q2 : ∀ a ∈ p.queue.keys.drop i, leK k a := fun a ha => by
        obtain ⟨j, hj, rfl⟩ := List.getElem_of_mem ha
        rw [List.length_drop] at hj
        have := i5 (i + j) (by omega) (by omega)
        rw [aiY (by omega)] at this
        rw [List.getElem_drop]
        unfold leK; omega
      have hsp : p.queue.keys.take i ++ p.queue.keys.drop i = p.queue.keys := List.take_append_drop ..
      have p3 := p1
      rw [← hsp, List.pairwise_append] at p3
      refine { s := Srt.of ?_ ?_, c := rfl, pm := ?_, nb := ⟨by show 0 ≤ p.queue.count + 1 ∧ p.queue.count + 1 ≤ ((n + 1 : Nat) : Int); omega, ?_⟩ }
      · show (p.queue.keys.take i ++ [k] ++ p.queue.keys.drop i).Pairwise leK
        rw [List.append_assoc, List.pairwise_append]
        refine ⟨p3.1, List.pairwise_cons.2 ⟨q2, p3.2.1⟩, fun a ha b hb => ?_⟩
        rcases List.mem_cons.1 hb with rfl | hb
        · exact q1 a ha
        · exact p3.2.2 a ha b hb
      · intro a ha
        have ha : a ∈ p.queue.keys.take i ++ [k] ++ p.queue.keys.drop i := ha
        rcases List.mem_append.1 ha with ha | ha
        · rcases List.mem_append.1 ha with ha | ha
          · have := p2 a (List.mem_of_mem_take ha); show a.arrival < p.queue.count + 1; omega
          · obtain rfl := List.mem_singleton.1 ha; show a.arrival < p.queue.count + 1; omega
        · have := p2 a (List.mem_of_mem_drop ha); show a.arrival < p.queue.count + 1; omega
      · show List.Perm (p.queue.keys.take i ++ [k] ++ p.queue.keys.drop i) (r.queue.keys ++ [k])
        refine List.Perm.trans ?_ (List.Perm.append_right [k] Q.pm)
        rw [List.append_assoc]
        show List.Perm (p.queue.keys.take i ++ k :: p.queue.keys.drop i) (p.queue.keys ++ [k])
        refine List.perm_middle.trans ?_
        rw [hsp]
        exact (List.perm_append_singleton k p.queue.keys).symm
      · show (p.queue.keys.take i ++ [k] ++ p.queue.keys.drop i).length ≤ n + 1
        rw [List.length_append, List.length_append, List.length_take, List.length_drop, List.length_singleton]; omega
  · have h0' : r.offers = p.offers := h.of
    obtain ⟨i, i1, i2, b, q, i3, i4, i5⟩ := pk1 (p := p) (w := w) (t := t) (o := o) (l := l) (h.po (by omega)) (by omega) ht h0.1 (fun hh => hv.sb o hh) Q.s (by omega) hr hs
    obtain ⟨b', q', j3, j4, j5⟩ := rk1 (r := r) (w := w) (t := t) (o := o) (l := l) (by omega) (by rw [h.of]; exact h0.1) (by omega) hf
    cases b with
    | true => exact absurd (i4 rfl).1.1 ho
    | false =>
      cases b' with
      | true => exact absurd (h0' ▸ (j4 rfl).1.2.1) ho
      | false => exact .inr ⟨_, _, i3, (i5 rfl).2, j3⟩
end
section
variable {n : Nat} {p : SyP} {r : SaV} {k w t o l : Int}
theorem asM (hn : n ≤ 999999) (h : BR n p r) (hw : w = p.c.workers) (ht : 0 ≤ t ∧ t < (p.tasks.length : Int)) (ho : 0 ≤ o ∧ o < p.c.workers)
    (hr : aai p ⟨18, w, t, o, l⟩ = some ((true, ()), (p, ()))) (hf : aaf r ⟨18, w, t, o, l⟩ = some ((true, ()), (r, ()))) (hs : (aad p.works w).sleeps = false) : StM n p r ⟨18, w, t, o, l⟩ := by
  have hwl := h.wl
  have hwl2 := h.wl2
  refine aic (atF (h.po (by omega)) (by omega) ht hr hs) (arm (by rw [h.c]; exact hw) hf) ?_ (fun hC => ?_) rfl
  · rw [h.c]; exact ⟨fun _ => ho, fun _ => True.intro⟩
  · exact h.mono.setC hw (by omega) ⟨by rw [hw]; exact h.cl.1, hs⟩
theorem ao1 (hr : aai p ⟨k, w, t, o, l⟩ = some ((false, ()), (p, ()))) : aah p ⟨k, w, t, o, l⟩ = some ((false, ()), (p, ())) := by
  unfold aah
  rw [hr, aar]; rfl
theorem asA {q : SaV} (hf : aaf r ⟨k, w, t, o, l⟩ = some ((false, ()), (q, ()))) : aam r ⟨k, w, t, o, l⟩ = some ((false, ()), (q, ())) := by
  unfold aam
  rw [hf, aar]; rfl
theorem atw (hw : 0 ≤ w ∧ w < (p.works.length : Int)) (hr : aai p ⟨k, w, t, o, l⟩ = some ((true, ()), (p, ()))) (hs : ¬ (aad p.works w).sleeps = decide (k = 17)) : aah p ⟨k, w, t, o, l⟩ = some ((false, ()), (p, ())) := by
  unfold aah
  rw [hr, aar, if_neg (show ¬ (!true) = true by decide)]
  dsimp only
  rw [if_pos hw, if_pos hs, aa2 hw]
theorem al2 {e : Ev} {C : Prop} {r' : SaV} (h : RS r e C r') (hC : ¬ C) : ∃ q, aam r e = some ((false, ()), (q, ())) := by
  obtain ⟨b, q, h1, h2, _⟩ := h
  cases b with
  | true => exact absurd (h2 rfl).1 hC
  | false => exact ⟨q, h1⟩
set_option maxHeartbeats 1000000 in
theorem ars (hz : 1 ≤ p.c.tasks) (hn : n ≤ 999999) (h : BR n p r) (h1 : 1 ≤ k) (h2 : k ≤ 19) (hp : ¬ rgP p.c k w t o l) (hr : rgR r.c k w t o l) (hf : aaf r ⟨k, w, t, o, l⟩ = some ((true, ()), (r, ()))) : ∃ q, aam r ⟨k, w, t, o, l⟩ = some ((false, ()), (q, ())) := by
  have hl := h.tl2
  have hl1 := h.tl
  have hw2 := h.wl2
  rw [h.c] at hr
  have hk : k = 1 ∨ k = 2 ∨ k = 3 ∨ k = 4 ∨ k = 5 ∨ k = 6 ∨ k = 7 ∨ k = 8 ∨ k = 9 ∨ k = 10 ∨ k = 11 ∨ k = 12 ∨ k = 13 ∨ k = 14 ∨ k = 15 ∨ k = 16 ∨ k = 17 ∨ k = 18 ∨ k = 19 := by omega
  unfold rgP at hp
  unfold rgR at hr
  have h0 := h.of0
  have nb := h.qu.nb
  have ql := h.qu.pm.length_eq
  rcases hk with rfl | rfl | rfl | rfl | rfl | rfl | rfl | rfl | rfl | rfl | rfl | rfl | rfl | rfl | rfl | rfl | rfl | rfl | rfl
  all_goals simp (config := { decide := true }) only [if_true, if_false, true_and, and_true] at hp hr
  · exact al2 (rk1 (by omega) (by rw [h.of]; exact h0.1) (by omega) hf) (fun hC => by have := hC.1; rw [h.c] at this; omega)
  · exact al2 (rk2 (h.ro (by omega)) hf) (fun hC => by have := hC.1; rw [h.c] at this; omega)
  · exact absurd hr hp
  · exact absurd hr hp
  · exact absurd hr hp
  · exact absurd hr hp
  · exact absurd hr hp
  · exact absurd hr hp
  · exact absurd hr hp
  · exact absurd hr hp
  · exact absurd hr hp
  · exact absurd hr hp
  · exact absurd hr hp
  · exact al2 (atC (h.ro (by omega)) (by omega) (by omega) hf) (fun hC => by have := hC.2.2.1; rw [h.c] at this; omega)
  · exact absurd hr hp
  · exact absurd hr hp
  · exact absurd hr hp
  · by_cases hw : w = p.c.workers
    · exact al2 (arm (by rw [h.c]; exact hw) hf) (fun hC => by rw [h.c] at hC; omega)
    · exact al2 (atB (h.ro (by omega)) (by omega) (by omega) hf) (fun hC => by rw [h.c] at hC; omega)
  · exact absurd hr hp
theorem ans (hv : VC p.c) (hn : n ≤ 999999) (h : BR n p r) (e : Ev) : StM n p r e := by
  obtain ⟨k, w, t, o, l⟩ := e
  have hl := h.tl2
  have hl1 := h.tl
  have hw1 := h.wl
  have hw2 := h.wl2
  have hz := hv.tk
  by_cases k1 : k < 1
  · exact .inr ⟨_, _, ao1 (amc k1), abq, asA (aqq k1)⟩
  by_cases k2 : 19 < k
  · exact .inr ⟨_, _, ao1 (ame k2), abq, asA (aqs k2)⟩
  obtain ⟨b, h1, h2⟩ := amd (s := p) (w := w) (t := t) (o := o) (l := l) (show 1 ≤ k by omega) (by omega)
  obtain ⟨b', h3, h4⟩ := aqr (s := r) (w := w) (t := t) (o := o) (l := l) (show 1 ≤ k by omega) (by omega) (by rw [h.c]; omega) (by rw [h.c]; exact hw2)
  by_cases hp : rgP p.c k w t o l
  rotate_left
  · have hb : b = false := by
      cases b with
      | true => exact absurd (h2.1 rfl) hp
      | false => rfl
    subst hb
    cases b' with
    | false => exact .inr ⟨_, _, ao1 h1, abq, asA h3⟩
    | true =>
      obtain ⟨q, hq⟩ := ars hz hn h (by omega) (by omega) hp (h4.1 rfl).1 h3
      exact .inr ⟨_, _, ao1 h1, abq, hq⟩
  obtain rfl : b = true := h2.2 hp
  have hk : k = 1 ∨ k = 2 ∨ k = 3 ∨ k = 4 ∨ k = 5 ∨ k = 6 ∨ k = 7 ∨ k = 8 ∨ k = 9 ∨ k = 10 ∨ k = 11 ∨ k = 12 ∨ k = 13 ∨ k = 14 ∨ k = 15 ∨ k = 16 ∨ k = 17 ∨ k = 18 ∨ k = 19 := by omega
  have hpc := hp
  have hrg : rgR r.c k w t o l := by
    rw [h.c]
    unfold rgP at hp
    unfold rgR
    rcases hk with rfl | rfl | rfl | rfl | rfl | rfl | rfl | rfl | rfl | rfl | rfl | rfl | rfl | rfl | rfl | rfl | rfl | rfl | rfl
    all_goals simp (config := { decide := true }) only [if_true, if_false, true_and, and_true] at hp ⊢
    all_goals first | exact hp | omega
  have hwr : 0 ≤ w ∧ w ≤ p.c.workers := by
    unfold rgP at hp
    have := hp.2.2.2
    split at this
    · omega
    · split at this <;> omega
  have htr : 0 ≤ t ∧ t < p.c.tasks := by
    unfold rgP at hp
    have := hp.1
    split at this <;> omega
  by_cases hs : (aad p.works w).sleeps = decide (k = 17)
  rotate_left
  · have hb : b' = false := by
      cases b' with
      | false => rfl
      | true =>
        have h5 := (h4.1 rfl).2
        by_cases hw : w = p.c.workers
        · exfalso
          rw [hw, h.cl.2] at hs
          have : k = 17 := by
            by_cases e : k = 17
            · exact e
            · exact absurd (decide_eq_false e).symm hs
          subst this
          unfold rgP at hp
          simp (config := { decide := true }) only [if_true, if_false] at hp
          omega
        · have W := h.wk w (by omega)
          have := h5 (by rw [h.c]; omega)
          rw [← W.sleeps] at this
          exact absurd this hs
    subst hb
    exact .inr ⟨_, _, atw (by omega) h1 hs, abq, asA h3⟩
  have hb : b' = true := h4.2 ⟨hrg, fun hw => by
    rw [h.c] at hw
    rw [← (h.wk w hw).sleeps]; exact hs⟩
  subst hb
  have ht : 0 ≤ t ∧ t < (p.tasks.length : Int) := by omega
  unfold rgP at hp
  rcases hk with rfl | rfl | rfl | rfl | rfl | rfl | rfl | rfl | rfl | rfl | rfl | rfl | rfl | rfl | rfl | rfl | rfl | rfl | rfl
  all_goals simp (config := { decide := true }) only [if_true, if_false, true_and, and_true] at hp
  all_goals first
    | have hs : (aad p.works w).sleeps = false := hs
    | have hs : (aad p.works w).sleeps = true := hs
  · exact st1 hv hn h hp.2.2 ht h1 h3 hs
  · exact st2 hn h hp.2 ht h1 h3 hs
  · exact st3 hv hn h ⟨by omega, ht, h1, h3⟩ (by omega) hs
  · exact st4 hv hn h ⟨by omega, ht, h1, h3⟩ hs
  · exact st5 hn h ⟨by omega, ht, h1, h3⟩ hs
  · exact st6 hv hn h ⟨by omega, ht, h1, h3⟩ (by omega) hs
  · exact st7 hn h ⟨by omega, ht, h1, h3⟩ hs
  · exact st8 hv hn h ⟨by omega, ht, h1, h3⟩ (by omega) hs
  · exact st9 hn h ⟨by omega, ht, h1, h3⟩ hs
  · exact atY hv hn h ⟨by omega, ht, h1, h3⟩ hs
  · exact atX hn (by omega) h ⟨by omega, ht, h1, h3⟩ hs
  · exact atW hn h ⟨by omega, ht, h1, h3⟩ hs
  · exact atU hn h ⟨by omega, ht, h1, h3⟩ hs
  · exact atT hn h ⟨by omega, ht, h1, h3⟩ (by omega) hs
  · exact atS hn h ⟨by omega, ht, h1, h3⟩ hs
  · exact atR hn h ⟨by omega, ht, h1, h3⟩ hs
  · exact atQ hn h ⟨by omega, ht, h1, h3⟩ hs
  · by_cases hw : w = p.c.workers
    · exact asM hn h hw ht (by omega) h1 h3 hs
    · exact atP hn h ⟨by omega, ht, h1, h3⟩ (by omega) hs
  · exact atO hn h ⟨by omega, ht, h1, h3⟩ hs
end
section
theorem aaD.map {α β : Type} {o : Option α} {f : α → β} {P : β → Prop} (h : aaD o fun x => P (f x)) : aaD (Option.map f o) P := by
  obtain ⟨x, rfl, hx⟩ := h
  exact ⟨_, rfl, hx⟩
def tk0 : TkP := ⟨0, -1, -1, [], 0, [], -1⟩
def tr0 : TkV := ⟨⟨0, -1, -1, -1, -1⟩, 0, 0, []⟩
def wk0 : WkP := ⟨[], false, 0, 0, 0, false, ⟨0, 0, 0, 0, 0⟩⟩
def wr0 : WlV := ⟨[], -1, 0, 0, false, ⟨0, 0, 0, 0, 0⟩⟩
def pN (c : Cfg) : SyP := ⟨c, List.replicate c.tasks.toNat tk0, List.replicate (c.workers + 1).toNat wk0, 0, 0, ⟨[], 0⟩⟩
def rN (c : Cfg) : SaV := ⟨c, List.replicate c.tasks.toNat tr0, List.replicate c.workers.toNat wr0, ⟨[], 0⟩, 0⟩
theorem aiw {α : Type} {x : α} {i : Nat} : List.replicate i x ++ [x] = List.replicate (i + 1) x := by
  rw [List.replicate_succ']
theorem aqb {c : Cfg} (ht : 0 ≤ c.tasks ∧ c.tasks ≤ 1000000) (hw : 0 ≤ c.workers ∧ c.workers ≤ 1000000) : aaD (acW c) fun o => o.1.1 = pN c := by
  unfold acW
  have e1 : wi (c.workers + 1) = c.workers + 1 := abR (aaZ (by omega))
  rw [e1]
  refine aaD.guard rfl fun _ => aaD.guard (by omega) fun _ => aaD.guard rfl fun _ => aaD.guard rfl fun _ => aaD.guard rfl fun _ => aaD.guard rfl fun _ => aaD.guard rfl fun _ => aaD.guard rfl fun _ => aaD.guard rfl fun _ => aaD.guard rfl fun _ => aaD.guard rfl fun _ => ?_
  refine aaD.bind (P := fun z => z.2.1 = pN c) (abU (fun x => ∃ i : Nat, x.1 = (i : Int) ∧ (i : Int) ≤ c.tasks ∧ x.2.1 = { pN c with tasks := List.replicate i tk0 }) (fun x => (c.tasks - x.1).toNat) (fun self x ⟨i, q1, q2, q3⟩ ih => ?_) _ _ ⟨0, rfl, ht.1, rfl⟩ (by show (c.tasks - 0).toNat < _; omega)) fun z hz => .some_ hz
  obtain ⟨x1, x2, u⟩ := x
  obtain rfl : x1 = (i : Int) := q1
  obtain rfl : x2 = _ := q3
  have e2 : wi ((i : Int) + 1) = ((i + 1 : Nat) : Int) := abR (aaZ (by omega))
  refine aaD.ite (fun h => ?_) fun h => .some_ ?_
  · have h : (i : Int) < c.tasks := h
    refine aaD.guard (by show (((List.replicate i tk0).length + 1 : Nat) : Int) < _; rw [List.length_replicate]; omega) fun _ => ?_
    show aaD (self (wi ((i : Int) + 1), { pN c with tasks := List.replicate i tk0 ++ [tk0] }, ())) _
    rw [e2, aiw]
    exact ih _ ⟨i + 1, rfl, by omega, rfl⟩ (by show (c.tasks - ((i + 1 : Nat) : Int)).toNat < (c.tasks - (i : Int)).toNat; omega)
  · have h : ¬ (i : Int) < c.tasks := h
    have e3 : c.tasks.toNat = i := by omega
    show ({ pN c with tasks := List.replicate i tk0 } : SyP) = pN c
    unfold pN
    rw [e3]
theorem amz {c : Cfg} (ht : 0 ≤ c.tasks ∧ c.tasks ≤ 1000000) (hw : 0 ≤ c.workers ∧ c.workers ≤ 1000000) : aaD (abW c) fun o => o.1.1 = rN c := by
  unfold abW
  refine aaD.bind (P := fun z => z.2.1 = { rN c with works := [] }) (abU (fun x => ∃ i : Nat, x.1 = (i : Int) ∧ (i : Int) ≤ c.tasks ∧ x.2.1 = { rN c with tasks := List.replicate i tr0, works := [] }) (fun x => (c.tasks - x.1).toNat) (fun self x ⟨i, q1, q2, q3⟩ ih => ?_) _ _ ⟨0, rfl, ht.1, rfl⟩ (by show (c.tasks - 0).toNat < _; omega)) fun z hz => ?_
  rotate_left
  · obtain ⟨x1, x2, u⟩ := x
    obtain rfl : x1 = (i : Int) := q1
    obtain rfl : x2 = _ := q3
    have e2 : wi ((i : Int) + 1) = ((i + 1 : Nat) : Int) := abR (aaZ (by omega))
    refine aaD.ite (fun h => ?_) fun h => .some_ ?_
    · have h : (i : Int) < c.tasks := h
      refine aaD.guard (by show (((List.replicate i tr0).length + 1 : Nat) : Int) < _; rw [List.length_replicate]; omega) fun _ => ?_
      show aaD (self (wi ((i : Int) + 1), { rN c with tasks := List.replicate i tr0 ++ [tr0], works := [] }, ())) _
      rw [e2, aiw]
      exact ih _ ⟨i + 1, rfl, by omega, rfl⟩ (by show (c.tasks - ((i + 1 : Nat) : Int)).toNat < (c.tasks - (i : Int)).toNat; omega)
    · have h : ¬ (i : Int) < c.tasks := h
      have e3 : c.tasks.toNat = i := by omega
      show ({ rN c with tasks := List.replicate i tr0, works := [] } : SaV) = { rN c with works := [] }
      unfold rN
      rw [e3]
  rw [hz]
  refine aaD.bind (P := fun z => z.2.1 = rN c) (abU (fun x => ∃ i : Nat, x.1 = (i : Int) ∧ (i : Int) ≤ c.workers ∧ x.2.1 = { rN c with works := List.replicate i wr0 }) (fun x => (c.workers - x.1).toNat) (fun self x ⟨i, q1, q2, q3⟩ ih => ?_) _ _ ⟨0, rfl, hw.1, rfl⟩ (by show (c.workers - 0).toNat < _; omega)) fun z hz => .some_ hz
  obtain ⟨x1, x2, u⟩ := x
  obtain rfl : x1 = (i : Int) := q1
  obtain rfl : x2 = _ := q3
  have e2 : wi ((i : Int) + 1) = ((i + 1 : Nat) : Int) := abR (aaZ (by omega))
  refine aaD.ite (fun h => ?_) fun h => .some_ ?_
  · have h : (i : Int) < c.workers := h
    refine aaD.guard (by show (((List.replicate i wr0).length + 1 : Nat) : Int) < _; rw [List.length_replicate]; omega) fun _ => ?_
    show aaD (self (wi ((i : Int) + 1), { rN c with works := List.replicate i wr0 ++ [wr0] }, ())) _
    rw [e2, aiw]
    exact ih _ ⟨i + 1, rfl, by omega, rfl⟩ (by show (c.workers - ((i + 1 : Nat) : Int)).toNat < (c.workers - (i : Int)).toNat; omega)
  · have h : ¬ (i : Int) < c.workers := h
    have e3 : c.workers.toNat = i := by omega
    show ({ rN c with works := List.replicate i wr0 } : SaV) = rN c
    unfold rN
    rw [e3]
theorem alj {α : Type} {d x : α} {n : Nat} {i : Int} (h : 0 ≤ i ∧ i < (n : Int)) : atL d (List.replicate n x) i = x := by
  unfold atL
  rw [List.getElem?_replicate, if_pos (by omega)]; rfl
theorem ash {c : Cfg} (ht : 1 ≤ c.tasks ∧ c.tasks ≤ 256) (hw : 0 ≤ c.workers ∧ c.workers ≤ 1000000) : BR 0 (pN c) (rN c) := by
  have a1 : ∀ i, 0 ≤ i ∧ i < ((pN c).tasks.length : Int) → aab (pN c).tasks i = tk0 := fun i hi => alj (d := (dfR 70 : TkP)) (by
    unfold pN at hi; rw [List.length_replicate] at hi; exact hi)
  have a2 : ∀ i, 0 ≤ i ∧ i < ((rN c).tasks.length : Int) → aaa (rN c).tasks i = tr0 := fun i hi => alj (d := (dfR 61 : TkV)) (by
    unfold rN at hi; rw [List.length_replicate] at hi; exact hi)
  have l1 : (pN c).tasks.length = c.tasks.toNat := List.length_replicate ..
  have l2 : (rN c).tasks.length = c.tasks.toNat := List.length_replicate ..
  have l3 : (pN c).works.length = (c.workers + 1).toNat := List.length_replicate ..
  have l4 : (rN c).works.length = c.workers.toNat := List.length_replicate ..
  have b1 : ∀ i, 0 ≤ i ∧ i ≤ c.workers → aad (pN c).works i = wk0 := fun i hi => alj (d := (dfR 71 : WkP)) (by omega)
  have b2 : ∀ i, 0 ≤ i ∧ i < c.workers → aac (rN c).works i = wr0 := fun i hi => alj (d := (dfR 62 : WlV)) (by omega)
  have h0 : ada (rN c).tasks = 0 := List.countP_eq_zero.2 fun x hx => by
    obtain rfl := List.eq_of_mem_replicate hx
    decide
  exact {
    c := rfl
    tl := by rw [l1]; show ((c.tasks.toNat : Nat) : Int) = c.tasks; omega
    tl2 := by rw [l1, l2]
    tl3 := by rw [l1]; omega
    wl := by rw [l3]; show (((c.workers + 1).toNat : Nat) : Int) = c.workers + 1; omega
    wl2 := by rw [l4]; show ((c.workers.toNat : Nat) : Int) = c.workers; omega
    tk := fun i hi => by
      rw [a1 i hi, a2 i (by omega)]
      exact { ph := rfl, lv := rfl, pa := rfl, wt := rfl, pc := rfl, kids := rfl, kn := Nat.le_refl _, at0 := ⟨Int.le_refl _, Int.le_refl _⟩, prog := fun h => absurd rfl h, pl := Nat.zero_le _, ot := fun _ => rfl, wr := (fun h => by cases h), wk := fun _ => rfl }
    wk := fun i hi => by
      have hi : 0 ≤ i ∧ i < c.workers := hi
      rw [b1 i (by omega), b2 i hi]
      exact { stack := rfl, sn := Nat.le_refl _, won := (fun h => nomatch h), woff := fun _ => rfl, sleeps := rfl, last := rfl }
    cl := by
      show (aad (pN c).works c.workers).stack = [] ∧ (aad (pN c).works c.workers).sleeps = false
      rw [b1 _ (by omega)]; exact ⟨rfl, rfl⟩
    of := rfl
    of0 := ⟨Int.le_refl _, Int.le_refl _⟩
    qu := { s := ⟨fun i j _ hj => absurd hj (Nat.not_lt_zero _), fun i hi => absurd hi (Nat.not_lt_zero _)⟩, c := rfl, pm := List.Perm.refl _, nb := ⟨⟨Int.le_refl _, Int.le_refl _⟩, Nat.le_refl _⟩ }
    kn := by rw [h0]; rfl
    st := fun w hw t ht => by
      have hw : 0 ≤ w ∧ w < c.workers := hw
      rw [b2 w hw] at ht
      cases ht
    nd := fun w hw => by
      have hw : 0 ≤ w ∧ w < c.workers := hw
      rw [b2 w hw]
      exact List.nodup_nil
    run := fun t ht hp => by
      have ht : 0 ≤ t ∧ t < ((pN c).tasks.length : Int) := ht
      rw [a2 t (by omega)] at hp
      cases hp
    rk := ⟨fun _ => 0, fun i hi => .inl (by rw [a2 i hi]; rfl), fun i hi => ⟨by show (0 : Nat) < (rN c).tasks.length; rw [l2]; omega, fun hp => by rw [a2 i hi] at hp; exact absurd rfl hp⟩⟩ }
structure VV (q : SyP) (i : Int) (v : VwV) : Prop where
  ph : v.phase = (aab q.tasks i).ph
  lv : v.level = (aab q.tasks i).lv
  pa : v.parent = (aab q.tasks i).pa
  ot : v.other = if (aab q.tasks i).ph = 3 then (aab q.tasks i).wt else -1
  w0 : (aab q.tasks i).ph ≠ 2 → v.worker = -1
  w1 : (aab q.tasks i).ph = 2 → (0 ≤ v.worker ∧ v.worker < (q.works.length : Int)) ∧ i ∈ (aad q.works v.worker).stack ∧ ∀ u, 0 ≤ u ∧ u < v.worker → i ∉ (aad q.works u).stack
def asK (q : SyP) (ws : List WkP) : Int × Int × Int × Int × Int × Int × Int × Int × Int × List (List Ins) × List Sub × List WkP × Int × Int × List KyV × Int × Unit := (q.c.workers, q.c.levels, q.c.classes, q.c.tasks, q.c.deque, q.c.heap, q.c.batch, q.c.age, q.c.patience, q.c.progs, q.c.subs, ws, q.offers, q.known, q.queue.keys, q.queue.count, ())
theorem anQ {q : SyP} {vs : List VwV} (hl : q.tasks.length ≤ 1000000) (hw : q.works.length ≤ 1000000) (hst : ∀ w, 0 ≤ w ∧ w < (q.works.length : Int) → (aad q.works w).stack.length ≤ 1000000) (hlen : vs.length = q.tasks.length) (hv : ∀ (i : Nat) (h : i < vs.length), VV q (i : Int) vs[i]) : aaD (abM q) fun o => o.1.1 = vs := by
  unfold abM
  refine aaD.bind (P := fun z => z.1 = vs) (abU (fun x => ∃ i : Nat, x.2.1 = (i : Int) ∧ i ≤ vs.length ∧ x.1 = vs.take i ∧ x.2.2.1 = q.tasks ∧ x.2.2.2.1 = asK q q.works) (fun x => ((vs.length : Int) - x.2.1).toNat) (fun self x ⟨i, q1, q2, q3, q4, q5⟩ ih => ?_) _ _ ⟨0, rfl, Nat.zero_le _, rfl, rfl, rfl⟩ (by show ((vs.length : Int) - 0).toNat < _; omega)) fun z hz => .some_ hz
  obtain ⟨x1, x2, x3, x4, u⟩ := x
  obtain rfl : x2 = (i : Int) := q1
  obtain rfl : x1 = vs.take i := q3
  obtain rfl : x3 = q.tasks := q4
  obtain rfl : x4 = asK q q.works := q5
  have e1 : wi ((i : Int) + 1) = ((i + 1 : Nat) : Int) := abR (aaZ (by omega))
  refine aaD.ite (fun h => ?_) fun h => .some_ ?_
  rotate_left
  · have h : ¬ (i : Int) < (q.tasks.length : Int) := h
    show vs.take i = vs
    exact List.take_of_length_le (by omega)
  have h : (i : Int) < (q.tasks.length : Int) := h
  have hi : i < vs.length := by omega
  have hin : 0 ≤ (i : Int) ∧ (i : Int) < (q.tasks.length : Int) := ⟨by omega, h⟩
  have V := hv i hi
  have htk : vs.take (i + 1) = vs.take i ++ [vs[i]] := List.take_succ_eq_append_getElem hi
  have hgl : (((vs.take i).length + 1 : Nat) : Int) < 1000000000000 := by rw [List.length_take]; omega
  have hme : ((vs.length : Int) - ((i + 1 : Nat) : Int)).toNat < ((vs.length : Int) - (i : Int)).toNat := by omega
  -- what follows when the view has been made
  have go : ∀ (v : VwV) (ws : List WkP) (ts : List TkP), v = vs[i] → ws = q.works → ts = q.tasks → aaD (self (vs.take i ++ [v], wi ((i : Int) + 1), ts, asK q ws, ())) fun z => z.1 = vs := fun v ws ts e2 e3 e4 => by
    subst e2 e3 e4
    rw [e1]
    exact ih _ ⟨i + 1, rfl, hi, htk.symm, rfl, rfl⟩ hme
  have hts : q.tasks.set ((i : Int)).toNat (aab q.tasks (i : Int)) = q.tasks := aa8 hin
  refine aaD.guard hin fun _ => aaD.ite (fun h3 => ?_) fun h3 => aaD.ite (fun h2 => ?_) fun h2 => ?_
  · have h3 : (aab q.tasks (i : Int)).ph = 3 := h3
    refine aaD.ite (fun h2 => ?_) fun h2 => ?_
    · have h2 : (aab q.tasks (i : Int)).ph = 2 := h2
      omega
    · refine aaD.guard hgl fun _ => go _ _ _ ?_ rfl hts
      have k1 := V.ot
      rw [if_pos h3] at k1
      have k2 := V.w0 (by omega)
      have := V.ph
      have := V.lv
      have := V.pa
      generalize vs[i] = v at *
      cases v
      simp only at *
      subst_vars
      rfl
  · have h3 : ¬ (aab q.tasks (i : Int)).ph = 3 := h3
    have h2 : (aab q.tasks (i : Int)).ph = 2 := h2
    obtain ⟨w1, w2, w3⟩ := V.w1 h2
    have k1 := V.ot
    rw [if_neg h3] at k1
    obtain ⟨m, hm⟩ : ∃ m : Nat, vs[i].worker = (m : Int) := ⟨vs[i].worker.toNat, by omega⟩
    rw [hm] at w1 w2 w3
    have hvw : ∀ w : Int, w = (m : Int) → (⟨(aab q.tasks (i : Int)).ph, (aab q.tasks (i : Int)).lv, (aab q.tasks (i : Int)).pa, w, -1⟩ : VwV) = vs[i] := fun w hw => by
      have := V.ph
      have := V.lv
      have := V.pa
      generalize vs[i] = v at *
      cases v
      simp only at *
      subst_vars
      rfl
    refine aaD.bind (P := fun z => ∃ o, z = .inr o ∧ o.1 = vs) (abU (fun y => ∃ j : Nat, y.1 = (j : Int) ∧ j ≤ m ∧ y.2.1 = q.works) (fun y => ((m : Int) - y.1).toNat) (fun self2 y ⟨j, r1, r2, r3⟩ ih2 => ?_) _ _ ⟨0, rfl, Nat.zero_le _, rfl⟩ (by show ((m : Int) - 0).toNat < _; omega)) fun z ⟨o, hz, ho⟩ => ?_
    rotate_left
    · obtain ⟨y1, y2, u2⟩ := y
      obtain rfl : y1 = (j : Int) := r1
      obtain rfl : y2 = q.works := r3
      have e2 : wi ((j : Int) + 1) = ((j + 1 : Nat) : Int) := abR (aaZ (by omega))
      have hj : 0 ≤ (j : Int) ∧ (j : Int) < (q.works.length : Int) := by omega
      have hws : q.works.set ((j : Int)).toNat (aad q.works (j : Int)) = q.works := aa2 hj
      have hsl := hst _ hj
      refine aaD.ite (fun _ => aaD.guard hj fun _ => ?_) fun hn => absurd hj.2 hn
      refine aaD.bind (P := fun z => (j < m ∧ ∃ a, z = .inl a) ∨ (j = m ∧ ∃ o, z = .inr (.inr o) ∧ o.1 = vs)) (abU (fun y => ∃ k : Nat, y.1 = (k : Int) ∧ k ≤ (aad q.works (j : Int)).stack.length ∧ ∀ k' : Nat, k' < k → ¬ (i : Int) = aaQ (aad q.works (j : Int)).stack (k' : Int)) (fun y => (((aad q.works (j : Int)).stack.length : Int) - y.1).toNat) (fun self3 y ⟨k, s1, s2, s3⟩ ih3 => ?_) _ _ ⟨0, rfl, Nat.zero_le _, fun k' h' => absurd h' (Nat.not_lt_zero _)⟩ (by show (((aad q.works (j : Int)).stack.length : Int) - 0).toNat < _; omega)) fun z hz => ?_
      rotate_left
      · obtain ⟨y1, u3, u4⟩ := y
        obtain rfl : y1 = (k : Int) := s1
        have e3 : wi ((k : Int) + 1) = ((k + 1 : Nat) : Int) := abR (aaZ (by omega))
        refine aaD.ite (fun hk => ?_) fun hk => .some_ ?_
        · have hk : (k : Int) < ((aad q.works (j : Int)).stack.length : Int) := hk
          have hkn : k < (aad q.works (j : Int)).stack.length := by omega
          refine aaD.guard ⟨by show (0 : Int) ≤ (k : Int); omega, hk⟩ fun _ => aaD.ite (fun he => aaD.map (aaD.ite (fun _ => aaD.map ?_) fun hn => absurd (show (0 : Int) ≤ (k : Int) by omega) hn)) fun he => ?_
          · have he : (i : Int) = aaQ (aad q.works (j : Int)).stack (k : Int) := he
            have hmem : (i : Int) ∈ (aad q.works (j : Int)).stack := by
              rw [he]; exact anw (d := (dfR 1 : Int)) ⟨by omega, hk⟩
            have hjm : j = m := by
              rcases Nat.lt_or_ge j m with hlt | hge
              · exact absurd hmem (w3 (j : Int) (by omega))
              · omega
            refine aaD.guard hgl fun _ => ?_
            refine (go _ _ _ (hvw _ (by rw [hjm])) hws hts).mono fun z hz => .inr ⟨hjm, z, rfl, hz⟩
          · have he : ¬ (i : Int) = aaQ (aad q.works (j : Int)).stack (k : Int) := he
            show aaD (self3 (wi ((k : Int) + 1), (), ())) _
            rw [e3]
            refine ih3 _ ⟨k + 1, rfl, hkn, fun k' h' => ?_⟩ (by show (((aad q.works (j : Int)).stack.length : Int) - ((k + 1 : Nat) : Int)).toNat < (((aad q.works (j : Int)).stack.length : Int) - (k : Int)).toNat; omega)
            rcases Nat.lt_or_ge k' k with h5 | h5
            · exact s3 k' h5
            · obtain rfl : k' = k := by omega
              exact he
        · have hk : ¬ (k : Int) < ((aad q.works (j : Int)).stack.length : Int) := hk
          rcases Nat.lt_or_ge j m with hlt | hge
          · exact .inl ⟨hlt, _, rfl⟩
          · obtain rfl : j = m := by omega
            obtain ⟨a, ha, hb⟩ := List.getElem_of_mem w2
            exfalso
            refine s3 a (by omega) ?_
            have a1 := abV (α := Int) (d := (dfR 1 : Int)) (xs := (aad q.works (j : Int)).stack) (i := (a : Int)) ⟨by omega, by omega⟩
            rw [Int.toNat_natCast, List.getElem?_eq_getElem ha] at a1
            exact hb.symm.trans (Option.some.inj a1)
      · rcases hz with ⟨hlt, a, rfl⟩ | ⟨hjm, o, rfl, ho⟩
        · show aaD (self2 (wi ((j : Int) + 1), q.works.set ((j : Int)).toNat (aad q.works (j : Int)), ())) _
          rw [e2, hws]
          exact ih2 _ ⟨j + 1, rfl, hlt, rfl⟩ (by show ((m : Int) - ((j + 1 : Nat) : Int)).toNat < ((m : Int) - (j : Int)).toNat; omega)
        · exact .some_ ⟨o, rfl, ho⟩
    · subst hz
      exact .some_ ho
  · have h3 : ¬ (aab q.tasks (i : Int)).ph = 3 := h3
    have h2 : ¬ (aab q.tasks (i : Int)).ph = 2 := h2
    refine aaD.guard hgl fun _ => go _ _ _ ?_ rfl hts
    have k1 := V.ot
    rw [if_neg h3] at k1
    have k2 := V.w0 h2
    have := V.ph
    have := V.lv
    have := V.pa
    generalize vs[i] = v at *
    cases v
    simp only at *
    subst_vars
    rfl
end
end
end Go.Proofs.Ytkmkhldmflebkaa
