/- The two models: what keeps that their states agree (tasks that run,stop,are new). The program's model alone: what one event does. The two models: their first states,and what the program's says of the tasks. The program's model alone: what Check answers. The law ModelOnce in the evaluator's form. -/
import Derived.Test.YtkmkhldmflebkaaGreatOzar
import Derived.Test.YtkmkhldmflebkaaGreatOzap
set_option linter.all false
namespace Go.Proofs.YtkmkhldmflebkaaGreat
section
open Go Go.RowKit
set_option maxRecDepth 10000
variable [Tb]
section
variable {n : Nat} {p : SyP} {r : SaV} {w t o : Int}
theorem ast {xs : List TkV} (ht : 0 ≤ t ∧ t < (xs.length : Int)) {x : TkV} (h0 : (aat xs t).view.phase ≠ 0) (h : x.view.phase ≠ 0) : aeX (xs.set t.toNat x) = aeX xs := by
 have e : ∀ l : List TkV,aeX l = (l.map fun y =>decide (y.view.phase ≠ 0)).countP id := fun l =>by
  unfold aeX; rw [List.countP_map]; rfl
 rw [e,e]
 have h1 : decide (x.view.phase ≠ 0) = decide ((aat xs t).view.phase ≠ 0) := by rw [decide_eq_true h,decide_eq_true h0]
 have : (xs.set t.toNat x).map (fun y =>decide (y.view.phase ≠ 0)) = xs.map fun y =>decide (y.view.phase ≠ 0) := by
  rw [List.map_set,h1,← List.map_set]
  exact congrArg _ (aqx (α := TkV) (d := (dfR 61 : TkV)) ht)
 rw [this]
theorem ass : ∀ {xs : List TkV} {i : Nat} {x z : TkV},xs[i]? = some z → z.view.phase = 0 → x.view.phase ≠ 0 → aeX (xs.set i x) = aeX xs + 1 ∧ aeX xs < xs.length
 | [],i,x,z,h,_,_ =>by simp at h
 | a :: xs,0,x,z,h,h0,h1 =>by
  obtain rfl : a = z := by simpa using h
  unfold aeX
  refine ⟨?_,?_⟩
  ·rw [List.set_cons_zero,List.countP_cons,List.countP_cons]
   simp [h0,h1]
  ·rw [List.countP_cons,List.length_cons]
   have := List.countP_le_length (p := fun (x : TkV) =>decide (x.view.phase ≠ 0)) (l := xs)
   have e : (if decide (a.view.phase ≠ 0) = true then 1 else 0) = 0 := by simp [h0]
   rw [e]; omega
 | a :: xs,i + 1,x,z,h,h0,h1 =>by
  have ih := ass (xs := xs) (i := i) (x := x) (z := z) (by simpa using h) h0 h1
  unfold aeX at *
  refine ⟨?_,?_⟩
  ·rw [List.set_cons_succ,List.countP_cons,List.countP_cons,ih.1]
   omega
  ·rw [List.countP_cons,List.length_cons]
   split <;> omega
theorem awZ {xs : List TkV} (ht : 0 ≤ t ∧ t < (xs.length : Int)) {x : TkV} (h0 : (aat xs t).view.phase = 0) (h : x.view.phase ≠ 0) : aeX (xs.set t.toNat x) = aeX xs + 1 ∧ aeX xs < xs.length :=
 ass (abZ (d := (dfR 61 : TkV)) ht) h0 h
theorem alp {s : List Int} (h : ach s = t) (ht : 0 ≤ t) : s = ac9 s ++ [t] := by
 unfold ach at h
 have h1 : ¬ (s.length : Int) = 0 := fun e =>by rw [if_pos e] at h; omega
 rw [if_neg h1] at h
 have h2 : s.length - 1 < s.length := by omega
 have h3 : s[s.length - 1] = t := by
  have a1 := abZ (α := Int) (d := (dfR 1 : Int)) (xs := s) (i := (s.length : Int) - 1) (by omega)
  have a2 : ((s.length : Int) - 1).toNat = s.length - 1 := by omega
  rw [a2,List.getElem?_eq_getElem h2] at a1
  exact (Option.some.inj a1).trans h
 unfold ac9
 have a2 : ((s.length : Int) - 1).toNat = s.length - 1 := by omega
 rw [a2,← h3,← List.take_succ_eq_append_getElem h2]
 exact (List.take_of_length_le (by omega)).symm
theorem BR.setR (h : BR n p r) (hw : 0 ≤ w ∧ w < p.c.workers) (ht : 0 ≤ t ∧ t < (p.tasks.length : Int)) (h0 : (aat r.tasks t).view.phase ≠ 0) (h2 : (aat r.tasks t).view.phase ≠ 2)
  {x : TkP} {y : TkV} (k : TR1 n p.c x y) (k1 : y.view.phase = 2) (k2 : y.view.worker = w) (k3 : y.view.parent = (aat r.tasks t).view.parent) {X : WkP} {Y : WlV} (kw : WR1 n p.c X Y) (hs : Y.stack = (abS r.works w).stack ++ [t]) :
  BR n { p with tasks := p.tasks.set t.toNat x,works := p.works.set w.toNat X } { r with tasks := r.tasks.set t.toNat y,works := r.works.set w.toNat Y } := by
 have hr : 0 ≤ t ∧ t < (r.tasks.length : Int) := by have := h.tl2; omega
 have hwp : 0 ≤ w ∧ w < (p.works.length : Int) := by have := h.wl; omega
 have hwr : 0 ≤ w ∧ w < (r.works.length : Int) := by have := h.wl2; omega
 have nst : ∀ v,0 ≤ v ∧ v < p.c.workers → t ∉ (abS r.works v).stack := fun v hv hm =>h2 (h.st v hv t hm).2.1
 have e0 : ∀ i,0 ≤ i → (aat r.tasks i).view.phase ≠ 0 → (aat (r.tasks.set t.toNat y) i).view.phase ≠ 0 := fun i hi hp =>by
  rw [ahz hr hi]; split
  ·rw [k1]; decide
  ·exact hp
 have e3 : ∀ i,0 ≤ i → (aat (r.tasks.set t.toNat y) i).view.parent = (aat r.tasks i).view.parent := fun i hi =>by
  rw [ahz hr hi]; split
  ·rename_i e; subst e; exact k3
  ·rfl
 have hc : aeX (r.tasks.set t.toNat y) = aeX r.tasks := ast hr h0 (by rw [k1]; decide)
 exact { h with
  tl := (congrArg (fun (n : Nat) =>(n : Int)) List.length_set).trans h.tl
  tl2 := (List.length_set ..).trans (h.tl2.trans (List.length_set ..).symm)
  tl3 := by rw [List.length_set]; exact h.tl3
  wl := (congrArg (fun (n : Nat) =>(n : Int)) List.length_set).trans h.wl
  wl2 := (congrArg (fun (n : Nat) =>(n : Int)) List.length_set).trans h.wl2
  tk := fun i hi =>by
   have hi : 0 ≤ i ∧ i < (p.tasks.length : Int) := by rw [List.length_set] at hi; exact hi
   show TR1 n p.c (aaf (p.tasks.set t.toNat x) i) (aat (r.tasks.set t.toNat y) i)
   rw [awx ht hi.1,ahz hr hi.1]
   split
   ·exact k
   ·exact h.tk i hi
  wk := fun i hi =>by
   show WR1 n p.c (aak (p.works.set w.toNat X) i) (abS (r.works.set w.toNat Y) i)
   rw [ava hwp hi.1,asZ hwr hi.1]
   split
   ·exact kw
   ·exact h.wk i hi
  cl := by
   show (aak (p.works.set w.toNat X) p.c.workers).stack = [] ∧ (aak (p.works.set w.toNat X) p.c.workers).sleeps = false
   rw [ava hwp (by omega),if_neg (by omega)]
   exact h.cl
  kn := by
   show p.known = (aeX (r.tasks.set t.toNat y) : Int)
   rw [hc]; exact h.kn
  st := fun v hv i hi =>by
   have hi : i ∈ (abS (r.works.set w.toNat Y) v).stack := hi
   rw [asZ hwr hv.1] at hi
   show (0 ≤ i ∧ i < ((p.tasks.set t.toNat x).length : Int)) ∧ (aat (r.tasks.set t.toNat y) i).view.phase = 2 ∧ (aat (r.tasks.set t.toNat y) i).view.worker = v
   rw [List.length_set]
   have old : i ∈ (abS r.works v).stack → (0 ≤ i ∧ i < (p.tasks.length : Int)) ∧ (aat (r.tasks.set t.toNat y) i).view.phase = 2 ∧ (aat (r.tasks.set t.toNat y) i).view.worker = v := fun hm =>by
    obtain ⟨q1,q2,q3⟩ := h.st v hv i hm
    have hne : ¬ i = t := fun e =>nst v hv (e ▸ hm)
    rw [ahz hr q1.1,if_neg hne]
    exact ⟨q1,q2,q3⟩
   split at hi
   ·rename_i e
    rw [hs] at hi
    rcases List.mem_append.1 hi with hi | hi
    ·exact old (by rw [e]; exact hi)
    ·obtain rfl : i = t := List.mem_singleton.1 hi
     rw [ahz hr ht.1,if_pos rfl]
     exact ⟨ht,k1,k2.trans e.symm⟩
   ·exact old hi
  nd := fun v hv =>by
   show (abS (r.works.set w.toNat Y) v).stack.Nodup
   rw [asZ hwr hv.1]
   split
   ·rw [hs]
    refine List.nodup_append.2 ⟨h.nd w hw,List.nodup_cons.2 ⟨List.not_mem_nil,List.nodup_nil⟩,fun a ha b hb e =>?_⟩
    obtain rfl : b = t := List.mem_singleton.1 hb
    exact nst w hw (e ▸ ha)
   ·exact h.nd v hv
  run := fun i hi hp =>by
   have hi : 0 ≤ i ∧ i < (p.tasks.length : Int) := by rw [List.length_set] at hi; exact hi
   have hp : (aat (r.tasks.set t.toNat y) i).view.phase = 2 := hp
   show (0 ≤ (aat (r.tasks.set t.toNat y) i).view.worker ∧ (aat (r.tasks.set t.toNat y) i).view.worker < p.c.workers) ∧ i ∈ (abS (r.works.set w.toNat Y) (aat (r.tasks.set t.toNat y) i).view.worker).stack
   by_cases e : i = t
   ·subst e
    rw [ahz hr hi.1,if_pos rfl,k2,aAF hwr,hs]
    exact ⟨hw,List.mem_append.2 (.inr (List.mem_singleton.2 rfl))⟩
   ·rw [ahz hr hi.1,if_neg e] at hp ⊢
    obtain ⟨q1,q2⟩ := h.run i hi hp
    refine ⟨q1,?_⟩
    rw [asZ hwr q1.1]
    split
    ·rename_i e2
     rw [hs,← e2]
     exact List.mem_append.2 (.inl q2)
    ·exact q2
  rk := by
   obtain ⟨rk,q1,q2⟩ := h.rk
   refine ⟨rk,fun i hi =>?_,fun i hi =>?_⟩
   ·have hi : 0 ≤ i ∧ i < (r.tasks.length : Int) := by rw [List.length_set] at hi; exact hi
    show (aat (r.tasks.set t.toNat y) i).view.parent = -1 ∨ ((0 ≤ (aat (r.tasks.set t.toNat y) i).view.parent ∧ (aat (r.tasks.set t.toNat y) i).view.parent < ((r.tasks.set t.toNat y).length : Int)) ∧ (aat (r.tasks.set t.toNat y) (aat (r.tasks.set t.toNat y) i).view.parent).view.phase ≠ 0 ∧ rk (aat (r.tasks.set t.toNat y) i).view.parent < rk i)
    rw [e3 i hi.1,List.length_set]
    rcases q1 i hi with q3 | ⟨q3,q4,q5⟩
    ·exact .inl q3
    ·exact .inr ⟨q3,e0 _ q3.1 q4,q5⟩
   ·have hi : 0 ≤ i ∧ i < (r.tasks.length : Int) := by rw [List.length_set] at hi; exact hi
    show rk i < (r.tasks.set t.toNat y).length ∧ ((aat (r.tasks.set t.toNat y) i).view.phase ≠ 0 → rk i < aeX (r.tasks.set t.toNat y))
    rw [List.length_set,hc]
    refine ⟨(q2 i hi).1,fun hp =>(q2 i hi).2 ?_⟩
    rw [ahz hr hi.1] at hp
    split at hp
    ·rename_i e; rw [e]; exact h0
    ·exact hp }
theorem BR.setP (h : BR n p r) (hw : 0 ≤ w ∧ w < p.c.workers) (ht : 0 ≤ t ∧ t < (p.tasks.length : Int)) (htop : ach (abS r.works w).stack = t)
  {x : TkP} {y : TkV} (k : TR1 n p.c x y) (k0 : y.view.phase ≠ 0) (k1 : y.view.phase ≠ 2) (k3 : y.view.parent = (aat r.tasks t).view.parent) {X : WkP} {Y : WlV} (kw : WR1 n p.c X Y) (hs : Y.stack = ac9 (abS r.works w).stack) :
  BR n { p with tasks := p.tasks.set t.toNat x,works := p.works.set w.toNat X } { r with tasks := r.tasks.set t.toNat y,works := r.works.set w.toNat Y } := by
 have hr : 0 ≤ t ∧ t < (r.tasks.length : Int) := by have := h.tl2; omega
 have hwp : 0 ≤ w ∧ w < (p.works.length : Int) := by have := h.wl; omega
 have hwr : 0 ≤ w ∧ w < (r.works.length : Int) := by have := h.wl2; omega
 have sp := alp htop ht.1
 have hnd := h.nd w hw
 have htm : t ∈ (abS r.works w).stack := by rw [sp]; exact List.mem_append.2 (.inr (List.mem_singleton.2 rfl))
 have tst := h.st w hw t htm
 have h0 : (aat r.tasks t).view.phase ≠ 0 := by rw [tst.2.1]; decide
 have nt : t ∉ ac9 (abS r.works w).stack := fun hm =>by
  rw [sp] at hnd
  exact (List.nodup_append.1 hnd).2.2 t hm t (List.mem_singleton.2 rfl) rfl
 have e0 : ∀ i,0 ≤ i → (aat r.tasks i).view.phase ≠ 0 → (aat (r.tasks.set t.toNat y) i).view.phase ≠ 0 := fun i hi hp =>by
  rw [ahz hr hi]; split
  ·exact k0
  ·exact hp
 have e3 : ∀ i,0 ≤ i → (aat (r.tasks.set t.toNat y) i).view.parent = (aat r.tasks i).view.parent := fun i hi =>by
  rw [ahz hr hi]; split
  ·rename_i e; subst e; exact k3
  ·rfl
 have hc : aeX (r.tasks.set t.toNat y) = aeX r.tasks := ast hr h0 k0
 have sub : ∀ v,0 ≤ v ∧ v < p.c.workers → ∀ i,i ∈ (abS (r.works.set w.toNat Y) v).stack → i ∈ (abS r.works v).stack ∧ ¬ i = t := fun v hv i hi =>by
  rw [asZ hwr hv.1] at hi
  split at hi
  ·rename_i e
   rw [hs] at hi
   refine ⟨?_,fun e2 =>nt (e2 ▸ hi)⟩
   rw [e,sp]; exact List.mem_append.2 (.inl hi)
  ·rename_i e
   refine ⟨hi,fun e2 =>e ?_⟩
   have := (h.st v hv i hi).2.2
   rw [e2,tst.2.2] at this
   exact this.symm
 exact { h with
  tl := (congrArg (fun (n : Nat) =>(n : Int)) List.length_set).trans h.tl
  tl2 := (List.length_set ..).trans (h.tl2.trans (List.length_set ..).symm)
  tl3 := by rw [List.length_set]; exact h.tl3
  wl := (congrArg (fun (n : Nat) =>(n : Int)) List.length_set).trans h.wl
  wl2 := (congrArg (fun (n : Nat) =>(n : Int)) List.length_set).trans h.wl2
  tk := fun i hi =>by
   have hi : 0 ≤ i ∧ i < (p.tasks.length : Int) := by rw [List.length_set] at hi; exact hi
   show TR1 n p.c (aaf (p.tasks.set t.toNat x) i) (aat (r.tasks.set t.toNat y) i)
   rw [awx ht hi.1,ahz hr hi.1]
   split
   ·exact k
   ·exact h.tk i hi
  wk := fun i hi =>by
   show WR1 n p.c (aak (p.works.set w.toNat X) i) (abS (r.works.set w.toNat Y) i)
   rw [ava hwp hi.1,asZ hwr hi.1]
   split
   ·exact kw
   ·exact h.wk i hi
  cl := by
   show (aak (p.works.set w.toNat X) p.c.workers).stack = [] ∧ (aak (p.works.set w.toNat X) p.c.workers).sleeps = false
   rw [ava hwp (by omega),if_neg (by omega)]
   exact h.cl
  kn := by
   show p.known = (aeX (r.tasks.set t.toNat y) : Int)
   rw [hc]; exact h.kn
  st := fun v hv i hi =>by
   obtain ⟨hm,hne⟩ := sub v hv i hi
   obtain ⟨q1,q2,q3⟩ := h.st v hv i hm
   show (0 ≤ i ∧ i < ((p.tasks.set t.toNat x).length : Int)) ∧ (aat (r.tasks.set t.toNat y) i).view.phase = 2 ∧ (aat (r.tasks.set t.toNat y) i).view.worker = v
   rw [List.length_set,ahz hr q1.1,if_neg hne]
   exact ⟨q1,q2,q3⟩
  nd := fun v hv =>by
   show (abS (r.works.set w.toNat Y) v).stack.Nodup
   rw [asZ hwr hv.1]
   split
   ·rw [hs]
    rw [sp] at hnd
    exact (List.nodup_append.1 hnd).1
   ·exact h.nd v hv
  run := fun i hi hp =>by
   have hi : 0 ≤ i ∧ i < (p.tasks.length : Int) := by rw [List.length_set] at hi; exact hi
   have hp : (aat (r.tasks.set t.toNat y) i).view.phase = 2 := hp
   show (0 ≤ (aat (r.tasks.set t.toNat y) i).view.worker ∧ (aat (r.tasks.set t.toNat y) i).view.worker < p.c.workers) ∧ i ∈ (abS (r.works.set w.toNat Y) (aat (r.tasks.set t.toNat y) i).view.worker).stack
   by_cases e : i = t
   ·subst e
    rw [ahz hr hi.1,if_pos rfl] at hp
    exact absurd hp k1
   ·rw [ahz hr hi.1,if_neg e] at hp ⊢
    obtain ⟨q1,q2⟩ := h.run i hi hp
    refine ⟨q1,?_⟩
    rw [asZ hwr q1.1]
    split
    ·rename_i e2
     rw [hs]
     rw [e2,sp] at q2
     rcases List.mem_append.1 q2 with q2 | q2
     ·exact q2
     ·exact absurd (List.mem_singleton.1 q2) e
    ·exact q2
  rk := by
   obtain ⟨rk,q1,q2⟩ := h.rk
   refine ⟨rk,fun i hi =>?_,fun i hi =>?_⟩
   ·have hi : 0 ≤ i ∧ i < (r.tasks.length : Int) := by rw [List.length_set] at hi; exact hi
    show (aat (r.tasks.set t.toNat y) i).view.parent = -1 ∨ ((0 ≤ (aat (r.tasks.set t.toNat y) i).view.parent ∧ (aat (r.tasks.set t.toNat y) i).view.parent < ((r.tasks.set t.toNat y).length : Int)) ∧ (aat (r.tasks.set t.toNat y) (aat (r.tasks.set t.toNat y) i).view.parent).view.phase ≠ 0 ∧ rk (aat (r.tasks.set t.toNat y) i).view.parent < rk i)
    rw [e3 i hi.1,List.length_set]
    rcases q1 i hi with q3 | ⟨q3,q4,q5⟩
    ·exact .inl q3
    ·exact .inr ⟨q3,e0 _ q3.1 q4,q5⟩
   ·have hi : 0 ≤ i ∧ i < (r.tasks.length : Int) := by rw [List.length_set] at hi; exact hi
    show rk i < (r.tasks.set t.toNat y).length ∧ ((aat (r.tasks.set t.toNat y) i).view.phase ≠ 0 → rk i < aeX (r.tasks.set t.toNat y))
    rw [List.length_set,hc]
    refine ⟨(q2 i hi).1,fun hp =>(q2 i hi).2 ?_⟩
    rw [ahz hr hi.1] at hp
    split at hp
    ·rename_i e; rw [e]; exact h0
    ·exact hp }
theorem BR.setN (h : BR n p r) (ht : 0 ≤ t ∧ t < (p.tasks.length : Int)) (h0 : (aat r.tasks t).view.phase = 0) (ho : o = -1 ∨ (0 ≤ o ∧ o < (p.tasks.length : Int)) ∧ (aat r.tasks o).view.phase ≠ 0)
  {x : TkP} {y : TkV} (k : TR1 n p.c x y) (k1 : y.view.phase = 1) (k3 : y.view.parent = o) :
  BR n { p with tasks := p.tasks.set t.toNat x,known := wi (p.known + 1) } { r with tasks := r.tasks.set t.toNat y } := by
 have hr : 0 ≤ t ∧ t < (r.tasks.length : Int) := by have := h.tl2; omega
 obtain ⟨hc,hlt⟩ := awZ hr h0 (x := y) (by rw [k1]; decide)
 have nst : ∀ v,0 ≤ v ∧ v < p.c.workers → t ∉ (abS r.works v).stack := fun v hv hm =>by have := (h.st v hv t hm).2.1; omega
 exact { h with
  tl := (congrArg (fun (n : Nat) =>(n : Int)) List.length_set).trans h.tl
  tl2 := (List.length_set ..).trans (h.tl2.trans (List.length_set ..).symm)
  tl3 := by rw [List.length_set]; exact h.tl3
  tk := fun i hi =>by
   have hi : 0 ≤ i ∧ i < (p.tasks.length : Int) := by rw [List.length_set] at hi; exact hi
   show TR1 n p.c (aaf (p.tasks.set t.toNat x) i) (aat (r.tasks.set t.toNat y) i)
   rw [awx ht hi.1,ahz hr hi.1]
   split
   ·exact k
   ·exact h.tk i hi
  kn := by
   show wi (p.known + 1) = (aeX (r.tasks.set t.toNat y) : Int)
   have := h.kn
   have := h.tl3
   have := h.tl2
   rw [hc,aa7 (aab (by omega))]; omega
  st := fun v hv i hi =>by
   obtain ⟨q1,q2,q3⟩ := h.st v hv i hi
   have hne : ¬ i = t := fun e =>nst v hv (e ▸ hi)
   show (0 ≤ i ∧ i < ((p.tasks.set t.toNat x).length : Int)) ∧ (aat (r.tasks.set t.toNat y) i).view.phase = 2 ∧ (aat (r.tasks.set t.toNat y) i).view.worker = v
   rw [List.length_set,ahz hr q1.1,if_neg hne]
   exact ⟨q1,q2,q3⟩
  run := fun i hi hp =>by
   have hi : 0 ≤ i ∧ i < (p.tasks.length : Int) := by rw [List.length_set] at hi; exact hi
   have hp : (aat (r.tasks.set t.toNat y) i).view.phase = 2 := hp
   show (0 ≤ (aat (r.tasks.set t.toNat y) i).view.worker ∧ (aat (r.tasks.set t.toNat y) i).view.worker < p.c.workers) ∧ i ∈ (abS r.works (aat (r.tasks.set t.toNat y) i).view.worker).stack
   rw [ahz hr hi.1] at hp ⊢
   split at hp
   ·rw [k1] at hp; exact absurd hp (by decide)
   ·rename_i e
    rw [if_neg e]
    exact h.run i hi hp
  rk := by
   obtain ⟨rk,q1,q2⟩ := h.rk
   have old : ∀ i,0 ≤ i ∧ i < (r.tasks.length : Int) → (aat r.tasks i).view.phase ≠ 0 → ¬ i = t := fun i _ hp e =>hp (by rw [e]; exact h0)
   have ho2 : o = -1 ∨ ((0 ≤ o ∧ o < (r.tasks.length : Int)) ∧ (aat r.tasks o).view.phase ≠ 0) := by rw [h.tl2]; exact ho
   refine ⟨fun i =>if i = t then aeX r.tasks else rk i,fun i hi =>?_,fun i hi =>?_⟩
   ·have hi : 0 ≤ i ∧ i < (r.tasks.length : Int) := by rw [List.length_set] at hi; exact hi
    show (aat (r.tasks.set t.toNat y) i).view.parent = -1 ∨ ((0 ≤ (aat (r.tasks.set t.toNat y) i).view.parent ∧ (aat (r.tasks.set t.toNat y) i).view.parent < ((r.tasks.set t.toNat y).length : Int)) ∧ (aat (r.tasks.set t.toNat y) (aat (r.tasks.set t.toNat y) i).view.parent).view.phase ≠ 0 ∧ (if (aat (r.tasks.set t.toNat y) i).view.parent = t then aeX r.tasks else rk (aat (r.tasks.set t.toNat y) i).view.parent) < (if i = t then aeX r.tasks else rk i))
    rw [List.length_set]
    by_cases e : i = t
    ·subst e
     rw [aAb hr,k3,if_pos rfl]
     rcases ho2 with e1 | ⟨e1,e2⟩
     ·exact .inl e1
     ·have hne := old o e1 e2
      rw [ahz hr e1.1,if_neg hne,if_neg hne]
      exact .inr ⟨e1,e2,(q2 o e1).2 e2⟩
    ·rw [ahz hr hi.1,if_neg e,if_neg e]
     rcases q1 i hi with q3 | ⟨q3,q4,q5⟩
     ·exact .inl q3
     ·have hne := old _ q3 q4
      rw [ahz hr q3.1,if_neg hne,if_neg hne]
      exact .inr ⟨q3,q4,q5⟩
   ·have hi : 0 ≤ i ∧ i < (r.tasks.length : Int) := by rw [List.length_set] at hi; exact hi
    show (if i = t then aeX r.tasks else rk i) < (r.tasks.set t.toNat y).length ∧ ((aat (r.tasks.set t.toNat y) i).view.phase ≠ 0 → (if i = t then aeX r.tasks else rk i) < aeX (r.tasks.set t.toNat y))
    rw [List.length_set,hc]
    by_cases e : i = t
    ·rw [if_pos e]
     exact ⟨hlt,fun _ =>by omega⟩
    ·rw [if_neg e,ahz hr hi.1,if_neg e]
     exact ⟨(q2 i hi).1,fun hp =>Nat.lt_succ_of_lt ((q2 i hi).2 hp)⟩ }
end
structure VC (c : Cfg) : Prop where
 pg : ∀ k,0 ≤ k ∧ k < (c.progs.length : Int) → (atL [] c.progs k).length ≤ 1000000 ∧ ∀ a,0 ≤ a → a < ((atL [] c.progs k).length : Int) → ((acv (atL [] c.progs k) a).op = 1 → 0 ≤ (acv (atL [] c.progs k) a).a ∧ (acv (atL [] c.progs k) a).a < (c.progs.length : Int)) ∧ ((acv (atL [] c.progs k) a).op = 2 → 0 ≤ (acv (atL [] c.progs k) a).a)
 sb : ∀ o,0 ≤ o ∧ o < (c.subs.length : Int) → 0 ≤ (ac1 c.subs o).prog ∧ (ac1 c.subs o).prog < (c.progs.length : Int)
 tk : 1 ≤ c.tasks
section
variable {n : Nat} {p : SyP} {r : SaV} {k w t o l : Int}
theorem WR1.lst {c : Cfg} {x : WkP} {y : WlV} {e : Ev} (h : WR1 n c x y) : WR1 n c { x with last := e } { y with last := e } := { h with last := rfl }
theorem BR.po (h : BR n p r) (hn : n ≤ 1000000) : PO p where
 tl := h.tl
 wl := h.wl
 stk w hw := by
  have := h.wl
  by_cases e : w = p.c.workers
  ·rw [e,h.cl.1]; exact Nat.zero_le _
  ·exact Nat.le_trans (h.wk w (by omega)).sn hn
 kid t ht := Nat.le_trans (h.tk t ht).kn hn
 prg t ht := (h.tk t ht).pl
 at0 t ht := (h.tk t ht).at0
theorem apI {c : Cfg} {x : TkP} {y : TkV} (T : TR1 n c x y) : prT x = prR x.prog y := by
 unfold prT prR; rw [T.kids,T.pc]
theorem BR.top (h : BR n p r) (hw : 0 ≤ w ∧ w < p.c.workers) (htop : ach (abS r.works w).stack = t) (ht : 0 ≤ t) : (0 ≤ t ∧ t < (p.tasks.length : Int)) ∧ (aat r.tasks t).view.phase = 2 ∧ (aat r.tasks t).view.worker = w := by
 refine h.st w hw t ?_
 rw [alp htop ht]
 exact List.mem_append.2 (.inr (List.mem_singleton.2 rfl))
theorem aj8 {c : Cfg} {x : TkP} {y : TkV} (T : TR1 n c x y) (hb : (prT x).2.2 = true) : wi ((prT x).1 + 1) = (prT x).1 + 1 ∧ 0 ≤ (prT x).1 ∧ (prT x).1 < (x.prog.length : Int) ∧ (prT x).2.1 = acv x.prog (prT x).1 := by
 have h := aiF (kids := x.kids) T.at0.1 T.at0.2
 have hb : (apH x.prog x.kids x.at_).2.2 = true := hb
 have h2 := h.2 hb
 have := T.pl
 have := T.at0
 have h3 : x.at_ ≤ (prT x).1 := h.1.1
 have h4 : (prT x).1 < (x.prog.length : Int) := h2.1
 exact ⟨aa7 (aab (by omega)),by omega,h4,h2.2⟩
theorem ao2 {c : Cfg} {x : TkP} {y : TkV} (T : TR1 n c x y) (hb : (prT x).2.2 = true) : 0 ≤ wi ((prT x).1 + 1) ∧ wi ((prT x).1 + 1) ≤ (x.prog.length : Int) := by
 obtain ⟨a1,a2,a3,_⟩ := aj8 T hb
 rw [a1]; omega
theorem an6 {xs : List Int} {a : Int} (h : xs.length ≤ n) : (xs ++ [a]).length ≤ n + 1 := by
 rw [List.length_append]; exact Nat.add_le_add_right h 1
theorem WR1.push {c : Cfg} {x : WkP} {y : WlV} {e : Ev} (W : WR1 n c x y) : WR1 (n + 1) c { x with stack := x.stack ++ [t],last := e } { y with stack := y.stack ++ [t],last := e } :=
  { W with stack := by show x.stack ++ [t] = y.stack ++ [t]; rw [W.stack]
           sn := by show (x.stack ++ [t]).length ≤ n + 1; rw [List.length_append]; exact Nat.add_le_add_right W.sn 1
           last := rfl }
theorem WR1.pop {c : Cfg} {x : WkP} {y : WlV} {e : Ev} (W : WR1 n c x y) : WR1 (n + 1) c { x with stack := ac9 x.stack,last := e } { y with stack := aqq y.stack,last := e } :=
  { W with stack := by show ac9 x.stack = ac9 y.stack; rw [W.stack]
           sn := by
            show (ac9 x.stack).length ≤ n + 1
            unfold ac9
            rw [List.length_take]
            have := W.sn
            omega
           last := rfl }
theorem TR1.run {c : Cfg} {x : TkP} {y : TkV} (T : TR1 n c x y) (h0 : x.ph ≠ 0) : TR1 (n + 1) c { x with ph := 2,wt := -1 } { y with view := { y.view with phase := 2,worker := w,other := -1 } } :=
 { T.mono with ph := rfl,wt := rfl,prog := fun _ =>T.prog h0,ot := fun _ =>rfl,wr := (fun h =>by cases h),wk := fun h =>absurd rfl h }
theorem amE {ks : List KyV} {i : Nat} (h : i < ks.length) : ads ks (i : Int) = ks[i] := by
 have a1 := abZ (α := KyV) (d := (dfR 68 : KyV)) (xs := ks) (i := (i : Int)) ⟨by omega,by omega⟩
 rw [Int.toNat_natCast,List.getElem?_eq_getElem h] at a1
 exact (Option.some.inj a1).symm
theorem Srt.pw {ks : List KyV} {m : Int} (h : Srt ks m) : ks.Pairwise leK ∧ ∀ a ∈ ks,a.arrival < m := by
 refine ⟨List.pairwise_iff_getElem.2 fun i j hi hj hij =>?_,fun a ha =>?_⟩
 ·have := h.s i j hij hj
  rw [amE hi,amE hj] at this
  exact this
 ·obtain ⟨i,hi,rfl⟩ := List.getElem_of_mem ha
  have := h.a i hi
  rw [amE hi] at this
  exact this
theorem Srt.of {ks : List KyV} {m : Int} (h1 : ks.Pairwise leK) (h2 : ∀ a ∈ ks,a.arrival < m) : Srt ks m where
 s i j hij hj := by
  rw [amE (by omega),amE hj]
  exact List.pairwise_iff_getElem.1 h1 i j (by omega) hj hij
 a i hi := by
  rw [amE hi]; exact h2 _ (List.getElem_mem hi)
theorem aw6 (hr : aaj p ⟨k,w,t,o,l⟩ = some ((false,()),(p,()))) : aah p ⟨k,w,t,o,l⟩ = some ((false,()),(p,())) := by
 unfold aah aal
 rw [hr,abo]; rfl
theorem azY (hw : 0 ≤ w ∧ w < (p.works.length : Int)) (hr : aaj p ⟨k,w,t,o,l⟩ = some ((true,()),(p,()))) (hs : ¬ (aak p.works w).sleeps = decide (k = 17)) : aah p ⟨k,w,t,o,l⟩ = some ((false,()),(p,())) := by
 unfold aah aal
 rw [hr,abo,if_neg (show ¬ (!true) = true by decide)]
 dsimp only
 rw [if_pos hw,if_pos hs]
 have e : aaP p.works w = p.works := abe hw
 rw [e]
def PhS (p p' : SyP) (t v : Int) : Prop := ∀ i,0 ≤ i ∧ i < (p.tasks.length : Int) → (aaf p'.tasks i).ph = if i = t then v else (aaf p.tasks i).ph
def PhC (p p' : SyP) (k t o : Int) : Prop :=
 ((k = 1 ∨ k = 3) ∧ (aaf p.tasks t).ph = 0 ∧ PhS p p' t 1) ∨ (k = 5 ∧ (aaf p.tasks t).ph = 1 ∧ PhS p p' t 2) ∨ (k = 9 ∧ (aaf p.tasks t).ph = 3 ∧ PhS p p' t 2) ∨
 (k = 10 ∧ (aaf p.tasks t).ph = 2 ∧ PhS p p' t 4) ∨ (k = 6 ∧ (aaf p.tasks t).ph = 2 ∧ PhS p p' t 3) ∨
 (k = 8 ∧ (aaf p.tasks o).ph = 4 ∧ PhS p p' t (aaf p.tasks t).ph) ∨ ((k ≠ 1 ∧ k ≠ 3 ∧ k ≠ 5 ∧ k ≠ 10 ∧ k ≠ 8) ∧ PhS p p' t (aaf p.tasks t).ph)
theorem ajj {q : SyP} (h : q.tasks = p.tasks) : PhS p q t (aaf p.tasks t).ph := fun i _ =>by
 rw [h]; split
 ·rename_i e; rw [e]
 ·rfl
theorem akI (ht : 0 ≤ t ∧ t < (p.tasks.length : Int)) {q : SyP} {x : TkP} (h : q.tasks = p.tasks.set t.toNat x) {v : Int} (hv : x.ph = v) : PhS p q t v := fun i hi =>by
 rw [h,awx ht hi.1]; split
 ·exact hv
 ·rfl
theorem ahq (hk : k ≠ 1 ∧ k ≠ 3 ∧ k ≠ 5 ∧ k ≠ 10 ∧ k ≠ 8) {q : SyP} (h : PhS p q t (aaf p.tasks t).ph) : PhC p q k t o := .inr (.inr (.inr (.inr (.inr (.inr ⟨hk,h⟩)))))
def SqM (n : Nat) (p : SyP) (e : Ev) : Prop :=
 (∃ p' r',aah p e = some ((true,()),(p',())) ∧ BR (n + 1) p' r' ∧ p'.c = p.c ∧ PhC p p' e.kind e.task e.other) ∨
 (∃ q,aah p e = some ((false,()),(q,())) ∧ SameV p q)
theorem aeg {e : Ev} {C : Prop} {p' : SyP} (hp : PS p e C p') (hB : C → ∃ r',BR (n + 1) p' r') (hph : C → PhC p p' e.kind e.task e.other) (hc : p'.c = p.c) : SqM n p e := by
 obtain ⟨b,q,h1,h2,h3⟩ := hp
 cases b with
 | true =>
  obtain ⟨h7,rfl⟩ := h2 rfl
  obtain ⟨r',h8⟩ := hB h7
  exact .inl ⟨_,_,h1,h8,hc,hph h7⟩
 | false =>exact .inr ⟨_,h1,(h3 rfl).2⟩
structure EJ (p : SyP) (k w t o l : Int) : Prop where
 hw : 0 ≤ w ∧ w < p.c.workers
 ht : 0 ≤ t ∧ t < (p.tasks.length : Int)
 hr : aaj p ⟨k,w,t,o,l⟩ = some ((true,()),(p,()))
theorem EJ.wp (h : BR n p r) (e : EJ p k w t o l) : 0 ≤ w ∧ w < (p.works.length : Int) := by have := h.wl; have := e.hw; omega
theorem aAk (hn : n ≤ 999999) (h : BR n p r) (e : EJ p 12 w t o l) (hs : (aak p.works w).sleeps = false) : SqM n p ⟨12,w,t,o,l⟩ := by
 have T := h.tk t e.ht
 have W := h.wk w e.hw
 refine aeg (aAv (h.po (by omega)) (e.wp h) e.ht e.hr hs) (fun hC =>?_) (fun hC =>ahq (k := 12) (by decide) (akI e.ht (x := { aaf p.tasks t with lv := l }) rfl rfl)) rfl
 ·exact ⟨_,(h.mono.setT e.ht (x := { aaf p.tasks t with lv := l }) (y := { aat r.tasks t with view := { (aat r.tasks t).view with level := l } }) { T.mono with lv := rfl } rfl rfl rfl).setW e.hw W.mono.lst rfl⟩
theorem aAi (hn : n ≤ 999999) (h : BR n p r) (e : EJ p 14 w t o l) (ho : 0 ≤ o ∧ o < p.c.workers) (hs : (aak p.works w).sleeps = false) : SqM n p ⟨14,w,t,o,l⟩ := by
 have T := h.tk t e.ht
 have W := h.wk w e.hw
 refine aeg (aAt (h.po (by omega)) (e.wp h) e.ht e.hr hs) (fun hC =>?_) (fun hC =>ahq (k := 14) (by decide) (ajj rfl)) rfl
 ·exact ⟨_,h.mono.setW e.hw W.mono.lst rfl⟩
theorem aAh (hn : n ≤ 999999) (h : BR n p r) (e : EJ p 15 w t o l) (hs : (aak p.works w).sleeps = false) : SqM n p ⟨15,w,t,o,l⟩ := by
 have T := h.tk t e.ht
 have W := h.wk w e.hw
 refine aeg (aAs (h.po (by omega)) (e.wp h) e.ht e.hr hs) (fun hC =>?_) (fun hC =>ahq (k := 15) (by decide) (ajj rfl)) rfl
 ·exact ⟨_,h.mono.setW e.hw W.mono.lst rfl⟩
theorem aAg (hn : n ≤ 999999) (h : BR n p r) (e : EJ p 16 w t o l) (hs : (aak p.works w).sleeps = false) : SqM n p ⟨16,w,t,o,l⟩ := by
 have W := h.wk w e.hw
 refine aeg (aAr (h.po (by omega)) (e.wp h) e.ht e.hr hs) (fun hC =>?_) (fun hC =>ahq (k := 16) (by decide) (ajj rfl)) rfl
 ·exact ⟨_,h.mono.setW e.hw (x := { aak p.works w with sleeps := true,last := ⟨16,w,t,o,l⟩ }) (y := { abS r.works w with sleeps := true,last := ⟨16,w,t,o,l⟩ }) { W.mono with sleeps := rfl,last := rfl } rfl⟩
theorem aAf (hn : n ≤ 999999) (h : BR n p r) (e : EJ p 17 w t o l) (hs : (aak p.works w).sleeps = true) : SqM n p ⟨17,w,t,o,l⟩ := by
 have W := h.wk w e.hw
 refine aeg (aAq (h.po (by omega)) (e.wp h) e.ht e.hr hs) (fun hC =>?_) (fun hC =>ahq (k := 17) (by decide) (ajj rfl)) rfl
 ·exact ⟨_,h.mono.setW e.hw (x := { aak p.works w with sleeps := false,last := ⟨17,w,t,o,l⟩ }) (y := { abS r.works w with sleeps := false,last := ⟨17,w,t,o,l⟩ }) { W.mono with sleeps := rfl,last := rfl } rfl⟩
theorem aAe (hn : n ≤ 999999) (h : BR n p r) (e : EJ p 18 w t o l) (ho : 0 ≤ o ∧ o < p.c.workers) (hs : (aak p.works w).sleeps = false) : SqM n p ⟨18,w,t,o,l⟩ := by
 have W := h.wk w e.hw
 refine aeg (az5 (h.po (by omega)) (e.wp h) e.ht e.hr hs) (fun hC =>?_) (fun hC =>ahq (k := 18) (by decide) (ajj rfl)) rfl
 ·exact ⟨_,h.mono.setW e.hw W.mono.lst rfl⟩
theorem aAd (hn : n ≤ 999999) (h : BR n p r) (e : EJ p 19 w t o l) (hs : (aak p.works w).sleeps = false) : SqM n p ⟨19,w,t,o,l⟩ := by
 have T := h.tk t e.ht
 have W := h.wk w e.hw
 refine aeg (aAp (h.po (by omega)) (e.wp h) e.ht e.hr hs) (fun hC =>?_) (fun hC =>ahq (k := 19) (by decide) (ajj rfl)) rfl
 ·exact ⟨_,h.mono.setW e.hw W.mono.lst rfl⟩
theorem sq7 (hn : n ≤ 999999) (h : BR n p r) (e : EJ p 7 w t o l) (hs : (aak p.works w).sleeps = false) : SqM n p ⟨7,w,t,o,l⟩ := by
 have T := h.tk t e.ht
 have W := h.wk w e.hw
 refine aeg (pk7 (h.po (by omega)) (e.wp h) e.ht e.hr hs) (fun hC =>?_) (fun hC =>ahq (k := 7) (by decide) (ajj rfl)) rfl
 ·exact ⟨_,h.mono.setW e.hw (x := { aak p.works w with walks := false,last := ⟨7,w,t,o,l⟩ }) (y := { abS r.works w with walk := -1,last := ⟨7,w,t,o,l⟩ }) { W.mono with won := (fun h =>nomatch h),woff := fun _ =>rfl,last := rfl } rfl⟩
theorem aAl (hn : n ≤ 999999) (hl0 : 0 ≤ l) (h : BR n p r) (e : EJ p 11 w t o l) (hs : (aak p.works w).sleeps = false) : SqM n p ⟨11,w,t,o,l⟩ := by
 have T := h.tk t e.ht
 have W := h.wk w e.hw
 obtain ⟨rk,k1,k2⟩ := h.rk
 have hl := h.tl2
 have hl3 := h.tl3
 have htl := h.tl
 have ht := e.ht
 have k4 : ∀ i,0 ≤ i ∧ i < (p.tasks.length : Int) → (aaf p.tasks i).pa = -1 ∨ (0 ≤ (aaf p.tasks i).pa ∧ (aaf p.tasks i).pa < (p.tasks.length : Int)) ∧ rk (aaf p.tasks i).pa < rk i := fun i hi =>by
  rw [(h.tk i hi).pa,← hl]
  exact (k1 i (by omega)).imp_right fun h =>⟨h.1,h.2.2⟩
 have wkP : (aak p.works w).walks = true → 0 ≤ (aak p.works w).walk ∧ (aak p.works w).walk < (p.tasks.length : Int) := fun hw =>by
  obtain ⟨h1,h2,_⟩ := W.won hw
  rw [h1]; omega
 have hrt := (k2 t (by omega)).1
 refine aeg (aAw (h.po (by omega)) (e.wp h) e.ht wkP k4 (by omega) (by omega) e.hr hs) (fun hC =>?_) (fun hC =>ahq (k := 11) (by decide) (akI e.ht (x := { aaf p.tasks t with lv := l }) rfl rfl)) rfl
 ·obtain ⟨h1,h2,h3,h4,h5⟩ := W.won hC.1
  exact ⟨_,(h.mono.setT e.ht (x := { aaf p.tasks t with lv := l }) (y := { aat r.tasks t with view := { (aat r.tasks t).view with level := l } }) { T.mono with lv := rfl } rfl rfl rfl).setW e.hw (x := { aak p.works w with up := l,last := ⟨11,w,t,o,l⟩ }) (y := { abS r.works w with up := l,last := ⟨11,w,t,o,l⟩ }) { W.mono with won := fun hx =>⟨h1,h2,h3,rfl,by show -1 ≤ l; omega⟩,last := rfl } rfl⟩
theorem sq5 (hn : n ≤ 999999) (h : BR n p r) (e : EJ p 5 w t o l) (hs : (aak p.works w).sleeps = false) : SqM n p ⟨5,w,t,o,l⟩ := by
 have T := h.tk t e.ht
 have W := h.wk w e.hw
 refine aeg (pk5 (h.po (by omega)) (e.wp h) e.ht e.hr hs) (fun hC =>?_) (fun hC =>.inr (.inl ⟨rfl,hC.1,(by exact akI e.ht rfl rfl)⟩)) rfl
 ·have h1 := hC.1
  have h2 := T.ph
  exact ⟨_,h.mono.setR e.hw e.ht (by omega) (by omega) (T.run (by omega)) rfl rfl rfl W.push rfl⟩
theorem sq9 (hn : n ≤ 999999) (h : BR n p r) (e : EJ p 9 w t o l) (hs : (aak p.works w).sleeps = false) : SqM n p ⟨9,w,t,o,l⟩ := by
 have T := h.tk t e.ht
 have W := h.wk w e.hw
 have hl := h.tl2
 have hl2 := h.tl
 have wr : (aaf p.tasks t).ph = 3 → 0 ≤ (aaf p.tasks t).wt ∧ (aaf p.tasks t).wt < (p.tasks.length : Int) := fun h3 =>by have := T.wr h3; omega
 refine aeg (pk9 (h.po (by omega)) (e.wp h) e.ht wr e.hr hs) (fun hC =>?_) (fun hC =>.inr (.inr (.inl ⟨rfl,hC.1,(by exact akI e.ht rfl rfl)⟩))) rfl
 ·have h1 := hC.1
  have h2 := T.ph
  exact ⟨_,h.mono.setR e.hw e.ht (by omega) (by omega) (T.run (by omega)) rfl rfl rfl W.push rfl⟩
theorem aAm (hv : VC p.c) (hn : n ≤ 999999) (h : BR n p r) (e : EJ p 10 w t o l) (hs : (aak p.works w).sleeps = false) : SqM n p ⟨10,w,t,o,l⟩ := by
 have T := h.tk t e.ht
 have W := h.wk w e.hw
 refine aeg (aAx (h.po (by omega)) (e.wp h) e.ht e.hr hs) (fun hC =>?_) (fun hC =>?_) rfl
 ·have htop : ach (abS r.works w).stack = t := by rw [← W.stack]; exact hC.1
  obtain ⟨_,h2,_⟩ := h.top e.hw htop e.ht.1
  have h3 := T.ph
  refine ⟨_,h.mono.setP e.hw e.ht htop (x := { aaf p.tasks t with at_ := (prT (aaf p.tasks t)).1,ph := 4 }) (y := { aat r.tasks t with pc := (prR (aaf p.tasks t).prog (aat r.tasks t)).1,view := { (aat r.tasks t).view with phase := 4,worker := -1 } }) ?_ (show (4 : Int) ≠ 0 by decide) (show (4 : Int) ≠ 2 by decide) rfl W.pop rfl⟩
  exact { T.mono with ph := rfl,pc := congrArg (fun v =>v.1) (apI T),at0 := ⟨Int.le_trans T.at0.1 (aiF T.at0.1 T.at0.2).1.1,(aiF T.at0.1 T.at0.2).1.2⟩,prog := fun _ =>T.prog (by omega),ot := fun _ =>T.ot (by omega),wr := (fun h =>by cases h),wk := fun _ =>rfl }
 ·exact .inr (.inr (.inr (.inl ⟨rfl,by
   have htop : ach (abS r.works w).stack = t := by rw [← W.stack]; exact hC.1
   exact T.ph.trans (h.top e.hw htop e.ht.1).2.1,(by exact akI e.ht rfl rfl)⟩)))
theorem sq8 (hv : VC p.c) (hn : n ≤ 999999) (h : BR n p r) (e : EJ p 8 w t o l) (ho : 0 ≤ o ∧ o < (p.tasks.length : Int)) (hs : (aak p.works w).sleeps = false) : SqM n p ⟨8,w,t,o,l⟩ := by
 have T := h.tk t e.ht
 have W := h.wk w e.hw
 have hl := h.tl2
 refine aeg (pk8 (h.po (by omega)) (e.wp h) e.ht ho e.hr hs) (fun hC =>?_) (fun hC =>.inr (.inr (.inr (.inr (.inr (.inl ⟨rfl,hC.2.2.2.2,akI e.ht (x := { aaf p.tasks t with at_ := wi ((prT (aaf p.tasks t)).1 + 1) }) rfl rfl⟩)))))) rfl
 ·obtain ⟨a1,a2,a3,_⟩ := aj8 T hC.2.1
  refine ⟨_,(h.mono.setT e.ht (x := { aaf p.tasks t with at_ := wi ((prT (aaf p.tasks t)).1 + 1) }) (y := { aat r.tasks t with pc := wi ((prR (aaf p.tasks t).prog (aat r.tasks t)).1 + 1) }) ?_ rfl rfl rfl).setW e.hw W.mono.lst rfl⟩
  exact { T.mono with pc := congrArg (fun v =>wi (v.1 + 1)) (apI T),at0 := ao2 T hC.2.1 }
theorem sq6 (hv : VC p.c) (hn : n ≤ 999999) (h : BR n p r) (e : EJ p 6 w t o l) (ho : 0 ≤ o ∧ o < (p.tasks.length : Int)) (hs : (aak p.works w).sleeps = false) : SqM n p ⟨6,w,t,o,l⟩ := by
 have T := h.tk t e.ht
 have W := h.wk w e.hw
 have hl := h.tl2
 have htl := h.tl
 refine aeg (pk6 (h.po (by omega)) (e.wp h) e.ht ho e.hr hs) (fun hC =>?_) (fun hC =>?_) rfl
 ·obtain ⟨a1,a2,a3,_⟩ := aj8 T hC.2.1
  have htop : ach (abS r.works w).stack = t := by rw [← W.stack]; exact hC.1
  obtain ⟨_,h2,_⟩ := h.top e.hw htop e.ht.1
  have h3 := T.ph
  have ht := e.ht
  refine ⟨_,h.mono.setP e.hw e.ht htop (x := { aaf p.tasks t with at_ := wi ((prT (aaf p.tasks t)).1 + 1),ph := 3,wt := o }) (y := { aat r.tasks t with pc := wi ((prR (aaf p.tasks t).prog (aat r.tasks t)).1 + 1),view := { (aat r.tasks t).view with phase := 3,worker := -1,other := o } }) ?_ (show (3 : Int) ≠ 0 by decide) (show (3 : Int) ≠ 2 by decide) rfl
   (X := ⟨ac9 (aak p.works w).stack,true,t,(aaf p.tasks t).lv,-1,(aak p.works w).sleeps,⟨6,w,t,o,l⟩⟩) (Y := { abS r.works w with stack := aqq (abS r.works w).stack,walk := t,low := (aat r.tasks t).view.level,up := -1,last := ⟨6,w,t,o,l⟩ }) ?_ rfl⟩
  ·exact { T.mono with ph := rfl,wt := rfl,pc := congrArg (fun v =>wi (v.1 + 1)) (apI T),at0 := ao2 T hC.2.1,prog := fun _ =>T.prog (by omega),ot := fun h =>absurd rfl h,wr := fun _ =>by show 0 ≤ o ∧ o < p.c.tasks; omega,wk := fun _ =>rfl }
  ·have Q := W.pop (e := ⟨6,w,t,o,l⟩)
   exact { stack := Q.stack,sn := Q.sn,sleeps := W.sleeps,last := rfl,won := fun _ =>⟨rfl,(by show 0 ≤ t ∧ t < p.c.tasks; omega),T.lv,rfl,Int.le_refl _⟩,woff := (fun h =>nomatch h) }
 ·exact .inr (.inr (.inr (.inr (.inl ⟨rfl,by
   have htop : ach (abS r.works w).stack = t := by rw [← W.stack]; exact hC.1
   exact T.ph.trans (h.top e.hw htop e.ht.1).2.1,(by exact akI e.ht rfl rfl)⟩))))
theorem sq4 (hv : VC p.c) (hn : n ≤ 999999) (h : BR n p r) (e : EJ p 4 w t o l) (hs : (aak p.works w).sleeps = false) : SqM n p ⟨4,w,t,o,l⟩ := by
 have T := h.tk t e.ht
 have W := h.wk w e.hw
 refine aeg (pk4 (h.po (by omega)) (e.wp h) e.ht e.hr hs) (fun hC =>?_) (fun hC =>ahq (k := 4) (by decide) (akI e.ht (x := { aaf p.tasks t with at_ := wi ((prT (aaf p.tasks t)).1 + 1),kids := (aaf p.tasks t).kids ++ [-1] }) rfl rfl)) rfl
 ·obtain ⟨a1,a2,a3,_⟩ := aj8 T hC.2.2.1
  refine ⟨_,(h.mono.setT e.ht (x := { aaf p.tasks t with at_ := wi ((prT (aaf p.tasks t)).1 + 1),kids := (aaf p.tasks t).kids ++ [-1] }) (y := { aat r.tasks t with pc := wi ((prR (aaf p.tasks t).prog (aat r.tasks t)).1 + 1),kids := (aat r.tasks t).kids ++ [-1] }) ?_ rfl rfl rfl).setW e.hw W.mono.lst rfl⟩
  exact { T.mono with pc := congrArg (fun v =>wi (v.1 + 1)) (apI T),at0 := ao2 T hC.2.2.1,kids := by show _ ++ _ = _ ++ _; rw [T.kids],kn := an6 T.kn }
theorem sq3 (hv : VC p.c) (hn : n ≤ 999999) (h : BR n p r) (e : EJ p 3 w t o l) (ho : 0 ≤ o ∧ o < (p.tasks.length : Int)) (hs : (aak p.works w).sleeps = false) : SqM n p ⟨3,w,t,o,l⟩ := by
 have T := h.tk t e.ht
 have W := h.wk w e.hw
 have O := h.tk o ho
 have hl := h.tl2
 have hi : ach (aak p.works w).stack = o → (prT (aaf p.tasks o)).2.2 = true → (prT (aaf p.tasks o)).2.1.op = 1 → (0 ≤ (prT (aaf p.tasks o)).2.1.a ∧ (prT (aaf p.tasks o)).2.1.a < (p.c.progs.length : Int)) := fun htp hb h1 =>by
  rw [W.stack] at htp
  obtain ⟨_,h2,_⟩ := h.top e.hw htp ho.1
  obtain ⟨a1,a2,a3,a4⟩ := aj8 O hb
  obtain ⟨h3,h4⟩ := O.prog (by rw [O.ph,h2]; decide)
  rw [a4] at h1 ⊢
  rw [h4] at h1 a3 ⊢
  exact ((hv.pg _ h3).2 _ a2 a3).1 h1
 refine aeg (pk3 (h.po (by omega)) (e.wp h) e.ht ho hi e.hr hs) (fun hC =>?_) (fun hC =>?_) rfl
 ·obtain ⟨c1,c2,c3,c4,c5⟩ := hC
  obtain ⟨a1,a2,a3,a4⟩ := aj8 O c3
  have htp : ach (abS r.works w).stack = o := by rw [← W.stack]; exact c1
  obtain ⟨_,h2,_⟩ := h.top e.hw htp ho.1
  have hin := hi c1 c3 c4
  have hne : ¬ t = o := fun e2 =>by rw [e2,O.ph,h2] at c2; exact absurd c2 (by decide)
  have B1 := h.mono.setT ho (x := { aaf p.tasks o with at_ := wi ((prT (aaf p.tasks o)).1 + 1),kids := (aaf p.tasks o).kids ++ [t] }) (y := { aat r.tasks o with pc := wi ((prR (aaf p.tasks o).prog (aat r.tasks o)).1 + 1),kids := (aat r.tasks o).kids ++ [t] })
   { O.mono with pc := congrArg (fun v =>wi (v.1 + 1)) (apI O),at0 := ao2 O c3,kids := by show _ ++ _ = _ ++ _; rw [O.kids],kn := an6 O.kn } rfl rfl rfl
  have ht2 : 0 ≤ t ∧ t < ((p.tasks.set o.toNat { aaf p.tasks o with at_ := wi ((prT (aaf p.tasks o)).1 + 1),kids := (aaf p.tasks o).kids ++ [t] }).length : Int) := by rw [List.length_set]; exact e.ht
  have ho2 : 0 ≤ o ∧ o < ((p.tasks.set o.toNat { aaf p.tasks o with at_ := wi ((prT (aaf p.tasks o)).1 + 1),kids := (aaf p.tasks o).kids ++ [t] }).length : Int) := by rw [List.length_set]; exact ho
  have hor : 0 ≤ o ∧ o < (r.tasks.length : Int) := by omega
  refine ⟨_,(B1.setN (o := o) (x := ⟨1,l,o,atL [] p.c.progs (prT (aaf p.tasks o)).2.1.a,0,[],-1⟩) (y := ⟨⟨1,l,o,-1,-1⟩,(prR (aaf p.tasks o).prog (aat r.tasks o)).2.1.a,0,[]⟩) ht2 ?_ (.inr ⟨ho2,?_⟩) ?_ rfl rfl).setW e.hw W.mono.lst rfl⟩
  ·show (aat (r.tasks.set o.toNat _) t).view.phase = 0
   rw [ahz hor e.ht.1,if_neg hne,← T.ph]; exact c2
  ·show (aat (r.tasks.set o.toNat _) o).view.phase ≠ 0
   rw [aAb hor]
   show (aat r.tasks o).view.phase ≠ 0
   rw [h2]; decide
  ·exact { ph := rfl,lv := rfl,pa := rfl,wt := rfl,pc := rfl,kids := rfl,kn := Nat.zero_le _,at0 := ⟨Int.le_refl _,Int.natCast_nonneg _⟩,prog := fun _ =>by rw [← apI O]; exact ⟨hin,rfl⟩,pl := (hv.pg _ hin).1,ot := fun _ =>rfl,wr := (fun h =>by cases h),wk := fun _ =>rfl }
 ·refine .inl ⟨.inr rfl,hC.2.1,fun i hi =>?_⟩
  show (aaf ((p.tasks.set o.toNat _).set t.toNat _) i).ph = _
  rw [awx (by rw [List.length_set]; exact e.ht) hi.1]
  split
  ·rfl
  ·rw [awx ho hi.1]
   split
   ·rename_i e1; rw [e1]
   ·rfl
theorem aAj (hn : n ≤ 999999) (h : BR n p r) (e : EJ p 13 w t o l) (hs : (aak p.works w).sleeps = false) : SqM n p ⟨13,w,t,o,l⟩ := by
 have W := h.wk w e.hw
 have Q := h.qu
 have nb := Q.nb
 refine aeg (aAu (h.po (by omega)) (e.wp h) e.ht e.hr hs) (fun hC =>⟨_,(h.mono.setW e.hw (W.mono.lst (e := ⟨13,w,t,o,l⟩)) rfl).setQ (x := ⟨p.queue.keys.drop 1,p.queue.count⟩) (y := ⟨p.queue.keys.drop 1,p.queue.count⟩) (o := p.offers) ?_ ⟨h.of0.1,by have := h.of0.2; omega⟩⟩) (fun hC =>ahq (k := 13) (by decide) (ajj rfl)) rfl
 obtain ⟨p1,p2⟩ := Q.s.pw
 exact { s := Srt.of (List.Pairwise.sublist (List.drop_sublist 1 _) p1) (fun a ha =>p2 a ((List.drop_sublist 1 _).mem ha)),c := rfl,pm := List.Perm.refl _,nb := ⟨by show 0 ≤ p.queue.count ∧ p.queue.count ≤ ((n + 1 : Nat) : Int); omega,by show (p.queue.keys.drop 1).length ≤ n + 1; rw [List.length_drop]; omega⟩ }
theorem azd (hn : n ≤ 999999) (h : BR n p r) (hw : w = p.c.workers) (ht : 0 ≤ t ∧ t < (p.tasks.length : Int))
  (hr : aaj p ⟨18,w,t,o,l⟩ = some ((true,()),(p,()))) (hs : (aak p.works w).sleeps = false) : SqM n p ⟨18,w,t,o,l⟩ := by
 have hwl := h.wl
 have hwl2 := h.wl2
 exact aeg (az5 (h.po (by omega)) (by omega) ht hr hs) (fun hC =>⟨_,h.mono.setC hw (by omega) ⟨by rw [hw]; exact h.cl.1,hs⟩⟩) (fun hC =>ahq (k := 18) (by decide) (ajj rfl)) rfl
theorem sq2 (hn : n ≤ 999999) (h : BR n p r) (hw : w = p.c.workers) (ht : 0 ≤ t ∧ t < (p.tasks.length : Int))
  (hr : aaj p ⟨2,w,t,o,l⟩ = some ((true,()),(p,()))) (hs : (aak p.works w).sleeps = false) : SqM n p ⟨2,w,t,o,l⟩ := by
 have hwl := h.wl
 have hwl2 := h.wl2
 have h0 := h.of0
 refine aeg (pk2 (h.po (by omega)) (by omega) ht hr hs) (fun hC =>?_) (fun hC =>ahq (k := 2) (by decide) (ajj rfl)) rfl
 have e1 : wi (p.offers + 1) = p.offers + 1 := aa7 (aab (by omega))
 rw [e1]
 have hcl : (aak p.works w).stack = [] := by rw [hw]; exact h.cl.1
 exact ⟨_,(h.mono.setC hw (by omega) (x := { aak p.works w with last := ⟨2,w,t,o,l⟩ }) ⟨hcl,hs⟩).setQ h.mono.qu ⟨by omega,by omega⟩⟩
theorem sq1 (hv : VC p.c) (hn : n ≤ 999999) (h : BR n p r) (hw : w = p.c.workers) (ht : 0 ≤ t ∧ t < (p.tasks.length : Int))
  (hr : aaj p ⟨1,w,t,o,l⟩ = some ((true,()),(p,()))) (hs : (aak p.works w).sleeps = false) : SqM n p ⟨1,w,t,o,l⟩ := by
 have hwl := h.wl
 have hwl2 := h.wl2
 have Q := h.qu
 have nb := Q.nb
 have h0 := h.of0
 have T := h.tk t ht
 obtain ⟨i,i1,i2,i3⟩ := pk1 (h.po (by omega)) (by omega) ht h0.1 (hv.sb o) Q.s (by omega) hr hs
 refine aeg i3 (fun hC =>?_) (fun hC =>.inl ⟨.inl rfl,hC.2.2.2.1,(by exact akI ht rfl rfl)⟩) rfl
 obtain ⟨c1,c2,c3,c4,c5⟩ := hC
 obtain ⟨i4,i5⟩ := i2 ⟨c1,c2⟩ c5
 have e1 : wi (p.offers + 1) = p.offers + 1 := aa7 (aab (by omega))
 have e3 : wi (p.queue.count + 1) = p.queue.count + 1 := aa7 (aab (by omega))
 have hcl : (aak p.works w).stack = [] := by rw [hw]; exact h.cl.1
 have hsub := hv.sb o ⟨by omega,c2⟩
 rw [e1,e3]
 refine ⟨_,((h.mono.setN (o := -1) ht (by rw [← T.ph]; exact c4) (.inl rfl) (x := ⟨1,l,-1,atL [] p.c.progs (ac1 p.c.subs o).prog,0,[],-1⟩) (y := ⟨⟨1,l,-1,-1,-1⟩,(ac1 p.c.subs o).prog,0,[]⟩)
    { ph := rfl,lv := rfl,pa := rfl,wt := rfl,pc := rfl,kids := rfl,kn := Nat.zero_le _,at0 := ⟨Int.le_refl _,Int.natCast_nonneg _⟩,prog := fun _ =>⟨hsub,rfl⟩,pl := (hv.pg _ hsub).1,ot := fun _ =>rfl,wr := (fun h =>by cases h),wk := fun _ =>rfl } rfl rfl).setC hw (by omega) (x := { aak p.works w with last := ⟨1,w,t,o,l⟩ }) ⟨hcl,hs⟩).setQ (o := p.offers + 1)
    (x := ⟨p.queue.keys.take i ++ [⟨(ac1 p.c.subs o).deadline,p.queue.count,t⟩] ++ p.queue.keys.drop i,p.queue.count + 1⟩) (y := ⟨p.queue.keys.take i ++ [⟨(ac1 p.c.subs o).deadline,p.queue.count,t⟩] ++ p.queue.keys.drop i,p.queue.count + 1⟩) ?_ ⟨by omega,by omega⟩⟩
 obtain ⟨p1,p2⟩ := Q.s.pw
 generalize hk : (⟨(ac1 p.c.subs o).deadline,p.queue.count,t⟩ : KyV) = k
 have k1 : k.arrival = p.queue.count := by rw [← hk]
 have k2 : k.deadline = (ac1 p.c.subs o).deadline := by rw [← hk]
 have q1 : ∀ a ∈ p.queue.keys.take i,leK a k := fun a ha =>by
  obtain ⟨j,hj,rfl⟩ := List.getElem_of_mem ha
  rw [List.length_take] at hj
  have := i4 j (by omega)
  rw [amE (by omega)] at this
  rw [List.getElem_take]
  have h3 := p2 _ (List.getElem_mem (show j < p.queue.keys.length by omega))
  unfold leK; omega
 have q2 : ∀ a ∈ p.queue.keys.drop i,leK k a := fun a ha =>by
  obtain ⟨j,hj,rfl⟩ := List.getElem_of_mem ha
  rw [List.length_drop] at hj
  have := i5 (i + j) (by omega) (by omega)
  rw [amE (by omega)] at this
  rw [List.getElem_drop]
  unfold leK; omega
 have hsp : p.queue.keys.take i ++ p.queue.keys.drop i = p.queue.keys := List.take_append_drop ..
 have p3 := p1
 rw [← hsp,List.pairwise_append] at p3
 refine { s := Srt.of ?_ ?_,c := rfl,pm := ?_,nb := ⟨by show 0 ≤ p.queue.count + 1 ∧ p.queue.count + 1 ≤ ((n + 1 : Nat) : Int); omega,?_⟩ }
 ·show (p.queue.keys.take i ++ [k] ++ p.queue.keys.drop i).Pairwise leK
  rw [List.append_assoc,List.pairwise_append]
  refine ⟨p3.1,List.pairwise_cons.2 ⟨q2,p3.2.1⟩,fun a ha b hb =>?_⟩
  rcases List.mem_cons.1 hb with rfl | hb
  ·exact q1 a ha
  ·exact p3.2.2 a ha b hb
 ·intro a ha
  have ha : a ∈ p.queue.keys.take i ++ [k] ++ p.queue.keys.drop i := ha
  rcases List.mem_append.1 ha with ha | ha
  ·rcases List.mem_append.1 ha with ha | ha
   ·have := p2 a (List.mem_of_mem_take ha); show a.arrival < p.queue.count + 1; omega
   ·obtain rfl := List.mem_singleton.1 ha; show a.arrival < p.queue.count + 1; omega
  ·have := p2 a (List.mem_of_mem_drop ha); show a.arrival < p.queue.count + 1; omega
 ·exact List.Perm.refl _
 ·show (p.queue.keys.take i ++ [k] ++ p.queue.keys.drop i).length ≤ n + 1
  rw [List.length_append,List.length_append,List.length_take,List.length_drop,List.length_singleton]; omega
theorem avD (hv : VC p.c) (hn : n ≤ 999999) (h : BR n p r) (e : Ev) :
  (∃ p' r',aah p e = some ((true,()),(p',())) ∧ BR (n + 1) p' r' ∧ p'.c = p.c ∧ PhC p p' e.kind e.task e.other ∧ (0 ≤ e.task ∧ e.task < p.c.tasks) ∧ (e.kind = 8 → 0 ≤ e.other ∧ e.other < p.c.tasks)) ∨ (∃ q,aah p e = some ((false,()),(q,())) ∧ SameV p q) := by
 obtain ⟨k,w,t,o,l⟩ := e
 have hl1 := h.tl
 have hw1 := h.wl
 have hw2 := h.wl2
 have hz := hv.tk
 by_cases k1 : k < 1
 ·exact .inr ⟨_,aw6 (aqN k1),abJ⟩
 by_cases k2 : 19 < k
 ·exact .inr ⟨_,aw6 (aqP k2),abJ⟩
 obtain ⟨b,h1,h2⟩ := aqO (s := p) (w := w) (t := t) (o := o) (l := l) (show 1 ≤ k by omega) (by omega)
 by_cases hp : rgP p.c k w t o l
 rotate_left
 ·have hb : b = false := by
   cases b with
   | true =>exact absurd (h2.1 rfl) hp
   | false =>rfl
  subst hb
  exact .inr ⟨_,aw6 h1,abJ⟩
 obtain rfl : b = true := h2.2 hp
 have hk : k = 1 ∨ k = 2 ∨ k = 3 ∨ k = 4 ∨ k = 5 ∨ k = 6 ∨ k = 7 ∨ k = 8 ∨ k = 9 ∨ k = 10 ∨ k = 11 ∨ k = 12 ∨ k = 13 ∨ k = 14 ∨ k = 15 ∨ k = 16 ∨ k = 17 ∨ k = 18 ∨ k = 19 := by omega
 have hwr : 0 ≤ w ∧ w ≤ p.c.workers := by
  unfold rgP at hp
  have := hp.2.2.2
  split at this
  ·omega
  ·split at this <;> omega
 have htr : 0 ≤ t ∧ t < p.c.tasks := by
  unfold rgP at hp
  have := hp.1
  split at this <;> omega
 by_cases hs : (aak p.works w).sleeps = decide (k = 17)
 rotate_left
 ·exact .inr ⟨_,azY (by omega) h1 hs,abJ⟩
 have ht : 0 ≤ t ∧ t < (p.tasks.length : Int) := by omega
 have fin : SqM n p ⟨k,w,t,o,l⟩ ∧ (k = 8 → 0 ≤ o ∧ o < p.c.tasks) := by
  unfold rgP at hp
  rcases hk with rfl | rfl | rfl | rfl | rfl | rfl | rfl | rfl | rfl | rfl | rfl | rfl | rfl | rfl | rfl | rfl | rfl | rfl | rfl
  all_goals simp (config := { decide := true }) only [if_true,if_false,true_and,and_true] at hp
  all_goals first
   | have hs : (aak p.works w).sleeps = false := hs
   | have hs : (aak p.works w).sleeps = true := hs
  all_goals refine ⟨?_,fun h8 =>by omega⟩
  ·exact sq1 hv hn h hp.2.2 ht h1 hs
  ·exact sq2 hn h hp.2 ht h1 hs
  ·exact sq3 hv hn h ⟨by omega,ht,h1⟩ (by omega) hs
  ·exact sq4 hv hn h ⟨by omega,ht,h1⟩ hs
  ·exact sq5 hn h ⟨by omega,ht,h1⟩ hs
  ·exact sq6 hv hn h ⟨by omega,ht,h1⟩ (by omega) hs
  ·exact sq7 hn h ⟨by omega,ht,h1⟩ hs
  ·exact sq8 hv hn h ⟨by omega,ht,h1⟩ (by omega) hs
  ·exact sq9 hn h ⟨by omega,ht,h1⟩ hs
  ·exact aAm hv hn h ⟨by omega,ht,h1⟩ hs
  ·exact aAl hn (by omega) h ⟨by omega,ht,h1⟩ hs
  ·exact aAk hn h ⟨by omega,ht,h1⟩ hs
  ·exact aAj hn h ⟨by omega,ht,h1⟩ hs
  ·exact aAi hn h ⟨by omega,ht,h1⟩ (by omega) hs
  ·exact aAh hn h ⟨by omega,ht,h1⟩ hs
  ·exact aAg hn h ⟨by omega,ht,h1⟩ hs
  ·exact aAf hn h ⟨by omega,ht,h1⟩ hs
  ·by_cases hw : w = p.c.workers
   ·exact azd hn h hw ht h1 hs
   ·exact aAe hn h ⟨by omega,ht,h1⟩ (by omega) hs
  ·exact aAd hn h ⟨by omega,ht,h1⟩ hs
 obtain ⟨f1,f2⟩ := fin
 rcases f1 with ⟨p',r',g1,g2,g3,g4⟩ | ⟨q,g1,g2⟩
 ·exact .inl ⟨p',r',g1,g2,g3,g4,htr,f2⟩
 ·exact .inr ⟨q,g1,g2⟩
end
section
theorem aa0.map {α β : Type} {o : Option α} {f : α → β} {P : β → Prop} (h : aa0 o fun x =>P (f x)) : aa0 (Option.map f o) P := by
 obtain ⟨x,rfl,hx⟩ := h
 exact ⟨_,rfl,hx⟩
def tk0 : TkP := ⟨0,-1,-1,[],0,[],-1⟩
def tr0 : TkV := ⟨⟨0,-1,-1,-1,-1⟩,0,0,[]⟩
def wk0 : WkP := ⟨[],false,0,0,0,false,⟨0,0,0,0,0⟩⟩
def wr0 : WlV := ⟨[],-1,0,0,false,⟨0,0,0,0,0⟩⟩
def pN (c : Cfg) : SyP := ⟨c,List.replicate c.tasks.toNat tk0,List.replicate (c.workers + 1).toNat wk0,0,0,⟨[],0⟩⟩
def rN (c : Cfg) : SaV := ⟨c,List.replicate c.tasks.toNat tr0,List.replicate c.workers.toNat wr0,⟨[],0⟩,0⟩
theorem atv {α : Type} {x : α} {i : Nat} : List.replicate i x ++ [x] = List.replicate (i + 1) x := by
 rw [List.replicate_succ']
theorem awj {c : Cfg} (ht : 0 ≤ c.tasks ∧ c.tasks ≤ 1000000) (hw : 0 ≤ c.workers ∧ c.workers ≤ 1000000) : aa0 (ac5 c) fun o =>o.1.1 = pN c := by
 unfold ac5
 have e1 : wi (c.workers + 1) = c.workers + 1 := aa7 (aab (by omega))
 rw [e1]
 refine aa0.guard rfl fun _ =>aa0.guard (by omega) fun _ =>aa0.guard rfl fun _ =>aa0.guard rfl fun _ =>aa0.guard rfl fun _ =>aa0.guard rfl fun _ =>aa0.guard rfl fun _ =>aa0.guard rfl fun _ =>aa0.guard rfl fun _ =>aa0.guard rfl fun _ =>aa0.guard rfl fun _ =>?_
 refine aa0.bind (P := fun z =>z.2.1 = pN c) (acl (fun x =>∃ i : Nat,x.1 = (i : Int) ∧ (i : Int) ≤ c.tasks ∧ x.2.1 = { pN c with tasks := List.replicate i tk0 }) (fun x =>(c.tasks - x.1).toNat) (fun self x ⟨i,q1,q2,q3⟩ ih =>?_) _ _ ⟨0,rfl,ht.1,rfl⟩ (by show (c.tasks - 0).toNat < _; omega)) fun z hz =>.some_ hz
 obtain ⟨x1,x2,u⟩ := x
 obtain rfl : x1 = (i : Int) := q1
 obtain rfl : x2 = _ := q3
 have e2 : wi ((i : Int) + 1) = ((i + 1 : Nat) : Int) := aa7 (aab (by omega))
 refine aa0.ite (fun h =>?_) fun h =>.some_ ?_
 ·have h : (i : Int) < c.tasks := h
  refine aa0.guard (by show (((List.replicate i tk0).length + 1 : Nat) : Int) < _; rw [List.length_replicate]; omega) fun _ =>?_
  show aa0 (self (wi ((i : Int) + 1),{ pN c with tasks := List.replicate i tk0 ++ [tk0] },())) _
  rw [e2,atv]
  exact ih _ ⟨i + 1,rfl,by omega,rfl⟩ (by show (c.tasks - ((i + 1 : Nat) : Int)).toNat < (c.tasks - (i : Int)).toNat; omega)
 ·have h : ¬ (i : Int) < c.tasks := h
  have e3 : c.tasks.toNat = i := by omega
  show ({ pN c with tasks := List.replicate i tk0 } : SyP) = pN c
  unfold pN
  rw [e3]
theorem aj5 {α : Type} {d x : α} {n : Nat} {i : Int} (h : 0 ≤ i ∧ i < (n : Int)) : atL d (List.replicate n x) i = x := by
 unfold atL
 rw [List.getElem?_replicate,if_pos (by omega)]; rfl
theorem ayJ {c : Cfg} (ht : 1 ≤ c.tasks ∧ c.tasks ≤ 256) (hw : 0 ≤ c.workers ∧ c.workers ≤ 1000000) : BR 0 (pN c) (rN c) := by
 have a1 : ∀ i,0 ≤ i ∧ i < ((pN c).tasks.length : Int) → aaf (pN c).tasks i = tk0 := fun i hi =>aj5 (d := (dfR 70 : TkP)) (by
  unfold pN at hi; rw [List.length_replicate] at hi; exact hi)
 have a2 : ∀ i,0 ≤ i ∧ i < ((rN c).tasks.length : Int) → aat (rN c).tasks i = tr0 := fun i hi =>aj5 (d := (dfR 61 : TkV)) (by
  unfold rN at hi; rw [List.length_replicate] at hi; exact hi)
 have l1 : (pN c).tasks.length = c.tasks.toNat := List.length_replicate ..
 have l2 : (rN c).tasks.length = c.tasks.toNat := List.length_replicate ..
 have l3 : (pN c).works.length = (c.workers + 1).toNat := List.length_replicate ..
 have l4 : (rN c).works.length = c.workers.toNat := List.length_replicate ..
 have b1 : ∀ i,0 ≤ i ∧ i ≤ c.workers → aak (pN c).works i = wk0 := fun i hi =>aj5 (d := (dfR 71 : WkP)) (by omega)
 have b2 : ∀ i,0 ≤ i ∧ i < c.workers → abS (rN c).works i = wr0 := fun i hi =>aj5 (d := (dfR 62 : WlV)) (by omega)
 have h0 : aeX (rN c).tasks = 0 := List.countP_eq_zero.2 fun x hx =>by
  obtain rfl := List.eq_of_mem_replicate hx
  decide
 exact {
  c := rfl
  tl := by rw [l1]; show ((c.tasks.toNat : Nat) : Int) = c.tasks; omega
  tl2 := by rw [l1,l2]
  tl3 := by rw [l1]; omega
  wl := by rw [l3]; show (((c.workers + 1).toNat : Nat) : Int) = c.workers + 1; omega
  wl2 := by rw [l4]; show ((c.workers.toNat : Nat) : Int) = c.workers; omega
  tk := fun i hi =>by
   rw [a1 i hi,a2 i (by omega)]
   exact { ph := rfl,lv := rfl,pa := rfl,wt := rfl,pc := rfl,kids := rfl,kn := Nat.le_refl _,at0 := ⟨Int.le_refl _,Int.le_refl _⟩,prog := fun h =>absurd rfl h,pl := Nat.zero_le _,ot := fun _ =>rfl,wr := (fun h =>by cases h),wk := fun _ =>rfl }
  wk := fun i hi =>by
   have hi : 0 ≤ i ∧ i < c.workers := hi
   rw [b1 i (by omega),b2 i hi]
   exact { stack := rfl,sn := Nat.le_refl _,won := (fun h =>nomatch h),woff := fun _ =>rfl,sleeps := rfl,last := rfl }
  cl := by
   show (aak (pN c).works c.workers).stack = [] ∧ (aak (pN c).works c.workers).sleeps = false
   rw [b1 _ (by omega)]; exact ⟨rfl,rfl⟩
  of := rfl
  of0 := ⟨Int.le_refl _,Int.le_refl _⟩
  qu := { s := ⟨fun i j _ hj =>absurd hj (Nat.not_lt_zero _),fun i hi =>absurd hi (Nat.not_lt_zero _)⟩,c := rfl,pm := List.Perm.refl _,nb := ⟨⟨Int.le_refl _,Int.le_refl _⟩,Nat.le_refl _⟩ }
  kn := by rw [h0]; rfl
  st := fun w hw t ht =>by
   have hw : 0 ≤ w ∧ w < c.workers := hw
   rw [b2 w hw] at ht
   cases ht
  nd := fun w hw =>by
   have hw : 0 ≤ w ∧ w < c.workers := hw
   rw [b2 w hw]
   exact List.nodup_nil
  run := fun t ht hp =>by
   have ht : 0 ≤ t ∧ t < ((pN c).tasks.length : Int) := ht
   rw [a2 t (by omega)] at hp
   cases hp
  rk := ⟨fun _ =>0,fun i hi =>.inl (by rw [a2 i hi]; rfl),fun i hi =>⟨by show (0 : Nat) < (rN c).tasks.length; rw [l2]; omega,fun hp =>by rw [a2 i hi] at hp; exact absurd rfl hp⟩⟩ }
structure VV (q : SyP) (i : Int) (v : VwV) : Prop where
 ph : v.phase = (aaf q.tasks i).ph
 lv : v.level = (aaf q.tasks i).lv
 pa : v.parent = (aaf q.tasks i).pa
 ot : v.other = if (aaf q.tasks i).ph = 3 then (aaf q.tasks i).wt else -1
 w0 : (aaf q.tasks i).ph ≠ 2 → v.worker = -1
 w1 : (aaf q.tasks i).ph = 2 → (0 ≤ v.worker ∧ v.worker < (q.works.length : Int)) ∧ i ∈ (aak q.works v.worker).stack ∧ ∀ u,0 ≤ u ∧ u < v.worker → i ∉ (aak q.works u).stack
def azb (q : SyP) (ws : List WkP) : Int × Int × Int × Int × Int × Int × Int × Int × Int × List (List Ins) × List Sub × List WkP × Int × Int × List KyV × Int × Unit := (q.c.workers,q.c.levels,q.c.classes,q.c.tasks,q.c.deque,q.c.heap,q.c.batch,q.c.age,q.c.patience,q.c.progs,q.c.subs,ws,q.offers,q.known,q.queue.keys,q.queue.count,())
theorem as5 {q : SyP} {vs : List VwV} (hl : q.tasks.length ≤ 1000000) (hw : q.works.length ≤ 1000000) (hst : ∀ w,0 ≤ w ∧ w < (q.works.length : Int) → (aak q.works w).stack.length ≤ 1000000) (hlen : vs.length = q.tasks.length) (hv : ∀ (i : Nat) (h : i < vs.length),VV q (i : Int) vs[i]) : aa0 (abE q) fun o =>o.1.1 = vs := by
 unfold abE
 refine aa0.bind (P := fun z =>z.1 = vs) (acl (fun x =>∃ i : Nat,x.2.1 = (i : Int) ∧ i ≤ vs.length ∧ x.1 = vs.take i ∧ x.2.2.1 = q.tasks ∧ x.2.2.2.1 = azb q q.works) (fun x =>((vs.length : Int) - x.2.1).toNat) (fun self x ⟨i,q1,q2,q3,q4,q5⟩ ih =>?_) _ _ ⟨0,rfl,Nat.zero_le _,rfl,rfl,rfl⟩ (by show ((vs.length : Int) - 0).toNat < _; omega)) fun z hz =>.some_ hz
 obtain ⟨x1,x2,x3,x4,u⟩ := x
 obtain rfl : x2 = (i : Int) := q1
 obtain rfl : x1 = vs.take i := q3
 obtain rfl : x3 = q.tasks := q4
 obtain rfl : x4 = azb q q.works := q5
 have e1 : wi ((i : Int) + 1) = ((i + 1 : Nat) : Int) := aa7 (aab (by omega))
 refine aa0.ite (fun h =>?_) fun h =>.some_ ?_
 rotate_left
 ·have h : ¬ (i : Int) < (q.tasks.length : Int) := h
  show vs.take i = vs
  exact List.take_of_length_le (by omega)
 have h : (i : Int) < (q.tasks.length : Int) := h
 have hi : i < vs.length := by omega
 have hin : 0 ≤ (i : Int) ∧ (i : Int) < (q.tasks.length : Int) := ⟨by omega,h⟩
 have V := hv i hi
 have htk : vs.take (i + 1) = vs.take i ++ [vs[i]] := List.take_succ_eq_append_getElem hi
 have hgl : (((vs.take i).length + 1 : Nat) : Int) < 1000000000000 := by rw [List.length_take]; omega
 have hme : ((vs.length : Int) - ((i + 1 : Nat) : Int)).toNat < ((vs.length : Int) - (i : Int)).toNat := by omega
 -- what follows when the view has been made
 have go : ∀ (v : VwV) (ws : List WkP) (ts : List TkP),v = vs[i] → ws = q.works → ts = q.tasks → aa0 (self (vs.take i ++ [v],wi ((i : Int) + 1),ts,azb q ws,())) fun z =>z.1 = vs := fun v ws ts e2 e3 e4 =>by
  subst e2 e3 e4
  rw [e1]
  exact ih _ ⟨i + 1,rfl,hi,htk.symm,rfl,rfl⟩ hme
 have hts : q.tasks.set ((i : Int)).toNat (aaf q.tasks (i : Int)) = q.tasks := abi hin
 refine aa0.guard hin fun _ =>aa0.ite (fun h3 =>?_) fun h3 =>aa0.ite (fun h2 =>?_) fun h2 =>?_
 ·have h3 : (aaf q.tasks (i : Int)).ph = 3 := h3
  refine aa0.ite (fun h2 =>?_) fun h2 =>?_
  ·have h2 : (aaf q.tasks (i : Int)).ph = 2 := h2
   omega
  ·refine aa0.guard hgl fun _ =>go _ _ _ ?_ rfl hts
   have k1 := V.ot
   rw [if_pos h3] at k1
   have k2 := V.w0 (by omega)
   have := V.ph
   have := V.lv
   have := V.pa
   generalize vs[i] = v at *
   cases v
   simp only at *
   subst_vars
   rfl
 ·have h3 : ¬ (aaf q.tasks (i : Int)).ph = 3 := h3
  have h2 : (aaf q.tasks (i : Int)).ph = 2 := h2
  obtain ⟨w1,w2,w3⟩ := V.w1 h2
  have k1 := V.ot
  rw [if_neg h3] at k1
  obtain ⟨m,hm⟩ : ∃ m : Nat,vs[i].worker = (m : Int) := ⟨vs[i].worker.toNat,by omega⟩
  rw [hm] at w1 w2 w3
  have hvw : ∀ w : Int,w = (m : Int) → (⟨(aaf q.tasks (i : Int)).ph,(aaf q.tasks (i : Int)).lv,(aaf q.tasks (i : Int)).pa,w,-1⟩ : VwV) = vs[i] := fun w hw =>by
   have := V.ph
   have := V.lv
   have := V.pa
   generalize vs[i] = v at *
   cases v
   simp only at *
   subst_vars
   rfl
  refine aa0.bind (P := fun z =>∃ o,z = .inr o ∧ o.1 = vs) (acl (fun y =>∃ j : Nat,y.1 = (j : Int) ∧ j ≤ m ∧ y.2.1 = q.works) (fun y =>((m : Int) - y.1).toNat) (fun self2 y ⟨j,r1,r2,r3⟩ ih2 =>?_) _ _ ⟨0,rfl,Nat.zero_le _,rfl⟩ (by show ((m : Int) - 0).toNat < _; omega)) fun z ⟨o,hz,ho⟩ =>?_
  rotate_left
  ·obtain ⟨y1,y2,u2⟩ := y
   obtain rfl : y1 = (j : Int) := r1
   obtain rfl : y2 = q.works := r3
   have e2 : wi ((j : Int) + 1) = ((j + 1 : Nat) : Int) := aa7 (aab (by omega))
   have hj : 0 ≤ (j : Int) ∧ (j : Int) < (q.works.length : Int) := by omega
   have hws : q.works.set ((j : Int)).toNat (aak q.works (j : Int)) = q.works := abe hj
   have hsl := hst _ hj
   refine aa0.ite (fun _ =>aa0.guard hj fun _ =>?_) fun hn =>absurd hj.2 hn
   refine aa0.bind (P := fun z =>(j < m ∧ ∃ a,z = .inl a) ∨ (j = m ∧ ∃ o,z = .inr (.inr o) ∧ o.1 = vs)) (acl (fun y =>∃ k : Nat,y.1 = (k : Int) ∧ k ≤ (aak q.works (j : Int)).stack.length ∧ ∀ k' : Nat,k' < k → ¬ (i : Int) = aae (aak q.works (j : Int)).stack (k' : Int)) (fun y =>(((aak q.works (j : Int)).stack.length : Int) - y.1).toNat) (fun self3 y ⟨k,s1,s2,s3⟩ ih3 =>?_) _ _ ⟨0,rfl,Nat.zero_le _,fun k' h' =>absurd h' (Nat.not_lt_zero _)⟩ (by show (((aak q.works (j : Int)).stack.length : Int) - 0).toNat < _; omega)) fun z hz =>?_
   rotate_left
   ·obtain ⟨y1,u3,u4⟩ := y
    obtain rfl : y1 = (k : Int) := s1
    have e3 : wi ((k : Int) + 1) = ((k + 1 : Nat) : Int) := aa7 (aab (by omega))
    refine aa0.ite (fun hk =>?_) fun hk =>.some_ ?_
    ·have hk : (k : Int) < ((aak q.works (j : Int)).stack.length : Int) := hk
     have hkn : k < (aak q.works (j : Int)).stack.length := by omega
     refine aa0.guard ⟨by show (0 : Int) ≤ (k : Int); omega,hk⟩ fun _ =>aa0.ite (fun he =>aa0.map (aa0.ite (fun _ =>aa0.map ?_) fun hn =>absurd (show (0 : Int) ≤ (k : Int) by omega) hn)) fun he =>?_
     ·have he : (i : Int) = aae (aak q.works (j : Int)).stack (k : Int) := he
      have hmem : (i : Int) ∈ (aak q.works (j : Int)).stack := by
       rw [he]; exact ajr (d := (dfR 1 : Int)) ⟨by omega,hk⟩
      have hjm : j = m := by
       rcases Nat.lt_or_ge j m with hlt | hge
       ·exact absurd hmem (w3 (j : Int) (by omega))
       ·omega
      refine aa0.guard hgl fun _ =>?_
      refine (go _ _ _ (hvw _ (by rw [hjm])) hws hts).mono fun z hz =>.inr ⟨hjm,z,rfl,hz⟩
     ·have he : ¬ (i : Int) = aae (aak q.works (j : Int)).stack (k : Int) := he
      show aa0 (self3 (wi ((k : Int) + 1),(),())) _
      rw [e3]
      refine ih3 _ ⟨k + 1,rfl,hkn,fun k' h' =>?_⟩ (by show (((aak q.works (j : Int)).stack.length : Int) - ((k + 1 : Nat) : Int)).toNat < (((aak q.works (j : Int)).stack.length : Int) - (k : Int)).toNat; omega)
      rcases Nat.lt_or_ge k' k with h5 | h5
      ·exact s3 k' h5
      ·obtain rfl : k' = k := by omega
       exact he
    ·have hk : ¬ (k : Int) < ((aak q.works (j : Int)).stack.length : Int) := hk
     rcases Nat.lt_or_ge j m with hlt | hge
     ·exact .inl ⟨hlt,_,rfl⟩
     ·obtain rfl : j = m := by omega
      obtain ⟨a,ha,hb⟩ := List.getElem_of_mem w2
      exfalso
      refine s3 a (by omega) ?_
      have a1 := abZ (α := Int) (d := (dfR 1 : Int)) (xs := (aak q.works (j : Int)).stack) (i := (a : Int)) ⟨by omega,by omega⟩
      rw [Int.toNat_natCast,List.getElem?_eq_getElem ha] at a1
      exact hb.symm.trans (Option.some.inj a1)
   ·rcases hz with ⟨hlt,a,rfl⟩ | ⟨hjm,o,rfl,ho⟩
    ·show aa0 (self2 (wi ((j : Int) + 1),q.works.set ((j : Int)).toNat (aak q.works (j : Int)),())) _
     rw [e2,hws]
     exact ih2 _ ⟨j + 1,rfl,hlt,rfl⟩ (by show ((m : Int) - ((j + 1 : Nat) : Int)).toNat < ((m : Int) - (j : Int)).toNat; omega)
    ·exact .some_ ⟨o,rfl,ho⟩
  ·subst hz
   exact .some_ ho
 ·have h3 : ¬ (aaf q.tasks (i : Int)).ph = 3 := h3
  have h2 : ¬ (aaf q.tasks (i : Int)).ph = 2 := h2
  refine aa0.guard hgl fun _ =>go _ _ _ ?_ rfl hts
  have k1 := V.ot
  rw [if_neg h3] at k1
  have k2 := V.w0 h2
  have := V.ph
  have := V.lv
  have := V.pa
  generalize vs[i] = v at *
  cases v
  simp only at *
  subst_vars
  rfl
end
section
variable {l : List Ev} {c : Cfg}
theorem azX {i : Nat} (h : i < l.length) : aaL l (i : Int) = l[i] := by
 have a1 := abZ (α := Ev) (d := (dfR 2 : Ev)) (xs := l) (i := (i : Int)) ⟨by omega,by omega⟩
 rw [Int.toNat_natCast,List.getElem?_eq_getElem h] at a1
 exact (Option.some.inj a1).symm
theorem az7 {α β : Type} {d : α} {f : α → β} {xs ys : List α} (h : ys.map f = xs.map f) {i : Int} (hi : 0 ≤ i) : f (atL d ys i) = f (atL d xs i) := by
 have h1 : (ys.map f)[i.toNat]? = (xs.map f)[i.toNat]? := by rw [h]
 rw [List.getElem?_map,List.getElem?_map] at h1
 unfold atL
 cases hy : ys[i.toNat]? <;> cases hx : xs[i.toNat]? <;> rw [hy,hx] at h1 <;> simp at h1 ⊢
 exact h1
theorem as6 {n : Nat} {p q : SyP} {r : SaV} (h : BR n p r) (hn : n ≤ 999999) (hs : SameV p q) (hw : p.c.workers ≤ 1000) : aa0 (abE q) fun o =>o.1.1 = r.tasks.map (·.view) := by
 have l1 : q.tasks.length = p.tasks.length := by have := congrArg List.length hs.t; simpa using this
 have l2 : q.works.length = p.works.length := by have := congrArg List.length hs.w; simpa using this
 have hl := h.tl2
 have hl3 := h.tl3
 have hwl := h.wl
 have hwl2 := h.wl2
 have tk : ∀ i,0 ≤ i → viP (aaf q.tasks i) = viP (aaf p.tasks i) := fun i hi =>az7 (d := (dfR 70 : TkP)) hs.t hi
 have st : ∀ i,0 ≤ i → (aak q.works i).stack = (aak p.works i).stack := fun i hi =>az7 (d := (dfR 71 : WkP)) (f := fun (x : WkP) =>x.stack) hs.w hi
 have PO1 := h.po (by omega)
 refine as5 (by omega) (by omega) (fun w hw =>by rw [st w hw.1]; exact PO1.stk w (by omega)) (by rw [List.length_map]; omega) (fun i hi =>?_)
 rw [List.length_map] at hi
 have hip : 0 ≤ (i : Int) ∧ (i : Int) < (p.tasks.length : Int) := by omega
 have T := h.tk (i : Int) hip
 have hv : (r.tasks.map (·.view))[i]'(by rw [List.length_map]; exact hi) = (aat r.tasks (i : Int)).view := by
  rw [List.getElem_map]
  have a1 := abZ (α := TkV) (d := (dfR 61 : TkV)) (xs := r.tasks) (i := (i : Int)) ⟨by omega,by omega⟩
  rw [Int.toNat_natCast,List.getElem?_eq_getElem hi] at a1
  exact congrArg _ (Option.some.inj a1)
 rw [hv]
 have V := tk (i : Int) (by omega)
 unfold viP at V
 simp only [Prod.mk.injEq] at V
 obtain ⟨v1,v2,v3,v4⟩ := V
 refine ⟨by rw [v1,T.ph],by rw [v2,T.lv],by rw [v3,T.pa],?_,fun h2 =>T.wk (by rw [← v1]; exact h2),fun h2 =>?_⟩
 ·rw [v1,v4,← T.wt]
  split
  ·rfl
  ·rename_i h3; exact T.ot h3
 ·have h2 : (aat r.tasks (i : Int)).view.phase = 2 := by rw [← T.ph,← v1]; exact h2
  obtain ⟨k1,k2⟩ := h.run (i : Int) hip h2
  refine ⟨by omega,?_,fun u hu hm =>?_⟩
  ·rw [st _ k1.1,(h.wk _ k1).stack]; exact k2
  ·rw [st u hu.1,(h.wk u (by omega)).stack] at hm
   have := (h.st u (by omega) (i : Int) hm).2.2
   omega
theorem aor {lv np : Int} : ∀ {ps : List (List Ins)},abh lv np ps = 0 → ∀ p ∈ ps,p.length ≤ 32 ∧ p.all (agV lv np) = true
 | [],_,p,h =>by cases h
 | q :: ps,h,p,hm =>by
  unfold abh at h
  split at h
  ·omega
  ·split at h
   ·rename_i h1 h2
    rcases List.mem_cons.1 hm with e | e
    ·subst e; exact ⟨by omega,h2⟩
    ·exact aor h p e
   ·omega
theorem aqo {lv np : Int} : ∀ {ss : List Sub},ab2 lv np ss = 0 → ∀ s ∈ ss,ago lv np s = 0
 | [],_,s,h =>by cases h
 | q :: ss,h,s,hm =>by
  unfold ab2 at h
  split at h
  ·rename_i h1
   rcases List.mem_cons.1 hm with e | e
   ·subst e; exact h1
   ·exact aqo h s e
  ·rename_i h1; exact absurd h h1
theorem aza (h : aeh c = 0) : VC c ∧ (1 ≤ c.tasks ∧ c.tasks ≤ 256) ∧ (0 ≤ c.workers ∧ c.workers ≤ 1000) := by
 unfold aeh at h
 split at h
 ·omega
 ·rename_i hn
  have hn := aiJ (by simpa using hn : agP c = true)
  split at h
  ·omega
  ·rename_i hp
   have hp0 : acm c = 0 := by omega
   unfold acm at hp0
   split at hp0
   ·omega
   ·unfold adY at h
    split at h
    ·omega
    ·refine ⟨⟨fun k hk =>?_,fun o ho =>?_,by omega⟩,by omega,by omega⟩
     ·have hm : atL [] c.progs k ∈ c.progs := ajr hk
      obtain ⟨h1,h2⟩ := aor hp0 _ hm
      refine ⟨by omega,fun a a0 a1 =>?_⟩
      have hi := List.all_eq_true.1 h2 (acv (atL [] c.progs k) a) (ajr (d := (dfR 3 : Ins)) ⟨a0,a1⟩)
      unfold agV inB at hi
      refine ⟨fun h3 =>?_,fun h3 =>?_⟩
      ·rw [if_neg (by omega),if_pos h3] at hi
       simp only [Bool.and_eq_true,decide_eq_true_eq] at hi
       omega
      ·rw [if_neg (by omega),if_neg (by omega),if_pos h3] at hi
       simp only [Bool.and_eq_true,decide_eq_true_eq] at hi
       omega
     ·have hs := aqo h (ac1 c.subs o) (ajr (d := (dfR 4 : Sub)) ho)
      unfold ago inB at hs
      split at hs
      ·omega
      ·rename_i h1
       simp only [Bool.not_eq_true',Bool.and_eq_false_iff,decide_eq_false_iff_not,not_or,Classical.not_not,Bool.not_eq_false,Bool.and_eq_true,decide_eq_true_eq] at h1
       omega
structure TrS (c : Cfg) (l : List Ev) (m : Nat) (ps : Nat → SyP) (rs : Nat → SaV) : Prop where
 z : ps 0 = pN c
 ml : m ≤ l.length
 br : ∀ j,j ≤ m → BR j (ps j) (rs j) ∧ (ps j).c = c
 st : ∀ (j : Nat) (h : j < l.length),j < m → aah (ps j) l[j] = some ((true,()),(ps (j + 1),())) ∧ PhC (ps j) (ps (j + 1)) l[j].kind l[j].task l[j].other ∧ (0 ≤ l[j].task ∧ l[j].task < c.tasks) ∧ (l[j].kind = 8 → 0 ≤ l[j].other ∧ l[j].other < c.tasks)
theorem avo (hv : VC c) (hl : l.length ≤ 999999) : ∀ (d i : Nat) (ps : Nat → SyP) (rs : Nat → SaV),d = l.length - i → TrS c l i ps rs → ∃ m ps rs,TrS c l m ps rs ∧ (m = l.length ∨ ∃ (hm : m < l.length) (q : SyP),aah (ps m) l[m] = some ((false,()),(q,())) ∧ SameV (ps m) q) := by
 intro d
 induction d with
 | zero =>
  intro i ps rs hd h
  have := h.ml
  exact ⟨i,ps,rs,h,.inl (by omega)⟩
 | succ d ih =>
  intro i ps rs hd h
  have hi : i < l.length := by omega
  obtain ⟨k1,k2⟩ := h.br i (Nat.le_refl i)
  rcases avD (by rw [k2]; exact hv) (by omega) k1 l[i] with ⟨p',r',e1,e2,e3,e4,e5,e6⟩ | ⟨q,e1,e2⟩
  ·refine ih (i + 1) (fun j =>if j ≤ i then ps j else p') (fun j =>if j ≤ i then rs j else r') (by omega) { z := ?_,ml := hi,br := fun j hj =>?_,st := fun j hjl hj =>?_ }
   ·rw [if_pos (Nat.zero_le _)]; exact h.z
   ·rcases Nat.lt_or_ge i j with hlt | hge
    ·obtain rfl : j = i + 1 := by omega
     rw [if_neg (by omega),if_neg (by omega)]
     exact ⟨e2,e3.trans k2⟩
    ·rw [if_pos hge,if_pos hge]
     exact h.br j hge
   ·rw [if_pos (show j ≤ i by omega)]
    rcases Nat.lt_or_ge j i with hlt | hge
    ·rw [if_pos (show j + 1 ≤ i by omega)]
     exact h.st j hjl hlt
    ·obtain rfl : j = i := by omega
     rw [if_neg (show ¬ j + 1 ≤ j by omega)]
     rw [k2] at e5 e6
     exact ⟨e1,e4,e5,e6⟩
  ·exact ⟨i,ps,rs,h,.inr ⟨hi,q,e1,e2⟩⟩
theorem auJ (hv : VC c) (hc : aeh c = 0) (ht : 1 ≤ c.tasks ∧ c.tasks ≤ 256) (hw : 0 ≤ c.workers ∧ c.workers ≤ 1000) (hl : l.length ≤ 999999) : aa0 (acz c l) fun o =>∃ m ps rs,o.1.1 = ((m : Nat) : Int) ∧ TrS c l m ps rs := by
 have hb := ayJ (c := c) ht (by omega)
 have b0 : ∀ j,j ≤ 0 → BR j (pN c) (rN c) ∧ (pN c).c = c := fun j hj =>by
  obtain rfl : j = 0 := by omega
  exact ⟨hb,rfl⟩
 obtain ⟨m,ps,rs,tr,hm⟩ := avo (l := l) hv hl _ 0 (fun _ =>pN c) (fun _ =>rN c) rfl { z := rfl,ml := Nat.zero_le _,br := b0,st := fun j _ hj =>absurd hj (Nat.not_lt_zero _) }
 have hml := tr.ml
 have vw : ∀ j,j ≤ m → ∀ q,SameV (ps j) q → aa0 (abE q) fun _ =>True := fun j hj q hq =>by
  obtain ⟨B,Bc⟩ := tr.br j hj
  exact (as6 B (by omega) hq (by rw [Bc]; exact hw.2)).mono fun _ _ =>True.intro
 unfold acz
 refine aa0.bind (P := fun o =>o.1.2.1 = (m : Int)) ?_ fun r1 h1 =>.some_ ⟨m,ps,rs,h1,tr⟩
 unfold agf ak9
 rw [hc,abo]
 refine aa0.ite (fun h =>absurd rfl h) fun _ =>?_
 refine (awj (c := c) (by omega) (by omega)).bind fun r2 h2 =>?_
 rw [h2,← tr.z]
 refine aa0.bind (P := fun z =>(m = l.length ∧ ∃ i,z = .inl (i,ps m,())) ∨ (∃ vs,z = .inr ((vs,(m : Int),6,()),()))) (acl (fun x =>∃ i : Nat,x.1 = (i : Int) ∧ i ≤ m ∧ x.2.1 = ps i) (fun x =>((m : Int) - x.1).toNat) (fun self x ⟨i,q1,q2,q3⟩ ih =>?_) _ _ ⟨0,rfl,Nat.zero_le _,rfl⟩ (by show ((m : Int) - 0).toNat < _; omega)) fun z hz =>?_
 rotate_left
 ·obtain ⟨x1,x2,u⟩ := x
  obtain rfl : x1 = (i : Int) := q1
  obtain rfl : x2 = ps i := q3
  have e1 : wi ((i : Int) + 1) = ((i + 1 : Nat) : Int) := aa7 (aab (by omega))
  rcases Nat.lt_or_ge i m with hlt | hge
  ·have hi : i < l.length := by omega
   obtain ⟨k1,_⟩ := tr.st i hi hlt
   refine aa0.ite (fun _ =>aa0.guard (by show 0 ≤ (i : Int) ∧ (i : Int) < (l.length : Int); omega) fun _ =>?_) fun h =>absurd (show (i : Int) < (l.length : Int) by omega) h
   show aa0 ((aah (ps i) (aaL l (i : Int))).bind _) _
   rw [azX hi,k1,abo]
   refine aa0.ite (fun h =>nomatch h) fun _ =>?_
   show aa0 (self (wi ((i : Int) + 1),ps (i + 1),())) _
   rw [e1]
   exact ih _ ⟨i + 1,rfl,hlt,rfl⟩ (by show ((m : Int) - ((i + 1 : Nat) : Int)).toNat < ((m : Int) - (i : Int)).toNat; omega)
  ·obtain rfl : i = m := by omega
   rcases hm with hm | ⟨hm,q,k1,k2⟩
   ·refine aa0.ite (fun h =>absurd (show (i : Int) < (l.length : Int) from h) (by omega)) fun _ =>.some_ (.inl ⟨hm,_,rfl⟩)
   ·refine aa0.ite (fun _ =>aa0.guard (by show 0 ≤ (i : Int) ∧ (i : Int) < (l.length : Int); omega) fun _ =>?_) fun h =>absurd (show (i : Int) < (l.length : Int) by omega) h
    show aa0 ((aah (ps i) (aaL l (i : Int))).bind _) _
    rw [azX hm,k1,abo]
    refine aa0.ite (fun _ =>?_) fun h =>absurd rfl h
    exact (vw i (Nat.le_refl _) q k2).bind fun r7 _ =>.some_ (.inr ⟨_,rfl⟩)
 ·rcases hz with ⟨h3,i,rfl⟩ | ⟨vs,rfl⟩
  ·refine (vw m (Nat.le_refl _) (ps m) abJ).bind fun r9 _ =>.some_ ?_
   show (l.length : Int) = (m : Int)
   omega
  ·exact .some_ rfl
end
end
section
open Go Go.RowKit
set_option maxRecDepth 100000
variable [Tb]
abbrev awL : List Ev := ([(⟨1,1,0,0,0⟩ : Ev),(⟨13,0,0,0,0⟩ : Ev),(⟨5,0,0,0,0⟩ : Ev),(⟨10,0,0,0,0⟩ : Ev)])
noncomputable def abL  : Option ((Cfg × Unit) × (Unit)) :=
 (aiS ([])).bind fun r1 =>
 some ((({ r1.1.1 with subs := [(⟨0,0,0⟩ : Sub)] } : Cfg),()),())
noncomputable abbrev ady : Con SR1 := ⟨21,[],[.val 13],fun x =>abL ⟩
theorem afI : CO Tryz.prog ady := aaC aaB Tryz.func21 [aiR] ⟨ajU,trivial⟩ [] trivial (fun _ =>[]) [] fun x =>by kernel_rfl
noncomputable def aco  : Option ((Bool × Unit) × (Unit)) :=
 (abL).bind fun r1 =>
 (acz r1.1.1 awL).bind fun r2 =>
 ((
  if 0 ≤ (0 : Int) ∧ (0 : Int) < ((awL.length : Nat) : Int) then
   if 0 ≤ (1 : Int) ∧ (1 : Int) < ((awL.length : Nat) : Int) then
   if 0 ≤ (2 : Int) ∧ (2 : Int) < ((awL.length : Nat) : Int) then
   if 0 ≤ (2 : Int) ∧ (2 : Int) < ((awL.length : Nat) : Int) then
   agr (
   (abL).bind fun r5 =>
   if ((aaL awL 2).kind) = ((aaL awL 2).kind) then
   if ((aaL awL 2).worker) = ((aaL awL 2).worker) then
   if ((aaL awL 2).task) = ((aaL awL 2).task) then
   if ((aaL awL 2).other) = ((aaL awL 2).other) then
   if ((aaL awL 2).level) = ((aaL awL 2).level) then
   if ((aaL awL 2).kind) = ((aaL awL 2).kind) then
   if ((aaL awL 2).worker) = ((aaL awL 2).worker) then
   if ((aaL awL 2).task) = ((aaL awL 2).task) then
   if ((aaL awL 2).other) = ((aaL awL 2).other) then
   if ((aaL awL 2).level) = ((aaL awL 2).level) then
   if ((aaL awL 1).kind) = ((aaL awL 1).kind) then
   if ((aaL awL 1).worker) = ((aaL awL 1).worker) then
   if ((aaL awL 1).task) = ((aaL awL 1).task) then
   if ((aaL awL 1).other) = ((aaL awL 1).other) then
   if ((aaL awL 1).level) = ((aaL awL 1).level) then
   if ((aaL awL 0).kind) = ((aaL awL 0).kind) then
   if ((aaL awL 0).worker) = ((aaL awL 0).worker) then
   if ((aaL awL 0).task) = ((aaL awL 0).task) then
   if ((aaL awL 0).other) = ((aaL awL 0).other) then
   if ((aaL awL 0).level) = ((aaL awL 0).level) then
   (acz r5.1.1 ([aaL awL 0,aaL awL 1,aaL awL 2,aaL awL 2])).bind fun r6 =>
   some (r6.1.1,r6.1.2.1,())
   else none
   else none
   else none
   else none
   else none
   else none
   else none
   else none
   else none
   else none
   else none
   else none
   else none
   else none
   else none
   else none
   else none
   else none
   else none
   else none
   ) (
   (abL).bind fun r3 =>
   if ((aaL awL 2).kind) = ((aaL awL 2).kind) then
   if ((aaL awL 2).worker) = ((aaL awL 2).worker) then
   if ((aaL awL 2).task) = ((aaL awL 2).task) then
   if ((aaL awL 2).other) = ((aaL awL 2).other) then
   if ((aaL awL 2).level) = ((aaL awL 2).level) then
   if ((aaL awL 2).kind) = ((aaL awL 2).kind) then
   if ((aaL awL 2).worker) = ((aaL awL 2).worker) then
   if ((aaL awL 2).task) = ((aaL awL 2).task) then
   if ((aaL awL 2).other) = ((aaL awL 2).other) then
   if ((aaL awL 2).level) = ((aaL awL 2).level) then
   if ((aaL awL 1).kind) = ((aaL awL 1).kind) then
   if ((aaL awL 1).worker) = ((aaL awL 1).worker) then
   if ((aaL awL 1).task) = ((aaL awL 1).task) then
   if ((aaL awL 1).other) = ((aaL awL 1).other) then
   if ((aaL awL 1).level) = ((aaL awL 1).level) then
   if ((aaL awL 0).kind) = ((aaL awL 0).kind) then
   if ((aaL awL 0).worker) = ((aaL awL 0).worker) then
   if ((aaL awL 0).task) = ((aaL awL 0).task) then
   if ((aaL awL 0).other) = ((aaL awL 0).other) then
   if ((aaL awL 0).level) = ((aaL awL 0).level) then
   (acz r3.1.1 ([aaL awL 0,aaL awL 1,aaL awL 2,aaL awL 2])).bind fun r4 =>
   some (r4.1.1,r4.1.2.1,())
   else none
   else none
   else none
   else none
   else none
   else none
   else none
   else none
   else none
   else none
   else none
   else none
   else none
   else none
   else none
   else none
   else none
   else none
   else none
   else none
   )
   else none
   else none
   else none
  else none
 ) : Option (Int × Int × Unit)).bind fun z7 =>
 if r2.1.1 = 4 then
  if r2.1.2.1 = 0 then
   if z7.1 = 3 then
   some ((decide (z7.2.1 = 6),()),())
   else
   some ((false,()),())
  else
  some ((false,()),())
 else
 some ((false,()),())
noncomputable abbrev acM : Con SR1 := ⟨11,[],[.sh .b],fun x =>aco ⟩
theorem ad7 : CO Tryz.prog acM := aaC aaB Tryz.func11 [ady,afe] ⟨afI,agS,trivial⟩ [] trivial (fun _ =>[]) [(4,.cut [.rg 4 sI_,.rg 5 sI_] [0,10,11])] fun x =>by kernel_rfl
noncomputable def abN  : Option ((Bool × Unit) × (Unit)) :=
 (abL).bind fun r1 =>
 (acz r1.1.1 awL).bind fun r2 =>
 if 0 ≤ (0 : Int) ∧ (0 : Int) < ((awL.length : Nat) : Int) then
  if 0 ≤ (1 : Int) ∧ (1 : Int) < ((awL.length : Nat) : Int) then
   if 0 ≤ (2 : Int) ∧ (2 : Int) < ((awL.length : Nat) : Int) then
   if 0 ≤ (2 : Int) ∧ (2 : Int) < ((awL.length : Nat) : Int) then
   (abL).bind fun r3 =>
   (acz r3.1.1 ([aaL awL 0,aaL awL 1,aaL awL 2,aaL awL 2])).bind fun r4 =>
   if r2.1.1 = 4 then
   if r2.1.2.1 = 0 then
   if r4.1.1 = 3 then
   some ((decide (r4.1.2.1 = 6),()),())
   else
   some ((false,()),())
   else
   some ((false,()),())
   else
   some ((false,()),())
   else none
   else none
  else none
 else none
noncomputable abbrev ac6 : Con SR1 := ⟨11,[],[.sh .b],fun x =>abN ⟩
theorem aeR  : aco  = abN  := by
 unfold aco abN
 simp only [if_true,acT,aj4]
 try rfl
theorem aeQ : CO Tryz.prog ac6 := ayG ad7 fun x out hx =>(show acM.spec x = some out from (aeR ).trans hx)
noncomputable def akP (y0 : Cfg) (y1 : List Int) (y2 : List Int) : Option ((List Ev × Unit) × (Unit)) :=
 (aoo y0).bind fun r1 =>
 (akS y0).bind fun r2 =>
 if 0 ≤ (if wi (40 * ((y0.subs.length : Nat) : Int)) < wi (2 * ((y1.length : Nat) : Int)) then wi (40 * ((y0.subs.length : Nat) : Int)) else wi (2 * ((y1.length : Nat) : Int))) ∧ (if wi (40 * ((y0.subs.length : Nat) : Int)) < wi (2 * ((y1.length : Nat) : Int)) then wi (40 * ((y0.subs.length : Nat) : Int)) else wi (2 * ((y1.length : Nat) : Int))) ≤ ((r2.1.1.length : Nat) : Int) then
  (aiD r1.1.1 (r2.1.1.take ((if wi (40 * ((y0.subs.length : Nat) : Int)) < wi (2 * ((y1.length : Nat) : Int)) then wi (40 * ((y0.subs.length : Nat) : Int)) else wi (2 * ((y1.length : Nat) : Int))) : Int).toNat)).bind fun r3 =>
  (akR y1 200).bind fun r4 =>
  (aiD r3.2.1 r4.1.1).bind fun r5 =>
  (lpF (σ := Int × EngV × Unit) (β := Int × EngV × Unit) (fun self8 x6 =>
   if x6.1 < ((y2.length : Nat) : Int) then
   if x6.1 < 60 then
   (aoG y2 (wi (5 * x6.1)) (wi (y0.workers + 1))).bind fun r9 =>
   (aiD x6.2.1 r9.1.1).bind fun r10 =>
   self8 (wi (x6.1 + 1),r10.2.1,())
   else
   some (x6.1,x6.2.1,())
   else
   some (x6.1,x6.2.1,())
  ) 18446744073709551616 (0,r5.2.1,())).bind fun z7 =>
  some ((z7.2.1.e.evs,()),())
 else none
noncomputable abbrev amb : Con SR1 := ⟨9,[.val 13,.sh (.ro 17),.sh (.ro 1)],[.sh (.row 2)],fun x =>akP x.1 x.2.1 x.2.2.1⟩
theorem apM : CO Tryz.prog amb := aaC aaB Tryz.func9 [aon,ame,aom,amd,aoF] ⟨aq7,apP,aq6,apO,arQ,trivial⟩ [] trivial (fun _ =>[]) [(5,.loop [.rg 8 sI_,.rg 7 (.own 16)] 18446744073709551616 0)] fun x =>by kernel_rfl
noncomputable abbrev ag2 {α : Type} (x : Option α) : Option α := agr x x
abbrev rpF (n : Int) : List Bool := List.replicate (n : Int).toNat false
noncomputable def ab6 (y0 : List Int) (y1 : List Int) (y2 : List Int) (y3 : List Int) : Option ((Bool × Unit) × (Unit)) :=
 (aoE y0 ([y2,y3])).bind fun r1 =>
 if (!r1.1.1) = true then
  some ((true,()),())
 else
 if 600 < ((y1.length : Nat) : Int) then
  some ((true,()),())
 else
 (aiS y0).bind fun r2 =>
 (akP r2.1.1 y1 y2).bind fun r3 =>
 if (((([] : List Ev).length + r3.1.1.length : Nat)) : Int) < 1000000000000 then
  (lpF (σ := Int × List Ev × Unit) (β := Int × List Ev × Unit) (fun self6 x4 =>
   if (wi (x4.1 + 1)) < ((y3.length : Nat) : Int) then
   if x4.1 < 6 then
   if 1 < ((x4.2.1.length : Nat) : Int) then
   (ad1 y3 x4.1 (wi (((x4.2.1.length : Nat) : Int) - 1))).bind fun r7 =>
   if 0 ≤ wi (r7.1.1 + 1) ∧ wi (r7.1.1 + 1) < ((x4.2.1.length : Nat) : Int) then
   if 0 ≤ r7.1.1 ∧ r7.1.1 < ((x4.2.1.length : Nat) : Int) then
   if 0 ≤ r7.1.1 ∧ r7.1.1 < ((x4.2.1.length : Nat) : Int) then
   if 0 ≤ wi (r7.1.1 + 1) ∧ wi (r7.1.1 + 1) < (((x4.2.1.set r7.1.1.toNat (aaL x4.2.1 (wi (r7.1.1 + 1)))).length : Nat) : Int) then
   self6 (wi (x4.1 + 2),(x4.2.1.set r7.1.1.toNat (aaL x4.2.1 (wi (r7.1.1 + 1)))).set (wi (r7.1.1 + 1)).toNat (aaL x4.2.1 r7.1.1),())
   else none
   else none
   else none
   else none
   else
   some (x4.1,x4.2.1,())
   else
   some (x4.1,x4.2.1,())
   else
   some (x4.1,x4.2.1,())
  ) 18446744073709551616 (0,([]) ++ r3.1.1,())).bind fun z5 =>
  (acz r2.1.1 z5.2.1).bind fun r8 =>
  (abN).bind fun r9 =>
  if (!r9.1.1) = true then
   some ((false,()),())
  else
  if r8.1.1 < 0 then
   some ((false,()),())
  else
  if ((z5.2.1.length : Nat) : Int) < r8.1.1 then
   some ((false,()),())
  else
  ((
   agr (
   if r2.1.1.tasks = r2.1.1.tasks then
   if 0 ≤ r2.1.1.tasks ∧ r2.1.1.tasks ≤ 1099511627776 then
   if r2.1.1.tasks = r2.1.1.tasks then
   if r2.1.1.tasks = r2.1.1.tasks then
   ag2 (
   if r2.1.1.tasks = r2.1.1.tasks then
   if 0 ≤ r2.1.1.tasks ∧ r2.1.1.tasks ≤ 1099511627776 then
   if r2.1.1.tasks = r2.1.1.tasks then
   if r2.1.1.tasks = r2.1.1.tasks then
   if r2.1.1.tasks = r2.1.1.tasks then
   if 0 ≤ r2.1.1.tasks ∧ r2.1.1.tasks ≤ 1099511627776 then
   if r2.1.1.tasks = r2.1.1.tasks then
   if r2.1.1.tasks = r2.1.1.tasks then
   some (rpF r2.1.1.tasks,rpF r2.1.1.tasks,rpF r2.1.1.tasks,())
   else none
   else none
   else none
   else none
   else none
   else none
   else none
   else none
   )
   else none
   else none
   else none
   else none
   ) (
   ag2 (
   if r2.1.1.tasks = r2.1.1.tasks then
   if 0 ≤ r2.1.1.tasks ∧ r2.1.1.tasks ≤ 1099511627776 then
   if r2.1.1.tasks = r2.1.1.tasks then
   if r2.1.1.tasks = r2.1.1.tasks then
   ag2 (
   if r2.1.1.tasks = r2.1.1.tasks then
   if 0 ≤ r2.1.1.tasks ∧ r2.1.1.tasks ≤ 1099511627776 then
   if r2.1.1.tasks = r2.1.1.tasks then
   if r2.1.1.tasks = r2.1.1.tasks then
   if r2.1.1.tasks = r2.1.1.tasks then
   if 0 ≤ r2.1.1.tasks ∧ r2.1.1.tasks ≤ 1099511627776 then
   if r2.1.1.tasks = r2.1.1.tasks then
   if r2.1.1.tasks = r2.1.1.tasks then
   some (rpF r2.1.1.tasks,rpF r2.1.1.tasks,rpF r2.1.1.tasks,())
   else none
   else none
   else none
   else none
   else none
   else none
   else none
   else none
   )
   else none
   else none
   else none
   else none
   )
   )
  ) : Option (List Bool × List Bool × List Bool × Unit)).bind fun z10 =>
  (lpF (σ := Int × List Bool × List Bool × List Bool × Unit) (β := (Int × List Bool × List Bool × List Bool × Unit) ⊕ ((Bool × Unit) × (Unit))) (fun self13 x11 =>
   if x11.1 < r8.1.1 then
   if 0 ≤ x11.1 ∧ x11.1 < ((z5.2.1.length : Nat) : Int) then
   if 0 ≤ x11.1 ∧ x11.1 < ((z5.2.1.length : Nat) : Int) then
   if ((aaL z5.2.1 x11.1).kind) = 1 then
   if ((aaL z5.2.1 x11.1).kind) = 1 then
   if 0 ≤ (aaL z5.2.1 x11.1).task ∧ (aaL z5.2.1 x11.1).task < ((x11.2.1.length : Nat) : Int) then
   if acG x11.2.1 ((aaL z5.2.1 x11.1).task) = true then
   Option.map Sum.inr (
   some ((false,()),())
   )
   else
   if 0 ≤ (aaL z5.2.1 x11.1).task ∧ (aaL z5.2.1 x11.1).task < ((x11.2.1.length : Nat) : Int) then
   self13 (wi (x11.1 + 1),x11.2.1.set ((aaL z5.2.1 x11.1).task).toNat true,x11.2.2.1,x11.2.2.2.1,())
   else none
   else none
   else
   if ((aaL z5.2.1 x11.1).kind) = 5 then
   if 0 ≤ (aaL z5.2.1 x11.1).task ∧ (aaL z5.2.1 x11.1).task < ((x11.2.1.length : Nat) : Int) then
   if (!(acG x11.2.1 ((aaL z5.2.1 x11.1).task))) = true then
   Option.map Sum.inr (
   some ((false,()),())
   )
   else
   if 0 ≤ (aaL z5.2.1 x11.1).task ∧ (aaL z5.2.1 x11.1).task < ((x11.2.2.1.length : Nat) : Int) then
   if acG x11.2.2.1 ((aaL z5.2.1 x11.1).task) = true then
   Option.map Sum.inr (
   some ((false,()),())
   )
   else
   if 0 ≤ (aaL z5.2.1 x11.1).task ∧ (aaL z5.2.1 x11.1).task < ((x11.2.2.1.length : Nat) : Int) then
   self13 (wi (x11.1 + 1),x11.2.1,x11.2.2.1.set ((aaL z5.2.1 x11.1).task).toNat true,x11.2.2.2.1,())
   else none
   else none
   else none
   else
   if ((aaL z5.2.1 x11.1).kind) = 10 then
   if 0 ≤ (aaL z5.2.1 x11.1).task ∧ (aaL z5.2.1 x11.1).task < ((x11.2.2.1.length : Nat) : Int) then
   if (!(acG x11.2.2.1 ((aaL z5.2.1 x11.1).task))) = true then
   Option.map Sum.inr (
   some ((false,()),())
   )
   else
   if 0 ≤ (aaL z5.2.1 x11.1).task ∧ (aaL z5.2.1 x11.1).task < ((x11.2.2.2.1.length : Nat) : Int) then
   if acG x11.2.2.2.1 ((aaL z5.2.1 x11.1).task) = true then
   Option.map Sum.inr (
   some ((false,()),())
   )
   else
   if 0 ≤ (aaL z5.2.1 x11.1).task ∧ (aaL z5.2.1 x11.1).task < ((x11.2.2.2.1.length : Nat) : Int) then
   self13 (wi (x11.1 + 1),x11.2.1,x11.2.2.1,x11.2.2.2.1.set ((aaL z5.2.1 x11.1).task).toNat true,())
   else none
   else none
   else none
   else
   if ((aaL z5.2.1 x11.1).kind) = 8 then
   if 0 ≤ x11.1 ∧ x11.1 < ((z5.2.1.length : Nat) : Int) then
   if 0 ≤ (aaL z5.2.1 x11.1).other ∧ (aaL z5.2.1 x11.1).other < ((x11.2.2.2.1.length : Nat) : Int) then
   if (!(acG x11.2.2.2.1 ((aaL z5.2.1 x11.1).other))) = true then
   Option.map Sum.inr (
   some ((false,()),())
   )
   else
   self13 (wi (x11.1 + 1),x11.2.1,x11.2.2.1,x11.2.2.2.1,())
   else none
   else none
   else
   self13 (wi (x11.1 + 1),x11.2.1,x11.2.2.1,x11.2.2.2.1,())
   else
   if ((aaL z5.2.1 x11.1).kind) = 3 then
   if 0 ≤ (aaL z5.2.1 x11.1).task ∧ (aaL z5.2.1 x11.1).task < ((x11.2.1.length : Nat) : Int) then
   if acG x11.2.1 ((aaL z5.2.1 x11.1).task) = true then
   Option.map Sum.inr (
   some ((false,()),())
   )
   else
   if 0 ≤ (aaL z5.2.1 x11.1).task ∧ (aaL z5.2.1 x11.1).task < ((x11.2.1.length : Nat) : Int) then
   self13 (wi (x11.1 + 1),x11.2.1.set ((aaL z5.2.1 x11.1).task).toNat true,x11.2.2.1,x11.2.2.2.1,())
   else none
   else none
   else
   if ((aaL z5.2.1 x11.1).kind) = 5 then
   if 0 ≤ (aaL z5.2.1 x11.1).task ∧ (aaL z5.2.1 x11.1).task < ((x11.2.1.length : Nat) : Int) then
   if (!(acG x11.2.1 ((aaL z5.2.1 x11.1).task))) = true then
   Option.map Sum.inr (
   some ((false,()),())
   )
   else
   if 0 ≤ (aaL z5.2.1 x11.1).task ∧ (aaL z5.2.1 x11.1).task < ((x11.2.2.1.length : Nat) : Int) then
   if acG x11.2.2.1 ((aaL z5.2.1 x11.1).task) = true then
   Option.map Sum.inr (
   some ((false,()),())
   )
   else
   if 0 ≤ (aaL z5.2.1 x11.1).task ∧ (aaL z5.2.1 x11.1).task < ((x11.2.2.1.length : Nat) : Int) then
   self13 (wi (x11.1 + 1),x11.2.1,x11.2.2.1.set ((aaL z5.2.1 x11.1).task).toNat true,x11.2.2.2.1,())
   else none
   else none
   else none
   else
   if ((aaL z5.2.1 x11.1).kind) = 10 then
   if 0 ≤ (aaL z5.2.1 x11.1).task ∧ (aaL z5.2.1 x11.1).task < ((x11.2.2.1.length : Nat) : Int) then
   if (!(acG x11.2.2.1 ((aaL z5.2.1 x11.1).task))) = true then
   Option.map Sum.inr (
   some ((false,()),())
   )
   else
   if 0 ≤ (aaL z5.2.1 x11.1).task ∧ (aaL z5.2.1 x11.1).task < ((x11.2.2.2.1.length : Nat) : Int) then
   if acG x11.2.2.2.1 ((aaL z5.2.1 x11.1).task) = true then
   Option.map Sum.inr (
   some ((false,()),())
   )
   else
   if 0 ≤ (aaL z5.2.1 x11.1).task ∧ (aaL z5.2.1 x11.1).task < ((x11.2.2.2.1.length : Nat) : Int) then
   self13 (wi (x11.1 + 1),x11.2.1,x11.2.2.1,x11.2.2.2.1.set ((aaL z5.2.1 x11.1).task).toNat true,())
   else none
   else none
   else none
   else
   if ((aaL z5.2.1 x11.1).kind) = 8 then
   if 0 ≤ x11.1 ∧ x11.1 < ((z5.2.1.length : Nat) : Int) then
   if 0 ≤ (aaL z5.2.1 x11.1).other ∧ (aaL z5.2.1 x11.1).other < ((x11.2.2.2.1.length : Nat) : Int) then
   if (!(acG x11.2.2.2.1 ((aaL z5.2.1 x11.1).other))) = true then
   Option.map Sum.inr (
   some ((false,()),())
   )
   else
   self13 (wi (x11.1 + 1),x11.2.1,x11.2.2.1,x11.2.2.2.1,())
   else none
   else none
   else
   self13 (wi (x11.1 + 1),x11.2.1,x11.2.2.1,x11.2.2.2.1,())
   else none
   else none
   else
   some (Sum.inl (x11.1,x11.2.1,x11.2.2.1,x11.2.2.2.1,()))
  ) 18446744073709551616 (0,z10.1,z10.2.1,z10.2.2.1,())).bind fun z12 =>match z12 with
  | .inr o14 =>some o14
  | .inl z12 =>
  some ((true,()),())
 else none
noncomputable abbrev adV : Con SR1 := ⟨5,[.sh (.ro 17),.sh (.ro 17),.sh (.ro 1),.sh (.ro 1)],[.sh .b],fun x =>ab6 x.1 x.2.1 x.2.2.1 x.2.2.2.1⟩
theorem adL : CO Tryz.prog adV := aaC aaB Tryz.func5 [aoD,aiR,amb,aiP,afe,ac6] ⟨arP,ajU,apM,ajT,agS,aeQ,trivial⟩ [] trivial (fun _ =>[]) [(6,.loop [.rg 11 sI_,.rg 10 (.row 2)] 18446744073709551616 0),(14,.cut [.rg 15 (.row 73),.rg 16 (.row 73),.rg 17 (.row 73)] [0,1,2,3,4,15,16,17,19,22]),(15,.loopR [.rg 18 sI_,.rg 15 (.row 73),.rg 16 (.row 73),.rg 17 (.row 73)] 18446744073709551616 2)] fun x =>by kernel_rfl
end
end Go.Proofs.YtkmkhldmflebkaaGreat
