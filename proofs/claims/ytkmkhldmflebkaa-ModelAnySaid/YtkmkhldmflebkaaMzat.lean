/- The two models: their answers to a list of events. What is decoded is valid. The law ModelAny, as a function of its arguments, always answers true. -/
import Derived.Test.YtkmkhldmflebkaaMzas
import Derived.Test.YtkmkhldmflebkaaMzak
set_option linter.all false
namespace Go.Proofs.Ytkmkhldmflebkaa
section
open Go Go.RowKit
set_option maxRecDepth 10000
variable [Tb]
inductive Trc (l : List Ev) (p0 : SyP) (r0 : SaV) : Nat → SyP → SaV → Prop
  | z : Trc l p0 r0 0 p0 r0
  | s {i : Nat} {p p' : SyP} {r r' : SaV} : Trc l p0 r0 i p r → (h : i < l.length) → aah p l[i] = some ((true, ()), (p', ())) → aam r l[i] = some ((true, ()), (r', ())) → Trc l p0 r0 (i + 1) p' r'
section
variable {l : List Ev} {p0 : SyP} {r0 : SaV}
theorem Trc.det {i : Nat} {p : SyP} {r : SaV} (h : Trc l p0 r0 i p r) : ∀ {p' : SyP} {r' : SaV}, Trc l p0 r0 i p' r' → p = p' ∧ r = r' := by
  induction h with
  | z =>
    intro p' r' h
    cases h
    exact ⟨rfl, rfl⟩
  | s h1 hi h2 h3 ih =>
    intro p' r' h
    cases h with
    | s k1 ki k2 k3 =>
      obtain ⟨rfl, rfl⟩ := ih k1
      have e2 := h2.symm.trans k2
      have e3 := h3.symm.trans k3
      simp only [Option.some.injEq, Prod.mk.injEq, true_and, and_true] at e2 e3
      exact ⟨e2, e3⟩
theorem Trc.le {i : Nat} {p : SyP} {r : SaV} (h : Trc l p0 r0 i p r) : i ≤ l.length := by
  cases h with
  | z => exact Nat.zero_le _
  | s _ h _ _ => exact h
theorem Trc.next {m : Nat} {p : SyP} {r : SaV} (h : Trc l p0 r0 m p r) : ∀ {i : Nat} {a : SyP} {b : SaV}, i < m → Trc l p0 r0 i a b → ∃ (hi : i < l.length) (a' : SyP) (b' : SaV), aah a l[i] = some ((true, ()), (a', ())) ∧ aam b l[i] = some ((true, ()), (b', ())) ∧ Trc l p0 r0 (i + 1) a' b' := by
  induction h with
  | z => intro i a b hi; exact absurd hi (Nat.not_lt_zero _)
  | @s j p p' r r' h1 hj h2 h3 ih =>
    intro i a b hi hab
    rcases Nat.lt_or_ge i j with hlt | hge
    · exact ih hlt hab
    · obtain rfl : i = j := by omega
      obtain ⟨rfl, rfl⟩ := h1.det hab
      exact ⟨hj, _, _, h2, h3, .s h1 hj h2 h3⟩
theorem Trc.br {i : Nat} {p : SyP} {r : SaV} (h : Trc l p0 r0 i p r) (hv : VC p0.c) (hb : BR 0 p0 r0) (hl : l.length ≤ 999999) : BR i p r ∧ p.c = p0.c := by
  induction h with
  | z => exact ⟨hb, rfl⟩
  | @s j a a' b b' h1 hi h2 h3 ih =>
    obtain ⟨k1, k2⟩ := ih
    rcases ans (by rw [k2]; exact hv) (by omega) k1 l[j] with ⟨q, q', e1, e2, e3, e4⟩ | ⟨q, q', e1, e2, e3⟩
    · have a1 := e1.symm.trans h2
      have a2 := e2.symm.trans h3
      simp only [Option.some.injEq, Prod.mk.injEq, true_and, and_true] at a1 a2
      subst a1 a2
      exact ⟨e3, e4.trans k2⟩
    · have a1 := e1.symm.trans h2
      simp at a1
theorem anS (hv : VC p0.c) (hb : BR 0 p0 r0) (hl : l.length ≤ 999999) : ∀ (d i : Nat) (p : SyP) (r : SaV), d = l.length - i → Trc l p0 r0 i p r → ∃ m p r, Trc l p0 r0 m p r ∧ (m = l.length ∨ ∃ (hm : m < l.length) (q : SyP) (q' : SaV), aah p l[m] = some ((false, ()), (q, ())) ∧ SameV p q ∧ aam r l[m] = some ((false, ()), (q', ()))) := by
  intro d
  induction d with
  | zero =>
    intro i p r hd h
    have := h.le
    exact ⟨i, p, r, h, .inl (by omega)⟩
  | succ d ih =>
    intro i p r hd h
    have hi : i < l.length := by omega
    obtain ⟨k1, k2⟩ := h.br hv hb hl
    rcases ans (by rw [k2]; exact hv) (by omega) k1 l[i] with ⟨q, q', e1, e2, e3, e4⟩ | ⟨q, q', e1, e2, e3⟩
    · exact ih (i + 1) q q' (by omega) (.s h hi e1 e2)
    · exact ⟨i, p, r, h, .inr ⟨hi, q, q', e1, e2, e3⟩⟩
theorem asl {i : Nat} (h : i < l.length) : abr l (i : Int) = l[i] := by
  have a1 := abV (α := Ev) (d := (dfR 2 : Ev)) (xs := l) (i := (i : Int)) ⟨by omega, by omega⟩
  rw [Int.toNat_natCast, List.getElem?_eq_getElem h] at a1
  exact (Option.some.inj a1).symm
theorem atG {α β : Type} {d : α} {f : α → β} {xs ys : List α} (h : ys.map f = xs.map f) {i : Int} (hi : 0 ≤ i) : f (atL d ys i) = f (atL d xs i) := by
  have h1 : (ys.map f)[i.toNat]? = (xs.map f)[i.toNat]? := by rw [h]
  rw [List.getElem?_map, List.getElem?_map] at h1
  unfold atL
  cases hy : ys[i.toNat]? <;> cases hx : xs[i.toNat]? <;> rw [hy, hx] at h1 <;> simp at h1 ⊢
  exact h1
theorem akE {n : Nat} {p q : SyP} {r : SaV} (h : BR n p r) (hn : n ≤ 999999) (hs : SameV p q) (hw : p.c.workers ≤ 1000) : aaD (abM q) fun o => o.1.1 = r.tasks.map (·.view) := by
  have l1 : q.tasks.length = p.tasks.length := by have := congrArg List.length hs.t; simpa using this
  have l2 : q.works.length = p.works.length := by have := congrArg List.length hs.w; simpa using this
  have hl := h.tl2
  have hl3 := h.tl3
  have hwl := h.wl
  have hwl2 := h.wl2
  have tk : ∀ i, 0 ≤ i → viP (aab q.tasks i) = viP (aab p.tasks i) := fun i hi => atG (d := (dfR 70 : TkP)) hs.t hi
  have st : ∀ i, 0 ≤ i → (aad q.works i).stack = (aad p.works i).stack := fun i hi => atG (d := (dfR 71 : WkP)) (f := fun (x : WkP) => x.stack) hs.w hi
  have PO1 := h.po (by omega)
  refine anQ (by omega) (by omega) (fun w hw => by rw [st w hw.1]; exact PO1.stk w (by omega)) (by rw [List.length_map]; omega) (fun i hi => ?_)
  rw [List.length_map] at hi
  have hip : 0 ≤ (i : Int) ∧ (i : Int) < (p.tasks.length : Int) := by omega
  have T := h.tk (i : Int) hip
  have hv : (r.tasks.map (·.view))[i]'(by rw [List.length_map]; exact hi) = (aaa r.tasks (i : Int)).view := by
    rw [List.getElem_map]
    have a1 := abV (α := TkV) (d := (dfR 61 : TkV)) (xs := r.tasks) (i := (i : Int)) ⟨by omega, by omega⟩
    rw [Int.toNat_natCast, List.getElem?_eq_getElem hi] at a1
    exact congrArg _ (Option.some.inj a1)
  rw [hv]
  have V := tk (i : Int) (by omega)
  unfold viP at V
  simp only [Prod.mk.injEq] at V
  obtain ⟨v1, v2, v3, v4⟩ := V
  refine ⟨by rw [v1, T.ph], by rw [v2, T.lv], by rw [v3, T.pa], ?_, fun h2 => T.wk (by rw [← v1]; exact h2), fun h2 => ?_⟩
  · rw [v1, v4, ← T.wt]
    split
    · rfl
    · rename_i h3; exact T.ot h3
  · have h2 : (aaa r.tasks (i : Int)).view.phase = 2 := by rw [← T.ph, ← v1]; exact h2
    obtain ⟨k1, k2⟩ := h.run (i : Int) hip h2
    refine ⟨by omega, ?_, fun u hu hm => ?_⟩
    · rw [st _ k1.1, (h.wk _ k1).stack]; exact k2
    · rw [st u hu.1, (h.wk u (by omega)).stack] at hm
      have := (h.st u (by omega) (i : Int) hm).2.2
      omega
theorem ama {c : Cfg} (hv : VC c) (hc : acw c = 0) (ht : 1 ≤ c.tasks ∧ c.tasks ≤ 256) (hw : 0 ≤ c.workers ∧ c.workers ≤ 1000) (hl : l.length ≤ 999999) : ∃ vs n er, acm c l = some ((vs, n, er, ()), ()) ∧ aaY c l = some ((vs, n, er, ()), ()) ∧ vs.length ≤ 1000000 := by
  have hb := ash (c := c) ht (by omega)
  obtain ⟨m, p, r, tr, hm⟩ := anS (l := l) (p0 := pN c) (r0 := rN c) hv hb hl _ 0 _ _ rfl .z
  obtain ⟨B, Bc⟩ := tr.br hv hb hl
  have hml := tr.le
  have hpw : p.c.workers ≤ 1000 := by rw [Bc]; exact hw.2
  have hrl : r.tasks.length ≤ 256 := by have := B.tl2; have := B.tl3; omega
  refine ⟨r.tasks.map (·.view), (m : Int), if m = l.length then 0 else 6, ?_, ?_, by rw [List.length_map]; omega⟩
  · have hg : aaD (acm c l) fun o => o = ((r.tasks.map (·.view), (m : Int), (if m = l.length then 0 else 6), ()), ()) := by
      unfold acm ahf
      rw [hc, aar]
      refine aaD.ite (fun h => absurd rfl h) fun _ => ?_
      refine (aqb (c := c) (by omega) (by omega)).bind fun r2 h2 => ?_
      rw [h2]
      refine aaD.bind (P := fun z => (m = l.length ∧ ∃ i, z = .inl (i, p, ())) ∨ (m < l.length ∧ z = .inr ((r.tasks.map (·.view), (m : Int), 6, ()), ()))) (abU (fun x => ∃ i : Nat, x.1 = (i : Int) ∧ i ≤ m ∧ ∃ b, Trc l (pN c) (rN c) i x.2.1 b) (fun x => ((m : Int) - x.1).toNat) (fun self x ⟨i, q1, q2, b, q3⟩ ih => ?_) _ _ ⟨0, rfl, Nat.zero_le _, _, .z⟩ (by show ((m : Int) - 0).toNat < _; omega)) fun z hz => ?_
      rotate_left
      · obtain ⟨x1, x2, u⟩ := x
        obtain rfl : x1 = (i : Int) := q1
        have q3 : Trc l (pN c) (rN c) i x2 b := q3
        have e1 : wi ((i : Int) + 1) = ((i + 1 : Nat) : Int) := abR (aaZ (by omega))
        rcases Nat.lt_or_ge i m with hlt | hge
        · obtain ⟨hi, a', b', k1, k2, k3⟩ := tr.next hlt q3
          refine aaD.ite (fun _ => aaD.guard (by show 0 ≤ (i : Int) ∧ (i : Int) < (l.length : Int); omega) fun _ => ?_) fun h => absurd (show (i : Int) < (l.length : Int) by omega) h
          show aaD ((aah x2 (abr l (i : Int))).bind _) _
          rw [asl hi, k1, aar]
          refine aaD.ite (fun h => nomatch h) fun _ => ?_
          show aaD (self (wi ((i : Int) + 1), a', ())) _
          rw [e1]
          exact ih _ ⟨i + 1, rfl, hlt, b', k3⟩ (by show ((m : Int) - ((i + 1 : Nat) : Int)).toNat < ((m : Int) - (i : Int)).toNat; omega)
        · obtain rfl : i = m := by omega
          obtain ⟨rfl, rfl⟩ := q3.det tr
          rcases hm with hm | ⟨hm, q, q', k1, k2, k3⟩
          · refine aaD.ite (fun h => absurd (show (i : Int) < (l.length : Int) from h) (by omega)) fun _ => .some_ (.inl ⟨hm, _, rfl⟩)
          · refine aaD.ite (fun _ => aaD.guard (by show 0 ≤ (i : Int) ∧ (i : Int) < (l.length : Int); omega) fun _ => ?_) fun h => absurd (show (i : Int) < (l.length : Int) by omega) h
            show aaD ((aah x2 (abr l (i : Int))).bind _) _
            rw [asl hm, k1, aar]
            refine aaD.ite (fun _ => ?_) fun h => absurd rfl h
            refine (akE B (by omega) k2 hpw).bind fun r7 h7 => .some_ (.inr ⟨hm, ?_⟩)
            rw [h7]
      · rcases hz with ⟨h3, i, rfl⟩ | ⟨h3, rfl⟩
        · refine (akE B (by omega) abq hpw).bind fun r9 h9 => .some_ ?_
          rw [h9, if_pos h3, h3]
        · refine .some_ ?_
          rw [if_neg (by omega)]
    obtain ⟨x, h1, rfl⟩ := hg
    exact h1
  · have hg : aaD (aaY c l) fun o => o = ((r.tasks.map (·.view), (m : Int), (if m = l.length then 0 else 6), ()), ()) := by
      unfold aaY ag5
      rw [hc, aar]
      refine aaD.ite (fun h => absurd rfl h) fun _ => ?_
      refine (amz (c := c) (by omega) (by omega)).bind fun r2 h2 => ?_
      rw [h2]
      refine aaD.bind (P := fun z => z.1 = (m : Int) ∧ z.2.1 = if m = l.length then 0 else 6) (abU (fun x => x.1 = (l.length : Int) ∧ x.2.1 = 0 ∧ ∃ i : Nat, x.2.2.1 = (i : Int) ∧ i ≤ m ∧ ∃ a, Trc l (pN c) (rN c) i a x.2.2.2.1) (fun x => ((m : Int) - x.2.2.1).toNat) (fun self x ⟨q0, q00, i, q1, q2, a, q3⟩ ih => ?_) _ _ ⟨rfl, rfl, 0, rfl, Nat.zero_le _, _, .z⟩ (by show ((m : Int) - 0).toNat < _; omega)) fun z hz => ?_
      rotate_left
      · obtain ⟨x1, x0, x2, x3, u⟩ := x
        obtain rfl : x2 = (i : Int) := q1
        obtain rfl : x1 = (l.length : Int) := q0
        obtain rfl : x0 = 0 := q00
        have q3 : Trc l (pN c) (rN c) i a x3 := q3
        have e1 : wi ((i : Int) + 1) = ((i + 1 : Nat) : Int) := abR (aaZ (by omega))
        rcases Nat.lt_or_ge i m with hlt | hge
        · obtain ⟨hi, a', b', k1, k2, k3⟩ := tr.next hlt q3
          refine aaD.ite (fun _ => aaD.guard (by show 0 ≤ (i : Int) ∧ (i : Int) < (l.length : Int); omega) fun _ => ?_) fun h => absurd (show (i : Int) < (l.length : Int) by omega) h
          show aaD ((aam x3 (abr l (i : Int))).bind _) _
          rw [asl hi, k2, aar]
          refine aaD.ite (fun h => nomatch h) fun _ => ?_
          show aaD (self ((l.length : Int), 0, wi ((i : Int) + 1), b', ())) _
          rw [e1]
          exact ih _ ⟨rfl, rfl, i + 1, rfl, hlt, a', k3⟩ (by show ((m : Int) - ((i + 1 : Nat) : Int)).toNat < ((m : Int) - (i : Int)).toNat; omega)
        · obtain rfl : i = m := by omega
          obtain ⟨rfl, rfl⟩ := q3.det tr
          rcases hm with hm | ⟨hm, q, q', k1, k2, k3⟩
          · refine aaD.ite (fun h => absurd (show (i : Int) < (l.length : Int) from h) (by omega)) fun _ => .some_ ⟨by show (l.length : Int) = (i : Int); omega, by rw [if_pos hm]⟩
          · refine aaD.ite (fun _ => aaD.guard (by show 0 ≤ (i : Int) ∧ (i : Int) < (l.length : Int); omega) fun _ => ?_) fun h => absurd (show (i : Int) < (l.length : Int) by omega) h
            show aaD ((aam x3 (abr l (i : Int))).bind _) _
            rw [asl hm, k3, aar]
            exact aaD.ite (fun _ => .some_ ⟨rfl, by rw [if_neg (by omega)]⟩) fun h => absurd rfl h
      obtain ⟨z1, z2, z3, z4, zu⟩ := z
      obtain ⟨hz1, hz2⟩ := hz
      obtain rfl : z1 = (m : Int) := hz1
      obtain rfl : z2 = if m = l.length then 0 else 6 := hz2
      refine (amz (c := c) (by omega) (by omega)).bind fun r7 h7 => ?_
      rw [h7]
      refine aaD.bind (P := fun z => z.2.1 = r) (abU (fun x => ∃ i : Nat, x.1 = (i : Int) ∧ i ≤ m ∧ ∃ a, Trc l (pN c) (rN c) i a x.2.1) (fun x => ((m : Int) - x.1).toNat) (fun self x ⟨i, q1, q2, a, q3⟩ ih => ?_) _ _ ⟨0, rfl, Nat.zero_le _, _, .z⟩ (by show ((m : Int) - 0).toNat < _; omega)) fun z hz => ?_
      rotate_left
      · obtain ⟨x2, x3, u⟩ := x
        obtain rfl : x2 = (i : Int) := q1
        have q3 : Trc l (pN c) (rN c) i a x3 := q3
        have e1 : wi ((i : Int) + 1) = ((i + 1 : Nat) : Int) := abR (aaZ (by omega))
        rcases Nat.lt_or_ge i m with hlt | hge
        · obtain ⟨hi, a', b', k1, k2, k3⟩ := tr.next hlt q3
          refine aaD.ite (fun _ => aaD.guard (by show 0 ≤ (i : Int) ∧ (i : Int) < (l.length : Int); omega) fun _ => ?_) fun h => absurd (show (i : Int) < (m : Int) by omega) h
          show aaD ((aam x3 (abr l (i : Int))).bind _) _
          rw [asl hi, k2, aar]
          show aaD (self (wi ((i : Int) + 1), b', ())) _
          rw [e1]
          exact ih _ ⟨i + 1, rfl, hlt, a', k3⟩ (by show ((m : Int) - ((i + 1 : Nat) : Int)).toNat < ((m : Int) - (i : Int)).toNat; omega)
        · obtain rfl : i = m := by omega
          obtain ⟨rfl, rfl⟩ := q3.det tr
          exact aaD.ite (fun h => absurd (show (i : Int) < (i : Int) from h) (by omega)) fun _ => .some_ rfl
      rw [hz]
      refine aaD.bind (P := fun z => z.1 = r.tasks.map (·.view)) (abU (fun x => ∃ i : Nat, x.2.1 = (i : Int) ∧ i ≤ r.tasks.length ∧ x.2.2.1 = r ∧ x.1 = (r.tasks.take i).map (·.view)) (fun x => ((r.tasks.length : Int) - x.2.1).toNat) (fun self x ⟨i, q2, q3, q4, q5⟩ ih => ?_) _ _ ⟨0, rfl, Nat.zero_le _, rfl, rfl⟩ (by show ((r.tasks.length : Int) - 0).toNat < _; omega)) fun z13 hz13 => .some_ (by rw [hz13])
      obtain ⟨x1, x2, x3, u⟩ := x
      obtain rfl : x2 = (i : Int) := q2
      obtain rfl : x3 = r := q4
      obtain rfl : x1 = (x3.tasks.take i).map (·.view) := q5
      have e1 : wi ((i : Int) + 1) = ((i + 1 : Nat) : Int) := abR (aaZ (by omega))
      refine aaD.ite (fun h => ?_) fun h => .some_ ?_
      · have hi : i < x3.tasks.length := Int.ofNat_lt.1 h
        have hat : aaa x3.tasks (i : Int) = x3.tasks[i] := by
          have a1 := abV (α := TkV) (d := (dfR 61 : TkV)) (xs := x3.tasks) (i := (i : Int)) ⟨by omega, h⟩
          rw [Int.toNat_natCast, List.getElem?_eq_getElem hi] at a1
          exact (Option.some.inj a1).symm
        refine aaD.guard ⟨by show (0 : Int) ≤ (i : Int); omega, h⟩ fun _ => aaD.guard (by show ((((x3.tasks.take i).map (·.view)).length + 1 : Nat) : Int) < _; rw [List.length_map, List.length_take]; omega) fun _ => ?_
        show aaD (self ((x3.tasks.take i).map (·.view) ++ [(aaa x3.tasks (i : Int)).view], wi ((i : Int) + 1), x3, ())) _
        rw [e1, hat]
        refine ih _ ⟨i + 1, rfl, hi, rfl, ?_⟩ (by show ((x3.tasks.length : Int) - ((i + 1 : Nat) : Int)).toNat < ((x3.tasks.length : Int) - (i : Int)).toNat; omega)
        show (x3.tasks.take i).map (·.view) ++ [x3.tasks[i].view] = (x3.tasks.take (i + 1)).map (·.view)
        rw [List.take_succ_eq_append_getElem hi, List.map_append]; rfl
      · have h : ¬ (i : Int) < ((x3.tasks.length : Nat) : Int) := h
        show (x3.tasks.take i).map (·.view) = x3.tasks.map (·.view)
        rw [List.take_of_length_le (by omega)]
    obtain ⟨x, h1, rfl⟩ := hg
    exact h1
end
end
section
open Go
theorem alv (b : List Int) (l : List (List Int)) (hl : l.length ≤ 1000000) : aaD (ak6 b l) fun o => o.1.1 = true → b.length ≤ 400 ∧ ∀ x ∈ l, x.length ≤ 400 := by
  unfold ak6
  refine aaD.bind (P := fun z => (∀ o, z = .inr o → o.1.1 = false) ∧ (∀ y, z = .inl y → ∀ x ∈ l, x.length ≤ 400)) (abU (fun x => 0 ≤ x.1 ∧ x.1 ≤ (l.length : Int) ∧ ∀ i : Nat, (i : Int) < x.1 → ∀ y, l[i]? = some y → y.length ≤ 400) (fun x => ((l.length : Int) - x.1).toNat) (fun self x ⟨q0, q1, q2⟩ ih => ?_) _ _ ⟨Int.le_refl 0, by show (0 : Int) ≤ (l.length : Int); omega, fun i hi => by omega⟩ (by show ((l.length : Int) - 0).toNat < _; omega)) fun z hz => ?_
  rotate_left
  · have e2 : wi (x.1 + 1) = x.1 + 1 := abR (aaZ (by omega))
    rw [e2]
    refine aaD.ite (fun hlt => .guard ⟨q0, hlt⟩ fun _ => aaD.ite (fun _ => .some_ ⟨fun o e => (by cases e; rfl), fun y e => (by cases e)⟩) fun h4 => ih _ ⟨by show 0 ≤ x.1 + 1; omega, by show x.1 + 1 ≤ (l.length : Int); omega, fun i hi y hy => ?_⟩ (by show ((l.length : Int) - (x.1 + 1)).toNat < ((l.length : Int) - x.1).toNat; omega)) fun hlt => .some_ ⟨fun o e => (by cases e), fun y e x' hx' => ?_⟩
    · by_cases hi2 : (i : Int) < x.1
      · exact q2 i hi2 y hy
      · have hi3 : i = x.1.toNat := by have : (i : Int) < x.1 + 1 := hi; omega
        have h5 := abV (d := ([] : List Int)) (xs := l) (i := x.1) ⟨q0, hlt⟩
        rw [hi3, h5] at hy
        cases hy
        omega
    · obtain ⟨i, hi, rfl⟩ := List.getElem_of_mem hx'
      exact q2 i (by omega) _ (List.getElem?_eq_getElem hi)
  · rcases z with y | o
    · refine .some_ fun e => ⟨?_, hz.2 y rfl⟩
      have : ((b.length : Nat) : Int) ≤ 400 := of_decide_eq_true e
      omega
    · exact .some_ fun e => by rw [hz.1 o rfl] at e; cases e
structure DecOk (c : Cfg) : Prop where
  w : 1 ≤ c.workers ∧ c.workers ≤ 4
  l : 1 ≤ c.levels ∧ c.levels ≤ 4
  k : 1 ≤ c.classes ∧ c.classes ≤ 3 ∧ c.classes ≤ c.levels
  t : 1 ≤ c.tasks ∧ c.tasks ≤ 12
  q : 1 ≤ c.deque ∧ c.deque ≤ 4
  h : 1 ≤ c.heap ∧ c.heap ≤ 4
  b : 1 ≤ c.batch ∧ c.batch ≤ c.deque
  a : 0 ≤ c.age ∧ c.age ≤ 5
  p : 1 ≤ c.patience ∧ c.patience ≤ 8
  pn : 1 ≤ c.progs.length ∧ c.progs.length ≤ 4
  pl : ∀ x ∈ c.progs, x.length ≤ 5
  ps : ∀ x ∈ c.progs, ∀ i ∈ x, (i.op = 0 ∧ 1 ≤ i.a ∧ i.a ≤ 4 ∧ i.b = 0) ∨ (i.op = 1 ∧ 0 ≤ i.a ∧ i.a < (c.progs.length : Int) ∧ 0 ≤ i.b ∧ i.b < c.levels) ∨ (i.op = 2 ∧ 0 ≤ i.a ∧ i.a ≤ 3 ∧ i.b = 0)
  sn : c.subs.length ≤ 5
  ss : ∀ s ∈ c.subs, (0 ≤ s.prog ∧ s.prog < (c.progs.length : Int)) ∧ (0 ≤ s.level ∧ s.level < c.levels) ∧ 0 ≤ s.deadline ∧ s.deadline ≤ 15
structure CodOk (N : Int) (r : CodV) : Prop where
  by_ : ∀ x ∈ r.inn, 0 ≤ x ∧ x ≤ 255
  ln : r.inn.length ≤ 1000000
  at_ : 0 ≤ r.at_ ∧ r.at_ ≤ N
theorem abm {N : Int} {r : CodV} {k : Int} (h : CodOk N r) (hN : N ≤ 1000000) (h1 : 1 ≤ k) (h2 : k ≤ 1000) : aaD (abc r k) fun o => (0 ≤ o.1.1 ∧ o.1.1 < k) ∧ CodOk (N + 1) o.2.1 := by
  have ha := h.at_
  have e1 : wi (r.at_ + 1) = r.at_ + 1 := abR (aaZ (by omega))
  unfold abc
  rw [e1]
  refine aaD.ite (fun hlt => .guard ⟨ha.1, hlt⟩ fun _ => .guard (by omega) fun _ => .some_ ⟨?_, h.by_, h.ln, by show 0 ≤ r.at_ + 1; omega, by show r.at_ + 1 ≤ N + 1; omega⟩) fun _ => .some_ ⟨⟨Int.le_refl 0, by show (0 : Int) < k; omega⟩, h.by_, h.ln, by show 0 ≤ r.at_ + 1; omega, by show r.at_ + 1 ≤ N + 1; omega⟩
  have hb := h.by_ _ (anw (d := dfR 17) (xs := r.inn) (i := r.at_) ⟨ha.1, hlt⟩)
  have e2 : wi (ao0 r.inn r.at_) = ao0 r.inn r.at_ := abR (aaZ (x := ao0 r.inn r.at_) ⟨by have := hb.1; exact Int.le_trans (by decide) this, by have := hb.2; exact Int.le_trans this (by decide)⟩)
  rw [e2]
  exact ajY h1 hb.1
theorem CodOk.up {N M : Int} {r : CodV} (h : CodOk N r) (hl : N ≤ M) : CodOk M r := ⟨h.by_, h.ln, h.at_.1, by have := h.at_; omega⟩
def akB (n lv : Int) (i : Ins) : Prop := (i.op = 0 ∧ 1 ≤ i.a ∧ i.a ≤ 4 ∧ i.b = 0) ∨ (i.op = 1 ∧ 0 ≤ i.a ∧ i.a < n ∧ 0 ≤ i.b ∧ i.b < lv) ∨ (i.op = 2 ∧ 0 ≤ i.a ∧ i.a ≤ 3 ∧ i.b = 0)
def aty (n lv : Int) (s : Sub) : Prop := (0 ≤ s.prog ∧ s.prog < n) ∧ (0 ≤ s.level ∧ s.level < lv) ∧ 0 ≤ s.deadline ∧ s.deadline ≤ 15
structure NumOk (c : Cfg) : Prop where
  w : 1 ≤ c.workers ∧ c.workers ≤ 4
  l : 1 ≤ c.levels ∧ c.levels ≤ 4
  k : 1 ≤ c.classes ∧ c.classes ≤ 3 ∧ c.classes ≤ c.levels
  t : 1 ≤ c.tasks ∧ c.tasks ≤ 12
  q : 1 ≤ c.deque ∧ c.deque ≤ 4
  h : 1 ≤ c.heap ∧ c.heap ≤ 4
  b : 1 ≤ c.batch ∧ c.batch ≤ c.deque
  a : 0 ≤ c.age ∧ c.age ≤ 5
  p : 1 ≤ c.patience ∧ c.patience ≤ 8
theorem w1p {x : Int} (h : 0 ≤ x) (h2 : x ≤ 1000000) : wi (1 + x) = 1 + x := abR (aaZ (by omega))
theorem akl {b : List Int} (hb : ∀ x ∈ b, 0 ≤ x ∧ x ≤ 255) (hl : b.length ≤ 1000000) : aaD (ag6 b) fun o => DecOk o.1.1 := by
  unfold ag6
  refine (abm (N := 0) (k := 4) ⟨hb, hl, Int.le_refl 0, Int.le_refl 0⟩ (by decide) (by decide) (by decide)).bind fun r1 h1 => ?_
  refine (abm (k := 4) h1.2 (by decide) (by decide) (by decide)).bind fun r2 h2 => ?_
  have w1 := w1p h1.1.1 (by omega)
  have w2 := w1p h2.1.1 (by omega)
  rw [w1, w2]
  refine (abm h2.2 (by decide) (by split <;> omega) (by split <;> omega)).bind fun r3 h3 => ?_
  refine (abm (k := 12) h3.2 (by decide) (by decide) (by decide)).bind fun r4 h4 => ?_
  refine (abm (k := 4) h4.2 (by decide) (by decide) (by decide)).bind fun r5 h5 => ?_
  refine (abm (k := 4) h5.2 (by decide) (by decide) (by decide)).bind fun r6 h6 => ?_
  have h3' : r3.1.1 < 3 ∧ r3.1.1 < 1 + r2.1.1 := by
    have := h3.1.2
    split at this <;> omega
  have w3 := w1p h3.1.1 (by omega)
  have w4 := w1p h4.1.1 (by omega)
  have w5 := w1p h5.1.1 (by omega)
  have w6 := w1p h6.1.1 (by omega)
  rw [w3, w4, w5, w6]
  refine (abm h6.2 (by decide) (by omega) (by omega)).bind fun r7 h7 => ?_
  refine (abm (k := 6) h7.2 (by decide) (by decide) (by decide)).bind fun r8 h8 => ?_
  refine (abm (k := 8) h8.2 (by decide) (by decide) (by decide)).bind fun r9 h9 => ?_
  refine (abm (k := 4) h9.2 (by decide) (by decide) (by decide)).bind fun r10 h10 => ?_
  have w7 := w1p h7.1.1 (by omega)
  have w9 := w1p h9.1.1 (by omega)
  have w10 := w1p h10.1.1 (by omega)
  rw [w7, w9, w10]
  refine aaD.bind (P := fun z => CodOk 1000 z.2.1 ∧ NumOk z.2.2.1 ∧ z.2.2.1.levels = 1 + r2.1.1 ∧ (z.2.2.1.progs.length : Int) = 1 + r10.1.1 ∧ (∀ p ∈ z.2.2.1.progs, p.length ≤ 5 ∧ ∀ i ∈ p, akB (1 + r10.1.1) (1 + r2.1.1) i) ∧ z.2.2.1.subs = [])
    (abU (fun x => 0 ≤ x.1 ∧ x.1 ≤ 1 + r10.1.1 ∧ CodOk (10 + 30 * x.1) x.2.1 ∧ NumOk x.2.2.1 ∧ x.2.2.1.levels = 1 + r2.1.1 ∧ (x.2.2.1.progs.length : Int) = x.1 ∧ (∀ p ∈ x.2.2.1.progs, p.length ≤ 5 ∧ ∀ i ∈ p, akB (1 + r10.1.1) (1 + r2.1.1) i) ∧ x.2.2.1.subs = [])
      (fun x => (1 + r10.1.1 - x.1).toNat) (fun self x ⟨q0, q1, q2, q3, q4, q5, q6, q7⟩ ih => ?step) _ _ ⟨Int.le_refl 0, by show (0 : Int) ≤ 1 + r10.1.1; omega, h10.2, ?num, rfl, rfl, fun p hp => (by cases hp), rfl⟩ (by show (1 + r10.1.1 - 0).toNat < _; omega)) fun z hz => ?cont
  case step =>
    have f1 : wi (x.1 + 1) = x.1 + 1 := abR (aaZ (by omega))
    refine aaD.ite (fun hlt => ?_) fun hlt => .some_ ⟨q2.up (by omega), q3, q4, by show (x.2.2.1.progs.length : Int) = _; omega, q6, q7⟩
    have hlen : (x.2.2.1.progs.length : Int) < 10 := by omega
    rw [f1]
    refine (abm (k := 6) q2 (by omega) (by decide) (by decide)).bind fun r14 h14 => ?_
    refine aaD.bind (P := fun z => z.1.length ≤ 5 ∧ (∀ i ∈ z.1, akB (1 + r10.1.1) (1 + r2.1.1) i) ∧ CodOk (10 + 30 * x.1 + 26) z.2.2.1)
      (abU (fun y => 0 ≤ y.2.1 ∧ (y.1.length : Int) + y.2.1 = r14.1.1 ∧ CodOk (10 + 30 * x.1 + 1 + 5 * (r14.1.1 - y.2.1)) y.2.2.1 ∧ ∀ i ∈ y.1, akB (1 + r10.1.1) (1 + r2.1.1) i)
        (fun y => y.2.1.toNat) (fun self y ⟨p0, p1, p2, p3⟩ ih => ?_) _ _ ⟨h14.1.1, by show ((0 : Nat) : Int) + r14.1.1 = _; omega, h14.2.up (by show 10 + 30 * x.1 + 1 ≤ 10 + 30 * x.1 + 1 + 5 * (r14.1.1 - r14.1.1); omega), fun i hi => (by cases hi)⟩ (by show r14.1.1.toNat < _; omega)) fun z hz => ?_
    · refine .guard (by show (((x.2.2.1.progs.length + 1 : Nat)) : Int) < _; omega) fun _ => ih _ ⟨by show 0 ≤ x.1 + 1; omega, by show x.1 + 1 ≤ _; omega, hz.2.2.up (by show 10 + 30 * x.1 + 26 ≤ 10 + 30 * (x.1 + 1); omega), ⟨q3.w, q3.l, q3.k, q3.t, q3.q, q3.h, q3.b, q3.a, q3.p⟩, q4, ?_, ?_, q7⟩ ?_
      · show (((x.2.2.1.progs ++ [z.1]).length : Nat) : Int) = x.1 + 1
        rw [List.length_append, List.length_singleton]; omega
      · intro p hp
        rcases List.mem_append.1 hp with hp | hp
        · exact q6 p hp
        · rw [List.mem_singleton] at hp; subst hp; exact ⟨hz.1, hz.2.1⟩
      · show (1 + r10.1.1 - (x.1 + 1)).toNat < (1 + r10.1.1 - x.1).toNat
        omega
    · have f2 : wi (y.2.1 - 1) = y.2.1 - 1 := abR (aaZ (by omega))
      have hyl : y.1.length ≤ 5 := by omega
      refine aaD.ite (fun hlt2 => ?_) fun hlt2 => .some_ ⟨hyl, p3, p2.up (by omega)⟩
      rw [f2, q4]
      have nx : ∀ (u : Ins) (r : CodV), akB (1 + r10.1.1) (1 + r2.1.1) u → CodOk (10 + 30 * x.1 + 1 + 5 * (r14.1.1 - (y.2.1 - 1))) r → aaD (if (((y.1.length + ([u] : List Ins).length : Nat)) : Int) < 1000000000000 then self (y.1 ++ [u], y.2.1 - 1, r, ()) else none) fun z => z.1.length ≤ 5 ∧ (∀ i ∈ z.1, akB (1 + r10.1.1) (1 + r2.1.1) i) ∧ CodOk (10 + 30 * x.1 + 26) z.2.2.1 := fun u r hu hr =>
        .guard (by show (((y.1.length + 1 : Nat)) : Int) < _; omega) fun _ => ih _ ⟨by show 0 ≤ y.2.1 - 1; omega, by
          show (((y.1 ++ [u]).length : Nat) : Int) + (y.2.1 - 1) = _
          rw [List.length_append, List.length_singleton]; omega, hr, fun i hi => by
          rcases List.mem_append.1 hi with hi | hi
          · exact p3 i hi
          · rw [List.mem_singleton] at hi; subst hi; exact hu⟩ (by show (y.2.1 - 1).toNat < y.2.1.toNat; omega)
      refine (abm (k := 3) p2 (by omega) (by decide) (by decide)).bind fun r18 h18 => ?_
      refine aaD.ite (fun e0 => ?_) fun e0 => aaD.ite (fun e1 => ?_) fun e1 => ?_
      · refine (abm (k := 4) h18.2 (by omega) (by decide) (by decide)).bind fun r19 h19 => ?_
        rw [w1p h19.1.1 (by omega)]
        exact nx _ _ (.inl ⟨e0, by show 1 ≤ 1 + r19.1.1; omega, by show 1 + r19.1.1 ≤ 4; omega, rfl⟩) (h19.2.up (by omega))
      · refine (abm (k := 1 + r10.1.1) h18.2 (by omega) (by omega) (by omega)).bind fun r20 h20 => ?_
        refine (abm (k := 1 + r2.1.1) h20.2 (by omega) (by omega) (by omega)).bind fun r21 h21 => ?_
        exact nx _ _ (.inr (.inl ⟨e1, h20.1.1, h20.1.2, h21.1.1, h21.1.2⟩)) (h21.2.up (by omega))
      · refine (abm (k := 4) h18.2 (by omega) (by decide) (by decide)).bind fun r22 h22 => ?_
        exact nx _ _ (.inr (.inr ⟨by show r18.1.1 = 2; omega, h22.1.1, by show r22.1.1 ≤ 3; omega, rfl⟩)) (h22.2.up (by omega))
  case num =>
    refine ⟨?_, ?_, ?_, ?_, ?_, ?_, ?_, ?_, ?_⟩
    · exact ⟨by show 1 ≤ 1 + r1.1.1; omega, by show 1 + r1.1.1 ≤ 4; omega⟩
    · exact ⟨by show 1 ≤ 1 + r2.1.1; omega, by show 1 + r2.1.1 ≤ 4; omega⟩
    · exact ⟨by show 1 ≤ 1 + r3.1.1; omega, by show 1 + r3.1.1 ≤ 3; omega, by show 1 + r3.1.1 ≤ 1 + r2.1.1; omega⟩
    · exact ⟨by show 1 ≤ 1 + r4.1.1; omega, by show 1 + r4.1.1 ≤ 12; omega⟩
    · exact ⟨by show 1 ≤ 1 + r5.1.1; omega, by show 1 + r5.1.1 ≤ 4; omega⟩
    · exact ⟨by show 1 ≤ 1 + r6.1.1; omega, by show 1 + r6.1.1 ≤ 4; omega⟩
    · exact ⟨by show 1 ≤ 1 + r7.1.1; omega, by show 1 + r7.1.1 ≤ 1 + r5.1.1; omega⟩
    · exact ⟨h8.1.1, by show r8.1.1 ≤ 5; omega⟩
    · exact ⟨by show 1 ≤ 1 + r9.1.1; omega, by show 1 + r9.1.1 ≤ 8; omega⟩
  case cont =>
    obtain ⟨g1, g2, g3, g4, g5, g6⟩ := hz
    refine (abm (k := 6) g1 (by decide) (by decide) (by decide)).bind fun r23 h23 => ?_
    refine aaD.bind (P := fun y => DecOk y.2.2.1)
      (abU (fun y => 0 ≤ y.1 ∧ (y.2.2.1.subs.length : Int) + y.1 = r23.1.1 ∧ CodOk (1001 + 5 * (r23.1.1 - y.1)) y.2.1 ∧ NumOk y.2.2.1 ∧ y.2.2.1.levels = 1 + r2.1.1 ∧ (y.2.2.1.progs.length : Int) = 1 + r10.1.1 ∧ (∀ p ∈ y.2.2.1.progs, p.length ≤ 5 ∧ ∀ i ∈ p, akB (1 + r10.1.1) (1 + r2.1.1) i) ∧ ∀ s ∈ y.2.2.1.subs, aty (1 + r10.1.1) (1 + r2.1.1) s)
        (fun y => y.1.toNat) (fun self y ⟨p0, p1, p2, p3, p4, p5, p6, p7⟩ ih => ?_) _ _ ⟨h23.1.1, by show ((z.2.2.1.subs.length : Nat) : Int) + r23.1.1 = r23.1.1; rw [g6]; show ((0 : Nat) : Int) + r23.1.1 = r23.1.1; omega, h23.2.up (by show (1001 : Int) ≤ 1001 + 5 * (r23.1.1 - r23.1.1); omega), g2, g3, g4, g5, fun s hs => by
          have hs2 : s ∈ z.2.2.1.subs := hs
          rw [g6] at hs2; cases hs2⟩ (by show r23.1.1.toNat < _; omega)) fun y hy => .some_ hy
    have f2 : wi (y.1 - 1) = y.1 - 1 := abR (aaZ (by omega))
    have hyl : y.2.2.1.subs.length ≤ 5 := by omega
    refine aaD.ite (fun hlt => ?_) fun hlt => .some_ ⟨p3.w, p3.l, p3.k, p3.t, p3.q, p3.h, p3.b, p3.a, p3.p, by show 1 ≤ y.2.2.1.progs.length ∧ y.2.2.1.progs.length ≤ 4; omega, fun x hx => (p6 x hx).1, fun x hx i hi => by
      have := (p6 x hx).2 i hi
      rw [p5, p4]; exact this, hyl, fun s hs => by
      have := p7 s hs
      rw [p5, p4]; exact this⟩
    rw [f2, p4]
    refine (abm (k := 1 + r10.1.1) p2 (by omega) (by omega) (by omega)).bind fun r27 h27 => ?_
    refine (abm (k := 1 + r2.1.1) h27.2 (by omega) (by omega) (by omega)).bind fun r28 h28 => ?_
    refine (abm (k := 16) h28.2 (by omega) (by omega) (by omega)).bind fun r29 h29 => ?_
    refine .guard (by show (((y.2.2.1.subs.length + 1 : Nat)) : Int) < _; omega) fun _ => ih _ ⟨by show 0 ≤ y.1 - 1; omega, ?_, h29.2.up (by show 1001 + 5 * (r23.1.1 - y.1) + 1 + 1 + 1 ≤ 1001 + 5 * (r23.1.1 - (y.1 - 1)); omega), ⟨p3.w, p3.l, p3.k, p3.t, p3.q, p3.h, p3.b, p3.a, p3.p⟩, p4, p5, p6, ?_⟩ (by show (y.1 - 1).toNat < y.1.toNat; omega)
    · show (((y.2.2.1.subs ++ [_]).length : Nat) : Int) + (y.1 - 1) = _
      rw [List.length_append, List.length_singleton]; omega
    · intro s hs
      rcases List.mem_append.1 hs with hs | hs
      · exact p7 s hs
      · rw [List.mem_singleton] at hs; subst hs
        exact ⟨h27.1, h28.1, h29.1.1, by show r29.1.1 ≤ 15; omega⟩
end
section
open Go Go.RowKit
set_option maxRecDepth 10000
variable [Tb]
section
variable {c : Cfg} {l : List Ev}
theorem akW {lv np : Int} : ∀ {ps : List (List Ins)}, aaT lv np ps = 0 → ∀ p ∈ ps, p.length ≤ 32 ∧ p.all (afE lv np) = true
  | [], _, p, h => by cases h
  | q :: ps, h, p, hm => by
    unfold aaT at h
    split at h
    · omega
    · split at h
      · rename_i h1 h2
        rcases List.mem_cons.1 hm with e | e
        · subst e; exact ⟨by omega, h2⟩
        · exact akW h p e
      · omega
theorem alU {lv np : Int} : ∀ {ss : List Sub}, abS lv np ss = 0 → ∀ s ∈ ss, agT lv np s = 0
  | [], _, s, h => by cases h
  | q :: ss, h, s, hm => by
    unfold abS at h
    split at h
    · rename_i h1
      rcases List.mem_cons.1 hm with e | e
      · subst e; exact h1
      · exact alU h s e
    · rename_i h1; exact absurd h h1
theorem asJ (h : acw c = 0) : VC c ∧ (1 ≤ c.tasks ∧ c.tasks ≤ 256) ∧ (0 ≤ c.workers ∧ c.workers ≤ 1000) := by
  unfold acw at h
  split at h
  · omega
  · rename_i hn
    have hn := afS (by simpa using hn : afM c = true)
    split at h
    · omega
    · rename_i hp
      have hp0 : ab1 c = 0 := by omega
      unfold ab1 at hp0
      split at hp0
      · omega
      · unfold acO at h
        split at h
        · omega
        · refine ⟨⟨fun k hk => ?_, fun o ho => ?_, by omega⟩, by omega, by omega⟩
          · have hm : atL [] c.progs k ∈ c.progs := anw hk
            obtain ⟨h1, h2⟩ := akW hp0 _ hm
            refine ⟨by omega, fun a a0 a1 => ?_⟩
            have hi := List.all_eq_true.1 h2 (adQ (atL [] c.progs k) a) (anw (d := (dfR 3 : Ins)) ⟨a0, a1⟩)
            unfold afE inB at hi
            refine ⟨fun h3 => ?_, fun h3 => ?_⟩
            · rw [if_neg (by omega), if_pos h3] at hi
              simp only [Bool.and_eq_true, decide_eq_true_eq] at hi
              omega
            · rw [if_neg (by omega), if_neg (by omega), if_pos h3] at hi
              simp only [Bool.and_eq_true, decide_eq_true_eq] at hi
              omega
          · have hs := alU h (acz c.subs o) (anw (d := (dfR 4 : Sub)) ho)
            unfold agT inB at hs
            split at hs
            · omega
            · rename_i h1
              simp only [Bool.not_eq_true', Bool.and_eq_false_iff, decide_eq_false_iff_not, not_or, Classical.not_not, Bool.not_eq_false, Bool.and_eq_true, decide_eq_true_eq] at h1
              omega
theorem alz (hl : l.length ≤ 999999) : ∃ vs n er, acm c l = some ((vs, n, er, ()), ()) ∧ aaY c l = some ((vs, n, er, ()), ()) ∧ vs.length ≤ 1000000 := by
  by_cases hc : acw c = 0
  · obtain ⟨h1, h2, h3⟩ := asJ hc
    exact ama h1 hc h2 h3 hl
  · refine ⟨[], 0, acw c, ?_, ?_, Nat.zero_le _⟩
    · unfold acm ahf
      rw [aar, if_pos hc]
    · unfold aaY ag5
      rw [aar, if_pos hc]
theorem atV {vs : List VwV} {i : Nat} (h : i < vs.length) : alK vs (i : Int) = vs[i] ∧ alL vs (i : Int) = vs[i] := by
  refine ⟨?_, ?_⟩
  · have a1 := abV (α := VwV) (d := (dfR 66 : VwV)) (xs := vs) (i := (i : Int)) ⟨by omega, by omega⟩
    rw [Int.toNat_natCast, List.getElem?_eq_getElem h] at a1
    exact (Option.some.inj a1).symm
  · have a1 := abV (α := VwV) (d := (dfR 60 : VwV)) (xs := vs) (i := (i : Int)) ⟨by omega, by omega⟩
    rw [Int.toNat_natCast, List.getElem?_eq_getElem h] at a1
    exact (Option.some.inj a1).symm
theorem ahQ (hl : l.length ≤ 999999) : aaD (abi c l) fun o => o.1.1 = true := by
  obtain ⟨vs, n, er, h1, h2, hv⟩ := alz (c := c) hl
  unfold abi acH
  rw [h1, h2, aar, aar, aar, aar]
  refine aaD.ite (fun h => absurd rfl h) fun _ => aaD.ite (fun h => absurd rfl h) fun _ => aaD.ite (fun h => absurd rfl h) fun _ => aaD.ite (fun h => absurd rfl h) fun _ => aaD.ite (fun h => absurd rfl h) fun _ => ?_
  refine aaD.bind (P := fun z => ∃ y, z = .inl y) (abU (fun x => ∃ i : Nat, x.1 = (i : Int) ∧ i ≤ vs.length) (fun x => ((vs.length : Int) - x.1).toNat) (fun self x ⟨i, q1, q2⟩ ih => ?_) _ _ ⟨0, rfl, Nat.zero_le _⟩ (by show ((vs.length : Int) - 0).toNat < _; omega)) fun z ⟨y, hz⟩ => by
      subst hz; exact .some_ rfl
  obtain ⟨x1, u⟩ := x
  obtain rfl : x1 = (i : Int) := q1
  have e1 : wi ((i : Int) + 1) = ((i + 1 : Nat) : Int) := abR (aaZ (by omega))
  refine aaD.ite (fun h => ?_) fun h => .some_ ⟨_, rfl⟩
  have hi : i < vs.length := Int.ofNat_lt.1 h
  have hin : 0 ≤ (i : Int) ∧ (i : Int) < (vs.length : Int) := by omega
  refine aaD.guard hin fun _ => aaD.guard hin fun _ => ?_
  obtain ⟨k1, k2⟩ := atV hi
  dsimp only
  rw [k1, k2]
  refine aaD.ite (fun h => absurd ⟨rfl, rfl, rfl, rfl, rfl, True.intro⟩ h) fun _ => ?_
  rw [e1]
  exact ih _ ⟨i + 1, rfl, hi⟩ (by show ((vs.length : Int) - ((i + 1 : Nat) : Int)).toNat < ((vs.length : Int) - (i : Int)).toNat; omega)
theorem am7 {a b : Int} : aaD (acb a b) fun _ => True := by
  unfold acb
  refine aaD.ite (fun _ => .some_ True.intro) fun h => aaD.guard (by omega) fun _ => aaD.ite (fun _ => aaD.guard (by omega) fun _ => .some_ True.intro) fun _ => aaD.guard (by omega) fun _ => .some_ True.intro
theorem adN {xs : List Int} {i k : Int} (hx : xs.length ≤ 1000000) (h0 : 0 ≤ i) (h1 : i ≤ 1000000) : aaD (aaU xs i k) fun _ => True := by
  unfold aaU
  refine aaD.ite (fun _ => .some_ True.intro) fun h => ?_
  have hp : 1 ≤ (xs.length : Int) := by omega
  have h2 := ajY (b := (xs.length : Int)) hp h0
  have h3 : 0 ≤ Int.tdiv i (xs.length : Int) := Int.tdiv_nonneg h0 (by omega)
  have h4 : Int.tdiv i (xs.length : Int) ≤ 1000000 := Int.le_trans (Int.tdiv_le_self _ h0) h1
  have e1 : wi (Int.tdiv i (xs.length : Int)) = Int.tdiv i (xs.length : Int) := abR (aaZ (by omega))
  have h5 := ajY (a := Int.tdiv i (xs.length : Int)) (b := 7) (by decide) h3
  have e2 : wi (1 + Int.tmod (Int.tdiv i (xs.length : Int)) 7) = 1 + Int.tmod (Int.tdiv i (xs.length : Int)) 7 := abR (aaZ (by omega))
  rw [e1, e2]
  exact aaD.guard h fun _ => aaD.guard h2 fun _ => aaD.guard h fun _ => aaD.guard (by omega) fun _ => am7.bind fun _ _ => .some_ True.intro
theorem alt : aaD (abZ c) fun _ => True := by
  unfold abZ
  refine aaD.ite (fun _ => .some_ True.intro) fun _ => aaD.ite (fun _ => .some_ True.intro) fun _ => aaD.ite (fun _ => .some_ True.intro) fun _ => aaD.ite (fun _ => .some_ True.intro) fun _ => aaD.ite (fun _ => .some_ True.intro) fun _ => aaD.ite (fun _ => .some_ True.intro) fun hp => aaD.ite (fun _ => .some_ True.intro) fun _ => ?_
  refine aaD.bind (P := fun _ => True) (abU (fun x => ∃ i : Nat, x.1 = (i : Int) ∧ i ≤ c.progs.length) (fun x => ((c.progs.length : Int) - x.1).toNat) (fun self x ⟨i, q1, q2⟩ ih => ?_) _ _ ⟨0, rfl, Nat.zero_le _⟩ (by show ((c.progs.length : Int) - 0).toNat < _; omega)) fun z _ => ?_
  rotate_left
  · obtain ⟨x1, u⟩ := x
    obtain rfl : x1 = (i : Int) := q1
    have e1 : wi ((i : Int) + 1) = ((i + 1 : Nat) : Int) := abR (aaZ (by omega))
    refine aaD.ite (fun h => ?_) fun h => .some_ True.intro
    have hi : i < c.progs.length := Int.ofNat_lt.1 h
    refine aaD.guard (by show 0 ≤ (i : Int) ∧ (i : Int) < (c.progs.length : Int); omega) fun _ => aaD.ite (fun _ => .some_ True.intro) fun _ => ?_
    show aaD (self (wi ((i : Int) + 1), ())) _
    rw [e1]
    exact ih _ ⟨i + 1, rfl, hi⟩ (by show ((c.progs.length : Int) - ((i + 1 : Nat) : Int)).toNat < ((c.progs.length : Int) - (i : Int)).toNat; omega)
  · cases z with
    | inl z => exact .some_ True.intro
    | inr o => exact .some_ True.intro
theorem aoZ : abz = some ((true, ()), ()) := by kernel_rfl
theorem ajy {b raw : List Int} (hb : ∀ x ∈ b, 0 ≤ x ∧ x ≤ 255) : aaD (ab6 c l b raw) fun o => o.1.1 = true := by
  unfold ab6
  refine alt.bind fun r1 _ => aaD.ite (fun _ => .some_ rfl) fun _ => aaD.ite (fun _ => .some_ rfl) fun hl => ?_
  have hl : ¬ 200 < ((l.length : Nat) : Int) := hl
  refine (alv b [raw] (by show 1 ≤ 1000000; omega)).bind fun r2 h2 => aaD.ite (fun _ => .some_ rfl) fun h3 => ?_
  obtain ⟨h4, h5⟩ := h2 (by
    cases hb2 : r2.1.1 with
    | true => rfl
    | false => rw [hb2] at h3; exact absurd rfl h3)
  have h5 := h5 raw (List.mem_singleton.2 rfl)
  unfold aiI
  refine ((akl hb (by omega)).bind (Q := fun o => 1 ≤ o.1.1.workers ∧ o.1.1.workers ≤ 4) fun r h => .some_ h.w).bind fun r3 hr3 => ?_
  refine aaD.bind (P := fun z => z.1.length ≤ 1000) (abU (fun x => ∃ i : Nat, x.2.1 = 2 * (i : Int) ∧ i ≤ raw.length ∧ x.1.length = i) (fun x => ((raw.length : Int) + 2 - x.2.1).toNat) (fun self x ⟨i, q1, q2, q3⟩ ih => ?_) _ _ ⟨0, rfl, Nat.zero_le _, rfl⟩ (by show ((raw.length : Int) + 2 - 0).toNat < _; omega)) fun z hz => ?_
  rotate_left
  · obtain ⟨x1, x2, u⟩ := x
    obtain rfl : x2 = 2 * (i : Int) := q1
    have q3 : x1.length = i := q3
    have e1 : wi (2 * (i : Int) + 1) = 2 * (i : Int) + 1 := abR (aaZ (by omega))
    have e2 : wi (2 * (i : Int) + 2) = 2 * ((i + 1 : Nat) : Int) := (abR (aaZ (by omega))).trans (by omega)
    refine aaD.ite (fun h => ?_) fun h => .some_ (by show x1.length ≤ 1000; omega)
    have h : wi (2 * (i : Int) + 1) < (raw.length : Int) := h
    rw [e1] at h
    refine (adN (by omega) (by omega) (by omega)).bind fun r7 _ => aaD.guard rfl fun _ => ?_
    dsimp only
    rw [e1, e2]
    refine (adN (by omega) (by omega) (by omega)).bind fun r8 _ => (adN (by omega) (by omega) (by omega)).bind fun r9 _ => (adN (by omega) (by omega) (by omega)).bind fun r10 _ => (adN (by omega) (by omega) (by omega)).bind fun r11 _ => ?_
    refine aaD.guard (by show ((x1.length + 1 : Nat) : Int) < _; omega) fun _ => ih _ ⟨i + 1, rfl, by omega, by show (x1 ++ [_]).length = i + 1; rw [List.length_append, q3]; rfl⟩ (by show ((raw.length : Int) + 2 - 2 * ((i + 1 : Nat) : Int)).toNat < ((raw.length : Int) + 2 - 2 * (i : Int)).toNat; omega)
  · rw [aoZ, aar]
    refine aaD.ite (fun _ => ?_) fun h => absurd rfl h
    refine (ahQ (c := c) (l := l) (by omega)).bind fun r13 h13 => aaD.ite (fun _ => ?_) fun h => absurd h13 h
    refine (ahQ (by omega)).bind fun r14 h14 => aaD.ite (fun _ => ?_) fun h => absurd h14 h
    exact (ahQ (by omega)).bind fun r15 h15 => .some_ h15
end
end
end Go.Proofs.Ytkmkhldmflebkaa
