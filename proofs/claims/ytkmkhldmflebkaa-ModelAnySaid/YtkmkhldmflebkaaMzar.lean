/- The program's model: what each kind of event does (the queue, walks up the parents). The reference's model: what each kind of event does. The reference's model: what each kind of event does (tops, walks, the queue). The reference's model: what each kind of event does (spawns, walks up the parents, offers). The reference's model: what each kind of event does (the queue, the client). The two models: when their states agree, and what keeps that. -/
import Derived.Test.YtkmkhldmflebkaaMzaq
set_option linter.all false
namespace Go.Proofs.Ytkmkhldmflebkaa
section
open Go Go.RowKit
set_option maxRecDepth 3000
variable [Tb]
section
variable {p : SyP} {w t o l : Int}
theorem pk2 (hP : PO p) (hw : 0 ≤ w ∧ w < (p.works.length : Int)) (ht : 0 ≤ t ∧ t < (p.tasks.length : Int)) (hr : aai p ⟨2, w, t, o, l⟩ = some ((true, ()), (p, ()))) (hs : (aad p.works w).sleeps = false) :
    PS p ⟨2, w, t, o, l⟩ (o = p.offers ∧ o < (p.c.subs.length : Int) ∧ (l = 1 ∧ (p.queue.keys.length : Int) = p.c.heap ∨ l = 2 ∧ (p.queue.keys.length : Int) < p.c.heap ∧ wi (p.c.tasks - p.c.workers) ≤ p.known)) { p with works := p.works.set w.toNat { aad p.works w with last := ⟨2, w, t, o, l⟩ }, offers := wi (p.offers + 1) } := by
  have hk := hP.stk w hw
  unfold PS aah
  rw [hr]
  simp only [aar, Int.reduceEq, if_true, if_false, hw, ht, and_self, aa8, aa2, List.set_set, List.length_set, agp, agu, aaW, ne_eq, not_true_eq_false, not_false_eq_true, true_and, and_true, decide_true, decide_false, reduceCtorEq, Bool.not_true, Bool.false_eq_true, Bool.not_eq_true', hs, qP2]
  repeat' split
  all_goals first
    | exact aiB (by first | exact True.intro | (simp_all; done) | (simp_all; intros; omega)) rfl
    | exact afz (by first | exact True.intro | (simp_all; done) | (simp_all; intros; omega)) al0
    | exact afz (by first | exact True.intro | (simp_all; done) | (simp_all; intros; omega)) abq
    | (simp only [aar, decide_eq_false_iff_not]
       split
       · exact afz (by omega) abq
       · exact aiB (by omega) rfl)
theorem aug (hP : PO p) (hw : 0 ≤ w ∧ w < (p.works.length : Int)) (ht : 0 ≤ t ∧ t < (p.tasks.length : Int)) (hr : aai p ⟨13, w, t, o, l⟩ = some ((true, ()), (p, ()))) (hs : (aad p.works w).sleeps = false) :
    PS p ⟨13, w, t, o, l⟩ (anM (aad p.works w).stack (aad p.works w).walks = true ∧ 0 < p.queue.keys.length ∧ (adi p.queue.keys 0).task = t) { p with works := p.works.set w.toNat { aad p.works w with last := ⟨13, w, t, o, l⟩ }, queue := ⟨p.queue.keys.drop 1, p.queue.count⟩ } := by
  have hk := hP.stk w hw
  unfold PS aah
  rw [hr]
  simp only [aar, Int.reduceEq, if_true, if_false, hw, ht, and_self, aa8, aa2, List.set_set, List.length_set, agp, agu, aaW, ne_eq, not_true_eq_false, not_false_eq_true, true_and, and_true, decide_true, decide_false, reduceCtorEq, Bool.not_true, Bool.false_eq_true, Bool.not_eq_true', hs, aua]
  by_cases hq : 0 < p.queue.keys.length ∧ (adi p.queue.keys 0).task = t
  · rw [if_pos hq]
    simp only [aar, Bool.not_true, Bool.false_eq_true, if_false, hq, and_true]
    split
    · exact aiB (by assumption) rfl
    · exact afz (by assumption) abq
  · rw [if_neg hq]
    simp only [aar, Bool.not_false, if_true]
    split
    · exact afz (fun h => hq h.2) abq
    · exact afz (fun h => hq h.2) abq
theorem aol {α β : Type} {o : Option β} {g : α ⊕ β → Option β} (h1 : ∀ x, g (.inr x) = some x) : (Option.map Sum.inr o).bind g = o := by
  cases o with
  | none => rfl
  | some x => exact h1 x
theorem am9 {β : Type} {ts : List TkP} {x : Int} {R : Option β} {rk : Int → Nat} (hr : ∀ i, 0 ≤ i ∧ i < (ts.length : Int) → (aab ts i).pa = -1 ∨ (0 ≤ (aab ts i).pa ∧ (aab ts i).pa < (ts.length : Int)) ∧ rk (aab ts i).pa < rk i) :
    ∀ (n k : Nat) (t : Int), 0 ≤ t ∧ t < (ts.length : Int) → rk t < n → rk t < k →
    lpF (σ := Int × Unit) (β := (Int × Unit) ⊕ β) (fun self x3 => if ¬ x3.1 = -1 then (if x3.1 = x then Option.map Sum.inr R else if 0 ≤ x3.1 ∧ x3.1 < (ts.length : Int) then self ((aab ts x3.1).pa, ()) else none) else some (Sum.inl (x3.1, ()))) k ((aab ts t).pa, ()) =
      if alI (fun i => (aab ts i).pa) x n t = true then Option.map Sum.inr R else some (Sum.inl (-1, ()))
  | 0, k, t, ht, hn, hk => by omega
  | n + 1, 0, t, ht, hn, hk => by omega
  | n + 1, k + 1, t, ht, hn, hk => by
    rw [lpS]
    unfold alI
    dsimp only
    by_cases h1 : (aab ts t).pa = -1
    · rw [if_neg (fun h => h h1), if_pos h1, if_neg (by decide), h1]
    · rw [if_pos h1, if_neg h1]
      by_cases h2 : (aab ts t).pa = x
      · rw [if_pos h2, if_pos h2, if_pos rfl]
      · rcases hr t ht with h3 | ⟨h3, h4⟩
        · exact absurd h3 h1
        · rw [if_neg h2, if_neg h2, if_pos h3]
          exact am9 hr n k _ h3 (by omega) (by omega)
theorem aui (hP : PO p) (hw : 0 ≤ w ∧ w < (p.works.length : Int)) (ht : 0 ≤ t ∧ t < (p.tasks.length : Int)) (hwk : (aad p.works w).walks = true → 0 ≤ (aad p.works w).walk ∧ (aad p.works w).walk < (p.tasks.length : Int)) {rk : Int → Nat} (hrk : ∀ i, 0 ≤ i ∧ i < (p.tasks.length : Int) → (aab p.tasks i).pa = -1 ∨ (0 ≤ (aab p.tasks i).pa ∧ (aab p.tasks i).pa < (p.tasks.length : Int)) ∧ rk (aab p.tasks i).pa < rk i) (hrn : rk t < p.tasks.length) (hln : p.tasks.length ≤ 1000000) (hr : aai p ⟨11, w, t, o, l⟩ = some ((true, ()), (p, ()))) (hs : (aad p.works w).sleeps = false) :
    PS p ⟨11, w, t, o, l⟩ ((aad p.works w).walks = true ∧ alI (fun i => (aab p.tasks i).pa) (aad p.works w).walk p.tasks.length t = true ∧ (aab p.tasks t).lv < l ∧ l ≤ (aab p.tasks (aad p.works w).walk).lv ∧ ((aad p.works w).up ≠ -1 → (aad p.works w).up = l)) { p with tasks := p.tasks.set t.toNat { aab p.tasks t with lv := l }, works := p.works.set w.toNat { aad p.works w with up := l, last := ⟨11, w, t, o, l⟩ } } := by
  have hk := hP.stk w hw
  unfold PS aah
  rw [hr]
  by_cases h3 : (aad p.works w).walks = true
  rotate_left
  · have h4 : (aad p.works w).walks = false := by simpa using h3
    simp only [aar, Int.reduceEq, if_true, if_false, hw, ht, and_self, aa8, aa2, ne_eq, not_true_eq_false, not_false_eq_true, true_and, and_true, decide_false, reduceCtorEq, hs, h4, Bool.not_false, Bool.not_true, Bool.false_eq_true]
    exact ⟨_, _, rfl, (fun h => nomatch h), fun _ => ⟨(by simp), abq⟩⟩
  have hwk := hwk h3
  simp only [aar, Int.reduceEq, if_true, if_false, hw, ht, and_self, aa8, aa2, List.set_set, List.length_set, agp, agu, aaW, ne_eq, not_true_eq_false, not_false_eq_true, true_and, and_true, decide_true, decide_false, reduceCtorEq, Bool.not_true, Bool.false_eq_true, Bool.not_eq_true', hs, h3, hwk]
  rw [am9 hrk p.tasks.length 18446744073709551616 t ht hrn (by omega)]
  by_cases hd : alI (fun i => (aab p.tasks i).pa) (aad p.works w).walk p.tasks.length t = true
  · rw [if_pos hd, aol (fun _ => rfl)]
    simp only [hd, true_and]
    repeat' split
    all_goals first
      | exact aiB (by omega) rfl
      | exact afz (by omega) abq
  · rw [if_neg hd]
    exact afz (fun h => hd h.1) abq
theorem pk1 (hP : PO p) (hw : 0 ≤ w ∧ w < (p.works.length : Int)) (ht : 0 ≤ t ∧ t < (p.tasks.length : Int)) (hof : 0 ≤ p.offers) (hsub : 0 ≤ o ∧ o < (p.c.subs.length : Int) → 0 ≤ (acz p.c.subs o).prog ∧ (acz p.c.subs o).prog < (p.c.progs.length : Int)) (hq : Srt p.queue.keys p.queue.count) (hql : p.queue.keys.length ≤ 1000000)
    (hr : aai p ⟨1, w, t, o, l⟩ = some ((true, ()), (p, ()))) (hs : (aad p.works w).sleeps = false) :
    ∃ i : Nat, i ≤ p.queue.keys.length ∧ (o = p.offers ∧ o < (p.c.subs.length : Int) → (p.queue.keys.length : Int) < p.c.heap → (∀ j : Nat, j < i → (adi p.queue.keys (j : Int)).deadline ≤ (acz p.c.subs o).deadline) ∧ (∀ j : Nat, i ≤ j → j < p.queue.keys.length → (acz p.c.subs o).deadline < (adi p.queue.keys (j : Int)).deadline)) ∧
    PS p ⟨1, w, t, o, l⟩ (o = p.offers ∧ o < (p.c.subs.length : Int) ∧ l = (acz p.c.subs o).level ∧ (aab p.tasks t).ph = 0 ∧ (p.queue.keys.length : Int) < p.c.heap)
     ⟨p.c, p.tasks.set t.toNat ⟨1, l, -1, atL [] p.c.progs (acz p.c.subs o).prog, 0, [], -1⟩, p.works.set w.toNat { aad p.works w with last := ⟨1, w, t, o, l⟩ }, wi (p.offers + 1), wi (p.known + 1), ⟨p.queue.keys.take i ++ [⟨(acz p.c.subs o).deadline, p.queue.count, t⟩] ++ p.queue.keys.drop i, wi (p.queue.count + 1)⟩⟩ := by
  have hk := hP.stk w hw
  by_cases h1 : o = p.offers
  rotate_left
  · refine ⟨0, Nat.zero_le _, fun h => absurd h.1 h1, ?_⟩
    unfold PS aah
    rw [hr]
    simp only [aar, Int.reduceEq, if_true, if_false, hw, ht, and_self, aa8, aa2, List.set_set, List.length_set, agp, agu, aaW, ne_eq, not_true_eq_false, not_false_eq_true, true_and, and_true, decide_true, decide_false, reduceCtorEq, Bool.not_true, Bool.false_eq_true, Bool.not_eq_true', hs, h1]
    exact ⟨_, _, rfl, (fun h => nomatch h), fun _ => ⟨(by simp), abq⟩⟩
  by_cases h2 : o < (p.c.subs.length : Int)
  rotate_left
  · refine ⟨0, Nat.zero_le _, fun h => absurd h.2 h2, ?_⟩
    unfold PS aah
    rw [hr]
    have h3 : (p.c.subs.length : Int) ≤ p.offers := by omega
    rw [h1] at h2
    simp only [aar, Int.reduceEq, if_true, if_false, hw, ht, and_self, aa8, aa2, List.set_set, List.length_set, agp, agu, aaW, ne_eq, not_true_eq_false, not_false_eq_true, true_and, and_true, decide_true, decide_false, reduceCtorEq, Bool.not_true, Bool.false_eq_true, Bool.not_eq_true', hs, h1, h3, h2]
    exact ⟨_, _, rfl, (fun h => nomatch h), fun _ => ⟨(by simp), abq⟩⟩
  have ho : 0 ≤ o ∧ o < (p.c.subs.length : Int) := ⟨by omega, h2⟩
  have hsub := hsub ho
  obtain ⟨q1, q2⟩ := qP1 (c := p.c) (w := w) (t := t) (l := l) ho hq hql
  have h3 : ¬ (p.c.subs.length : Int) ≤ o := by omega
  by_cases h4 : (p.queue.keys.length : Int) < p.c.heap
  · obtain ⟨i, i1, i2, i3, i4⟩ := q2 h4
    refine ⟨i, i1, fun _ _ => ⟨i2, i3⟩, ?_⟩
    unfold PS aah
    rw [hr]
    subst h1
    simp only [aar, Int.reduceEq, if_true, if_false, hw, ht, and_self, aa8, aa2, List.set_set, List.length_set, agp, agu, aaW, ne_eq, not_true_eq_false, not_false_eq_true, true_and, and_true, decide_true, decide_false, reduceCtorEq, Bool.not_true, Bool.false_eq_true, Bool.not_eq_true', hs, h3, ho, hsub, i4, h4]
    repeat' split
    all_goals first
      | exact aiB (by first | exact True.intro | (simp_all; done) | (simp_all; intros; omega)) rfl
      | exact afz (by first | exact True.intro | (simp_all; done) | (simp_all; intros; omega)) abq
      | exact afz (by first | exact True.intro | (simp_all; done) | (simp_all; intros; omega)) al0
  · have i4 := q1 (by omega)
    refine ⟨0, Nat.zero_le _, fun _ h => absurd h h4, ?_⟩
    unfold PS aah
    rw [hr]
    subst h1
    simp only [aar, Int.reduceEq, if_true, if_false, hw, ht, and_self, aa8, aa2, List.set_set, List.length_set, agp, agu, aaW, ne_eq, not_true_eq_false, not_false_eq_true, true_and, and_true, decide_true, decide_false, reduceCtorEq, Bool.not_true, Bool.false_eq_true, Bool.not_eq_true', hs, h3, ho, hsub, i4, h4, Bool.not_false]
    repeat' split
    all_goals first
      | exact afz (by first | exact True.intro | (simp_all; done) | (simp_all; intros; omega)) abq
      | exact afz (by first | exact True.intro | (simp_all; done) | (simp_all; intros; omega)) al0
end
structure RO (r : SaV) : Prop where
  wl : (r.works.length : Int) = r.c.workers
  stk : ∀ w, 0 ≤ w ∧ w < (r.works.length : Int) → (aac r.works w).stack.length ≤ 1000000
  kid : ∀ t, 0 ≤ t ∧ t < (r.tasks.length : Int) → (aaa r.tasks t).kids.length ≤ 1000000
  tl : r.tasks.length ≤ 1000000
def RS (r : SaV) (e : Ev) (C : Prop) (r' : SaV) : Prop := ∃ b q, aam r e = some ((b, ()), (q, ())) ∧ (b = true → C ∧ q = r') ∧ (b = false → ¬ C)
theorem ajS {C : Prop} {p' q : SaV} (h : C) (e : q = p') : ∃ b q', some ((true, ()), (q, ())) = some ((b, ()), (q', ())) ∧ (b = true → C ∧ q' = p') ∧ (b = false → ¬ C) := ⟨_, _, rfl, fun _ => ⟨h, e⟩, (fun h => nomatch h)⟩
theorem ait {C : Prop} {p' q : SaV} (h : ¬ C) : ∃ b q', some ((false, ()), (q, ())) = some ((b, ()), (q', ())) ∧ (b = true → C ∧ q' = p') ∧ (b = false → ¬ C) := ⟨_, _, rfl, (fun h => nomatch h), fun _ => h⟩
theorem afw {D C : Prop} [Decidable D] {p' q : SaV} (h : D ↔ C) (e : D → q = p') : ∃ b q', some ((decide D, ()), (q, ())) = some ((b, ()), (q', ())) ∧ (b = true → C ∧ q' = p') ∧ (b = false → ¬ C) := ⟨_, _, rfl, fun hb => ⟨h.1 (of_decide_eq_true hb), e (of_decide_eq_true hb)⟩, fun hb hc => of_decide_eq_false hb (h.2 hc)⟩
def RA (r : SaV) (e : Ev) (C : Prop) (r' : SaV) : Prop := ∃ b q, aaj r e = some ((b, ()), (q, ())) ∧ (b = true → C ∧ q = r') ∧ (b = false → ¬ C)
section
variable {r : SaV} {w t o l : Int}
theorem ae5 {k : Int} {C : Prop} {ts : List TkV} {x : WlV} {qu : QuV} {of : Int} (hw : 0 ≤ w ∧ w < (r.works.length : Int)) (hwl : (r.works.length : Int) = r.c.workers) (hf : aaf r ⟨k, w, t, o, l⟩ = some ((true, ()), (r, ())))
    (h : RA r ⟨k, w, t, o, l⟩ C ⟨r.c, ts, r.works.set w.toNat x, qu, of⟩) : RS r ⟨k, w, t, o, l⟩ C ⟨r.c, ts, r.works.set w.toNat { x with last := ⟨k, w, t, o, l⟩ }, qu, of⟩ := by
  obtain ⟨b, q, h1, h2, h3⟩ := h
  unfold RS aam
  rw [hf, aar, if_neg (show ¬ (!true) = true by decide)]
  dsimp only
  rw [h1, aar]
  cases b with
  | false => exact ⟨_, _, rfl, (fun h => nomatch h), h3⟩
  | true =>
    obtain ⟨h4, rfl⟩ := h2 rfl
    have h5 : w < r.c.workers := by omega
    have h6 : 0 ≤ w ∧ w < ((r.works.set w.toNat x).length : Int) := by rw [List.length_set]; exact hw
    rw [if_neg (show ¬ (!true) = true by decide)]
    dsimp only
    rw [if_pos h5, if_pos h6, ads hw, List.set_set]
    exact ⟨_, _, rfl, fun _ => ⟨h4, rfl⟩, (fun h => nomatch h)⟩
theorem at6 (hR : RO r) (hw : 0 ≤ w ∧ w < (r.works.length : Int)) (ht : 0 ≤ t ∧ t < (r.tasks.length : Int)) (hf : aaf r ⟨12, w, t, o, l⟩ = some ((true, ()), (r, ()))) :
    RS r ⟨12, w, t, o, l⟩ (1 ≤ r.c.age ∧ ah8 (aac r.works w).stack (aac r.works w).walk = true ∧ (aaa r.tasks t).view.phase ≠ 0 ∧ l = wi ((aaa r.tasks t).view.level + 1)) { r with tasks := r.tasks.set t.toNat { aaa r.tasks t with view := { (aaa r.tasks t).view with level := l } }, works := r.works.set w.toNat { aac r.works w with last := ⟨12, w, t, o, l⟩ } } := by
  suffices h : RA r ⟨12, w, t, o, l⟩ (1 ≤ r.c.age ∧ ah8 (aac r.works w).stack (aac r.works w).walk = true ∧ (aaa r.tasks t).view.phase ≠ 0 ∧ l = wi ((aaa r.tasks t).view.level + 1)) { r with tasks := r.tasks.set t.toNat { aaa r.tasks t with view := { (aaa r.tasks t).view with level := l } }, works := r.works.set w.toNat (aac r.works w) } from ae5 hw hR.wl hf h
  have hk := hR.stk w hw
  have hkk := hR.kid t ht
  unfold RA aaj aa3 ah8
  simp only [aar, Int.reduceEq, if_true, if_false, hw, ht, and_self, aaF, aaC, List.set_set, List.length_set, ac9, ads, ne_eq, not_true_eq_false, not_false_eq_true, true_and, and_true, decide_true, decide_false, reduceCtorEq, Bool.not_true, Bool.not_false, Bool.false_eq_true, Bool.not_eq_true', Bool.true_eq_false]
  repeat' split
  all_goals (try simp only [aar, Int.reduceEq, if_true, if_false, hw, ht, and_self, aaF, aaC, List.set_set, List.length_set, ac9, ads, ne_eq, not_true_eq_false, not_false_eq_true, true_and, and_true, decide_true, decide_false, reduceCtorEq, Bool.not_true, Bool.not_false, Bool.false_eq_true, Bool.not_eq_true', Bool.true_eq_false])
  all_goals repeat' split
  all_goals first
    | exact ajS (by first | exact True.intro | (simp_all; done) | (simp_all; intros; omega) | omega) rfl
    | exact ait (by first | exact True.intro | (simp_all; done) | (simp_all; intros; omega) | omega)
    | exact afw (by first | (simp_all; done) | omega) (fun _ => rfl)
    | exact afw (by first | (simp_all; done) | omega) (fun h => absurd h (by assumption))
    | exact afw (by first | (simp_all; done) | omega) (fun h => by simp [h])
    | exact ⟨_, _, rfl, (fun h => nomatch h), (fun _ => True.intro)⟩
theorem atC (hR : RO r) (hw : 0 ≤ w ∧ w < (r.works.length : Int)) (ht : 0 ≤ t ∧ t < (r.tasks.length : Int)) (hf : aaf r ⟨14, w, t, o, l⟩ = some ((true, ()), (r, ()))) :
    RS r ⟨14, w, t, o, l⟩ (ah8 (aac r.works w).stack (aac r.works w).walk = true ∧ o ≠ w ∧ (0 ≤ o ∧ o < r.c.workers) ∧ (aaa r.tasks t).view.phase ≠ 0) { r with works := r.works.set w.toNat { aac r.works w with last := ⟨14, w, t, o, l⟩ } } := by
  suffices h : RA r ⟨14, w, t, o, l⟩ (ah8 (aac r.works w).stack (aac r.works w).walk = true ∧ o ≠ w ∧ (0 ≤ o ∧ o < r.c.workers) ∧ (aaa r.tasks t).view.phase ≠ 0) { r with works := r.works.set w.toNat (aac r.works w) } from ae5 hw hR.wl hf h
  have hk := hR.stk w hw
  have hkk := hR.kid t ht
  unfold RA aaj ah8
  simp only [aar, Int.reduceEq, if_true, if_false, hw, ht, and_self, aaF, aaC, List.set_set, List.length_set, ac9, ads, ne_eq, not_true_eq_false, not_false_eq_true, true_and, and_true, decide_true, decide_false, reduceCtorEq, Bool.not_true, Bool.not_false, Bool.false_eq_true, Bool.not_eq_true', Bool.true_eq_false]
  repeat' split
  all_goals (try simp only [aar, Int.reduceEq, if_true, if_false, hw, ht, and_self, aaF, aaC, List.set_set, List.length_set, ac9, ads, ne_eq, not_true_eq_false, not_false_eq_true, true_and, and_true, decide_true, decide_false, reduceCtorEq, Bool.not_true, Bool.not_false, Bool.false_eq_true, Bool.not_eq_true', Bool.true_eq_false])
  all_goals repeat' split
  all_goals first
    | exact ajS (by first | exact True.intro | (simp_all; done) | (simp_all; intros; omega) | omega) rfl
    | exact ait (by first | exact True.intro | (simp_all; done) | (simp_all; intros; omega) | omega)
    | exact afw (by first | (simp_all; done) | omega) (fun _ => rfl)
    | exact afw (by first | (simp_all; done) | omega) (fun h => absurd h (by assumption))
    | exact afw (by first | (simp_all; done) | omega) (fun h => by simp [h])
    | exact ⟨_, _, rfl, (fun h => nomatch h), (fun _ => True.intro)⟩
theorem at4 (hR : RO r) (hw : 0 ≤ w ∧ w < (r.works.length : Int)) (ht : 0 ≤ t ∧ t < (r.tasks.length : Int)) (hf : aaf r ⟨15, w, t, o, l⟩ = some ((true, ()), (r, ()))) :
    RS r ⟨15, w, t, o, l⟩ ((aaa r.tasks t).view.phase ≠ 0 ∧ (aaa r.tasks t).view.phase ≠ 1) { r with works := r.works.set w.toNat { aac r.works w with last := ⟨15, w, t, o, l⟩ } } := by
  suffices h : RA r ⟨15, w, t, o, l⟩ ((aaa r.tasks t).view.phase ≠ 0 ∧ (aaa r.tasks t).view.phase ≠ 1) { r with works := r.works.set w.toNat (aac r.works w) } from ae5 hw hR.wl hf h
  have hk := hR.stk w hw
  have hkk := hR.kid t ht
  unfold RA aaj
  simp only [aar, Int.reduceEq, if_true, if_false, hw, ht, and_self, aaF, aaC, List.set_set, List.length_set, ac9, ads, ne_eq, not_true_eq_false, not_false_eq_true, true_and, and_true, decide_true, decide_false, reduceCtorEq, Bool.not_true, Bool.not_false, Bool.false_eq_true, Bool.not_eq_true', Bool.true_eq_false]
  repeat' split
  all_goals (try simp only [aar, Int.reduceEq, if_true, if_false, hw, ht, and_self, aaF, aaC, List.set_set, List.length_set, ac9, ads, ne_eq, not_true_eq_false, not_false_eq_true, true_and, and_true, decide_true, decide_false, reduceCtorEq, Bool.not_true, Bool.not_false, Bool.false_eq_true, Bool.not_eq_true', Bool.true_eq_false])
  all_goals repeat' split
  all_goals first
    | exact ajS (by first | exact True.intro | (simp_all; done) | (simp_all; intros; omega) | omega) rfl
    | exact ait (by first | exact True.intro | (simp_all; done) | (simp_all; intros; omega) | omega)
    | exact afw (by first | (simp_all; done) | omega) (fun _ => rfl)
    | exact afw (by first | (simp_all; done) | omega) (fun h => absurd h (by assumption))
    | exact afw (by first | (simp_all; done) | omega) (fun h => by simp [h])
    | exact ⟨_, _, rfl, (fun h => nomatch h), (fun _ => True.intro)⟩
theorem at3 (hR : RO r) (hw : 0 ≤ w ∧ w < (r.works.length : Int)) (ht : 0 ≤ t ∧ t < (r.tasks.length : Int)) (hf : aaf r ⟨16, w, t, o, l⟩ = some ((true, ()), (r, ()))) :
    RS r ⟨16, w, t, o, l⟩ (ah8 (aac r.works w).stack (aac r.works w).walk = true) { r with works := r.works.set w.toNat { aac r.works w with sleeps := true, last := ⟨16, w, t, o, l⟩ } } := by
  suffices h : RA r ⟨16, w, t, o, l⟩ (ah8 (aac r.works w).stack (aac r.works w).walk = true) { r with works := r.works.set w.toNat { aac r.works w with sleeps := true } } from ae5 hw hR.wl hf h
  have hk := hR.stk w hw
  have hkk := hR.kid t ht
  unfold RA aaj ah8
  simp only [aar, Int.reduceEq, if_true, if_false, hw, ht, and_self, aaF, aaC, List.set_set, List.length_set, ac9, ads, ne_eq, not_true_eq_false, not_false_eq_true, true_and, and_true, decide_true, decide_false, reduceCtorEq, Bool.not_true, Bool.not_false, Bool.false_eq_true, Bool.not_eq_true', Bool.true_eq_false]
  repeat' split
  all_goals (try simp only [aar, Int.reduceEq, if_true, if_false, hw, ht, and_self, aaF, aaC, List.set_set, List.length_set, ac9, ads, ne_eq, not_true_eq_false, not_false_eq_true, true_and, and_true, decide_true, decide_false, reduceCtorEq, Bool.not_true, Bool.not_false, Bool.false_eq_true, Bool.not_eq_true', Bool.true_eq_false])
  all_goals repeat' split
  all_goals first
    | exact ajS (by first | exact True.intro | (simp_all; done) | (simp_all; intros; omega) | omega) rfl
    | exact ait (by first | exact True.intro | (simp_all; done) | (simp_all; intros; omega) | omega)
    | exact afw (by first | (simp_all; done) | omega) (fun _ => rfl)
    | exact afw (by first | (simp_all; done) | omega) (fun h => absurd h (by assumption))
    | exact afw (by first | (simp_all; done) | omega) (fun h => by simp [h])
    | exact ⟨_, _, rfl, (fun h => nomatch h), (fun _ => True.intro)⟩
theorem at2 (hR : RO r) (hw : 0 ≤ w ∧ w < (r.works.length : Int)) (ht : 0 ≤ t ∧ t < (r.tasks.length : Int)) (hf : aaf r ⟨17, w, t, o, l⟩ = some ((true, ()), (r, ()))) :
    RS r ⟨17, w, t, o, l⟩ (o = 1 ∨ o = 2) { r with works := r.works.set w.toNat { aac r.works w with sleeps := false, last := ⟨17, w, t, o, l⟩ } } := by
  suffices h : RA r ⟨17, w, t, o, l⟩ (o = 1 ∨ o = 2) { r with works := r.works.set w.toNat { aac r.works w with sleeps := false } } from ae5 hw hR.wl hf h
  have hk := hR.stk w hw
  have hkk := hR.kid t ht
  unfold RA aaj
  simp only [aar, Int.reduceEq, if_true, if_false, hw, ht, and_self, aaF, aaC, List.set_set, List.length_set, ac9, ads, ne_eq, not_true_eq_false, not_false_eq_true, true_and, and_true, decide_true, decide_false, reduceCtorEq, Bool.not_true, Bool.not_false, Bool.false_eq_true, Bool.not_eq_true', Bool.true_eq_false]
  repeat' split
  all_goals (try simp only [aar, Int.reduceEq, if_true, if_false, hw, ht, and_self, aaF, aaC, List.set_set, List.length_set, ac9, ads, ne_eq, not_true_eq_false, not_false_eq_true, true_and, and_true, decide_true, decide_false, reduceCtorEq, Bool.not_true, Bool.not_false, Bool.false_eq_true, Bool.not_eq_true', Bool.true_eq_false])
  all_goals repeat' split
  all_goals first
    | exact ajS (by first | exact True.intro | (simp_all; done) | (simp_all; intros; omega) | omega) rfl
    | exact ait (by first | exact True.intro | (simp_all; done) | (simp_all; intros; omega) | omega)
    | exact afw (by first | (simp_all; done) | omega) (fun _ => rfl)
    | exact afw (by first | (simp_all; done) | omega) (fun h => absurd h (by assumption))
    | exact afw (by first | (simp_all; done) | omega) (fun h => by simp [h])
    | exact ⟨_, _, rfl, (fun h => nomatch h), (fun _ => True.intro)⟩
theorem atB (hR : RO r) (hw : 0 ≤ w ∧ w < (r.works.length : Int)) (ht : 0 ≤ t ∧ t < (r.tasks.length : Int)) (hf : aaf r ⟨18, w, t, o, l⟩ = some ((true, ()), (r, ()))) :
    RS r ⟨18, w, t, o, l⟩ (0 ≤ o ∧ o < r.c.workers) { r with works := r.works.set w.toNat { aac r.works w with last := ⟨18, w, t, o, l⟩ } } := by
  suffices h : RA r ⟨18, w, t, o, l⟩ (0 ≤ o ∧ o < r.c.workers) { r with works := r.works.set w.toNat (aac r.works w) } from ae5 hw hR.wl hf h
  have hk := hR.stk w hw
  have hkk := hR.kid t ht
  unfold RA aaj
  simp only [aar, Int.reduceEq, if_true, if_false, hw, ht, and_self, aaF, aaC, List.set_set, List.length_set, ac9, ads, ne_eq, not_true_eq_false, not_false_eq_true, true_and, and_true, decide_true, decide_false, reduceCtorEq, Bool.not_true, Bool.not_false, Bool.false_eq_true, Bool.not_eq_true', Bool.true_eq_false]
  repeat' split
  all_goals (try simp only [aar, Int.reduceEq, if_true, if_false, hw, ht, and_self, aaF, aaC, List.set_set, List.length_set, ac9, ads, ne_eq, not_true_eq_false, not_false_eq_true, true_and, and_true, decide_true, decide_false, reduceCtorEq, Bool.not_true, Bool.not_false, Bool.false_eq_true, Bool.not_eq_true', Bool.true_eq_false])
  all_goals repeat' split
  all_goals first
    | exact ajS (by first | exact True.intro | (simp_all; done) | (simp_all; intros; omega) | omega) rfl
    | exact ait (by first | exact True.intro | (simp_all; done) | (simp_all; intros; omega) | omega)
    | exact afw (by first | (simp_all; done) | omega) (fun _ => rfl)
    | exact afw (by first | (simp_all; done) | omega) (fun h => absurd h (by assumption))
    | exact afw (by first | (simp_all; done) | omega) (fun h => by simp [h])
    | exact ⟨_, _, rfl, (fun h => nomatch h), (fun _ => True.intro)⟩
theorem at1 (hR : RO r) (hw : 0 ≤ w ∧ w < (r.works.length : Int)) (ht : 0 ≤ t ∧ t < (r.tasks.length : Int)) (hf : aaf r ⟨19, w, t, o, l⟩ = some ((true, ()), (r, ()))) :
    RS r ⟨19, w, t, o, l⟩ ((aaa r.tasks t).view.phase ≠ 0) { r with works := r.works.set w.toNat { aac r.works w with last := ⟨19, w, t, o, l⟩ } } := by
  suffices h : RA r ⟨19, w, t, o, l⟩ ((aaa r.tasks t).view.phase ≠ 0) { r with works := r.works.set w.toNat (aac r.works w) } from ae5 hw hR.wl hf h
  have hk := hR.stk w hw
  have hkk := hR.kid t ht
  unfold RA aaj
  simp only [aar, Int.reduceEq, if_true, if_false, hw, ht, and_self, aaF, aaC, List.set_set, List.length_set, ac9, ads, ne_eq, not_true_eq_false, not_false_eq_true, true_and, and_true, decide_true, decide_false, reduceCtorEq, Bool.not_true, Bool.not_false, Bool.false_eq_true, Bool.not_eq_true', Bool.true_eq_false]
  repeat' split
  all_goals (try simp only [aar, Int.reduceEq, if_true, if_false, hw, ht, and_self, aaF, aaC, List.set_set, List.length_set, ac9, ads, ne_eq, not_true_eq_false, not_false_eq_true, true_and, and_true, decide_true, decide_false, reduceCtorEq, Bool.not_true, Bool.not_false, Bool.false_eq_true, Bool.not_eq_true', Bool.true_eq_false])
  all_goals repeat' split
  all_goals first
    | exact ajS (by first | exact True.intro | (simp_all; done) | (simp_all; intros; omega) | omega) rfl
    | exact ait (by first | exact True.intro | (simp_all; done) | (simp_all; intros; omega) | omega)
    | exact afw (by first | (simp_all; done) | omega) (fun _ => rfl)
    | exact afw (by first | (simp_all; done) | omega) (fun h => absurd h (by assumption))
    | exact afw (by first | (simp_all; done) | omega) (fun h => by simp [h])
    | exact ⟨_, _, rfl, (fun h => nomatch h), (fun _ => True.intro)⟩
theorem rk7 (hR : RO r) (hw : 0 ≤ w ∧ w < (r.works.length : Int)) (ht : 0 ≤ t ∧ t < (r.tasks.length : Int)) (hf : aaf r ⟨7, w, t, o, l⟩ = some ((true, ()), (r, ()))) :
    RS r ⟨7, w, t, o, l⟩ ((aac r.works w).walk = t ∧ (aac r.works w).low ≤ l ∧ l ≤ (aaa r.tasks t).view.level ∧ (0 ≤ (aac r.works w).up → (aac r.works w).up = l)) { r with works := r.works.set w.toNat { aac r.works w with walk := -1, last := ⟨7, w, t, o, l⟩ } } := by
  suffices h : RA r ⟨7, w, t, o, l⟩ ((aac r.works w).walk = t ∧ (aac r.works w).low ≤ l ∧ l ≤ (aaa r.tasks t).view.level ∧ (0 ≤ (aac r.works w).up → (aac r.works w).up = l)) { r with works := r.works.set w.toNat { aac r.works w with walk := -1 } } from ae5 hw hR.wl hf h
  have hk := hR.stk w hw
  have hkk := hR.kid t ht
  unfold RA aaj aa3
  simp only [aar, Int.reduceEq, if_true, if_false, hw, ht, and_self, aaF, aaC, List.set_set, List.length_set, ac9, ads, ne_eq, not_true_eq_false, not_false_eq_true, true_and, and_true, decide_true, decide_false, reduceCtorEq, Bool.not_true, Bool.not_false, Bool.false_eq_true, Bool.not_eq_true', Bool.true_eq_false]
  repeat' split
  all_goals (try simp only [aar, Int.reduceEq, if_true, if_false, hw, ht, and_self, aaF, aaC, List.set_set, List.length_set, ac9, ads, ne_eq, not_true_eq_false, not_false_eq_true, true_and, and_true, decide_true, decide_false, reduceCtorEq, Bool.not_true, Bool.not_false, Bool.false_eq_true, Bool.not_eq_true', Bool.true_eq_false])
  all_goals repeat' split
  all_goals first
    | exact ajS (by first | exact True.intro | (simp_all; done) | (simp_all; intros; omega) | omega) rfl
    | exact ait (by first | exact True.intro | (simp_all; done) | (simp_all; intros; omega) | omega)
    | exact afw (by first | (simp_all; done) | omega) (fun _ => rfl)
    | exact afw (by first | (simp_all; done) | omega) (fun h => absurd h (by assumption))
    | exact afw (by first | (simp_all; done) | omega) (fun h => by simp [h])
    | exact ⟨_, _, rfl, (fun h => nomatch h), (fun _ => True.intro)⟩
end
noncomputable def prR (P : List Ins) (x : TkV) : Int × Ins × Bool := ajn P x.kids x.pc
def amn (s : List Int) : List Int := s.take ((s.length : Int) - 1).toNat
section
variable {r : SaV} {w t o l : Int}
structure RP (r : SaV) (t : Int) (P : List Ins) : Prop where
  p0 : 0 ≤ (aaa r.tasks t).prog ∧ (aaa r.tasks t).prog < (r.c.progs.length : Int)
  pe : atL [] r.c.progs (aaa r.tasks t).prog = P
  pc : 0 ≤ (aaa r.tasks t).pc ∧ (aaa r.tasks t).pc ≤ (P.length : Int)
  pl : P.length ≤ 1000000
  ja : ∀ a, 0 ≤ a → a < (P.length : Int) → (adQ P a).op = 2 → 0 ≤ (adQ P a).a
theorem ajq {P : List Ins} (ht : 0 ≤ t ∧ t < (r.tasks.length : Int)) (h : RP r t P) : aas r t = some (((prR P (aaa r.tasks t)).2.1, (prR P (aaa r.tasks t)).2.2, ()), ({ r with tasks := r.tasks.set t.toNat { aaa r.tasks t with pc := (prR P (aaa r.tasks t)).1 } }, ())) := aj8 ht h.p0 h.pe h.pc.1 h.pl h.ja
theorem ahs {s : List Int} (h : adg s = t) (ht : 0 ≤ t) (hl : s.length ≤ 1000000) : wi ((s.length : Int) - 1) = (s.length : Int) - 1 ∧ (0 ≤ (s.length : Int) - 1 ∧ (s.length : Int) - 1 < (s.length : Int)) ∧ aaQ s ((s.length : Int) - 1) = t := by
  unfold adg at h
  have h1 : ¬ (s.length : Int) = 0 := fun e => by rw [if_pos e] at h; omega
  rw [if_neg h1] at h
  exact ⟨abR (aaZ (by omega)), ⟨by omega, by omega⟩, h⟩
theorem aiC (ht : 0 ≤ t ∧ t < (r.tasks.length : Int)) (ho : 0 ≤ o ∧ o < (r.tasks.length : Int)) {x : TkV} (h : x.view.phase = (aaa r.tasks t).view.phase) : (aaa (r.tasks.set t.toNat x) o).view.phase = (aaa r.tasks o).view.phase := by
  by_cases e : t = o
  · subst e; rw [ac9 ht]; exact h
  · exact congrArg (fun (y : TkV) => y.view.phase) (ahg ht.1 ho.1 e)
theorem ag4 (hw : 0 ≤ w ∧ w < (r.works.length : Int)) (ht : 0 ≤ t ∧ t < (r.tasks.length : Int)) (hk : (aac r.works w).stack.length ≤ 1000000) : aal r w t = some ((), ({ r with tasks := r.tasks.set t.toNat { aaa r.tasks t with view := { (aaa r.tasks t).view with phase := 2, worker := w, other := -1 } }, works := r.works.set w.toNat { aac r.works w with stack := (aac r.works w).stack ++ [t] } }, ())) := by
  have h1 : ((([] : List Int).length + (aac r.works w).stack.length : Nat) : Int) < 1000000000000 := by simp only [List.length_nil]; omega
  have h2 : (((aac r.works w).stack.length + ([t] : List Int).length : Nat) : Int) < 1000000000000 := by simp only [List.length_singleton]; omega
  unfold aal
  simp only [List.length_set, ht, hw, h1, h2, and_self, if_true, List.set_set, ac9, ads, List.nil_append]
theorem rk5 (hR : RO r) (hw : 0 ≤ w ∧ w < (r.works.length : Int)) (ht : 0 ≤ t ∧ t < (r.tasks.length : Int)) (hf : aaf r ⟨5, w, t, o, l⟩ = some ((true, ()), (r, ()))) :
    RS r ⟨5, w, t, o, l⟩ ((aaa r.tasks t).view.phase = 1 ∧ ((ah8 (aac r.works w).stack (aac r.works w).walk = true) ∨ (aac r.works w).last.kind = 3 ∧ (aac r.works w).last.task = t)) { r with tasks := r.tasks.set t.toNat { aaa r.tasks t with view := { (aaa r.tasks t).view with phase := 2, worker := w, other := -1 } }, works := r.works.set w.toNat { aac r.works w with stack := (aac r.works w).stack ++ [t], last := ⟨5, w, t, o, l⟩ } } := by
  suffices h : RA r ⟨5, w, t, o, l⟩ ((aaa r.tasks t).view.phase = 1 ∧ ((ah8 (aac r.works w).stack (aac r.works w).walk = true) ∨ (aac r.works w).last.kind = 3 ∧ (aac r.works w).last.task = t)) { r with tasks := r.tasks.set t.toNat { aaa r.tasks t with view := { (aaa r.tasks t).view with phase := 2, worker := w, other := -1 } }, works := r.works.set w.toNat { aac r.works w with stack := (aac r.works w).stack ++ [t] } } from ae5 hw hR.wl hf h
  have hk := hR.stk w hw
  have hkk := hR.kid t ht
  unfold RA aaj aaS
  simp only [aar, Int.reduceEq, if_true, if_false, hw, ht, and_self, aaF, aaC, List.set_set, List.length_set, ac9, ads, ne_eq, not_true_eq_false, not_false_eq_true, true_and, and_true, decide_true, decide_false, reduceCtorEq, Bool.not_true, Bool.not_false, Bool.false_eq_true, Bool.not_eq_true', Bool.true_eq_false, agf hw, ag4 hw ht hk]
  repeat' split
  all_goals (try simp only [aar, Int.reduceEq, if_true, if_false, hw, ht, and_self, aaF, aaC, List.set_set, List.length_set, ac9, ads, ne_eq, not_true_eq_false, not_false_eq_true, true_and, and_true, decide_true, decide_false, reduceCtorEq, Bool.not_true, Bool.not_false, Bool.false_eq_true, Bool.not_eq_true', Bool.true_eq_false, agf hw, ag4 hw ht hk])
  all_goals repeat' split
  all_goals first
    | exact ajS (by first | exact True.intro | (simp_all; done) | (simp_all; intros; omega) | omega) rfl
    | exact ait (by first | exact True.intro | (simp_all; done) | (simp_all; intros; omega) | omega)
    | exact afw (by first | (simp_all; done) | omega) (fun _ => rfl)
    | exact afw (by first | (simp_all; done) | omega) (fun h => absurd h (by assumption))
    | exact afw (by first | (simp_all; done) | omega) (fun h => by simp [h])
    | exact ⟨_, _, rfl, (fun h => nomatch h), (fun _ => True.intro)⟩
theorem rk9 (hR : RO r) (hw : 0 ≤ w ∧ w < (r.works.length : Int)) (ht : 0 ≤ t ∧ t < (r.tasks.length : Int)) (hwt : (aaa r.tasks t).view.phase = 3 → 0 ≤ (aaa r.tasks t).view.other ∧ (aaa r.tasks t).view.other < (r.tasks.length : Int)) (hf : aaf r ⟨9, w, t, o, l⟩ = some ((true, ()), (r, ()))) :
    RS r ⟨9, w, t, o, l⟩ ((aaa r.tasks t).view.phase = 3 ∧ (aaa r.tasks (aaa r.tasks t).view.other).view.phase = 4 ∧ ((ah8 (aac r.works w).stack (aac r.works w).walk = true) ∨ (aac r.works w).last.kind = 10 ∧ (aac r.works w).last.task = (aaa r.tasks t).view.other)) { r with tasks := r.tasks.set t.toNat { aaa r.tasks t with view := { (aaa r.tasks t).view with phase := 2, worker := w, other := -1 } }, works := r.works.set w.toNat { aac r.works w with stack := (aac r.works w).stack ++ [t], last := ⟨9, w, t, o, l⟩ } } := by
  suffices h : RA r ⟨9, w, t, o, l⟩ ((aaa r.tasks t).view.phase = 3 ∧ (aaa r.tasks (aaa r.tasks t).view.other).view.phase = 4 ∧ ((ah8 (aac r.works w).stack (aac r.works w).walk = true) ∨ (aac r.works w).last.kind = 10 ∧ (aac r.works w).last.task = (aaa r.tasks t).view.other)) { r with tasks := r.tasks.set t.toNat { aaa r.tasks t with view := { (aaa r.tasks t).view with phase := 2, worker := w, other := -1 } }, works := r.works.set w.toNat { aac r.works w with stack := (aac r.works w).stack ++ [t] } } from ae5 hw hR.wl hf h
  have hk := hR.stk w hw
  have hkk := hR.kid t ht
  unfold RA aaj aaS
  by_cases h3 : (aaa r.tasks t).view.phase = 3
  rotate_left
  · simp only [aar, Int.reduceEq, if_true, if_false, hw, ht, and_self, aaF, aaC, List.set_set, List.length_set, ac9, ads, ne_eq, not_true_eq_false, not_false_eq_true, true_and, and_true, decide_true, decide_false, reduceCtorEq, Bool.not_true, Bool.not_false, Bool.false_eq_true, Bool.not_eq_true', Bool.true_eq_false, agf hw, h3]
    exact ⟨_, _, rfl, (fun h => nomatch h), fun _ => (by simp)⟩
  have hwt := hwt h3
  simp only [aar, Int.reduceEq, if_true, if_false, hw, ht, and_self, aaF, aaC, List.set_set, List.length_set, ac9, ads, ne_eq, not_true_eq_false, not_false_eq_true, true_and, and_true, decide_true, decide_false, reduceCtorEq, Bool.not_true, Bool.not_false, Bool.false_eq_true, Bool.not_eq_true', Bool.true_eq_false, hwt, h3, agf hw, ag4 hw ht hk]
  repeat' split
  all_goals (try simp only [aar, Int.reduceEq, if_true, if_false, hw, ht, and_self, aaF, aaC, List.set_set, List.length_set, ac9, ads, ne_eq, not_true_eq_false, not_false_eq_true, true_and, and_true, decide_true, decide_false, reduceCtorEq, Bool.not_true, Bool.not_false, Bool.false_eq_true, Bool.not_eq_true', Bool.true_eq_false, hwt, h3, agf hw, ag4 hw ht hk])
  all_goals repeat' split
  all_goals first
    | exact ajS (by first | exact True.intro | (simp_all; done) | (simp_all; intros; omega) | omega) rfl
    | exact ait (by first | exact True.intro | (simp_all; done) | (simp_all; intros; omega) | omega)
    | exact afw (by first | (simp_all; done) | omega) (fun _ => rfl)
    | exact afw (by first | (simp_all; done) | omega) (fun h => absurd h (by assumption))
    | exact afw (by first | (simp_all; done) | omega) (fun h => by simp [h])
    | exact ⟨_, _, rfl, (fun h => nomatch h), (fun _ => True.intro)⟩
theorem at8 (hR : RO r) (hw : 0 ≤ w ∧ w < (r.works.length : Int)) (ht : 0 ≤ t ∧ t < (r.tasks.length : Int)) {P : List Ins} (hp : adg (aac r.works w).stack = t → RP r t P) (hf : aaf r ⟨10, w, t, o, l⟩ = some ((true, ()), (r, ()))) :
    RS r ⟨10, w, t, o, l⟩ (adg (aac r.works w).stack = t ∧ (prR P (aaa r.tasks t)).2.2 = false) { r with tasks := r.tasks.set t.toNat { aaa r.tasks t with pc := (prR P (aaa r.tasks t)).1, view := { (aaa r.tasks t).view with phase := 4, worker := -1 } }, works := r.works.set w.toNat { aac r.works w with stack := amn (aac r.works w).stack, last := ⟨10, w, t, o, l⟩ } } := by
  suffices h : RA r ⟨10, w, t, o, l⟩ (adg (aac r.works w).stack = t ∧ (prR P (aaa r.tasks t)).2.2 = false) { r with tasks := r.tasks.set t.toNat { aaa r.tasks t with pc := (prR P (aaa r.tasks t)).1, view := { (aaa r.tasks t).view with phase := 4, worker := -1 } }, works := r.works.set w.toNat { aac r.works w with stack := amn (aac r.works w).stack } } from ae5 hw hR.wl hf h
  have hk := hR.stk w hw
  have hkk := hR.kid t ht
  unfold RA aaj abQ
  have htops := af1 (r := r) hw ht.1 hk
  by_cases htp : adg (aac r.works w).stack = t
  rotate_left
  · rw [decide_eq_false htp] at htops
    simp only [aar, Int.reduceEq, if_true, if_false, hw, ht, and_self, aaF, aaC, List.set_set, List.length_set, ac9, ads, ne_eq, not_true_eq_false, not_false_eq_true, true_and, and_true, decide_true, decide_false, reduceCtorEq, Bool.not_true, Bool.not_false, Bool.false_eq_true, Bool.not_eq_true', Bool.true_eq_false, htops, htp]
    exact ⟨_, _, rfl, (fun h => nomatch h), (fun _ => (by simp [htp]))⟩
  rw [decide_eq_true htp] at htops
  have hpr := ajq ht (hp htp)
  obtain ⟨q1, q2, q3⟩ := ahs htp ht.1 hk
  have q4 : 0 ≤ ((aac r.works w).stack.length : Int) - 1 ∧ ((aac r.works w).stack.length : Int) - 1 ≤ ((aac r.works w).stack.length : Int) := ⟨q2.1, by omega⟩
  have hkk := hR.kid t ht
  try unfold amn
  generalize hv : prR P (aaa r.tasks t) = v at *
  obtain ⟨j, i, b⟩ := v
  have hn1 : ((([] : List Int).length + ((aac r.works w).stack.take (((aac r.works w).stack.length : Int) - 1).toNat).length : Nat) : Int) < 1000000000000 := by rw [List.length_take, List.length_nil]; omega
  simp only [aar, Int.reduceEq, if_true, if_false, hw, ht, and_self, aaF, aaC, List.set_set, List.length_set, ac9, ads, ne_eq, not_true_eq_false, not_false_eq_true, true_and, and_true, decide_true, decide_false, reduceCtorEq, Bool.not_true, Bool.not_false, Bool.false_eq_true, Bool.not_eq_true', Bool.true_eq_false, htops, hpr, htp, q1, q2, q3, q4, List.nil_append, hn1]
  repeat' split
  all_goals (try simp only [aar, Int.reduceEq, if_true, if_false, hw, ht, and_self, aaF, aaC, List.set_set, List.length_set, ac9, ads, ne_eq, not_true_eq_false, not_false_eq_true, true_and, and_true, decide_true, decide_false, reduceCtorEq, Bool.not_true, Bool.not_false, Bool.false_eq_true, Bool.not_eq_true', Bool.true_eq_false, htops, hpr, htp, q1, q2, q3, q4, List.nil_append, hn1])
  all_goals repeat' split
  all_goals first
    | exact ajS (by first | exact True.intro | (simp_all; done) | (simp_all; intros; omega) | omega) rfl
    | exact ait (by first | exact True.intro | (simp_all; done) | (simp_all; intros; omega) | omega)
    | exact afw (by first | (simp_all; done) | omega) (fun _ => rfl)
    | exact afw (by first | (simp_all; done) | omega) (fun h => absurd h (by assumption))
    | exact afw (by first | (simp_all; done) | omega) (fun h => by simp [h])
    | exact ⟨_, _, rfl, (fun h => nomatch h), (fun _ => True.intro)⟩
theorem rk8 (hR : RO r) (hw : 0 ≤ w ∧ w < (r.works.length : Int)) (ht : 0 ≤ t ∧ t < (r.tasks.length : Int)) (ho : 0 ≤ o ∧ o < (r.tasks.length : Int)) (hc : ∀ P, adg (aac r.works w).stack = t → RP r t P → (prR P (aaa r.tasks t)).2.2 = true → (prR P (aaa r.tasks t)).2.1.op = 2 → 0 ≤ (prR P (aaa r.tasks t)).2.1.a ∧ (prR P (aaa r.tasks t)).2.1.a < (aaa r.tasks t).kids.length) {P : List Ins} (hp : adg (aac r.works w).stack = t → RP r t P) (hf : aaf r ⟨8, w, t, o, l⟩ = some ((true, ()), (r, ()))) :
    RS r ⟨8, w, t, o, l⟩ (adg (aac r.works w).stack = t ∧ (prR P (aaa r.tasks t)).2.2 = true ∧ (prR P (aaa r.tasks t)).2.1.op = 2 ∧ aaQ (aaa r.tasks t).kids (prR P (aaa r.tasks t)).2.1.a = o ∧ (aaa r.tasks o).view.phase = 4) { r with tasks := r.tasks.set t.toNat { aaa r.tasks t with pc := wi ((prR P (aaa r.tasks t)).1 + 1) }, works := r.works.set w.toNat { aac r.works w with last := ⟨8, w, t, o, l⟩ } } := by
  suffices h : RA r ⟨8, w, t, o, l⟩ (adg (aac r.works w).stack = t ∧ (prR P (aaa r.tasks t)).2.2 = true ∧ (prR P (aaa r.tasks t)).2.1.op = 2 ∧ aaQ (aaa r.tasks t).kids (prR P (aaa r.tasks t)).2.1.a = o ∧ (aaa r.tasks o).view.phase = 4) { r with tasks := r.tasks.set t.toNat { aaa r.tasks t with pc := wi ((prR P (aaa r.tasks t)).1 + 1) }, works := r.works.set w.toNat (aac r.works w) } from ae5 hw hR.wl hf h
  have hk := hR.stk w hw
  have hkk := hR.kid t ht
  unfold RA aaj abt
  have htops := af1 (r := r) hw ht.1 hk
  by_cases htp : adg (aac r.works w).stack = t
  rotate_left
  · rw [decide_eq_false htp] at htops
    simp only [aar, Int.reduceEq, if_true, if_false, hw, ht, and_self, aaF, aaC, List.set_set, List.length_set, ac9, ads, ne_eq, not_true_eq_false, not_false_eq_true, true_and, and_true, decide_true, decide_false, reduceCtorEq, Bool.not_true, Bool.not_false, Bool.false_eq_true, Bool.not_eq_true', Bool.true_eq_false, htops, htp]
    exact ⟨_, _, rfl, (fun h => nomatch h), (fun _ => (by simp [htp]))⟩
  rw [decide_eq_true htp] at htops
  have hpr := ajq ht (hp htp)
  obtain ⟨q1, q2, q3⟩ := ahs htp ht.1 hk
  have q4 : 0 ≤ ((aac r.works w).stack.length : Int) - 1 ∧ ((aac r.works w).stack.length : Int) - 1 ≤ ((aac r.works w).stack.length : Int) := ⟨q2.1, by omega⟩
  have hkk := hR.kid t ht
  try unfold amn
  generalize hv : prR P (aaa r.tasks t) = v at *
  obtain ⟨j, i, b⟩ := v
  have hc := hc P htp (hp htp)
  rw [hv] at hc
  simp only [aar, Int.reduceEq, if_true, if_false, hw, ht, and_self, aaF, aaC, List.set_set, List.length_set, ac9, ads, ne_eq, not_true_eq_false, not_false_eq_true, true_and, and_true, decide_true, decide_false, reduceCtorEq, Bool.not_true, Bool.not_false, Bool.false_eq_true, Bool.not_eq_true', Bool.true_eq_false, htops, hpr, htp, q1, q2, q3, q4, List.nil_append]
  cases b with
  | false =>
    simp only [aar, Int.reduceEq, if_true, if_false, hw, ht, and_self, aaF, aaC, List.set_set, List.length_set, ac9, ads, ne_eq, not_true_eq_false, not_false_eq_true, true_and, and_true, decide_true, decide_false, reduceCtorEq, Bool.not_true, Bool.not_false, Bool.false_eq_true, Bool.not_eq_true', Bool.true_eq_false]
    exact ⟨_, _, rfl, (fun h => nomatch h), (fun _ => (by simp))⟩
  | true =>
    by_cases h2 : i.op = 2
    rotate_left
    · simp only [aar, Int.reduceEq, if_true, if_false, hw, ht, and_self, aaF, aaC, List.set_set, List.length_set, ac9, ads, ne_eq, not_true_eq_false, not_false_eq_true, true_and, and_true, decide_true, decide_false, reduceCtorEq, Bool.not_true, Bool.not_false, Bool.false_eq_true, Bool.not_eq_true', Bool.true_eq_false, h2]
      exact ⟨_, _, rfl, (fun h => nomatch h), (fun _ => (by simp [h2]))⟩
    have hc := hc rfl h2
    dsimp only at hc
    simp only [aar, Int.reduceEq, if_true, if_false, hw, ht, and_self, aaF, aaC, List.set_set, List.length_set, ac9, ads, ne_eq, not_true_eq_false, not_false_eq_true, true_and, and_true, decide_true, decide_false, reduceCtorEq, Bool.not_true, Bool.not_false, Bool.false_eq_true, Bool.not_eq_true', Bool.true_eq_false, h2, hc, List.nil_append, q1, q2, q3, q4, aiC ht ho, ho]
    repeat' split
    all_goals first
      | exact ajS (by first | exact True.intro | (simp_all; done)) rfl
      | exact ait (by first | exact True.intro | (simp_all; done))
theorem rk6 (hR : RO r) (hw : 0 ≤ w ∧ w < (r.works.length : Int)) (ht : 0 ≤ t ∧ t < (r.tasks.length : Int)) (ho : 0 ≤ o ∧ o < (r.tasks.length : Int)) (hc : ∀ P, adg (aac r.works w).stack = t → RP r t P → (prR P (aaa r.tasks t)).2.2 = true → (prR P (aaa r.tasks t)).2.1.op = 2 → 0 ≤ (prR P (aaa r.tasks t)).2.1.a ∧ (prR P (aaa r.tasks t)).2.1.a < (aaa r.tasks t).kids.length) {P : List Ins} (hp : adg (aac r.works w).stack = t → RP r t P) (hf : aaf r ⟨6, w, t, o, l⟩ = some ((true, ()), (r, ()))) :
    RS r ⟨6, w, t, o, l⟩ (adg (aac r.works w).stack = t ∧ (prR P (aaa r.tasks t)).2.2 = true ∧ (prR P (aaa r.tasks t)).2.1.op = 2 ∧ aaQ (aaa r.tasks t).kids (prR P (aaa r.tasks t)).2.1.a = o ∧ (aaa r.tasks o).view.phase ≠ 4) { r with tasks := r.tasks.set t.toNat { aaa r.tasks t with pc := wi ((prR P (aaa r.tasks t)).1 + 1), view := { (aaa r.tasks t).view with phase := 3, worker := -1, other := o } }, works := r.works.set w.toNat { aac r.works w with stack := amn (aac r.works w).stack, walk := t, low := (aaa r.tasks t).view.level, up := -1, last := ⟨6, w, t, o, l⟩ } } := by
  suffices h : RA r ⟨6, w, t, o, l⟩ (adg (aac r.works w).stack = t ∧ (prR P (aaa r.tasks t)).2.2 = true ∧ (prR P (aaa r.tasks t)).2.1.op = 2 ∧ aaQ (aaa r.tasks t).kids (prR P (aaa r.tasks t)).2.1.a = o ∧ (aaa r.tasks o).view.phase ≠ 4) { r with tasks := r.tasks.set t.toNat { aaa r.tasks t with pc := wi ((prR P (aaa r.tasks t)).1 + 1), view := { (aaa r.tasks t).view with phase := 3, worker := -1, other := o } }, works := r.works.set w.toNat { aac r.works w with stack := amn (aac r.works w).stack, walk := t, low := (aaa r.tasks t).view.level, up := -1 } } from ae5 hw hR.wl hf h
  have hk := hR.stk w hw
  have hkk := hR.kid t ht
  unfold RA aaj abt
  have htops := af1 (r := r) hw ht.1 hk
  by_cases htp : adg (aac r.works w).stack = t
  rotate_left
  · rw [decide_eq_false htp] at htops
    simp only [aar, Int.reduceEq, if_true, if_false, hw, ht, and_self, aaF, aaC, List.set_set, List.length_set, ac9, ads, ne_eq, not_true_eq_false, not_false_eq_true, true_and, and_true, decide_true, decide_false, reduceCtorEq, Bool.not_true, Bool.not_false, Bool.false_eq_true, Bool.not_eq_true', Bool.true_eq_false, htops, htp]
    exact ⟨_, _, rfl, (fun h => nomatch h), (fun _ => (by simp [htp]))⟩
  rw [decide_eq_true htp] at htops
  have hpr := ajq ht (hp htp)
  obtain ⟨q1, q2, q3⟩ := ahs htp ht.1 hk
  have q4 : 0 ≤ ((aac r.works w).stack.length : Int) - 1 ∧ ((aac r.works w).stack.length : Int) - 1 ≤ ((aac r.works w).stack.length : Int) := ⟨q2.1, by omega⟩
  have hkk := hR.kid t ht
  try unfold amn
  generalize hv : prR P (aaa r.tasks t) = v at *
  obtain ⟨j, i, b⟩ := v
  have hc := hc P htp (hp htp)
  rw [hv] at hc
  have hn1 : ((([] : List Int).length + ((aac r.works w).stack.take (((aac r.works w).stack.length : Int) - 1).toNat).length : Nat) : Int) < 1000000000000 := by rw [List.length_take, List.length_nil]; omega
  simp only [aar, Int.reduceEq, if_true, if_false, hw, ht, and_self, aaF, aaC, List.set_set, List.length_set, ac9, ads, ne_eq, not_true_eq_false, not_false_eq_true, true_and, and_true, decide_true, decide_false, reduceCtorEq, Bool.not_true, Bool.not_false, Bool.false_eq_true, Bool.not_eq_true', Bool.true_eq_false, htops, hpr, htp, q1, q2, q3, q4, List.nil_append]
  cases b with
  | false =>
    simp only [aar, Int.reduceEq, if_true, if_false, hw, ht, and_self, aaF, aaC, List.set_set, List.length_set, ac9, ads, ne_eq, not_true_eq_false, not_false_eq_true, true_and, and_true, decide_true, decide_false, reduceCtorEq, Bool.not_true, Bool.not_false, Bool.false_eq_true, Bool.not_eq_true', Bool.true_eq_false]
    exact ⟨_, _, rfl, (fun h => nomatch h), (fun _ => (by simp))⟩
  | true =>
    by_cases h2 : i.op = 2
    rotate_left
    · simp only [aar, Int.reduceEq, if_true, if_false, hw, ht, and_self, aaF, aaC, List.set_set, List.length_set, ac9, ads, ne_eq, not_true_eq_false, not_false_eq_true, true_and, and_true, decide_true, decide_false, reduceCtorEq, Bool.not_true, Bool.not_false, Bool.false_eq_true, Bool.not_eq_true', Bool.true_eq_false, h2]
      exact ⟨_, _, rfl, (fun h => nomatch h), (fun _ => (by simp [h2]))⟩
    have hc := hc rfl h2
    dsimp only at hc
    simp only [aar, Int.reduceEq, if_true, if_false, hw, ht, and_self, aaF, aaC, List.set_set, List.length_set, ac9, ads, ne_eq, not_true_eq_false, not_false_eq_true, true_and, and_true, decide_true, decide_false, reduceCtorEq, Bool.not_true, Bool.not_false, Bool.false_eq_true, Bool.not_eq_true', Bool.true_eq_false, h2, hc, List.nil_append, q1, q2, q3, q4, aiC ht ho, ho, hn1]
    repeat' split
    all_goals first
      | exact ajS (by first | exact True.intro | (simp_all; done)) rfl
      | exact ait (by first | exact True.intro | (simp_all; done))
end
section
variable {r : SaV} {w t o l : Int}
theorem akp {xs : List TkV} (ht : 0 ≤ t ∧ t < (xs.length : Int)) {x : TkV} (h : x.view.phase = (aaa xs t).view.phase) : ada (xs.set t.toNat x) = ada xs := by
  have e : ∀ l : List TkV, ada l = (l.map fun y => y.view.phase).countP fun z => decide (z ≠ 0) := fun l => by
    unfold ada; rw [List.countP_map]; rfl
  rw [e, e]
  have : (xs.set t.toNat x).map (fun y => y.view.phase) = xs.map fun y => y.view.phase := by
    rw [List.map_set, h, ← List.map_set]
    exact congrArg _ (ajb (α := TkV) (d := (dfR 61 : TkV)) ht)
  rw [this]
theorem rk4 (hR : RO r) (hw : 0 ≤ w ∧ w < (r.works.length : Int)) (ht : 0 ≤ t ∧ t < (r.tasks.length : Int)) {P : List Ins} (hp : adg (aac r.works w).stack = t → RP r t P) (hf : aaf r ⟨4, w, t, o, l⟩ = some ((true, ()), (r, ()))) :
    RS r ⟨4, w, t, o, l⟩ (adg (aac r.works w).stack = t ∧ (prR P (aaa r.tasks t)).2.2 = true ∧ (prR P (aaa r.tasks t)).2.1.op = 1 ∧ wi (r.c.tasks - r.c.workers) ≤ (ada r.tasks : Int)) { r with tasks := r.tasks.set t.toNat { aaa r.tasks t with pc := wi ((prR P (aaa r.tasks t)).1 + 1), kids := (aaa r.tasks t).kids ++ [-1] }, works := r.works.set w.toNat { aac r.works w with last := ⟨4, w, t, o, l⟩ } } := by
  suffices h : RA r ⟨4, w, t, o, l⟩ (adg (aac r.works w).stack = t ∧ (prR P (aaa r.tasks t)).2.2 = true ∧ (prR P (aaa r.tasks t)).2.1.op = 1 ∧ wi (r.c.tasks - r.c.workers) ≤ (ada r.tasks : Int)) { r with tasks := r.tasks.set t.toNat { aaa r.tasks t with pc := wi ((prR P (aaa r.tasks t)).1 + 1), kids := (aaa r.tasks t).kids ++ [-1] }, works := r.works.set w.toNat (aac r.works w) } from ae5 hw hR.wl hf h
  have hk := hR.stk w hw
  have hkk := hR.kid t ht
  unfold RA aaj aaR
  have htops := af1 (r := r) hw ht.1 hk
  by_cases htp : adg (aac r.works w).stack = t
  rotate_left
  · rw [decide_eq_false htp] at htops
    simp only [aar, Int.reduceEq, if_true, if_false, hw, ht, and_self, aaF, aaC, List.set_set, List.length_set, ac9, ads, ne_eq, not_true_eq_false, not_false_eq_true, true_and, and_true, decide_true, decide_false, reduceCtorEq, Bool.not_true, Bool.not_false, Bool.false_eq_true, Bool.not_eq_true', Bool.true_eq_false, htops, htp]
    exact ⟨_, _, rfl, (fun h => nomatch h), (fun _ => (by simp [htp]))⟩
  rw [decide_eq_true htp] at htops
  have hpr := ajq ht (hp htp)
  obtain ⟨q1, q2, q3⟩ := ahs htp ht.1 hk
  have q4 : 0 ≤ ((aac r.works w).stack.length : Int) - 1 ∧ ((aac r.works w).stack.length : Int) - 1 ≤ ((aac r.works w).stack.length : Int) := ⟨q2.1, by omega⟩
  have hkk := hR.kid t ht
  try unfold amn
  generalize hv : prR P (aaa r.tasks t) = v at *
  obtain ⟨j, i, b⟩ := v
  cases b with
  | false =>
    simp only [aar, Int.reduceEq, if_true, if_false, hw, ht, and_self, aaF, aaC, List.set_set, List.length_set, ac9, ads, ne_eq, not_true_eq_false, not_false_eq_true, true_and, and_true, decide_true, decide_false, reduceCtorEq, Bool.not_true, Bool.not_false, Bool.false_eq_true, Bool.not_eq_true', Bool.true_eq_false, htops, hpr]
    exact ⟨_, _, rfl, (fun h => nomatch h), (fun _ => (by simp))⟩
  | true =>
    by_cases h2 : i.op = 1
    rotate_left
    · simp only [aar, Int.reduceEq, if_true, if_false, hw, ht, and_self, aaF, aaC, List.set_set, List.length_set, ac9, ads, ne_eq, not_true_eq_false, not_false_eq_true, true_and, and_true, decide_true, decide_false, reduceCtorEq, Bool.not_true, Bool.not_false, Bool.false_eq_true, Bool.not_eq_true', Bool.true_eq_false, htops, hpr, h2]
      exact ⟨_, _, rfl, (fun h => nomatch h), (fun _ => (by simp [h2]))⟩
    have hkn := ajA (r := { r with tasks := r.tasks.set t.toNat { aaa r.tasks t with pc := j } }) (by rw [List.length_set]; exact hR.tl)
    rw [akp ht (x := { aaa r.tasks t with pc := j }) rfl] at hkn
    have hn1 : ((([] : List Int).length + (aaa r.tasks t).kids.length : Nat) : Int) < 1000000000000 := by rw [List.length_nil]; omega
    have hn2 : (((aaa r.tasks t).kids.length + ([(-1)] : List Int).length : Nat) : Int) < 1000000000000 := by simp only [List.length_singleton]; omega
    simp only [aar, Int.reduceEq, if_true, if_false, hw, ht, and_self, aaF, aaC, List.set_set, List.length_set, ac9, ads, ne_eq, not_true_eq_false, not_false_eq_true, true_and, and_true, decide_true, decide_false, reduceCtorEq, Bool.not_true, Bool.not_false, Bool.false_eq_true, Bool.not_eq_true', Bool.true_eq_false, htops, hpr, htp, q1, q2, q3, q4, List.nil_append, hkn, hn1, hn2, h2]
    repeat' split
    all_goals first
      | exact ajS (by first | exact True.intro | (simp_all; done) | omega) rfl
      | exact ait (by first | exact True.intro | (simp_all; done) | omega)
theorem rk3 (hR : RO r) (hw : 0 ≤ w ∧ w < (r.works.length : Int)) (ht : 0 ≤ t ∧ t < (r.tasks.length : Int)) (ho : 0 ≤ o ∧ o < (r.tasks.length : Int)) (hph : adg (aac r.works w).stack = o → (aaa r.tasks o).view.phase ≠ 0) {P : List Ins} (hp : adg (aac r.works w).stack = o → RP r o P) (hf : aaf r ⟨3, w, t, o, l⟩ = some ((true, ()), (r, ()))) :
    RS r ⟨3, w, t, o, l⟩ (adg (aac r.works w).stack = o ∧ (prR P (aaa r.tasks o)).2.2 = true ∧ (prR P (aaa r.tasks o)).2.1.op = 1 ∧ (prR P (aaa r.tasks o)).2.1.b = l ∧ (aaa r.tasks t).view.phase = 0) { r with tasks := (r.tasks.set o.toNat { aaa r.tasks o with pc := wi ((prR P (aaa r.tasks o)).1 + 1), kids := (aaa r.tasks o).kids ++ [t] }).set t.toNat ⟨⟨1, l, o, -1, -1⟩, (prR P (aaa r.tasks o)).2.1.a, 0, []⟩, works := r.works.set w.toNat { aac r.works w with last := ⟨3, w, t, o, l⟩ } } := by
  suffices h : RA r ⟨3, w, t, o, l⟩ (adg (aac r.works w).stack = o ∧ (prR P (aaa r.tasks o)).2.2 = true ∧ (prR P (aaa r.tasks o)).2.1.op = 1 ∧ (prR P (aaa r.tasks o)).2.1.b = l ∧ (aaa r.tasks t).view.phase = 0) { r with tasks := (r.tasks.set o.toNat { aaa r.tasks o with pc := wi ((prR P (aaa r.tasks o)).1 + 1), kids := (aaa r.tasks o).kids ++ [t] }).set t.toNat ⟨⟨1, l, o, -1, -1⟩, (prR P (aaa r.tasks o)).2.1.a, 0, []⟩, works := r.works.set w.toNat (aac r.works w) } from ae5 hw hR.wl hf h
  have hk := hR.stk w hw
  have hkk := hR.kid t ht
  unfold RA aaj aaR aaH
  have htops := af1 (r := r) hw ho.1 hk
  by_cases htp : adg (aac r.works w).stack = o
  rotate_left
  · rw [decide_eq_false htp] at htops
    simp only [aar, Int.reduceEq, if_true, if_false, hw, ht, and_self, aaF, aaC, List.set_set, List.length_set, ac9, ads, ne_eq, not_true_eq_false, not_false_eq_true, true_and, and_true, decide_true, decide_false, reduceCtorEq, Bool.not_true, Bool.not_false, Bool.false_eq_true, Bool.not_eq_true', Bool.true_eq_false, htops, htp]
    exact ⟨_, _, rfl, (fun h => nomatch h), (fun _ => (by simp [htp]))⟩
  rw [decide_eq_true htp] at htops
  have hpr := ajq ho (hp htp)
  obtain ⟨q1, q2, q3⟩ := ahs htp ho.1 hk
  have q4 : 0 ≤ ((aac r.works w).stack.length : Int) - 1 ∧ ((aac r.works w).stack.length : Int) - 1 ≤ ((aac r.works w).stack.length : Int) := ⟨q2.1, by omega⟩
  have hkk := hR.kid o ho
  try unfold amn
  generalize hv : prR P (aaa r.tasks o) = v at *
  obtain ⟨j, i, b⟩ := v
  cases b with
  | false =>
    simp only [aar, Int.reduceEq, if_true, if_false, hw, ht, and_self, aaF, aaC, List.set_set, List.length_set, ac9, ads, ne_eq, not_true_eq_false, not_false_eq_true, true_and, and_true, decide_true, decide_false, reduceCtorEq, Bool.not_true, Bool.not_false, Bool.false_eq_true, Bool.not_eq_true', Bool.true_eq_false, htops, hpr]
    exact ⟨_, _, rfl, (fun h => nomatch h), (fun _ => (by simp))⟩
  | true =>
    by_cases h2 : i.op = 1
    rotate_left
    · simp only [aar, Int.reduceEq, if_true, if_false, hw, ht, and_self, aaF, aaC, List.set_set, List.length_set, ac9, ads, ne_eq, not_true_eq_false, not_false_eq_true, true_and, and_true, decide_true, decide_false, reduceCtorEq, Bool.not_true, Bool.not_false, Bool.false_eq_true, Bool.not_eq_true', Bool.true_eq_false, htops, hpr, h2]
      exact ⟨_, _, rfl, (fun h => nomatch h), (fun _ => (by simp [h2]))⟩
    have hn1 : ((([] : List Int).length + (aaa r.tasks o).kids.length : Nat) : Int) < 1000000000000 := by rw [List.length_nil]; omega
    have hn2 : (((aaa r.tasks o).kids.length + ([t] : List Int).length : Nat) : Int) < 1000000000000 := by simp only [List.length_singleton]; omega
    by_cases h5 : i.b = l
    rotate_left
    · simp only [aar, Int.reduceEq, if_true, if_false, hw, ht, and_self, aaF, aaC, List.set_set, List.length_set, ac9, ads, ne_eq, not_true_eq_false, not_false_eq_true, true_and, and_true, decide_true, decide_false, reduceCtorEq, Bool.not_true, Bool.not_false, Bool.false_eq_true, Bool.not_eq_true', Bool.true_eq_false, htops, hpr, h2, h5]
      exact ⟨_, _, rfl, (fun h => nomatch h), (fun _ => (by simp [h5]))⟩
    by_cases h6 : (aaa r.tasks t).view.phase = 0
    rotate_left
    · simp only [aar, Int.reduceEq, if_true, if_false, hw, ht, and_self, aaF, aaC, List.set_set, List.length_set, ac9, ads, ne_eq, not_true_eq_false, not_false_eq_true, true_and, and_true, decide_true, decide_false, reduceCtorEq, Bool.not_true, Bool.not_false, Bool.false_eq_true, Bool.not_eq_true', Bool.true_eq_false, ho, htops, hpr, h2, h5, aiC ho ht, h6]
      exact ⟨_, _, rfl, (fun h => nomatch h), (fun _ => (by simp [h6]))⟩
    have hne : o ≠ t := fun e => hph htp (by rw [e]; exact h6)
    have hat : ∀ {x y : TkV}, aaa ((r.tasks.set o.toNat x).set t.toNat y) o = x := fun {x y} => (ahg ht.1 ho.1 (fun e => hne e.symm)).trans (ac9 ho)
    have hcm : ∀ {x y z : TkV}, ((r.tasks.set o.toNat x).set t.toNat y).set o.toNat z = (r.tasks.set o.toNat z).set t.toNat y := fun {x y z} => by
      rw [List.set_comm _ _ (show t.toNat ≠ o.toNat by omega), List.set_set]
    simp only [aar, Int.reduceEq, if_true, if_false, hw, ht, and_self, aaF, aaC, List.set_set, List.length_set, ac9, ads, ne_eq, not_true_eq_false, not_false_eq_true, true_and, and_true, decide_true, decide_false, reduceCtorEq, Bool.not_true, Bool.not_false, Bool.false_eq_true, Bool.not_eq_true', Bool.true_eq_false, htops, hpr, htp, q1, q2, q3, q4, List.nil_append, ho, hn1, hn2, h2, h5, aiC ho ht, h6, hat, hcm]
    exact ⟨_, _, rfl, (fun _ => rfl), (fun h => nomatch h)⟩
theorem amC {α β : Type} {o : Option β} {g : α ⊕ β → Option β} (h1 : ∀ x, g (.inr x) = some x) : (Option.map Sum.inr o).bind g = o := by
  cases o with
  | none => rfl
  | some x => exact h1 x
def dRF {β : Type} (ts : List TkV) (x : Int) (R : Option β) : (Int × Int × Unit → Option ((Int × Int × Unit) ⊕ β)) → Int × Int × Unit → Option ((Int × Int × Unit) ⊕ β) := fun self3 x1 => if x1.2.1 < (ts.length : Int) then (if 0 ≤ x1.1 then (if x1.1 < (ts.length : Int) then (if 0 ≤ x1.1 ∧ x1.1 < (ts.length : Int) then (if (aaa ts x1.1).view.parent = x then Option.map Sum.inr R else self3 ((aaa ts x1.1).view.parent, wi (x1.2.1 + 1), ())) else none) else some (Sum.inl (x1.1, x1.2.1, ()))) else some (Sum.inl (x1.1, x1.2.1, ()))) else some (Sum.inl (x1.1, x1.2.1, ()))
theorem am8 {β : Type} {ts : List TkV} {x : Int} {rk : Int → Nat} (hr : ∀ i, 0 ≤ i ∧ i < (ts.length : Int) → (aaa ts i).view.parent = -1 ∨ (0 ≤ (aaa ts i).view.parent ∧ (aaa ts i).view.parent < (ts.length : Int)) ∧ rk (aaa ts i).view.parent < rk i) (hx : x ≠ -1) (hl : ts.length ≤ 1000000) :
    ∀ (n k : Nat) (t m : Int), 0 ≤ t ∧ t < (ts.length : Int) → rk t < n → rk t + 1 < k → 0 ≤ m → m + rk t < (ts.length : Int) → ∃ z, ∀ R : Option β,
    lpF (dRF ts x R) k (t, m, ()) = if alI (fun i => (aaa ts i).view.parent) x n t = true then Option.map Sum.inr R else some (Sum.inl z)
  | 0, k, t, m, ht, hn, hk, h0, hm => by omega
  | n + 1, 0, t, m, ht, hn, hk, h0, hm => by omega
  | n + 1, 1, t, m, ht, hn, hk, h0, hm => by omega
  | n + 1, k + 2, t, m, ht, hn, hk, h0, hm => by
    have e1 : wi (m + 1) = m + 1 := abR (aaZ (by omega))
    have st : ∀ R : Option β, lpF (dRF ts x R) (k + 2) (t, m, ()) = if (aaa ts t).view.parent = x then Option.map Sum.inr R else lpF (dRF ts x R) (k + 1) ((aaa ts t).view.parent, m + 1, ()) := fun R => by
      rw [lpS]
      generalize lpF (dRF ts x R) (k + 1) = self
      unfold dRF
      dsimp only
      rw [if_pos (show m < (ts.length : Int) by omega), if_pos ht.1, if_pos ht.2, if_pos ht, e1]
    simp only [st]
    unfold alI
    by_cases h1 : (aaa ts t).view.parent = -1
    · refine ⟨((-1), m + 1, ()), fun R => ?_⟩
      rw [if_pos h1, if_neg (show ¬ false = true by decide), h1, if_neg (fun h => hx h.symm), lpS]
      generalize lpF (dRF ts x R) k = self
      unfold dRF
      dsimp only
      split <;> rfl
    · simp only [if_neg h1]
      by_cases h2 : (aaa ts t).view.parent = x
      · exact ⟨(0, 0, ()), fun R => by rw [if_pos h2, if_pos h2, if_pos rfl]⟩
      · rcases hr t ht with h3 | ⟨h3, h4⟩
        · exact absurd h3 h1
        · simp only [if_neg h2]
          exact am8 hr hx hl n (k + 1) _ (m + 1) h3 (by omega) (by omega) (by omega) (by omega)
theorem at7 (hR : RO r) (hw : 0 ≤ w ∧ w < (r.works.length : Int)) (ht : 0 ≤ t ∧ t < (r.tasks.length : Int)) (hwk : (aac r.works w).walk ≠ -1 → 0 ≤ (aac r.works w).walk ∧ (aac r.works w).walk < (r.tasks.length : Int)) {rk : Int → Nat} (hrk : ∀ i, 0 ≤ i ∧ i < (r.tasks.length : Int) → (aaa r.tasks i).view.parent = -1 ∨ (0 ≤ (aaa r.tasks i).view.parent ∧ (aaa r.tasks i).view.parent < (r.tasks.length : Int)) ∧ rk (aaa r.tasks i).view.parent < rk i) (hrn : rk t < r.tasks.length) (hf : aaf r ⟨11, w, t, o, l⟩ = some ((true, ()), (r, ()))) :
    RS r ⟨11, w, t, o, l⟩ ((aac r.works w).walk ≠ -1 ∧ alI (fun i => (aaa r.tasks i).view.parent) (aac r.works w).walk r.tasks.length t = true ∧ (aaa r.tasks t).view.level < l ∧ l ≤ (aaa r.tasks (aac r.works w).walk).view.level ∧ (0 ≤ (aac r.works w).up → (aac r.works w).up = l)) { r with tasks := r.tasks.set t.toNat { aaa r.tasks t with view := { (aaa r.tasks t).view with level := l } }, works := r.works.set w.toNat { aac r.works w with up := l, last := ⟨11, w, t, o, l⟩ } } := by
  suffices h : RA r ⟨11, w, t, o, l⟩ ((aac r.works w).walk ≠ -1 ∧ alI (fun i => (aaa r.tasks i).view.parent) (aac r.works w).walk r.tasks.length t = true ∧ (aaa r.tasks t).view.level < l ∧ l ≤ (aaa r.tasks (aac r.works w).walk).view.level ∧ (0 ≤ (aac r.works w).up → (aac r.works w).up = l)) { r with tasks := r.tasks.set t.toNat { aaa r.tasks t with view := { (aaa r.tasks t).view with level := l } }, works := r.works.set w.toNat { aac r.works w with up := l } } from ae5 hw hR.wl hf h
  have hk := hR.stk w hw
  have hkk := hR.kid t ht
  unfold RA aaj aa3
  by_cases h3 : (aac r.works w).walk = -1
  · simp only [aar, Int.reduceEq, if_true, if_false, hw, ht, and_self, aaF, aaC, List.set_set, List.length_set, ac9, ads, ne_eq, not_true_eq_false, not_false_eq_true, true_and, and_true, decide_true, decide_false, reduceCtorEq, Bool.not_true, Bool.not_false, Bool.false_eq_true, Bool.not_eq_true', Bool.true_eq_false, h3]
    exact ⟨_, _, rfl, (fun h => nomatch h), (fun _ => (by simp))⟩
  have hwk := hwk h3
  have htl := hR.tl
  simp only [aar, Int.reduceEq, if_true, if_false, hw, ht, and_self, aaF, aaC, List.set_set, List.length_set, ac9, ads, ne_eq, not_true_eq_false, not_false_eq_true, true_and, and_true, decide_true, decide_false, reduceCtorEq, Bool.not_true, Bool.not_false, Bool.false_eq_true, Bool.not_eq_true', Bool.true_eq_false, h3, hwk]
  obtain ⟨z, hz⟩ := am8 (β := (Bool × Unit) × (SaV × Unit)) hrk h3 hR.tl r.tasks.length 18446744073709551616 t 0 ht hrn (by omega) (Int.le_refl _) (by omega)
  unfold dRF at hz
  rw [hz]
  by_cases hd : alI (fun i => (aaa r.tasks i).view.parent) (aac r.works w).walk r.tasks.length t = true
  · rw [if_pos hd, amC (fun _ => rfl)]
    simp only [hd, true_and]
    repeat' split
    all_goals (try simp only [aar, Bool.not_true, Bool.not_false, Bool.false_eq_true, if_true, if_false])
    all_goals first
      | exact ajS (by omega) rfl
      | exact ait (by omega)
  · rw [if_neg hd]
    exact ⟨_, _, rfl, (fun h => nomatch h), (fun _ => fun h => hd h.1)⟩
end
section
variable {r : SaV} {w t o l : Int}
theorem at9 {q : QuV} {c : Cfg} (hl : q.keys.length ≤ 1000000) : ∃ i : Nat, (0 < q.keys.length → i < q.keys.length ∧ ∀ j : Nat, j < q.keys.length → ¬ leK (aax q.keys (j : Int)) (aax q.keys (i : Int))) ∧
    aav q c ⟨13, w, t, o, l⟩ = if 0 < q.keys.length ∧ (aax q.keys (i : Int)).task = t then some ((true, ()), (⟨q.keys.take i ++ q.keys.drop (i + 1), q.count⟩, ())) else some ((false, ()), (q, ())) := by
  by_cases h : 0 < q.keys.length
  · obtain ⟨⟨⟨x, u⟩, q', u'⟩, h1, h2, h3, h4⟩ := arW h hl
    obtain rfl : q' = q := h2
    have h3 : 0 ≤ x ∧ x < (q'.keys.length : Int) := h3
    obtain ⟨i, rfl⟩ : ∃ i : Nat, x = (i : Int) := ⟨x.toNat, by omega⟩
    refine ⟨i, fun _ => ⟨by omega, h4⟩, ?_⟩
    unfold aav
    rw [if_neg (show ¬ (13 : Int) = 1 by decide), if_pos rfl, if_neg (by omega), h1, aar]
    dsimp only
    rw [if_pos h3]
    by_cases h5 : (aax q'.keys (i : Int)).task = t
    · have e1 : wi ((i : Int) + 1) = ((i + 1 : Nat) : Int) := abR (aaZ (by omega))
      have n1 : ((([] : List KyV).length + (q'.keys.take ((i : Int)).toNat).length : Nat) : Int) < 1000000000000 := by rw [List.length_take, List.length_nil]; omega
      have n2 : (((([] : List KyV) ++ (q'.keys.take ((i : Int)).toNat)).length + (q'.keys.drop (((i + 1 : Nat) : Int)).toNat).length : Nat) : Int) < 1000000000000 := by rw [List.nil_append, List.length_take, List.length_drop]; omega
      rw [if_neg (fun h => h h5), e1, if_pos (by omega), if_pos (by omega), if_pos n1, if_pos n2, if_pos ⟨h, h5⟩]
      rfl
    · rw [if_pos h5, if_neg (fun h => h5 h.2)]
  · refine ⟨0, fun h' => absurd h' h, ?_⟩
    unfold aav
    rw [if_neg (show ¬ (13 : Int) = 1 by decide), if_pos rfl, if_pos (by omega), if_neg (fun h' => h h'.1)]
theorem qR1 {q : QuV} {c : Cfg} (ho : 0 ≤ o ∧ o < (c.subs.length : Int)) (hl : q.keys.length ≤ 1000000) :
    aav q c ⟨1, w, t, o, l⟩ = if (q.keys.length : Int) < c.heap then some ((true, ()), (⟨q.keys ++ [⟨(acz c.subs o).deadline, q.count, t⟩], wi (q.count + 1)⟩, ())) else some ((false, ()), (q, ())) := by
  unfold aav
  rw [if_pos rfl]
  dsimp only
  rw [if_neg (show ¬ o < 0 by omega), if_neg (show ¬ (c.subs.length : Int) ≤ o by omega), aar]
  dsimp only
  by_cases h : (q.keys.length : Int) < c.heap
  · have n1 : ((([] : List KyV).length + q.keys.length : Nat) : Int) < 1000000000000 := by rw [List.length_nil]; omega
    have n2 : (((([] : List KyV) ++ q.keys).length + ([(⟨(acz c.subs o).deadline, q.count, t⟩ : KyV)] : List KyV).length : Nat) : Int) < 1000000000000 := by rw [List.nil_append, List.length_singleton]; omega
    rw [if_neg (by rw [decide_eq_true_eq]; omega), if_pos ho, if_pos n1, if_pos n2, if_pos h]; rfl
  · rw [if_pos (by rw [decide_eq_true_eq]; omega), if_neg h]
theorem at5 (hR : RO r) (hw : 0 ≤ w ∧ w < (r.works.length : Int)) (hq : r.queue.keys.length ≤ 1000000) (hf : aaf r ⟨13, w, t, o, l⟩ = some ((true, ()), (r, ()))) :
    ∃ i : Nat, (0 < r.queue.keys.length → i < r.queue.keys.length ∧ ∀ j : Nat, j < r.queue.keys.length → ¬ leK (aax r.queue.keys (j : Int)) (aax r.queue.keys (i : Int))) ∧
    RS r ⟨13, w, t, o, l⟩ (ah8 (aac r.works w).stack (aac r.works w).walk = true ∧ 0 < r.queue.keys.length ∧ (aax r.queue.keys (i : Int)).task = t)
      { r with works := r.works.set w.toNat { aac r.works w with last := ⟨13, w, t, o, l⟩ }, queue := ⟨r.queue.keys.take i ++ r.queue.keys.drop (i + 1), r.queue.count⟩ } := by
  obtain ⟨i, h1, h2⟩ := at9 (q := r.queue) (c := r.c) (w := w) (t := t) (o := o) (l := l) hq
  refine ⟨i, h1, ?_⟩
  suffices h : RA r ⟨13, w, t, o, l⟩ (ah8 (aac r.works w).stack (aac r.works w).walk = true ∧ 0 < r.queue.keys.length ∧ (aax r.queue.keys (i : Int)).task = t) { r with works := r.works.set w.toNat (aac r.works w), queue := ⟨r.queue.keys.take i ++ r.queue.keys.drop (i + 1), r.queue.count⟩ } from ae5 hw hR.wl hf h
  unfold RA aaj ah8
  simp only [aar, Int.reduceEq, if_true, if_false, hw, and_self, aaC, List.length_set, decide_false, Bool.false_eq_true, h2]
  by_cases h3 : ((aac r.works w).stack.length : Int) = 0
  · by_cases h4 : (aac r.works w).walk = -1
    · by_cases h5 : 0 < r.queue.keys.length ∧ (aax r.queue.keys (i : Int)).task = t
      · rw [if_pos h3, if_pos h4, if_pos h5]
        exact ⟨_, _, rfl, (fun _ => ⟨⟨by rw [if_pos h3]; exact decide_eq_true h4, h5⟩, rfl⟩), (fun h => nomatch h)⟩
      · rw [if_pos h3, if_pos h4, if_neg h5]
        exact ⟨_, _, rfl, (fun h => nomatch h), fun _ h => h5 h.2⟩
    · rw [if_pos h3, if_neg h4]
      exact ait (fun h => by have h := h.1; rw [if_pos h3, decide_eq_true_eq] at h; exact h4 h)
  · rw [if_neg h3]
    exact ait (fun h => by have h := h.1; rw [if_neg h3] at h; cases h)
theorem arm (hwc : w = r.c.workers) (hf : aaf r ⟨18, w, t, o, l⟩ = some ((true, ()), (r, ()))) : RS r ⟨18, w, t, o, l⟩ (0 ≤ o ∧ o < r.c.workers) r := by
  unfold RS aam aaj
  rw [hf]
  simp only [aar, Int.reduceEq, if_true, if_false, decide_false, Bool.false_eq_true, Bool.not_true]
  by_cases h1 : 0 ≤ o
  · by_cases h2 : o < r.c.workers
    · rw [if_pos h1, decide_eq_true h2, aar, if_neg (show ¬ (!true) = true by decide)]
      dsimp only
      rw [if_neg (by omega)]
      exact ajS ⟨h1, h2⟩ rfl
    · rw [if_pos h1, decide_eq_false h2, aar, if_pos (show (!false) = true by decide)]
      exact ait (fun h => h2 h.2)
  · rw [if_neg h1, aar, if_pos (show (!false) = true by decide)]
    exact ait (fun h => h1 h.1)
theorem arl {k : Int} {C : Prop} {ts : List TkV} {qu : QuV} {of : Int} (hk : k = 1 ∨ k = 2) (hf : aaf r ⟨k, w, t, o, l⟩ = some ((true, ()), (r, ())))
    (h : ∃ b q, aa4 r ⟨k, w, t, o, l⟩ = some ((b, ()), (q, ())) ∧ (b = true → w = r.c.workers ∧ C ∧ q = ⟨r.c, ts, r.works, qu, of⟩) ∧ (b = false → ¬ (w = r.c.workers ∧ C))) : RS r ⟨k, w, t, o, l⟩ (w = r.c.workers ∧ C) ⟨r.c, ts, r.works, qu, of⟩ := by
  obtain ⟨b, q, h1, h2, h3⟩ := h
  unfold RS aam aaj
  rw [hf, aar, if_neg (show ¬ (!true) = true by decide)]
  dsimp only
  have e : ((if k = 1 then some (decide (k = 1), ()) else some (decide (k = 2), ())) : Option (Bool × Unit)) = some (true, ()) := by
    rcases hk with rfl | rfl
    · rfl
    · rfl
  rw [e, aar, if_pos rfl, h1, aar, aar]
  cases b with
  | false => exact ⟨_, _, rfl, (fun h => nomatch h), h3⟩
  | true =>
    obtain ⟨h4, h5, rfl⟩ := h2 rfl
    rw [if_neg (show ¬ (!true) = true by decide)]
    dsimp only
    rw [if_neg (by omega)]
    exact ⟨_, _, rfl, fun _ => ⟨⟨h4, h5⟩, rfl⟩, (fun h => nomatch h)⟩
theorem auk {A C : Prop} {x y : SaV} (h1 : A) (h2 : C) (e : x = y) : ∃ b q, some ((true, ()), (x, ())) = some ((b, ()), (q, ())) ∧ (b = true → A ∧ C ∧ q = y) ∧ (b = false → ¬ (A ∧ C)) := ⟨_, _, rfl, fun _ => ⟨h1, h2, e⟩, (fun h => nomatch h)⟩
theorem aul {A C : Prop} {x y : SaV} (h : ¬ (A ∧ C)) : ∃ b q, some ((false, ()), (x, ())) = some ((b, ()), (q, ())) ∧ (b = true → A ∧ C ∧ q = y) ∧ (b = false → ¬ (A ∧ C)) := ⟨_, _, rfl, (fun h => nomatch h), fun _ => h⟩
theorem rk2 (hR : RO r) (hf : aaf r ⟨2, w, t, o, l⟩ = some ((true, ()), (r, ()))) :
    RS r ⟨2, w, t, o, l⟩ (w = r.c.workers ∧ o = r.offers ∧ o < (r.c.subs.length : Int) ∧ (l = 1 ∧ (r.queue.keys.length : Int) = r.c.heap ∨ l = 2 ∧ (r.queue.keys.length : Int) < r.c.heap ∧ wi (r.c.tasks - r.c.workers) ≤ (ada r.tasks : Int)))
      { r with offers := wi (r.offers + 1) } := by
  refine arl (.inr rfl) hf ?_
  have hkn := ajA (r := { r with offers := wi (r.offers + 1) }) hR.tl
  unfold aa4
  dsimp only
  by_cases h1 : w = r.c.workers
  rotate_left
  · rw [if_pos h1]
    exact ⟨_, _, rfl, (fun h => nomatch h), fun _ h => h1 h.1⟩
  rw [if_neg (fun h => h h1)]
  by_cases h2 : o = r.offers
  rotate_left
  · rw [if_pos h2]
    exact ⟨_, _, rfl, (fun h => nomatch h), fun _ h => h2 h.2.1⟩
  rw [if_neg (fun h => h h2)]
  by_cases h3 : o < (r.c.subs.length : Int)
  rotate_left
  · rw [decide_eq_true (by omega)]
    exact ⟨_, _, rfl, (fun h => nomatch h), fun _ h => h3 h.2.2.1⟩
  rw [decide_eq_false (by omega), aar, if_neg (show ¬ false = true by decide)]
  dsimp only
  rw [if_pos rfl]
  simp only [hkn, aar, if_true]
  repeat' split
  all_goals first
    | (refine ⟨_, _, rfl, fun h => ⟨h1, ⟨h2, h3, ?_⟩, rfl⟩, fun h h' => ?_⟩
       · have h := of_decide_eq_true h
         omega
       · have h := of_decide_eq_false h
         omega)
    | exact auk h1 ⟨h2, h3, by omega⟩ rfl
    | exact aul (fun h => by omega)
theorem rk1 (ht : 0 ≤ t ∧ t < (r.tasks.length : Int)) (hof : 0 ≤ r.offers) (hq : r.queue.keys.length ≤ 1000000) (hf : aaf r ⟨1, w, t, o, l⟩ = some ((true, ()), (r, ()))) :
    RS r ⟨1, w, t, o, l⟩ (w = r.c.workers ∧ o = r.offers ∧ o < (r.c.subs.length : Int) ∧ l = (acz r.c.subs o).level ∧ (aaa r.tasks t).view.phase = 0 ∧ (r.queue.keys.length : Int) < r.c.heap)
      ⟨r.c, r.tasks.set t.toNat ⟨⟨1, l, -1, -1, -1⟩, (acz r.c.subs o).prog, 0, []⟩, r.works, ⟨r.queue.keys ++ [⟨(acz r.c.subs o).deadline, r.queue.count, t⟩], wi (r.queue.count + 1)⟩, wi (r.offers + 1)⟩ := by
  refine arl (.inl rfl) hf ?_
  unfold aa4
  dsimp only
  by_cases h1 : w = r.c.workers
  rotate_left
  · rw [if_pos h1]
    exact ⟨_, _, rfl, (fun h => nomatch h), fun _ h => h1 h.1⟩
  rw [if_neg (fun h => h h1)]
  by_cases h2 : o = r.offers
  rotate_left
  · rw [if_pos h2]
    exact ⟨_, _, rfl, (fun h => nomatch h), fun _ h => h2 h.2.1⟩
  rw [if_neg (fun h => h h2)]
  by_cases h3 : o < (r.c.subs.length : Int)
  rotate_left
  · rw [decide_eq_true (by omega)]
    exact ⟨_, _, rfl, (fun h => nomatch h), fun _ h => h3 h.2.2.1⟩
  have ho : 0 ≤ o ∧ o < (r.c.subs.length : Int) := ⟨by omega, h3⟩
  rw [decide_eq_false (by omega), aar, if_neg (show ¬ false = true by decide)]
  unfold aaH
  simp only [Int.reduceEq, if_false, ho, and_self, if_true, ht, aaF, qR1 ho hq]
  by_cases h4 : l = (acz r.c.subs o).level
  rotate_left
  · rw [if_pos h4]
    exact ⟨_, _, rfl, (fun h => nomatch h), fun _ h => h4 h.2.2.2.1⟩
  rw [if_neg (fun h => h h4)]
  by_cases h5 : (aaa r.tasks t).view.phase = 0
  rotate_left
  · rw [if_pos h5]
    exact ⟨_, _, rfl, (fun h => nomatch h), fun _ h => h5 h.2.2.2.2.1⟩
  rw [if_neg (fun h => h h5)]
  by_cases h6 : (r.queue.keys.length : Int) < r.c.heap
  · rw [if_pos h6, aar, if_neg (show ¬ (!true) = true by decide), aar]
    exact ⟨_, _, rfl, (fun _ => ⟨h1, ⟨h2, (by first | exact h3 | exact True.intro), h4, h5, h6⟩, rfl⟩), (fun h => nomatch h)⟩
  · rw [if_neg h6, aar, if_pos (show (!false) = true by decide)]
    exact ⟨_, _, rfl, (fun h => nomatch h), fun _ h => h6 h.2.2.2.2.2⟩
end
end
section
open Go Go.RowKit
set_option maxRecDepth 10000
variable [Tb]
structure TR1 (n : Nat) (c : Cfg) (x : TkP) (y : TkV) : Prop where
  ph : x.ph = y.view.phase
  lv : x.lv = y.view.level
  pa : x.pa = y.view.parent
  wt : x.wt = y.view.other
  pc : x.at_ = y.pc
  kids : x.kids = y.kids
  kn : x.kids.length ≤ n
  at0 : 0 ≤ x.at_ ∧ x.at_ ≤ (x.prog.length : Int)
  prog : x.ph ≠ 0 → (0 ≤ y.prog ∧ y.prog < (c.progs.length : Int)) ∧ x.prog = atL [] c.progs y.prog
  pl : x.prog.length ≤ 1000000
  ot : x.ph ≠ 3 → x.wt = -1
  wr : x.ph = 3 → 0 ≤ x.wt ∧ x.wt < c.tasks
  wk : x.ph ≠ 2 → y.view.worker = -1
structure WR1 (n : Nat) (c : Cfg) (x : WkP) (y : WlV) : Prop where
  stack : x.stack = y.stack
  sn : x.stack.length ≤ n
  won : x.walks = true → x.walk = y.walk ∧ (0 ≤ y.walk ∧ y.walk < c.tasks) ∧ x.low = y.low ∧ x.up = y.up ∧ -1 ≤ y.up
  woff : x.walks = false → y.walk = -1
  sleeps : x.sleeps = y.sleeps
  last : x.last = y.last
structure QR (n : Nat) (x : CtP) (y : QuV) : Prop where
  s : Srt x.keys x.count
  c : x.count = y.count
  pm : List.Perm x.keys y.keys
  nb : (0 ≤ x.count ∧ x.count ≤ n) ∧ x.keys.length ≤ n
def RKo (ts : List TkV) (rk : Int → Nat) : Prop :=
  (∀ i, 0 ≤ i ∧ i < (ts.length : Int) → (aaa ts i).view.parent = -1 ∨ ((0 ≤ (aaa ts i).view.parent ∧ (aaa ts i).view.parent < (ts.length : Int)) ∧ (aaa ts (aaa ts i).view.parent).view.phase ≠ 0 ∧ rk (aaa ts i).view.parent < rk i)) ∧
  (∀ i, 0 ≤ i ∧ i < (ts.length : Int) → rk i < ts.length ∧ ((aaa ts i).view.phase ≠ 0 → rk i < ada ts))
structure BR (n : Nat) (p : SyP) (r : SaV) : Prop where
  c : r.c = p.c
  tl : (p.tasks.length : Int) = p.c.tasks
  tl2 : r.tasks.length = p.tasks.length
  tl3 : p.tasks.length ≤ 256
  wl : (p.works.length : Int) = p.c.workers + 1
  wl2 : (r.works.length : Int) = p.c.workers
  tk : ∀ i, 0 ≤ i ∧ i < (p.tasks.length : Int) → TR1 n p.c (aab p.tasks i) (aaa r.tasks i)
  wk : ∀ i, 0 ≤ i ∧ i < p.c.workers → WR1 n p.c (aad p.works i) (aac r.works i)
  cl : (aad p.works p.c.workers).stack = [] ∧ (aad p.works p.c.workers).sleeps = false
  of : r.offers = p.offers
  of0 : 0 ≤ p.offers ∧ p.offers ≤ n
  qu : QR n p.queue r.queue
  kn : p.known = (ada r.tasks : Int)
  st : ∀ w, 0 ≤ w ∧ w < p.c.workers → ∀ t ∈ (aac r.works w).stack, (0 ≤ t ∧ t < (p.tasks.length : Int)) ∧ (aaa r.tasks t).view.phase = 2 ∧ (aaa r.tasks t).view.worker = w
  nd : ∀ w, 0 ≤ w ∧ w < p.c.workers → (aac r.works w).stack.Nodup
  run : ∀ t, 0 ≤ t ∧ t < (p.tasks.length : Int) → (aaa r.tasks t).view.phase = 2 → (0 ≤ (aaa r.tasks t).view.worker ∧ (aaa r.tasks t).view.worker < p.c.workers) ∧ t ∈ (aac r.works (aaa r.tasks t).view.worker).stack
  rk : ∃ rk, RKo r.tasks rk
section
variable {n : Nat} {p : SyP} {r : SaV} {w t : Int}
theorem TR1.mono {c : Cfg} {x : TkP} {y : TkV} (h : TR1 n c x y) : TR1 (n + 1) c x y := { h with kn := Nat.le_succ_of_le h.kn }
theorem WR1.mono {c : Cfg} {x : WkP} {y : WlV} (h : WR1 n c x y) : WR1 (n + 1) c x y := { h with sn := Nat.le_succ_of_le h.sn }
theorem QR.mono {x : CtP} {y : QuV} (h : QR n x y) : QR (n + 1) x y := { h with nb := ⟨by have := h.nb.1; omega, Nat.le_succ_of_le h.nb.2⟩ }
theorem BR.mono (h : BR n p r) : BR (n + 1) p r := { h with tk := fun i hi => (h.tk i hi).mono, wk := fun i hi => (h.wk i hi).mono, qu := h.qu.mono, of0 := ⟨h.of0.1, by have := h.of0.2; omega⟩ }
theorem asC {α : Type} {d : α} {xs : List α} {v : α} {i j : Int} (h : 0 ≤ i ∧ i < (xs.length : Int)) (hj : 0 ≤ j) : atL d (xs.set i.toNat v) j = if j = i then v else atL d xs j := by
  by_cases e : j = i
  · subst e; rw [if_pos rfl]; exact anx h
  · rw [if_neg e]; exact ahg h.1 hj (fun h => e h.symm)
theorem asq {xs : List TkP} {v : TkP} {i j : Int} (h : 0 ≤ i ∧ i < (xs.length : Int)) (hj : 0 ≤ j) : aab (xs.set i.toNat v) j = if j = i then v else aab xs j := asC h hj
theorem app {xs : List WkP} {v : WkP} {i j : Int} (h : 0 ≤ i ∧ i < (xs.length : Int)) (hj : 0 ≤ j) : aad (xs.set i.toNat v) j = if j = i then v else aad xs j := asC h hj
theorem agJ {xs : List TkV} {v : TkV} {i j : Int} (h : 0 ≤ i ∧ i < (xs.length : Int)) (hj : 0 ≤ j) : aaa (xs.set i.toNat v) j = if j = i then v else aaa xs j := asC h hj
theorem anL {xs : List WlV} {v : WlV} {i j : Int} (h : 0 ≤ i ∧ i < (xs.length : Int)) (hj : 0 ≤ j) : aac (xs.set i.toNat v) j = if j = i then v else aac xs j := asC h hj
theorem BR.setW (h : BR n p r) (hw : 0 ≤ w ∧ w < p.c.workers) {x : WkP} {y : WlV} (k : WR1 n p.c x y) (hs : y.stack = (aac r.works w).stack) :
    BR n { p with works := p.works.set w.toNat x } { r with works := r.works.set w.toNat y } := by
  have hp : 0 ≤ w ∧ w < (p.works.length : Int) := by have := h.wl; omega
  have hr : 0 ≤ w ∧ w < (r.works.length : Int) := by have := h.wl2; omega
  have hst : ∀ i, 0 ≤ i → (aac (r.works.set w.toNat y) i).stack = (aac r.works i).stack := fun i hi => by
    rw [anL hr hi]
    split
    · rename_i e; subst e; exact hs
    · rfl
  exact { h with
    wl := (congrArg (fun (n : Nat) => (n : Int)) List.length_set).trans h.wl
    wl2 := (congrArg (fun (n : Nat) => (n : Int)) List.length_set).trans h.wl2
    wk := fun i hi => by
      show WR1 n p.c (aad (p.works.set w.toNat x) i) (aac (r.works.set w.toNat y) i)
      rw [app hp hi.1, anL hr hi.1]
      split
      · exact k
      · exact h.wk i hi
    cl := by
      show (aad (p.works.set w.toNat x) p.c.workers).stack = [] ∧ (aad (p.works.set w.toNat x) p.c.workers).sleeps = false
      rw [app hp (by have := h.wl2; omega), if_neg (by omega)]
      exact h.cl
    st := fun i hi t ht => h.st i hi t (by rw [← hst i hi.1]; exact ht)
    nd := fun i hi => by
      show (aac (r.works.set w.toNat y) i).stack.Nodup
      rw [hst i hi.1]; exact h.nd i hi
    run := fun t ht hp => by
      have h1 := h.run t ht hp
      refine ⟨h1.1, ?_⟩
      show t ∈ (aac (r.works.set w.toNat y) (aaa r.tasks t).view.worker).stack
      rw [hst _ h1.1.1]; exact h1.2 }
theorem BR.setC (h : BR n p r) (hw : w = p.c.workers) (h0 : 0 ≤ w) {x : WkP} (k : x.stack = [] ∧ x.sleeps = false) : BR n { p with works := p.works.set w.toNat x } r := by
  have hp : 0 ≤ w ∧ w < (p.works.length : Int) := by have := h.wl; omega
  exact { h with
    wl := (congrArg (fun (n : Nat) => (n : Int)) List.length_set).trans h.wl
    wk := fun i hi => by
      show WR1 n p.c (aad (p.works.set w.toNat x) i) (aac r.works i)
      have hi2 : i < p.c.workers := hi.2
      rw [app hp hi.1, if_neg (by omega)]
      exact h.wk i hi
    cl := by
      show (aad (p.works.set w.toNat x) p.c.workers).stack = [] ∧ (aad (p.works.set w.toNat x) p.c.workers).sleeps = false
      rw [app hp (by have := h.wl2; omega), if_pos hw.symm]
      exact k }
theorem BR.setT (h : BR n p r) (ht : 0 ≤ t ∧ t < (p.tasks.length : Int)) {x : TkP} {y : TkV} (k : TR1 n p.c x y) (h1 : y.view.phase = (aaa r.tasks t).view.phase) (h2 : y.view.worker = (aaa r.tasks t).view.worker) (h3 : y.view.parent = (aaa r.tasks t).view.parent) :
    BR n { p with tasks := p.tasks.set t.toNat x } { r with tasks := r.tasks.set t.toNat y } := by
  have hr : 0 ≤ t ∧ t < (r.tasks.length : Int) := by have := h.tl2; omega
  have e1 : ∀ i, 0 ≤ i → (aaa (r.tasks.set t.toNat y) i).view.phase = (aaa r.tasks i).view.phase := fun i hi => by
    rw [agJ hr hi]; split
    · rename_i e; subst e; exact h1
    · rfl
  have e2 : ∀ i, 0 ≤ i → (aaa (r.tasks.set t.toNat y) i).view.worker = (aaa r.tasks i).view.worker := fun i hi => by
    rw [agJ hr hi]; split
    · rename_i e; subst e; exact h2
    · rfl
  have e3 : ∀ i, 0 ≤ i → (aaa (r.tasks.set t.toNat y) i).view.parent = (aaa r.tasks i).view.parent := fun i hi => by
    rw [agJ hr hi]; split
    · rename_i e; subst e; exact h3
    · rfl
  exact { h with
    tl := (congrArg (fun (n : Nat) => (n : Int)) List.length_set).trans h.tl
    tl2 := (List.length_set ..).trans (h.tl2.trans (List.length_set ..).symm)
    tl3 := by rw [List.length_set]; exact h.tl3
    tk := fun i hi => by
      have hi : 0 ≤ i ∧ i < (p.tasks.length : Int) := by rw [List.length_set] at hi; exact hi
      show TR1 n p.c (aab (p.tasks.set t.toNat x) i) (aaa (r.tasks.set t.toNat y) i)
      rw [asq ht hi.1, agJ hr hi.1]
      split
      · exact k
      · exact h.tk i hi
    kn := by
      show p.known = (ada (r.tasks.set t.toNat y) : Int)
      rw [akp hr h1]; exact h.kn
    st := fun w hw i hi => by
      obtain ⟨q1, q2, q3⟩ := h.st w hw i hi
      exact ⟨by rw [List.length_set]; exact q1, (e1 i q1.1).trans q2, (e2 i q1.1).trans q3⟩
    run := fun i hi hp => by
      have hi : 0 ≤ i ∧ i < (p.tasks.length : Int) := by rw [List.length_set] at hi; exact hi
      have h4 := h.run i hi ((e1 i hi.1).symm.trans hp)
      show (0 ≤ (aaa (r.tasks.set t.toNat y) i).view.worker ∧ (aaa (r.tasks.set t.toNat y) i).view.worker < p.c.workers) ∧ i ∈ (aac r.works (aaa (r.tasks.set t.toNat y) i).view.worker).stack
      rw [e2 i hi.1]; exact h4
    rk := by
      obtain ⟨rk, q1, q2⟩ := h.rk
      refine ⟨rk, fun i hi => ?_, fun i hi => ?_⟩
      · have hi : 0 ≤ i ∧ i < (r.tasks.length : Int) := by rw [List.length_set] at hi; exact hi
        show (aaa (r.tasks.set t.toNat y) i).view.parent = -1 ∨ ((0 ≤ (aaa (r.tasks.set t.toNat y) i).view.parent ∧ (aaa (r.tasks.set t.toNat y) i).view.parent < ((r.tasks.set t.toNat y).length : Int)) ∧ (aaa (r.tasks.set t.toNat y) (aaa (r.tasks.set t.toNat y) i).view.parent).view.phase ≠ 0 ∧ rk (aaa (r.tasks.set t.toNat y) i).view.parent < rk i)
        rw [e3 i hi.1, List.length_set]
        rcases q1 i hi with q3 | ⟨q3, q4, q5⟩
        · exact .inl q3
        · refine .inr ⟨q3, ?_, q5⟩
          rw [e1 _ q3.1]; exact q4
      · have hi : 0 ≤ i ∧ i < (r.tasks.length : Int) := by rw [List.length_set] at hi; exact hi
        show rk i < (r.tasks.set t.toNat y).length ∧ ((aaa (r.tasks.set t.toNat y) i).view.phase ≠ 0 → rk i < ada (r.tasks.set t.toNat y))
        rw [e1 i hi.1, List.length_set, akp hr h1]
        exact q2 i hi }
theorem BR.setQ (h : BR n p r) {x : CtP} {y : QuV} {o : Int} (k : QR n x y) (ho : 0 ≤ o ∧ o ≤ n) : BR n { p with queue := x, offers := o } { r with queue := y, offers := o } :=
  { h with of := rfl, of0 := ho, qu := k }
end
end
end Go.Proofs.Ytkmkhldmflebkaa
