/- The plain law of SoloOrder: the choice, step by step, takes what stands in the order. -/
import Derived.Test.YtkfkiaieeiodnaaSo25
namespace Go.Proofs.Ytkfkiaieeiodnaa
open Go Go.RowKit

/-- One entry more: what is ready and not yet there is wanted. -/
def wstep (p : Int → Bool) (w : List Int) (t : Int) : List Int := if p t = true ∧ t ∉ w then w ++ [t] else w
theorem fold_pre {p : Int → Bool} : ∀ (E w : List Int), ∃ r, E.foldl (wstep p) w = w ++ r
  | [], w => ⟨[], by simp⟩
  | t :: E, w => by
    rw [List.foldl_cons]
    by_cases hc : p t = true ∧ t ∉ w
    · have hs : wstep p w t = w ++ [t] := if_pos hc
      rw [hs]
      obtain ⟨r, h⟩ := fold_pre (p := p) E (w ++ [t])
      exact ⟨t :: r, by rw [h]; simp⟩
    · have hs : wstep p w t = w := if_neg hc
      rw [hs]
      exact fold_pre E w
theorem take_pre {w r : List Int} {i : Nat} (h : w.length ≤ i) : ∀ t ∈ w, t ∈ (w ++ r).take i := fun t ht => by
  rw [List.take_append]
  rw [List.take_of_length_le h]
  exact List.mem_append_left _ ht
theorem want_find {p : Int → Bool} : ∀ (E w : List Int) (i : Nat), w.length ≤ i → E.find? (fun t => p t && !((E.foldl (wstep p) w).take i).contains t) = (E.foldl (wstep p) w)[i]?
  | [], w, i, h => by simp [List.getElem?_eq_none h]
  | t :: E, w, i, h => by
    rw [List.foldl_cons, List.find?_cons]
    by_cases hc : p t = true ∧ t ∉ w
    · have hs : wstep p w t = w ++ [t] := if_pos hc
      rw [hs]
      obtain ⟨r, hr⟩ := fold_pre (p := p) E (w ++ [t])
      by_cases hi : i = w.length
      · subst hi
        have h1 : (E.foldl (wstep p) (w ++ [t])).take w.length = w := by rw [hr]; simp
        have h2 : (E.foldl (wstep p) (w ++ [t]))[w.length]? = some t := by rw [hr]; simp
        rw [h1, h2]
        simp [hc.1, hc.2]
      · have hm : t ∈ (E.foldl (wstep p) (w ++ [t])).take i := by rw [hr]; exact take_pre (by simp; omega) t (by simp)
        have e : (p t && !((E.foldl (wstep p) (w ++ [t])).take i).contains t) = false := by simp [hm]
        rw [e]
        exact want_find E (w ++ [t]) i (by simp; omega)
    · have hs : wstep p w t = w := if_neg hc
      rw [hs]
      obtain ⟨r, hr⟩ := fold_pre (p := p) E w
      have e : (p t && !((E.foldl (wstep p) w).take i).contains t) = false := by
        cases hp : p t with
        | false => rfl
        | true =>
          have ht : t ∈ w := Classical.byContradiction fun hn => hc ⟨hp, hn⟩
          have hm : t ∈ (E.foldl (wstep p) w).take i := by rw [hr]; exact take_pre h t ht
          simp [hm]
      rw [e]
      exact want_find E w i h
theorem last_find {p : Int → Bool} {xs : List Int} : (xs.filter p).getLast? = xs.reverse.find? p := by
  rw [List.getLast?_eq_head?_reverse, ← List.filter_reverse, List.head?_filter]
/-! ### The memory that is laid for one worker -/
abbrev dc : Cfg := deskC 1
structure OneOk (cs : List Int) : Prop where
  len : cs.length = (layCells dc).toNat
  wf : CWf cs
  two : gi cs 2 = 0
  ring : ∀ a, (13 ≤ a ∧ a ≤ 16) ∨ (19 ≤ a ∧ a ≤ 22) → 0 ≤ gi cs a ∧ gi cs a ≤ 5
theorem gi_set {cs : List Int} {i j : Nat} {x : Int} : gi (cs.set i x) j = if i = j ∧ j < cs.length then x else gi cs j := by
  unfold gi
  rw [List.getD_eq_getElem?_getD, List.getElem?_set]
  by_cases h : i = j
  · subst h
    by_cases hl : i < cs.length
    · simp [hl]
    · simp [hl]
  · simp [h]
theorem gi_set_ne {cs : List Int} {i j : Nat} {x : Int} (h : i ≠ j) : gi (cs.set i x) j = gi cs j := by rw [gi_set, if_neg (by omega)]
theorem layTab1 : layTab dc = 23 := by kernel_rfl
theorem layCells1 : layCells dc = 53 := by kernel_rfl
theorem topV1 (l : Int) : topV dc 0 l = 11 + l * 6 := by
  have e1 : layDeq dc = 11 := by kernel_rfl
  have e2 : dc.deque = 4 := by kernel_rfl
  unfold topV; rw [e1, e2]; omega
theorem OneOk.set {cs : List Int} (h : OneOk cs) {i : Nat} {x : Int} (hx : 0 ≤ x ∧ x ≤ 18446744073709551615) (h2 : i ≠ 2) (hr : (13 ≤ i ∧ i ≤ 16) ∨ (19 ≤ i ∧ i ≤ 22) → x ≤ 5) : OneOk (cs.set i x) :=
  ⟨by rw [List.length_set]; exact h.len, cwf_set h.wf hx, by rw [gi_set_ne h2]; exact h.two, fun a ha => by
    rw [gi_set]
    split
    · rename_i he; obtain ⟨rfl, _⟩ := he; exact ⟨hx.1, hr ha⟩
    · exact h.ring a ha⟩
theorem one_zero : OneOk (List.replicate (layCells dc).toNat 0) :=
  ⟨by simp, cwf_zero _, by rw [layCells1]; rfl, fun a _ => by have := cwf_zero (layCells dc).toNat a; unfold gi; rw [List.getD_eq_getElem?_getD, List.getElem?_replicate]; split <;> simp⟩
theorem one_putE {cs : List Int} (h : OneOk cs) (n : Int) : OneOk (putE dc cs n) := by
  have e1 : dc.workers = 1 := by kernel_rfl
  have e2 : dc.levels = 2 := by kernel_rfl
  have e3 : dc.deque = 4 := by kernel_rfl
  have e4 : dc.tasks = 6 := by kernel_rfl
  unfold putE
  simp only []
  rw [e1, e2, e3, e4, Int.emod_one, topV1]
  have a1 := Int.emod_nonneg (n / 4) (show (2 : Int) ≠ 0 by omega)
  have a2 := Int.emod_lt_of_pos (n / 4) (show (0 : Int) < 2 by omega)
  have a3 := Int.emod_nonneg (n / 8) (show (6 : Int) ≠ 0 by omega)
  have a4 := Int.emod_lt_of_pos (n / 8) (show (0 : Int) < 6 by omega)
  generalize cellAt cs (11 + n / 4 % 2 * 6 + 1) = b
  have a5 := Int.emod_nonneg b (show (4 : Int) ≠ 0 by omega)
  have a6 := Int.emod_lt_of_pos b (show (0 : Int) < 4 by omega)
  split
  · refine OneOk.set (h.set ⟨a3, by omega⟩ (by omega) (fun _ => by omega)) (wrapu_bd _) (by omega) (fun hh => by omega)
  · exact h
theorem one_foldE : ∀ (bs : List Nat) (cs : List Int), OneOk cs → OneOk (bs.foldl (fun (cs : List Int) (n : Nat) => putE dc cs (n : Int)) cs)
  | [], cs, h => h
  | b :: bs, cs, h => by rw [List.foldl_cons]; exact one_foldE bs _ (one_putE h _)
theorem one_putS {cs : List Int} (h : OneOk cs) (ss : List Nat) (t : Nat) : OneOk (putS dc ss cs t) := by
  unfold putS
  rw [layTab1]
  split
  · exact OneOk.set (h.set (by omega) (by omega) (fun hh => by omega)) (by omega) (by omega) (fun hh => by omega)
  · exact h.set (by omega) (by omega) (fun hh => by omega)
theorem one_foldS (ss : List Nat) : ∀ (l : List Nat) (cs : List Int), OneOk cs → OneOk (l.foldl (putS dc ss) cs)
  | [], cs, h => h
  | b :: bs, cs, h => by rw [List.foldl_cons]; exact one_foldS ss bs _ (one_putS h ss b)
theorem one_laid (bs ss : List Nat) : OneOk (laidV dc bs ss) := one_foldS ss _ _ (one_foldE _ _ one_zero)
/-! ### What a worker alone starts there -/
theorem one_good {cs : List Int} (h : OneOk cs) : goodB dc cs 0 = true := by
  have e0 : cfgErr dc = 0 := deskC_err (by omega)
  have e1 : dc.workers = 1 := by kernel_rfl
  refine goodB_true e0 ?_ (by omega)
  rw [h.len, layCells1]; rfl
theorem one_ent {cs : List Int} (h : OneOk cs) {l : Int} (hl : l = 0 ∨ l = 1) {t : Int} (ht : t ∈ entV dc cs 0 l) : 0 ≤ t ∧ t < 6 := by
  have e3 : dc.deque = 4 := by kernel_rfl
  unfold entV at ht
  split at ht
  · cases ht
  · obtain ⟨i, _, rfl⟩ := List.mem_map.1 ht
    unfold entAt
    rw [e3, topV1]
    generalize IntKind.u64.wrap (cellAt cs (11 + l * 6) + (i : Int)) = b
    have a5 := Int.emod_nonneg b (show (4 : Int) ≠ 0 by omega)
    have a6 := Int.emod_lt_of_pos b (show (0 : Int) < 4 by omega)
    have hr := h.ring (11 + l * 6 + 2 + b % 4).toNat (by omega)
    unfold cellAt
    rw [IntKind.wrap_i64]
    omega
theorem one_steal {cs : List Int} {d : Int} : stealV dc cs d 0 = (-1, -1) := by
  have e1 : dc.workers = 1 := by kernel_rfl
  unfold stealV
  rw [e1]
  show stealFrom dc cs d 0 1 = _
  rw [stealFrom]
  exact if_neg (by rw [e1, Int.emod_one]; simp)
theorem one_inj {cs : List Int} (h : OneOk cs) : injV dc cs = none := by
  refine injV_out (.inl ?_)
  unfold injN cellAt
  rw [show gi cs (2 : Int).toNat = 0 from h.two, IntKind.wrap_i64]
  omega
def ordE (cs : List Int) : List Int := (entV dc cs 0 1).reverse ++ (entV dc cs 0 0).reverse
theorem one_next {cs : List Int} (h : OneOk cs) (d : Int) : nextV dc cs d 0 = (ordE cs).find? (readyB dc cs) := by
  have e2 : dc.levels.toNat = 2 := by kernel_rfl
  have hb : bestV dc cs 0 = bestFrom dc cs 0 2 := by unfold bestV; rw [e2]
  have hb2 : bestFrom dc cs 0 2 = if (entV dc cs 0 1).filter (readyB dc cs) ≠ [] then ((entV dc cs 0 1).filter (readyB dc cs), 1) else bestFrom dc cs 0 1 := rfl
  have hb1 : bestFrom dc cs 0 1 = if (entV dc cs 0 0).filter (readyB dc cs) ≠ [] then ((entV dc cs 0 0).filter (readyB dc cs), 0) else ([], -1) := rfl
  unfold nextV
  rw [if_neg (by rw [one_good h]; simp), one_inj h, one_steal, hb, hb2]
  unfold ordE
  rw [List.find?_append, ← last_find, ← last_find]
  generalize (entV dc cs 0 1).filter (readyB dc cs) = F1 at *
  generalize (entV dc cs 0 0).filter (readyB dc cs) = F0 at *
  by_cases h1 : F1 = []
  · subst h1
    rw [show (if ([] : List Int) ≠ [] then (([] : List Int), (1 : Int)) else bestFrom dc cs 0 1) = bestFrom dc cs 0 1 from if_neg (by simp), hb1]
    by_cases h0 : F0 = []
    · subst h0; rfl
    · rw [if_pos h0, if_pos h0]; simp
  · rw [if_pos h1, if_pos h1]
    cases hx : F1.getLast? with
    | none => exact absurd (List.getLast?_eq_none_iff.1 hx) h1
    | some t => simp [hx]
/-! ### One task after another runs -/
def runCs (w : List Int) (cs : List Int) : List Int := w.foldl (fun cs t => cs.set (layTab dc + t * 5).toNat 2) cs
theorem run_ok : ∀ (w : List Int) (cs : List Int), OneOk cs → (∀ t ∈ w, 0 ≤ t ∧ t < 6) → OneOk (runCs w cs)
  | [], cs, h, _ => h
  | t :: w, cs, h, ht => by
    have h0 := ht t (by simp)
    exact run_ok w _ (h.set (by omega) (by rw [layTab1]; omega) (fun hh => by rw [layTab1] at hh; omega)) (fun x hx => ht x (by simp [hx]))
theorem run_low : ∀ (w : List Int) (cs : List Int) (a : Nat), a < 23 → (∀ t ∈ w, 0 ≤ t ∧ t < 6) → gi (runCs w cs) a = gi cs a
  | [], cs, a, _, _ => rfl
  | t :: w, cs, a, ha, ht => by
    have h0 := ht t (by simp)
    show gi (runCs w (cs.set (layTab dc + t * 5).toNat 2)) a = _
    rw [run_low w _ a ha (fun x hx => ht x (by simp [hx])), gi_set_ne (by rw [layTab1]; omega)]
theorem run_ent {w cs : List Int} (hw : ∀ t ∈ w, 0 ≤ t ∧ t < 6) {l : Int} (hl : l = 0 ∨ l = 1) : entV dc (runCs w cs) 0 l = entV dc cs 0 l := by
  have e3 : dc.deque = 4 := by kernel_rfl
  have hc : ∀ a : Int, a < 23 → cellAt (runCs w cs) a = cellAt cs a := fun a ha => run_low w cs _ (by omega) hw
  have hn : entN dc (runCs w cs) 0 l = entN dc cs 0 l := by
    unfold entN; rw [topV1, hc _ (by omega), hc _ (by omega)]
  have ha : ∀ t i, entAt dc (runCs w cs) 0 l t i = entAt dc cs 0 l t i := fun t i => by
    unfold entAt
    rw [e3, topV1]
    have a6 := Int.emod_lt_of_pos (IntKind.u64.wrap (t + (i : Int))) (show (0 : Int) < 4 by omega)
    rw [hc _ (by omega)]
  unfold entV
  rw [hn]
  split
  · rfl
  · rw [topV1, hc _ (by omega)]
    exact List.map_congr_left fun i _ => ha _ _
theorem run_state : ∀ (w : List Int) (cs : List Int) (t : Int), cs.length = 53 → 0 ≤ t ∧ t < 6 → (∀ t ∈ w, 0 ≤ t ∧ t < 6) → gi (runCs w cs) (23 + t * 5).toNat = if t ∈ w then 2 else gi cs (23 + t * 5).toNat
  | [], cs, t, _, _, _ => by simp [runCs]
  | u :: w, cs, t, hl, ht, hw => by
    have h0 := hw u (by simp)
    show gi (runCs w (cs.set (layTab dc + u * 5).toNat 2)) _ = _
    rw [run_state w _ t (by simpa using hl) ht (fun x hx => hw x (by simp [hx])), gi_set, layTab1]
    by_cases h1 : t ∈ w
    · simp [h1]
    · by_cases h2 : t = u
      · subst h2
        rw [if_neg h1, if_pos ⟨rfl, by omega⟩, if_pos (by simp)]
      · rw [if_neg h1, if_neg (by omega), if_neg (by simp [h1, h2])]
theorem run_ready {w cs : List Int} (h : OneOk cs) (hw : ∀ t ∈ w, 0 ≤ t ∧ t < 6) {t : Int} (ht : 0 ≤ t ∧ t < 6) : readyB dc (runCs w cs) t = (readyB dc cs t && !w.contains t) := by
  have e4 : dc.tasks = 6 := by kernel_rfl
  have hs := run_state w cs t (by rw [h.len, layCells1]; rfl) ht hw
  unfold readyB cellAt
  rw [layTab1, e4, hs]
  by_cases h1 : t ∈ w
  · simp [h1]
  · simp [h1]
theorem find_congr {p q : Int → Bool} : ∀ (E : List Int), (∀ t ∈ E, p t = q t) → E.find? p = E.find? q
  | [], _ => rfl
  | t :: E, h => by rw [List.find?_cons, List.find?_cons, h t (by simp), find_congr E (fun x hx => h x (by simp [hx]))]
theorem ord_in {cs : List Int} (h : OneOk cs) : ∀ t ∈ ordE cs, 0 ≤ t ∧ t < 6 := fun t ht => by
  unfold ordE at ht
  rcases List.mem_append.1 ht with h1 | h1
  · exact one_ent h (.inr rfl) (List.mem_reverse.1 h1)
  · exact one_ent h (.inl rfl) (List.mem_reverse.1 h1)
theorem fold_mem {p : Int → Bool} : ∀ (E w : List Int) (t : Int), t ∈ E.foldl (wstep p) w → t ∈ w ∨ t ∈ E
  | [], w, t, h => .inl h
  | u :: E, w, t, h => by
    rw [List.foldl_cons] at h
    rcases fold_mem E _ t h with h1 | h1
    · unfold wstep at h1
      split at h1
      · rcases List.mem_append.1 h1 with h2 | h2
        · exact .inl h2
        · exact .inr (by simp at h2; simp [h2])
      · exact .inl h1
    · exact .inr (by simp [h1])
def wantV (cs : List Int) : List Int := (ordE cs).foldl (wstep (readyB dc cs)) []
theorem want_in {cs : List Int} (h : OneOk cs) : ∀ t ∈ wantV cs, 0 ≤ t ∧ t < 6 := fun t ht => by
  rcases fold_mem _ _ t ht with h1 | h1
  · cases h1
  · exact ord_in h t h1
/-- The plain law: the choice takes what stands in the order. -/
theorem order_law {cs : List Int} (h : OneOk cs) (d : Int) (i : Nat) : nextV dc (runCs ((wantV cs).take i) cs) d 0 = (wantV cs)[i]? := by
  have hw : ∀ t ∈ (wantV cs).take i, 0 ≤ t ∧ t < 6 := fun t ht => want_in h t (List.mem_of_mem_take ht)
  rw [one_next (run_ok _ _ h hw)]
  have he : ordE (runCs ((wantV cs).take i) cs) = ordE cs := by
    unfold ordE; rw [run_ent hw (.inr rfl), run_ent hw (.inl rfl)]
  rw [he, find_congr (q := fun t => readyB dc cs t && !((wantV cs).take i).contains t) _ (fun t ht => run_ready h hw (ord_in h t ht))]
  exact want_find (p := readyB dc cs) (ordE cs) [] i (by simp)
end Go.Proofs.Ytkfkiaieeiodnaa
