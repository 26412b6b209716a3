/- Plain facts on sorting by insertion, and on the choice of a victim. -/
import Derived.Test.YtkfkiaieeiodnaaSo4
import Derived.Test.YtkfkiaieeiodnaaSl9
namespace Go.Proofs.Ytkfkiaieeiodnaa
open Go Go.RowKit

def insAt (s : List Int) (x : Int) (j : Nat) : List Int := s.take j ++ x :: s.drop j
theorem insV_at {x : Int} : ∀ {s : List Int} {j : Nat}, j ≤ s.length → (∀ e ∈ s.take j, e ≤ x) → (∀ h : j < s.length, x < s[j]) → insV x s = insAt s x j
  | [], j, hj, _, _ => by
    obtain rfl : j = 0 := by simpa using hj
    rfl
  | y :: s, 0, _, _, h2 => by
    have := h2 (by simp)
    simp only [List.getElem_cons_zero] at this
    unfold insV insAt
    rw [if_neg (by omega)]; rfl
  | y :: s, j + 1, hj, h1, h2 => by
    have hy : y ≤ x := h1 y (by simp)
    unfold insV
    rw [if_pos hy, insV_at (j := j) (by simpa using hj) (fun e he => h1 e (by simp [he])) (fun h => by have := h2 (by simpa using h); simpa using this)]
    simp [insAt]
theorem insV_perm (x : Int) : ∀ s : List Int, (insV x s).Perm (x :: s)
  | [] => .refl _
  | y :: s => by
    unfold insV
    split
    · exact ((insV_perm x s).cons y).trans (.swap ..)
    · exact .refl _
theorem insV_srt {x : Int} : ∀ {s : List Int}, s.Pairwise (· ≤ ·) → (insV x s).Pairwise (· ≤ ·)
  | [], _ => by simp [insV]
  | y :: s, h => by
    obtain ⟨h1, h2⟩ := List.pairwise_cons.1 h
    unfold insV
    split
    · rename_i hy
      refine List.pairwise_cons.2 ⟨fun e he => ?_, insV_srt h2⟩
      rcases List.mem_cons.1 ((insV_perm x s).mem_iff.1 he) with e1 | e1
      · omega
      · exact h1 e e1
    · rename_i hy
      refine List.pairwise_cons.2 ⟨fun e he => ?_, h⟩
      rcases List.mem_cons.1 he with e1 | e1
      · omega
      · have := h1 e e1; omega
theorem sortV_snoc (l : List Int) (x : Int) : sortV (l ++ [x]) = insV x (sortV l) := by simp [sortV]
theorem foldl_ins_len : ∀ (l s : List Int), (l.foldl (fun s x => insV x s) s).length = s.length + l.length
  | [], s => by simp
  | x :: l, s => by
    rw [List.foldl_cons, foldl_ins_len l, (insV_perm x s).length_eq]; simp; omega
theorem sortV_len (l : List Int) : (sortV l).length = l.length := by unfold sortV; rw [foldl_ins_len]; simp
theorem foldl_ins_srt : ∀ (l s : List Int), s.Pairwise (· ≤ ·) → (l.foldl (fun s x => insV x s) s).Pairwise (· ≤ ·)
  | [], _, h => h
  | x :: l, s, h => by rw [List.foldl_cons]; exact foldl_ins_srt l _ (insV_srt h)
theorem sortV_srt (l : List Int) : (sortV l).Pairwise (· ≤ ·) := foldl_ins_srt l [] List.Pairwise.nil
theorem foldl_ins_perm : ∀ (l s : List Int), (l.foldl (fun s x => insV x s) s).Perm (s ++ l)
  | [], s => by simp
  | x :: l, s => by
    rw [List.foldl_cons]
    refine (foldl_ins_perm l _).trans ?_
    refine ((insV_perm x s).append_right l).trans ?_
    simpa using (List.perm_middle (l₁ := s) (a := x) (l₂ := l)).symm
theorem sortV_perm (l : List Int) : (sortV l).Perm l := by simpa [sortV] using foldl_ins_perm l []
theorem take_gi {l : List Int} {k : Nat} (h : k < l.length) : l.take (k + 1) = l.take k ++ [gi l k] := by
  rw [List.take_succ_eq_append_getElem h]; simp [gi, h]
theorem drop_gi {l : List Int} {k : Nat} (h : k < l.length) : l.drop k = gi l k :: l.drop (k + 1) := by
  rw [List.drop_eq_getElem_cons h]; simp [gi, h]
theorem insAt_len {s : List Int} {x : Int} {j : Nat} : (insAt s x j).length = s.length + 1 := by simp [insAt]; omega
theorem gi_insAt {s : List Int} {x : Int} {j : Nat} {t : List Int} (h : j ≤ s.length) : gi (insAt s x j ++ t) j = x := by
  unfold gi insAt
  simp [List.getD_eq_getElem?_getD, List.getElem?_append, h]
theorem gi_insAt_pred {s : List Int} {x : Int} {j : Nat} {t : List Int} (h : j ≤ s.length) (h0 : 0 < j) : gi (insAt s x j ++ t) (j - 1) = gi s (j - 1) := by
  unfold gi insAt
  have h1 : j - 1 < j := by omega
  have h2 : j - 1 < min j s.length := by omega
  simp [List.getD_eq_getElem?_getD, List.getElem?_append, h1, h2, List.getElem?_take, show j - 1 < s.length by omega]
theorem insAt_swap {s : List Int} {x : Int} {j : Nat} {t : List Int} (h : j ≤ s.length) (h0 : 0 < j) : ((insAt s x j ++ t).set j (gi s (j - 1))).set (j - 1) x = insAt s x (j - 1) ++ t := by
  obtain ⟨i, rfl⟩ : ∃ i, j = i + 1 := ⟨j - 1, by omega⟩
  simp only [Nat.add_sub_cancel]
  have hi : i < s.length := by omega
  have e1 : insAt s x (i + 1) = s.take i ++ gi s i :: x :: s.drop (i + 1) := by unfold insAt; rw [take_gi hi]; simp
  have e2 : insAt s x i = s.take i ++ x :: gi s i :: s.drop (i + 1) := by unfold insAt; rw [drop_gi hi]
  have hl : (s.take i).length = i := by simp; omega
  rw [e1, e2]
  rw [List.append_assoc, List.append_assoc]
  rw [List.set_append_right _ _ (by omega), List.set_append_right _ _ (by omega)]
  rw [hl, show i + 1 - i = 1 by omega, Nat.sub_self]
  rfl
theorem srt_take_le {s : List Int} {x : Int} {j : Nat} (hs : s.Pairwise (· ≤ ·)) (hj : j ≤ s.length) (h : j = 0 ∨ gi s (j - 1) ≤ x) : ∀ e ∈ s.take j, e ≤ x := by
  intro e he
  rcases h with h | h
  · subst h; simp at he
  · obtain ⟨i, hi⟩ := List.mem_iff_getElem?.1 he
    have hij : i < j := by have := (List.getElem?_eq_some_iff.1 hi).1; simp at this; omega
    rw [List.getElem?_take_of_lt hij] at hi
    have hil := (List.getElem?_eq_some_iff.1 hi).1
    have hie := (List.getElem?_eq_some_iff.1 hi).2
    have hjl : j - 1 < s.length := by omega
    have hle : s[i] ≤ s[j - 1] := by
      rcases Nat.lt_or_ge i (j - 1) with h1 | h1
      · exact List.pairwise_iff_getElem.1 hs i (j - 1) hil hjl h1
      · have : i = j - 1 := by omega
        subst this; omega
    have : gi s (j - 1) = s[j - 1] := by simp [gi, hjl]
    omega
theorem insAt_done {s : List Int} {x : Int} {j : Nat} (hs : s.Pairwise (· ≤ ·)) (hj : j ≤ s.length) (h : j = 0 ∨ gi s (j - 1) ≤ x) (hd : ∀ e ∈ s.drop j, x < e) : insAt s x j = insV x s :=
  (insV_at hj (srt_take_le hs hj h) (fun hlt => hd _ (List.mem_iff_getElem?.2 ⟨0, by simp [hlt]⟩))).symm
theorem drop_step {s : List Int} {x : Int} {j : Nat} (hj : j ≤ s.length) (h0 : 0 < j) (h : x < gi s (j - 1)) (hd : ∀ e ∈ s.drop j, x < e) : ∀ e ∈ s.drop (j - 1), x < e := by
  obtain ⟨i, rfl⟩ : ∃ i, j = i + 1 := ⟨j - 1, by omega⟩
  simp only [Nat.add_sub_cancel] at *
  intro e he
  rw [drop_gi (by omega)] at he
  rcases List.mem_cons.1 he with e1 | e1
  · omega
  · exact hd e e1
theorem sort_start {l : List Int} (h : 1 ≤ l.length) : l = sortV (l.take 1) ++ l.drop 1 := by
  cases l with
  | nil => simp at h
  | cons x l => simp [sortV, insV]
theorem sort_in {l : List Int} {k : Nat} (h : k < l.length) : sortV (l.take k) ++ l.drop k = insAt (sortV (l.take k)) (gi l k) k ++ l.drop (k + 1) := by
  have hl : (sortV (l.take k)).length = k := by rw [sortV_len]; simp; omega
  unfold insAt
  have e1 : (sortV (l.take k)).drop k = [] := List.drop_eq_nil_of_le (by omega)
  have e2 : (sortV (l.take k)).take k = sortV (l.take k) := List.take_of_length_le (by omega)
  rw [e1, e2, drop_gi h]; simp
theorem sort_out {l : List Int} {k j : Nat} (h : k < l.length) (hj : j ≤ k) (h1 : j = 0 ∨ gi (sortV (l.take k)) (j - 1) ≤ gi l k) (hd : ∀ e ∈ (sortV (l.take k)).drop j, gi l k < e) :
    insAt (sortV (l.take k)) (gi l k) j ++ l.drop (k + 1) = sortV (l.take (k + 1)) ++ l.drop (k + 1) := by
  have hl : (sortV (l.take k)).length = k := by rw [sortV_len]; simp; omega
  rw [insAt_done (sortV_srt _) (by omega) h1 hd, take_gi h, sortV_snoc]
/-- The victim so far and its level, over words. -/
def chFrom (bs : List Int) (s st : Int) : Nat → Int × Int
  | 0 => (-1, -1)
  | i + 1 =>
    if (drawM st bs.length + i) % bs.length ≠ s ∧ (chFrom bs s st i).2 < lenV (gi bs ((drawM st bs.length + i) % bs.length).toNat) - 1 then
      ((drawM st bs.length + i) % bs.length, lenV (gi bs ((drawM st bs.length + i) % bs.length).toNat) - 1) else chFrom bs s st i
theorem chFrom_yes {bs : List Int} {s st : Int} {i : Nat} (h1 : (drawM st bs.length + i) % bs.length ≠ s) (h2 : (chFrom bs s st i).2 < lenV (gi bs ((drawM st bs.length + i) % bs.length).toNat) - 1) :
    chFrom bs s st (i + 1) = ((drawM st bs.length + i) % bs.length, lenV (gi bs ((drawM st bs.length + i) % bs.length).toNat) - 1) := by
  rw [chFrom, if_pos ⟨h1, h2⟩]
theorem chFrom_no {bs : List Int} {s st : Int} {i : Nat} (h : ¬ ((drawM st bs.length + i) % bs.length ≠ s ∧ (chFrom bs s st i).2 < lenV (gi bs ((drawM st bs.length + i) % bs.length).toNat) - 1)) :
    chFrom bs s st (i + 1) = chFrom bs s st i := by
  rw [chFrom, if_neg h]
theorem ent_set {L : List SProp} {A : Option Addr} {m c : Nat} {k : IntKind} {xs : List Int} {i : Nat} {e : Int} : Ent (rowS A m c 1 ((xs.map (Value.int k)).set i (.int k e)) :: L) (rowS A m c 1 ((xs.set i e).map (Value.int k)) :: L) := Ent.eq (by rw [List.map_set])
theorem ent_row {L : List SProp} {A : Option Addr} {m c : Nat} {f : Int → Value} {xs ys : List Int} (h : xs = ys) : Ent (rowS A m c 1 (xs.map f) :: L) (rowS A m c 1 (ys.map f) :: L) := h ▸ Ent.refl
theorem ent_app {L : List SProp} {A : Option Addr} {m c : Nat} {f : Int → Value} {xs ys : List Int} : Ent (rowS A m c 1 (xs.map f ++ ys.map f) :: L) (rowS A m c 1 ((xs ++ ys).map f) :: L) := Ent.eq (by rw [List.map_append])
theorem piece0 {A : Option Addr} {cap sz : Nat} : (if cap = 0 then A else A.map fun a => a.add (0 * sz)) = A := by
  split
  · rfl
  · cases A with
    | none => rfl
    | some a => simp [Addr.add]
theorem evalr_cast {R : RList} {o : Operand} {k : IntKind} {e : Int} {l : Nat} (h : EvalR R o (.int k e)) (he : e = (l : Int)) : EvalR R o (.int k (l : Int)) := he ▸ h
end Go.Proofs.Ytkfkiaieeiodnaa
