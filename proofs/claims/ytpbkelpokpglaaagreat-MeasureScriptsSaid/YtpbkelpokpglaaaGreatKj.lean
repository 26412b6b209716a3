/- Rows of things each of which holds a list of numbers that is only read. No program occurs here. The reference's data: memories, records, frames, events; how they lie; words for what its functions answer. No program occurs here. -/
import Derived.Test.YtpbkelpokpglaaaGreatKi
set_option linter.all false
namespace Go.Proofs.YtpbkelpokpglaaaGreat
section
open Go Go.RowKit
theorem pts_join {b o : Nat} {xs ys : List Value} {h k : Hp} (p1 : pts b o xs h) (p2 : pts b (o + xs.length) ys k) (a : apart h k) : pts b o (xs ++ ys) (join h k) := fun i v hi => by
  unfold join
  rcases Nat.lt_or_ge i xs.length with h1 | h1
  · rw [List.getElem?_append_left h1] at hi
    rw [p1 i v hi]
  · rw [List.getElem?_append_right h1] at hi
    have := p2 _ v hi
    rw [Nat.add_assoc, Nat.add_sub_cancel' h1] at this
    rcases a b (o + i) with e | e | ⟨u, _, e⟩
    · rw [e]; exact this
    · rw [e] at this; cases this
    · rw [e] at this; cases this
theorem pts_split {b o : Nat} {xs ys : List Value} {h : Hp} (p : pts b o (xs ++ ys) h) : ∃ h1 h2, apart h1 h2 ∧ h = join h1 h2 ∧ pts b o xs h1 ∧ pts b (o + xs.length) ys h2 := by
  have p2 := pts_append p
  refine ⟨fun b' o' => if b' = b ∧ o' < o + xs.length then h b' o' else none, fun b' o' => if b' = b ∧ o' < o + xs.length then none else h b' o', fun b' o' => ?_, ?_, fun i v hi => ?_, fun i v hi => ?_⟩
  · by_cases hc : b' = b ∧ o' < o + xs.length
    · simp only [if_pos hc]; exact .inr (.inl rfl)
    · simp only [if_neg hc]; exact .inl rfl
  · funext b' o'
    unfold join
    by_cases hc : b' = b ∧ o' < o + xs.length
    · simp only [if_pos hc]; cases h b' o' <;> rfl
    · simp only [if_neg hc]
  · have hlt := (List.getElem?_eq_some_iff.1 hi).1
    simp only [true_and]
    rw [if_pos (by omega)]
    exact p2.1 i v hi
  · have : ¬ (b = b ∧ o + xs.length + i < o + xs.length) := by omega
    show (if b = b ∧ o + xs.length + i < o + xs.length then none else h b (o + xs.length + i)) = _
    rw [if_neg this]
    exact p2.2 i v hi
theorem pts_two {b o : Nat} {xs ys : List Value} {L : List SProp} : Ent (pts b o (xs ++ ys) :: L) (pts b o xs :: pts b (o + xs.length) ys :: L) := fun h s => by
  obtain ⟨k1, k2, a, e, hA, hL⟩ := s
  obtain ⟨h1, h2, a', e', p1, p2⟩ := pts_split hA
  subst e'
  have a2 := (apart_join2 a').1 a
  exact ⟨h1, join h2 k2, apart_comm ((apart_join2 a2.2).2 ⟨apart_comm a', apart_comm a2.1⟩), by rw [e, join_assoc], p1, h2, k2, a2.2, rfl, p2, hL⟩
theorem pts_one {b o o' : Nat} {xs ys : List Value} {L : List SProp} (ho : o + xs.length = o') : Ent (pts b o xs :: pts b o' ys :: L) (pts b o (xs ++ ys) :: L) := fun h s => by
  subst ho
  obtain ⟨k1, k2, a, e, hA, k3, k4, a', e', hB, hL⟩ := s
  subst e'
  have a1 := (apart_join2 a').1 (apart_comm a)
  exact ⟨join k1 k3, k4, (apart_join2 (apart_comm a1.1)).2 ⟨apart_comm a1.2, a'⟩, by rw [e, join_assoc], pts_join hA hB (apart_comm a1.1), hL⟩
section
variable {α : Type} (enc : α → Option Addr → Nat → List Value) (lst : α → List Int) (sz : Nat)
def itN (b o : Nat) (x : α) : Option Addr × Nat → List SProp := fun p => [pts b o (enc x p.1 p.2), roS encInt 1 p.1 p.2 (lst x)]
def itS (b o : Nat) (x : α) : SProp := exL (itN enc lst b o x)
def itsS (b : Nat) : Nat → List α → List SProp
  | _, [] => []
  | o, x :: xs => itS enc lst b o x :: itsS b (o + sz) xs
def rowI (A : Option Addr) (c : Nat) (xs : List α) : SProp := fun h => xs.length ≤ c ∧ c ≤ maxLen ∧ ((A = none ∧ c = 0) ∨ ∃ b o spare, A = some ⟨b, o, none⟩ ∧ spare.length = (c - xs.length) * sz ∧ star (itsS enc lst sz b o xs ++ [pts b (o + xs.length * sz) spare]) h)
def holeI (b o c : Nat) (xs : List α) (i : Nat) : SProp := fun h => xs.length ≤ c ∧ c ≤ maxLen ∧ ∃ spare, spare.length = (c - xs.length) * sz ∧ star (itsS enc lst sz b o (xs.take i) ++ (itsS enc lst sz b (o + (i + 1) * sz) (xs.drop (i + 1)) ++ [pts b (o + xs.length * sz) spare])) h
end
section
variable {α : Type} {enc : α → Option Addr → Nat → List Value} {lst : α → List Int} {sz : Nat}
variable {r : Option Nat} {P : Program} {ops : Array Oper} {Q : Exit → Act → World → Prop} {n B : Nat} {W : World} {R R' : RList} {L L' M : List SProp} {v : Value} {x y z : Operand}
  {d : Option Tmp} {ty : TypeId} {ps : String} {af : Array Edge} {g : Option (Nat × Bool)} {T T' : TypeId} {A : Option Addr} {c i : Nat} {xs : List α}
theorem itsS_app (b : Nat) : ∀ (o : Nat) (xs ys : List α), itsS enc lst sz b o (xs ++ ys) = itsS enc lst sz b o xs ++ itsS enc lst sz b (o + xs.length * sz) ys
  | o, [], ys => by simp [itsS]
  | o, x :: xs, ys => by
    simp only [List.cons_append, itsS, itsS_app b (o + sz) xs ys, List.length_cons]
    rw [show o + sz + xs.length * sz = o + (xs.length + 1) * sz by rw [Nat.add_mul]; omega]
theorem itsS_at (b o : Nat) (hi : i < xs.length) (y : α) : (itsS enc lst sz b o (xs.set i y)).Perm (itS enc lst b (o + i * sz) y :: (itsS enc lst sz b o (xs.take i) ++ itsS enc lst sz b (o + (i + 1) * sz) (xs.drop (i + 1)))) := by
  rw [List.set_eq_take_append_cons_drop, if_pos hi, itsS_app]
  have hl : (xs.take i).length = i := by simp; omega
  rw [hl]
  simp only [itsS]
  rw [show o + i * sz + sz = o + (i + 1) * sz by rw [Nat.add_mul]; omega]
  exact List.perm_middle
theorem set_same (hi : i < xs.length) : xs.set i xs[i] = xs := by simp
theorem focus_ex {w : World} (s : Sat B w (rowI enc lst sz A c xs :: L)) (hi : i < xs.length) : ∃ b o, A = some ⟨b, o, none⟩ ∧ Sat B w (itS enc lst b (o + i * sz) xs[i] :: holeI enc lst sz b o c xs i :: L) := by
  obtain ⟨h, H, k1, k2, a, e, ⟨h1, h2, h3⟩, hL⟩ := s
  rcases h3 with ⟨_, h3⟩ | ⟨b, o, spare, rfl, h4, h5⟩
  · omega
  · refine ⟨b, o, rfl, h, H, ?_⟩
    have p := (itsS_at (enc := enc) (lst := lst) (sz := sz) b o hi xs[i]).append_right [pts b (o + xs.length * sz) spare]
    rw [set_same hi] at p
    rw [List.cons_append] at p
    obtain ⟨q1, q2, a', e', s1, s2⟩ := star_perm p h5
    subst e'
    have a2 := (apart_join2 a').1 a
    exact ⟨q1, join q2 k2, apart_comm ((apart_join2 a2.2).2 ⟨apart_comm a', apart_comm a2.1⟩), by rw [e, join_assoc], s1, q2, k2, a2.2, rfl, ⟨h1, h2, spare, h4, by simpa using s2⟩, hL⟩
theorem unfocus {b o : Nat} {y : α} (hi : i < xs.length) : Ent (itS enc lst b (o + i * sz) y :: holeI enc lst sz b o c xs i :: L) (rowI enc lst sz (some ⟨b, o, none⟩) c (xs.set i y) :: L) := fun h s => by
  obtain ⟨k1, k2, a, e, hA, k3, k4, a', e', ⟨h1, h2, spare, h4, h5⟩, hL⟩ := s
  subst e'
  have a1 := (apart_join2 a').1 (apart_comm a)
  refine ⟨join k1 k3, k4, (apart_join2 (apart_comm a1.1)).2 ⟨apart_comm a1.2, a'⟩, by rw [e, join_assoc], ⟨by simpa using h1, h2, .inr ⟨b, o, spare, rfl, by simpa using h4, ?_⟩⟩, hL⟩
  have p := (itsS_at (enc := enc) (lst := lst) (sz := sz) b o hi y).append_right [pts b (o + xs.length * sz) spare]
  rw [List.length_set]
  refine star_perm p.symm ?_
  exact ⟨k1, k3, apart_comm a1.1, rfl, hA, by simpa using h5⟩
theorem rt_focus {l : List Oper} (i : Nat) (p : Pick L (rowI enc lst sz A c xs) M) (hi : i < xs.length) (k : ∀ b o, A = some ⟨b, o, none⟩ → RT r P ops Q n B W l R (itS enc lst b (o + i * sz) xs[i] :: holeI enc lst sz b o c xs i :: M)) : RT r P ops Q n B W l R L := fun a w s => by
  obtain ⟨b, o, e, hs⟩ := focus_ex (s.sat.perm p.perm) hi
  exact k b o e a w ⟨s.regs, s.below, s.lo, hs⟩
theorem at_focus {listed : Array Bool} {q : Nat} (i : Nat) (p : Pick L (rowI enc lst sz A c xs) M) (hi : i < xs.length) (k : ∀ b o, A = some ⟨b, o, none⟩ → AT P ops Q n B W listed q R (itS enc lst b (o + i * sz) xs[i] :: holeI enc lst sz b o c xs i :: M)) : AT P ops Q n B W listed q R L := fun a w s => by
  obtain ⟨b, o, e, hs⟩ := focus_ex (s.sat.perm p.perm) hi
  exact k b o e a w ⟨s.regs, s.below, s.lo, hs⟩
theorem st_focus {listed : Array Bool} {q j : Nat} (i : Nat) (p : Pick L (rowI enc lst sz A c xs) M) (hi : i < xs.length) (k : ∀ b o, A = some ⟨b, o, none⟩ → ST P ops Q n B W listed q R (itS enc lst b (o + i * sz) xs[i] :: holeI enc lst sz b o c xs i :: M) j) : ST P ops Q n B W listed q R L j := fun a w s => by
  obtain ⟨b, o, e, hs⟩ := focus_ex (s.sat.perm p.perm) hi
  exact k b o e a w ⟨s.regs, s.below, s.lo, hs⟩
/-- The cells of such a row, flat. -/
abbrev flatQ (enc : α → Option Addr → Nat → List Value) (qs : List (α × (Option Addr × Nat))) : List Value := qs.flatMap fun q => enc q.1 q.2.1 q.2.2
def heldQ (lst : α → List Int) (qs : List (α × (Option Addr × Nat))) (u : World) : Prop := ∀ q ∈ qs, Sl encInt 1 u u.heap.size q.2.1 (lst q.1) ∧ (lst q.1).length ≤ q.2.2
theorem its_flat (henc : ∀ x A c, (enc x A c).length = sz) {b : Nat} : ∀ (xs : List α) (o : Nat) (M : List SProp) (h : Hp), star (itsS enc lst sz b o xs ++ M) h → ∃ qs : List (α × (Option Addr × Nat)), qs.map (·.1) = xs ∧ star (pts b o (flatQ enc qs) :: lookS (heldQ lst qs) :: M) h
  | [], o, M, h, s => ⟨[], rfl, by
    have s1 : star (lookS (heldQ lst []) :: M) h := (look_true.trans (Ent.cons (look_mono fun _ _ => fun q hq => by cases hq) Ent.refl)) h s
    exact ⟨fun _ _ => none, h, fun _ _ => .inl rfl, by funext x y; rfl, fun i v hi => by simp at hi, s1⟩⟩
  | x :: xs, o, M, h, s => by
    obtain ⟨k1, k2, a, e, ⟨p, k3, k4, a', e', hp, k5, k6, a'', e'', hro, _⟩, hL⟩ := s
    obtain ⟨qs, hq, s2⟩ := its_flat henc xs (o + sz) M k2 hL
    refine ⟨(x, p) :: qs, by simp [hq], ?_⟩
    have s3 : star (pts b o (enc x p.1 p.2) :: roS encInt 1 p.1 p.2 (lst x) :: pts b (o + sz) (flatQ enc qs) :: lookS (heldQ lst qs) :: M) h := by
      have : star ([pts b o (enc x p.1 p.2), roS encInt 1 p.1 p.2 (lst x)] ++ (pts b (o + sz) (flatQ enc qs) :: lookS (heldQ lst qs) :: M)) h :=
        star_append.2 ⟨k1, k2, a, e, ⟨k3, k4, a', e', hp, k5, k6, a'', e'', hro, trivial⟩, s2⟩
      exact this
    have s4 := star_tail (fun _ => star_swap) s3
    have s5 := pts_one (by rw [henc]) h s4
    refine star_tail (fun k hk => ?_) s5
    refine star_head (look_mono fun u hu => ?_) (look_and k hk)
    intro q hq'
    rcases List.mem_cons.1 hq' with e1 | e1
    · subst e1; exact hu.1
    · exact hu.2 q e1
theorem flat_its (henc : ∀ x A c, (enc x A c).length = sz) {b : Nat} : ∀ (qs : List (α × (Option Addr × Nat))) (o : Nat) (M : List SProp) (h : Hp), star (pts b o (flatQ enc qs) :: lookS (heldQ lst qs) :: M) h → star (itsS enc lst sz b o (qs.map (·.1)) ++ M) h
  | [], o, M, h, s => Ent.drop h (Ent.drop h s)
  | (x, p) :: qs, o, M, h, s => by
    have s1 := pts_two (xs := enc x p.1 p.2) (ys := flatQ enc qs) h s
    rw [henc] at s1
    have s2 := star_tail (fun k hk => star_tail (fun k hk => look_dup k hk) hk) s1
    have s3 : star (pts b o (enc x p.1 p.2) :: roS encInt 1 p.1 p.2 (lst x) :: pts b (o + sz) (flatQ enc qs) :: lookS (heldQ lst qs) :: M) h := by
      refine star_tail (fun k hk => star_swap ?_) s2
      refine star_tail (fun k hk => ?_) hk
      refine star_head (look_mono fun u hu => hu (x, p) (List.mem_cons_self ..)) (star_tail (fun k hk => star_head (look_mono fun u hu => fun q hq => hu q (List.mem_cons_of_mem _ hq)) hk) hk)
    have s4 : star ([pts b o (enc x p.1 p.2), roS encInt 1 p.1 p.2 (lst x)] ++ (pts b (o + sz) (flatQ enc qs) :: lookS (heldQ lst qs) :: M)) h := s3
    obtain ⟨k1, k2, a, e, h1, h2⟩ := star_append.1 s4
    exact ⟨k1, k2, a, e, ⟨p, h1⟩, flat_its henc qs (o + sz) M k2 h2⟩
theorem flatQ_len (henc : ∀ x A c, (enc x A c).length = sz) : ∀ qs : List (α × (Option Addr × Nat)), (flatQ enc qs).length = qs.length * sz
  | [] => by simp
  | q :: qs => by
    have := flatQ_len henc qs
    simp only [flatQ, List.flatMap_cons, List.length_append, List.length_cons, henc] at *
    rw [this, Nat.add_mul]; omega
theorem rowI_flat (henc : ∀ x A c, (enc x A c).length = sz) {h : Hp} (s : star (rowI enc lst sz A c xs :: L) h) : ∃ qs : List (α × (Option Addr × Nat)), qs.map (·.1) = xs ∧ star (rowS A xs.length c sz (flatQ enc qs) :: lookS (heldQ lst qs) :: L) h := by
  obtain ⟨k1, k2, a, e, ⟨h1, h2, h3⟩, hL⟩ := s
  rcases h3 with ⟨rfl, rfl⟩ | ⟨b, o, spare, rfl, h4, h5⟩
  · have : xs = [] := List.length_eq_zero_iff.1 (by omega)
    subst this
    refine ⟨[], rfl, ?_⟩
    have s1 : star L h := (Ent.drop (A := starS []) ) h ⟨k1, k2, a, e, trivial, hL⟩
    exact (ent_nil sz) h ((look_true.trans (Ent.cons (look_mono fun _ _ => fun q hq => by cases hq) Ent.refl)) h s1)
  · obtain ⟨qs, hq, s1⟩ := its_flat henc xs o _ k1 h5
    refine ⟨qs, hq, ?_⟩
    have hl : qs.length = xs.length := by rw [← hq]; simp
    have s2 := star_tail (fun _ => star_swap) s1
    have s3 := pts_one (by rw [flatQ_len henc, hl]) k1 s2
    obtain ⟨q1, q2, a', e', p1, hL'⟩ := s3
    have s4 : star ([rowS (some ⟨b, o, none⟩) xs.length c sz (flatQ enc qs), lookS (heldQ lst qs)] ++ L) h := star_append.2 ⟨k1, k2, a, e, ⟨q1, q2, a', e', ⟨by rw [flatQ_len henc, hl], h1, h2, .inr ⟨b, o, spare, rfl, h4, p1⟩⟩, hL'⟩, hL⟩
    exact s4
theorem flat_rowI (henc : ∀ x A c, (enc x A c).length = sz) {qs : List (α × (Option Addr × Nat))} {m : Nat} (hm : qs.length = m) : Ent (rowS A m c sz (flatQ enc qs) :: lookS (heldQ lst qs) :: L) (rowI enc lst sz A c (qs.map (·.1)) :: L) := fun h s => by
  subst hm
  obtain ⟨k1, k2, a, e, ⟨r1, r2, r3, r4⟩, hL⟩ := s
  rcases r4 with ⟨rfl, rfl⟩ | ⟨b, o, spare, rfl, r5, rp⟩
  · have h0 : qs = [] := List.length_eq_zero_iff.1 (by omega)
    subst h0
    have s0 : star (lookS (heldQ lst ([] : List (α × (Option Addr × Nat)))) :: L) h := (Ent.drop (A := starS [])) h ⟨k1, k2, a, e, trivial, hL⟩
    have s1 : star L h := Ent.drop h s0
    exact ⟨fun _ _ => none, h, fun _ _ => .inl rfl, by funext x y; rfl, ⟨by simp, r3, .inl ⟨rfl, rfl⟩⟩, s1⟩
  · have s1 : star (pts b o (flatQ enc qs ++ spare) :: lookS (heldQ lst qs) :: L) h := ⟨k1, k2, a, e, rp, hL⟩
    have s2 := pts_two h s1
    rw [flatQ_len henc] at s2
    have s3 := star_tail (fun _ => star_swap) s2
    have s4 := flat_its henc qs o _ h s3
    have s5 : star ((itsS enc lst sz b o (qs.map (·.1)) ++ [pts b (o + qs.length * sz) spare]) ++ L) h := by simpa using s4
    obtain ⟨q1, q2, a', e', p1, p2⟩ := star_append.1 s5
    exact ⟨q1, q2, a', e', ⟨by simpa using r2, r3, .inr ⟨b, o, spare, rfl, by simpa using r5, by simpa using p1⟩⟩, p2⟩
/-- The last one is taken off. -/
theorem rowI_pop (henc : ∀ x A c, (enc x A c).length = sz) {x : α} : Ent (rowI enc lst sz A c (xs ++ [x]) :: L) (rowI enc lst sz A c xs :: L) := fun h s => by
  obtain ⟨qs, hq, s1⟩ := rowI_flat henc s
  obtain ⟨qs', q, rfl⟩ : ∃ qs' q, qs = qs' ++ [q] := by
    rcases List.eq_nil_or_concat qs with e | ⟨l, q, e⟩
    · subst e; simp at hq
    · exact ⟨l, q, by simpa using e⟩
  have hq' : qs'.map (·.1) = xs := by
    rw [List.map_append] at hq
    exact (List.append_inj' hq rfl).1
  have hl : qs'.length = xs.length := by rw [← hq']; simp
  rw [← hq']
  refine flat_rowI henc rfl h ?_
  obtain ⟨k1, k2, a, e, ⟨r1, r2, r3, r4⟩, hL⟩ := s1
  have hfl : flatQ enc (qs' ++ [q]) = flatQ enc qs' ++ enc q.1 q.2.1 q.2.2 := by simp [flatQ]
  refine ⟨k1, k2, a, e, ⟨flatQ_len henc _, by simp at r2; omega, r3, ?_⟩, star_head (look_mono fun u hu p hp => hu p (by simp [hp])) hL⟩
  rcases r4 with r4 | ⟨b, o, spare, rfl, r5, rp⟩
  · exact .inl r4
  · refine .inr ⟨b, o, enc q.1 q.2.1 q.2.2 ++ spare, rfl, ?_, ?_⟩
    · rw [List.length_append, henc, r5]
      simp only [List.length_append, List.length_cons, List.length_nil] at r2 ⊢
      rw [hl, show c - xs.length = (c - (xs.length + (0 + 1))) + 1 by omega, Nat.add_mul]; omega
    · rw [hfl, List.append_assoc] at rp; exact rp
/-- append of one that is spelt in a slice of its own. -/
theorem ot_appendI {c' k m by_ : Nat} {us : List Value} {b : Nat} {E : TypeId} {zz : Value} {A' : Option Addr} {xv : α} (henc : ∀ x A c, (enc x A c).length = sz) (hx : EvalR R x (.slice A m c)) (hy : EvalR R y (.slice (some ⟨b, 0, none⟩) 1 k)) (hL : Picks L [rowI enc lst sz A c xs, pts b 0 us, roS encInt 1 A' c' (lst xv)] M)
    (hu : us = enc xv A' c') (hm : xs.length = m) (hT : P.underlying T = some (.slice E)) (hI : infoB P E zz sz by_) (hz : zz.cells.size = sz) (hsz : 0 < sz) (ha : us.all scalar = true) (hlen : m + 1 ≤ maxLen) (hby : (m + 1) * by_ ≤ 140737488355328) :
    OT P n B W ⟨d, .call ⟨.builtin .append, #[x, y], #[T, T]⟩, ty, ps, af, g⟩ R L (X := Option Addr × Nat) (fun p => .slice p.1 (m + 1) p.2) (fun p => rowI enc lst sz p.1 p.2 (xs ++ [xv]) :: M) := fun a w s => by
  subst hm hu
  obtain ⟨h, H, hs⟩ := s.sat.perm hL.perm
  obtain ⟨qs, hq, hs1⟩ := rowI_flat henc hs
  have s1 : Sat B w (rowS A xs.length c sz (flatQ enc qs) :: pts b 0 (enc xv A' c') :: lookS (heldQ lst qs) :: roS encInt 1 A' c' (lst xv) :: M) := ⟨h, H, star_tail (fun _ => star_swap) hs1⟩
  obtain ⟨A2, cap2, w', hr, hc⟩ := append_sat (ty := ty) (c := k) (W := W) hT hI hz hsz s1 s.below s.lo (k := 1) (by rw [henc]; omega) ha (by omega) hlen hby
  have : (execOp a.eval ⟨d, .call ⟨.builtin .append, #[x, y], #[T, T]⟩, ty, ps, af, g⟩).run P w = .ok (.value (.slice A2 (xs.length + 1) cap2)) w' := by
    simp only [execOp, resolve, List.map_toArray, List.map_cons, List.map_nil, hx.eval s.regs, hy.eval s.regs]
    simp only [invoke, builtin]
    simp [hr]
  rw [this]
  refine ⟨(A2, cap2), rfl, hc.1, hc.2.1, hc.2.2.imp fun h hh => ?_⟩
  have h1 : star (rowS A2 (xs.length + 1) cap2 sz (flatQ enc qs ++ enc xv A' c') :: lookS (heldQ lst qs) :: roS encInt 1 A' c' (lst xv) :: M) h := star_tail (fun _ hh => Ent.drop _ hh) hh
  have hl : qs.length = xs.length := by rw [← hq]; simp
  have e1 : flatQ enc qs ++ enc xv A' c' = flatQ enc (qs ++ [(xv, (A', c'))]) := by simp [flatQ]
  have e2 : xs ++ [xv] = (qs ++ [(xv, (A', c'))]).map (·.1) := by simp [hq]
  rw [e1] at h1
  rw [e2]
  refine flat_rowI henc (by simp [hl]) h (star_tail (fun k hk => ?_) h1)
  refine star_head (look_mono fun u hu q hq => ?_) (look_and k hk)
  rcases List.mem_append.1 hq with e | e
  · exact hu.1 q e
  · obtain rfl := List.mem_singleton.1 e; exact hu.2
end
end
section
open Go Go.RowKit
structure AccV where
  kind : Int
  cell : Int
  old : Int
  new : Int
  deriving DecidableEq, Inhabited
structure MemV where
  cells : List Int
  last : AccV
  count : Int
  deriving DecidableEq, Inhabited
structure RecV where
  prog : Int
  parent : Int
  pc : Int
  left : Int
  waiting : Int
  kids : List Int
  started : Bool
  deriving DecidableEq, Inhabited
structure QV where
  top : Int
  bottom : Int
  ring : Int
  cap : Int
  deriving DecidableEq, Inhabited
structure FrV where
  kind : Int
  line : Int
  q : QV
  a : Int
  b : Int
  d : Int
  i : Int
  j : Int
  n : Int
  t : Int
  u : Int
  v : Int
  w : Int
  x : Int
  l : List Int
  deriving DecidableEq, Inhabited
structure ResV where
  done : Bool
  code : Int
  value : Int
  deriving DecidableEq, Inhabited
structure EntV where
  kind : Int
  value : Int
  deriving DecidableEq, Inhabited
deriving instance Inhabited for Ins
deriving instance Inhabited for Sub
deriving instance Inhabited for Ev
def EntV.enc (x : EntV) : List Value := [.int .i64 x.kind, .int .i64 x.value]
def frC (f : FrV) (A : Option Addr) (c : Nat) : List Value :=
  [.int .i64 f.kind, .int .i64 f.line, .int .i64 f.q.top, .int .i64 f.q.bottom, .int .i64 f.q.ring, .int .i64 f.q.cap, .int .i64 f.a, .int .i64 f.b, .int .i64 f.d, .int .i64 f.i, .int .i64 f.j, .int .i64 f.n, .int .i64 f.t, .int .u64 f.u, .int .u64 f.v, .int .u64 f.w, .int .u64 f.x, .slice A f.l.length c]
def recC (r : RecV) (A : Option Addr) (c : Nat) : List Value := [.int .i64 r.prog, .int .i64 r.parent, .int .i64 r.pc, .int .i64 r.left, .int .i64 r.waiting, .slice A r.kids.length c, .bool r.started]
abbrev frS (b o : Nat) (f : FrV) : SProp := itS frC FrV.l b o f
abbrev recsS (A : Option Addr) (c : Nat) (l : List RecV) : SProp := rowI recC RecV.kids 7 A c l
abbrev frsS (A : Option Addr) (c : Nat) (l : List FrV) : SProp := rowI frC FrV.l 18 A c l
def memN (b o : Nat) (m : MemV) : Option Addr × Nat → List SProp := fun p => [pts b o [.slice p.1 m.cells.length p.2, .int .i64 m.last.kind, .int .i64 m.last.cell, .int .u64 m.last.old, .int .u64 m.last.new, .int .i64 m.count], rowS p.1 m.cells.length p.2 1 (m.cells.map (Value.int .u64))]
def memS (b o : Nat) (m : MemV) : SProp := exL (memN b o m)
def evsN (b o : Nat) (l : List Ev) : Option Addr × Nat → List SProp := fun p => [pts b o [.slice p.1 l.length p.2], rowS p.1 l.length p.2 5 (l.flatMap Ev.enc)]
def evsS (b o : Nat) (l : List Ev) : SProp := exL (evsN b o l)
/-- A configuration whose programs' slices are known. -/
def CfgP (u : World) (c : Cfg) (l : CfgAt) (ps : List (Option Addr × Nat)) : Prop :=
  (c.progs.length ≤ 9223372036854775807 ∧ ps.length = c.progs.length ∧ ∀ (i : Nat) p a, c.progs[i]? = some p → ps[i]? = some a → ∃ b o, l.pa = some ⟨b, o, none⟩ ∧ b < u.heap.size ∧ u.cell? ⟨b, o + i, none⟩ = some (.slice a.1 p.length a.2) ∧ Sl Ins.enc 3 u u.heap.size a.1 p) ∧ Sl Sub.enc 3 u u.heap.size l.sa c.subs
def cfgL (c : Cfg) (l : CfgAt) (ps : List (Option Addr × Nat)) : SProp := lookS fun u => CfgP u c l ps
instance : Inhabited Addr := ⟨⟨0, 0, none⟩⟩
/-! ### Words -/
@[reducible] def wi (a : Int) : Int := IntKind.i64.wrap a
@[reducible] def wu (a : Int) : Int := IntKind.u64.wrap a
@[reducible] def orU (a b : Int) : Int := IntKind.u64.wrap (BitVec.ofInt IntKind.u64.bits a ||| BitVec.ofInt IntKind.u64.bits b).toNat
@[reducible] def andU (a b : Int) : Int := IntKind.u64.wrap (BitVec.ofInt IntKind.u64.bits a &&& BitVec.ofInt IntKind.u64.bits b).toNat
@[reducible] def cplU (a : Int) : Int := IntKind.u64.wrap (BitVec.ofInt IntKind.u64.bits (if IntKind.u64.signed then -1 else IntKind.u64.max) ^^^ BitVec.ofInt IntKind.u64.bits a).toNat
def at_ {α : Type} [Inhabited α] (xs : List α) (i : Int) : α := (xs[i.toNat]?).getD default
theorem at_get {α : Type} [Inhabited α] {xs : List α} {i : Int} (h : 0 ≤ i ∧ i < (xs.length : Int)) : xs[i.toNat]? = some (at_ xs i) := by
  have : i.toNat < xs.length := by omega
  simp [at_, this]
theorem at_eq {α : Type} [Inhabited α] {xs : List α} {i : Int} (h : i.toNat < xs.length) : xs[i.toNat] = at_ xs i := by simp [at_, h]
theorem at_map {α : Type} [Inhabited α] {β : Type} {f : α → β} {xs : List α} {i : Int} (h : 0 ≤ i ∧ i < (xs.length : Int)) : (xs.map f)[i.toNat]? = some (f (at_ xs i)) := by rw [List.getElem?_map, at_get h]; rfl
def st_ {α : Type} (xs : List α) (i : Int) (y : α) : List α := xs.set i.toNat y
def bT {α β : Type} (c : α) (k : α → β) : β := k c
theorem bF {α β : Type} {c : α} {k : α → β} {out : β} (h : bT c k = out) : ∃ r, c = r ∧ k r = out := ⟨c, rfl, h⟩
theorem bO_of {α β : Type} {c : Option α} {k : α → Option β} {out : β} (h : c.bind k = some out) : ∃ r, c = some r ∧ k r = some out := by
  cases c with
  | none => cases h
  | some r => exact ⟨r, rfl, h⟩
theorem gO {α : Type} {p : Prop} [Decidable p] {k : Option α} {out : α} (h : (if p then k else none) = some out) : p ∧ k = some out := by
  by_cases hp : p
  · rw [if_pos hp] at h; exact ⟨hp, h⟩
  · rw [if_neg hp] at h; cases h
theorem ifb_f {α : Type} {b : Bool} {x y : α} (h : b = false) : (if b = true then x else y) = y := by subst h; rfl
theorem evalr_cast {R : RList} {o : Operand} {k : IntKind} {e : Int} {l : Nat} (h : EvalR R o (.int k e)) (he : e = (l : Int)) : EvalR R o (.int k (l : Int)) := he ▸ h
theorem bne_t {b : Bool} (h : b = false) : ¬ b = true := by subst h; simp
/-! ### Reading -/
def RdL (B : Nat) (W : World) (L : List SProp) {α : Type} (enc : α → List Value) (sz : Nat) (A : Option Addr) (xs : List α) : Prop := ∀ w, Cls B W L w → Sl enc sz w w.heap.size A xs
section
variable {r : Option Nat} {P : Program} {ops : Array Oper} {Q : Exit → Act → World → Prop} {n B : Nat} {W : World} {R R' : RList} {L L' M : List SProp} {v : Value} {x y z : Operand}
  {d : Option Tmp} {ty : TypeId} {ps : String} {af : Array Edge} {g : Option (Nat × Bool)} {T T' : TypeId} {α : Type} {enc : α → List Value} {sz : Nat} {A : Option Addr} {c : Nat} {xs : List α}
theorem rd_ro (h : roS enc sz A c xs ∈ L) : RdL B W L enc sz A xs := fun _ s => (ro_sl s.2.2 h).1
def rdS {α : Type} (enc : α → List Value) (sz : Nat) (A : Option Addr) (xs : List α) : SProp := lookS fun u => Sl enc sz u u.heap.size A xs
theorem rd_rd (h : rdS enc sz A xs ∈ L) : RdL B W L enc sz A xs := fun _ s => look_sat s.2.2 h
theorem rd_w (h : Sl enc sz W B A xs) : RdL B W L enc sz A xs := fun _ s => (h.below s.1).more s.2.1
theorem rd_subs {cf : Cfg} {l : CfgAt} {pl : List (Option Addr × Nat)} (h : cfgL cf l pl ∈ L) : RdL B W L Sub.enc 3 l.sa cf.subs := fun _ s => (look_sat s.2.2 h).2
theorem cfgP_at {u : World} {cf : Cfg} {l : CfgAt} {pl : List (Option Addr × Nat)} (h : CfgP u cf l pl) {j : Int} (hj : 0 ≤ j ∧ j < (cf.progs.length : Int)) :
    ∃ b o, l.pa = some ⟨b, o, none⟩ ∧ b < u.heap.size ∧ u.cell? ⟨b, o + j.toNat, none⟩ = some (.slice (at_ pl j).1 (at_ cf.progs j).length (at_ pl j).2) ∧ Sl Ins.enc 3 u u.heap.size (at_ pl j).1 (at_ cf.progs j) :=
  h.1.2.2 j.toNat _ _ (at_get hj) (at_get (by rw [h.1.2.1]; exact hj))
theorem oq_indexD {k : IntKind} {len cap sz' : Nat} {j : Int} (hx : EvalR R x (.slice A len cap)) (hy : EvalR R y (.int k j)) (hS : RdL B W L enc sz' A xs) (hj : 0 ≤ j ∧ j < (xs.length : Int)) (hlt : len = xs.length) (hs : elemSize P T = some sz) {q : Nat} (hr : j.toNat * sz = q) :
    OQ P n B W ⟨d, .indexAddr T x y, ty, ps, af, g⟩ R L (idx A q) := oq_run fun a w s => by
  subst hr
  obtain ⟨b, o, rfl, _, _⟩ := (hS w s.cls).at_ (i := j.toNat) (by omega)
  exact idx_run (hx.eval s.regs) (hy.eval s.regs) (i := j.toNat) (by omega) (by omega) hs
theorem oq_loadD1 {i : Nat} {j q : Nat} {e : α} (hx : EvalR R x (idx A q)) (hS : RdL B W L enc sz A xs) (hi : xs[i]? = some e) (hj : (enc e)[j]? = some v) (hr : i * sz + j = q) (hT : aggSize P T = some none) :
    OQ P n B W ⟨d, .load T x, ty, ps, af, g⟩ R L v := oq_run fun a w s => by
  subst hr
  have hlt := (List.getElem?_eq_some_iff.1 hi).1
  obtain ⟨b, o, rfl, hb, hc⟩ := (hS w s.cls).at_ hlt
  have he : xs[i] = e := (List.getElem?_eq_some_iff.1 hi).2
  have h1 := hc i hlt j v (by rw [he]; exact hj)
  rw [Nat.add_assoc] at h1
  simp only [execOp, hx.eval s.regs, idx, Option.map_some]
  rw [run_bind_ok (load_run (us := [v]) hT rfl (fun j u hj => by
    cases j with
    | zero => simp at hj; subst hj; exact h1
    | succ j => simp at hj) rfl)]
  rfl
theorem oq_loadDS {i q k : Nat} {e : α} (hx : EvalR R x (idx A q)) (hS : RdL B W L enc sz A xs) (hi : xs[i]? = some e) (hr : i * sz = q) (hT : aggSize P T = some (some k)) (hk : (enc e).length = k) :
    OQ P n B W ⟨d, .load T x, ty, ps, af, g⟩ R L (.agg (enc e).toArray) := oq_run fun a w s => by
  subst hr
  have hlt := (List.getElem?_eq_some_iff.1 hi).1
  obtain ⟨b, o, rfl, hb, hc⟩ := (hS w s.cls).at_ hlt
  have he : xs[i] = e := (List.getElem?_eq_some_iff.1 hi).2
  simp only [execOp, hx.eval s.regs, idx, Option.map_some]
  rw [run_bind_ok (load_run (us := enc e) hT hk (fun j u hj => hc i hlt j u (by rw [he]; exact hj)) rfl)]
  rfl
theorem oq_fieldD {q k q' f : Nat} (hx : EvalR R x (idx A q)) (hS : RdL B W L enc sz A xs) (hn : 0 < xs.length) (hf : fieldOff P T f = some k) (ho : q + k = q') : OQ P n B W ⟨d, .fieldAddr T x f, ty, ps, af, g⟩ R L (idx A q') := fun a w s => by
  obtain ⟨b, o, rfl, _, _⟩ := (hS w s.cls).at_ hn
  have := op_field (P := P) (n := n) (d := d) (ty := ty) (ps := ps) (af := af) (g := g) (o' := o + q') (show EvalR R x (.pointer (some ⟨b, o + q, none⟩)) from hx) hf (by omega)
  exact (this).q a w s
theorem oq_indexP {cf : Cfg} {l : CfgAt} {pl : List (Option Addr × Nat)} {k : IntKind} {len cap : Nat} {j : Int} (hx : EvalR R x (.slice l.pa len cap)) (hy : EvalR R y (.int k j)) (hS : cfgL cf l pl ∈ L) (hj : 0 ≤ j ∧ j < (cf.progs.length : Int)) (hlt : len = cf.progs.length) (hs : elemSize P T = some 1) {q : Nat} (hr : j.toNat = q) :
    OQ P n B W ⟨d, .indexAddr T x y, ty, ps, af, g⟩ R L (idx l.pa q) := oq_run fun a w s => by
  subst hr
  obtain ⟨b, o, e, _⟩ := cfgP_at (look_sat s.sat hS) hj
  have e1 := hx.eval s.regs
  rw [e] at e1
  have := idx_run (P := P) (w := w) (T := T) (d := d) (ty := ty) (ps := ps) (af := af) (g := g) e1 (hy.eval s.regs) (i := j.toNat) (by omega) (by omega) hs
  rw [Nat.mul_one] at this
  rw [e]; exact this
theorem Sat.dupLook {B : Nat} {w : World} {Φ Ψ : World → Prop} (s : Sat B w L) (h : lookS Φ ∈ L) (f : ∀ h : Hp, lookS Φ h → lookS Ψ h) : Sat B w (lookS Ψ :: L) := by
  obtain ⟨l', p⟩ := Pick.of_mem h
  have s1 := (s.perm p.perm).imp look_dup
  exact (s1.imp fun _ => star_head f).perm (List.Perm.cons _ p.perm.symm)
/-- A program of a configuration: its slice is read. -/
theorem oq_loadP {cf : Cfg} {l : CfgAt} {pl : List (Option Addr × Nat)} {j : Int} (hx : EvalR R x (idx l.pa j.toNat)) (hS : cfgL cf l pl ∈ L) (hj : 0 ≤ j ∧ j < (cf.progs.length : Int)) (hT : aggSize P T = some none) :
    OQ P n B W ⟨d, .load T x, ty, ps, af, g⟩ R L (.slice (at_ pl j).1 (at_ cf.progs j).length (at_ pl j).2) := oq_run fun a w s => by
  obtain ⟨b, o, eA, hb, hc, _⟩ := cfgP_at (look_sat s.sat hS) hj
  have ex := hx.eval s.regs
  rw [eA] at ex
  simp only [execOp, ex, idx, Option.map_some]
  rw [run_bind_ok (load_run (us := [.slice (at_ pl j).1 (at_ cf.progs j).length (at_ pl j).2]) hT rfl (fun k u hk => by
    cases k with
    | zero => simp at hk; subst hk; exact hc
    | succ k => simp at hk) rfl)]
  rfl
theorem rd_prog {cf : Cfg} {l : CfgAt} {pl : List (Option Addr × Nat)} {j : Int} (h : cfgL cf l pl ∈ L) (hj : 0 ≤ j ∧ j < (cf.progs.length : Int)) : SE L (rdS Ins.enc 3 (at_ pl j).1 (at_ cf.progs j) :: L) := fun _ _ s =>
  s.dupLook h (look_mono fun u hu => (cfgP_at hu hj).choose_spec.choose_spec.2.2.2)
theorem aI {a b : Int} (hx : EvalR R x (.int .i64 a)) (hy : EvalR R y (.int .i64 b)) : OP P n ⟨d, .binOp .add T x y T', ty, ps, af, g⟩ R (.int .i64 (wi (a + b))) := op_add hx hy rfl
theorem op_addU {a b : Int} (hx : EvalR R x (.int .u64 a)) (hy : EvalR R y (.int .u64 b)) : OP P n ⟨d, .binOp .add T x y T', ty, ps, af, g⟩ R (.int .u64 (wu (a + b))) := op_add hx hy rfl
theorem op_subI {a b : Int} (hx : EvalR R x (.int .i64 a)) (hy : EvalR R y (.int .i64 b)) : OP P n ⟨d, .binOp .sub T x y T', ty, ps, af, g⟩ R (.int .i64 (wi (a - b))) := op_sub hx hy rfl
theorem op_subU {a b : Int} (hx : EvalR R x (.int .u64 a)) (hy : EvalR R y (.int .u64 b)) : OP P n ⟨d, .binOp .sub T x y T', ty, ps, af, g⟩ R (.int .u64 (wu (a - b))) := op_sub hx hy rfl
theorem op_mulI {a b : Int} (hx : EvalR R x (.int .i64 a)) (hy : EvalR R y (.int .i64 b)) : OP P n ⟨d, .binOp .mul T x y T', ty, ps, af, g⟩ R (.int .i64 (wi (a * b))) := op_mul hx hy rfl
theorem op_mulU {a b : Int} (hx : EvalR R x (.int .u64 a)) (hy : EvalR R y (.int .u64 b)) : OP P n ⟨d, .binOp .mul T x y T', ty, ps, af, g⟩ R (.int .u64 (wu (a * b))) := op_mul hx hy rfl
theorem op_andW {a b : Int} (hx : EvalR R x (.int .u64 a)) (hy : EvalR R y (.int .u64 b)) : OP P n ⟨d, .binOp .and T x y T', ty, ps, af, g⟩ R (.int .u64 (andU a b)) := op_and hx hy rfl
theorem op_orW {a b : Int} (hx : EvalR R x (.int .u64 a)) (hy : EvalR R y (.int .u64 b)) : OP P n ⟨d, .binOp .or T x y T', ty, ps, af, g⟩ R (.int .u64 (orU a b)) := op_or hx hy rfl
theorem op_cplW {a : Int} (hx : EvalR R x (.int .u64 a)) : OP P n ⟨d, .unOp .xor T x, ty, ps, af, g⟩ R (.int .u64 (cplU a)) := op_cpl hx rfl
theorem op_quoI {a b : Int} (hx : EvalR R x (.int .i64 a)) (hy : EvalR R y (.int .i64 b)) (h0 : b ≠ 0) : OP P n ⟨d, .binOp .quo T x y T', ty, ps, af, g⟩ R (.int .i64 (wi (Int.tdiv a b))) := op_quo hx hy h0 rfl
theorem op_remI {a b : Int} (hx : EvalR R x (.int .i64 a)) (hy : EvalR R y (.int .i64 b)) (h0 : b ≠ 0) : OP P n ⟨d, .binOp .rem T x y T', ty, ps, af, g⟩ R (.int .i64 (Int.tmod a b)) := op_rem hx hy h0 rfl
theorem op_convI {k k1 : IntKind} {a : Int} (hx : EvalR R x (.int k a)) (hs : P.underlying T = some (.int k1)) (ht : P.underlying T' = some (.int .i64)) : OP P n ⟨d, .convert T T' x, ty, ps, af, g⟩ R (.int .i64 (wi a)) := op_conv hx hs ht rfl
theorem op_quoU {a b : Int} (hx : EvalR R x (.int .u64 a)) (hy : EvalR R y (.int .u64 b)) (h0 : b ≠ 0) : OP P n ⟨d, .binOp .quo T x y T', ty, ps, af, g⟩ R (.int .u64 (wu (Int.tdiv a b))) := op_quo hx hy h0 rfl
theorem op_remU {a b : Int} (hx : EvalR R x (.int .u64 a)) (hy : EvalR R y (.int .u64 b)) (h0 : b ≠ 0) : OP P n ⟨d, .binOp .rem T x y T', ty, ps, af, g⟩ R (.int .u64 (Int.tmod a b)) := op_rem hx hy h0 rfl
theorem op_convU {k k1 : IntKind} {a : Int} (hx : EvalR R x (.int k a)) (hs : P.underlying T = some (.int k1)) (ht : P.underlying T' = some (.int .u64)) : OP P n ⟨d, .convert T T' x, ty, ps, af, g⟩ R (.int .u64 (wu a)) := op_conv hx hs ht rfl
theorem op_eqlC {k : IntKind} {a b : Int} {v : Bool} (hx : EvalR R x (.int k a)) (hy : EvalR R y (.int k b)) (hv : decide (a = b) = v) : OP P n ⟨d, .binOp .eql T x y T', ty, ps, af, g⟩ R (.bool v) := hv ▸ eqL hx hy
theorem op_sliceH {α : Type} {xs : List α} {A : Option Addr} {c sz : Nat} {h : Int} {k' : IntKind} {hi : Operand} {E : TypeId} (hx : EvalR R x (.slice A xs.length c)) (hT : P.underlying T = some (.slice E)) (hsz : P.cellsOf E = sz) (hs0 : 0 < sz)
    (hhi : EvalR R hi (.int k' h)) (hg : 0 ≤ h ∧ h ≤ (xs.length : Int)) (hc : xs.length ≤ c) : OP P n ⟨d, .slice T x none (some hi) none, ty, ps, af, g⟩ R (.slice A (xs.take h.toNat).length c) := by
  have := op_slice_h (P := P) (n := n) (d := d) (ty := ty) (ps := ps) (af := af) (g := g) (h' := h.toNat) hx hT hsz hs0 (evalr_cast hhi (by omega)) (by omega)
  have e : (xs.take h.toNat).length = h.toNat - 0 := by simp; omega
  rw [e]; exact this
/-! ### Loops that answer -/
def sK {α β : Type} (z : α ⊕ β) (k : β → Option α) : Option α := match z with
  | .inl a => some a
  | .inr b => k b
theorem sK_r {α β : Type} {z : α ⊕ β} {k : β → Option α} {out : α} {y : β} (h : z = .inr y) (hs : sK z k = some out) : k y = some out := by subst h; exact hs
theorem ct_loopK {S G : Type} (Inv : Nat → S → Prop) (h00 : ∀ y, ¬ Inv 0 y) (Rx : S → G → RList) (Lx : S → G → List SProp) (k0 : Nat) (y0 : S) (g0 : G) (h0 : Inv k0 y0) (hR : Less R (Rx y0 g0)) (hL : Ent L (Lx y0 g0)) {c : Code}
    (body : ∀ k y g, Inv (k + 1) y → CT r P (Exit.then (fun a w => ∃ y' g', Inv k y' ∧ Sta n B W (Rx y' g') (Lx y' g') a w) Q) n B W c (Rx y g) (Lx y g)) : CT r P Q n B W (.loop c) R L := fun a w s => by
  refine wpIn_loop_ghost (fun k a w => ∃ y g, Inv k y ∧ Sta n B W (Rx y g) (Lx y g) a w) k0 ⟨y0, g0, h0, hR.regs s.regs, s.below, s.lo, hL.sat s.sat⟩ ?_
  rintro k a w ⟨y, g, hi, hs⟩
  cases k with
  | zero => exact absurd hi (h00 y)
  | succ k =>
    refine wpIn_mono (body k y g hi a w hs) ?_
    intro e a' w' hq
    cases e with
    | normal => exact ⟨k, Nat.lt_succ_self k, hq⟩
    | exit id => exact hq
    | goto l => exact hq
    | ret => exact hq
    | panic ch => exact hq
    | outgrown => exact hq
theorem aK {S G : Type} {Inv : S → Prop} {Rx : S → G → RList} {Lx : S → G → List SProp} (y' : S) (g' : G) (h : Inv y') (hR : Less R (Rx y' g')) (hL : Ent L (Lx y' g')) : ET (Exit.then (fun a w => ∃ y' g', Inv y' ∧ Sta n B W (Rx y' g') (Lx y' g') a w) Q) n B W .normal R L := fun _ _ s =>
  ⟨y', g', h, hR.regs s.regs, s.below, s.lo, hL.sat s.sat⟩
theorem ct_cutE (D : Act → World → Prop) {c : Code} {N : Act → World → Prop} (h : CT r P (Exit.then D Q) n B W c R L) (k : ∀ a w, D a w → N a w) : CT r P (Exit.then N Q) n B W c R L := fun a w s =>
  wpIn_mono (h a w s) fun e a' w' hq => by
    cases e with
    | normal => exact k a' w' hq
    | exit id => exact hq
    | goto l => exact hq
    | ret => exact hq
    | panic ch => exact hq
    | outgrown => exact hq
theorem et_sta (hR : Less R R') (hL : Ent L L') {a : Act} {w : World} (s : Sta n B W R L a w) : Sta n B W R' L' a w := ⟨hR.regs s.regs, s.below, s.lo, hL.sat s.sat⟩
theorem ct_cutG {S G : Type} (Inv : S → Prop) (Rx : S → G → RList) (Lx : S → G → List SProp) {c : Code} {N : Act → World → Prop}
    (h : CT r P (Exit.then (fun a w => ∃ y g, Inv y ∧ Sta n B W (Rx y g) (Lx y g) a w) Q) n B W c R L) (k : ∀ y g, Inv y → ∀ a w, Sta n B W (Rx y g) (Lx y g) a w → N a w) : CT r P (Exit.then N Q) n B W c R L := fun a w s =>
  wpIn_mono (h a w s) fun e a' w' hq => by
    cases e with
    | normal => obtain ⟨y, g, hi, hs⟩ := hq; exact k y g hi a' w' hs
    | exit id => exact hq
    | goto l => exact hq
    | ret => exact hq
    | panic ch => exact hq
    | outgrown => exact hq
/-! ### Rows of plain things -/
theorem flat_at {enc : α → List Value} (henc : ∀ x, (enc x).length = sz) : ∀ (xs : List α) (j : Nat) (u : Value), (xs.flatMap enc)[j]? = some u → ∃ i x k, xs[i]? = some x ∧ (enc x)[k]? = some u ∧ i * sz + k = j
  | [], j, u, h => by simp at h
  | x :: xs, j, u, h => by
    rw [List.flatMap_cons] at h
    rcases Nat.lt_or_ge j (enc x).length with h1 | h1
    · rw [List.getElem?_append_left h1] at h
      exact ⟨0, x, j, rfl, h, by omega⟩
    · rw [List.getElem?_append_right h1] at h
      obtain ⟨i, y, k, g1, g2, g3⟩ := flat_at henc xs _ u h
      refine ⟨i + 1, y, k, by simpa using g1, g2, ?_⟩
      rw [henc] at h1 g3; rw [Nat.add_mul]; omega
theorem src_rd {A : Option Addr} {m : Nat} {xs : List α} (henc : ∀ x, (enc x).length = sz) (h : RdL B W L enc sz A xs) (hm : xs.length = m) : Src B W L A m (xs.flatMap enc) := fun w hw => by
  subst hm
  by_cases hx : xs = []
  · left; subst hx; rfl
  · right
    obtain ⟨b, o, rfl, hb, hc⟩ := (h w hw).2 hx
    refine ⟨b, o, rfl, fun j u hj => ?_⟩
    obtain ⟨i, x, k, g1, g2, rfl⟩ := flat_at henc xs j u hj
    rw [← Nat.add_assoc]; exact hc i x g1 k u g2
theorem flat_len {enc : α → List Value} (henc : ∀ x, (enc x).length = sz) : ∀ xs : List α, (xs.flatMap enc).length = xs.length * sz
  | [] => by simp
  | x :: xs => by
    have := flat_len henc xs
    rw [List.flatMap_cons, List.length_append, this, henc, List.length_cons, Nat.add_mul]; omega
theorem flat_scal {enc : α → List Value} (h : ∀ x, (enc x).all scalar = true) : ∀ xs : List α, (xs.flatMap enc).all scalar = true
  | [] => rfl
  | x :: xs => by rw [List.flatMap_cons, List.all_append, h, flat_scal h xs]; rfl
theorem ent_flatx {A : Option Addr} {m c : Nat} {enc : α → List Value} {xs ys : List α} {us : List Value} (h : us = ys.flatMap enc) : Ent (rowS A m c sz (xs.flatMap enc ++ us) :: L) (rowS A m c sz ((xs ++ ys).flatMap enc) :: L) := Ent.eq (by rw [h, List.flatMap_append])
theorem ent_niln {enc : α → List Value} : Ent L (rowS none 0 0 sz (([] : List α).flatMap enc) :: L) := ent_nil sz
theorem row_take {A : Option Addr} {m c k : Nat} {enc : α → List Value} (henc : ∀ x, (enc x).length = sz) {xs : List α} (hm : xs.length = m) (hk : k ≤ m) {n : Nat} (hn : n = k) : Ent (rowS A m c sz (xs.flatMap enc) :: L) (rowS A n c sz ((xs.take k).flatMap enc) :: L) := by
  subst hn hm
  refine Ent.cons (fun h p => ?_) Ent.refl
  obtain ⟨r1, r2, r3, r4⟩ := p
  refine ⟨by rw [flat_len henc, List.length_take, Nat.min_eq_left hk], by omega, r3, ?_⟩
  rcases r4 with r4 | ⟨b, o, spare, rfl, r5, rp⟩
  · exact .inl r4
  · refine .inr ⟨b, o, (xs.drop n).flatMap enc ++ spare, rfl, ?_, ?_⟩
    · rw [List.length_append, r5, flat_len henc, List.length_drop, ← Nat.add_mul]; congr 1
      have := r2; omega
    · rw [← List.append_assoc, ← List.flatMap_append, List.take_append_drop]; exact rp
theorem row_cap {A : Option Addr} {m c : Nat} {vs : List Value} {w : World} (s : Sat B w L) (h : rowS A m c sz vs ∈ L) : m ≤ c := (sat_rowS s h).2.1
theorem ro_drop {A : Option Addr} {c k : Nat} {enc : α → List Value} {xs : List α} (hk : k ≤ xs.length) : Ent (roS enc sz A c xs :: L) (roS enc sz (if c = k then A else A.map fun a => a.add (k * sz)) (c - k) (xs.drop k) :: roS enc sz A c xs :: L) :=
  look_dup.trans (Ent.cons (look_mono fun u ⟨h1, h2⟩ => ⟨⟨by have := h1.1; simp; omega, fun hne => by
    have hlt : k < xs.length := by
      rcases Nat.lt_or_ge k xs.length with h | h
      · exact h
      · exact absurd (List.drop_eq_nil_of_le h) hne
    obtain ⟨b, o, e, hb, hc⟩ := h1.2 (fun e => by subst e; simp at hlt)
    have hck : ¬ c = k := by have := h2; omega
    rw [if_neg hck, e]
    refine ⟨b, o + k * sz, by simp [addr_plus], hb, fun i x hx j y hy => ?_⟩
    rw [List.getElem?_drop] at hx
    have := hc (k + i) x hx j y hy
    rw [Nat.add_mul] at this
    rw [← this]; congr 2; omega⟩, by simp; omega⟩) Ent.refl)
theorem op_sliceT {xs : List α} {A : Option Addr} {c : Nat} {h : Int} {k' : IntKind} {lo : Operand} {E : TypeId} (hx : EvalR R x (.slice A xs.length c)) (hT : P.underlying T = some (.slice E)) (hsz : P.cellsOf E = sz) (hs0 : 0 < sz)
    (hlo : EvalR R lo (.int k' h)) (hg : 0 ≤ h ∧ h ≤ (xs.length : Int)) (hc : xs.length ≤ c) : OP P n ⟨d, .slice T x (some lo) none none, ty, ps, af, g⟩ R (.slice (if c = h.toNat then A else A.map fun a => a.add (h.toNat * sz)) (xs.drop h.toNat).length (c - h.toNat)) := by
  have := op_slice_l (P := P) (n := n) (d := d) (ty := ty) (ps := ps) (af := af) (g := g) (l := h.toNat) hx hT hsz hs0 (evalr_cast hlo (by omega)) (by omega) hc rfl
  have e : (xs.drop h.toNat).length = xs.length - h.toNat := by simp
  rw [e]; exact this
theorem pure_of_fn {f : FuncId} {args : Array Value} {N : List SProp} (h : Fn_ P f args B W N (X := Unit) (fun _ => v) (fun _ => N)) (hL : Picks L N M) : Pure P f args B W L v := fun w hw => by
  refine (h (starS M) w ⟨hw.1, hw.2.1, (hw.2.2.perm hL.perm).fold⟩).mono ?_
  rintro e w' ⟨_, rfl, h1, h2, h3⟩
  exact ⟨rfl, h1, h2, h3.unfold.perm hL.perm.symm⟩
theorem mem_shut {b o k c : Nat} {A : Option Addr} {m : MemV} (hk : m.cells.length = k) : Ent (pts b o [.slice A k c, .int .i64 m.last.kind, .int .i64 m.last.cell, .int .u64 m.last.old, .int .u64 m.last.new, .int .i64 m.count] :: rowS A k c 1 (m.cells.map (Value.int .u64)) :: L) (memS b o m :: L) := by
  subst hk; exact shut (N := memN b o m) (A, c) rfl
theorem evs_shut {b o k c : Nat} {A : Option Addr} {l : List Ev} {vs : List Value} (hk : l.length = k) (hv : vs = l.flatMap Ev.enc) : Ent (pts b o [.slice A k c] :: rowS A k c 5 vs :: L) (evsS b o l :: L) := by
  subst hk hv; exact shut (N := evsN b o l) (A, c) rfl
theorem ent_stS {A : Option Addr} {m c : Nat} {k : IntKind} {xs : List Int} {i v : Int} : Ent (rowS A m c 1 ((xs.map (Value.int k)).set i.toNat (.int k v)) :: L) (rowS A m c 1 ((st_ xs i v).map (Value.int k)) :: L) := Ent.eq (by simp [st_])
theorem ent_appx {A : Option Addr} {m c : Nat} {k : IntKind} {xs ys : List Int} {us : List Value} (h : us = ys.map (Value.int k)) : Ent (rowS A m c 1 (xs.map (Value.int k) ++ us) :: L) (rowS A m c 1 ((xs ++ ys).map (Value.int k)) :: L) := Ent.eq (by simp [h])
theorem ent_rs {A : Option Addr} {b o m m' c : Nat} (h : m = m') : Ent (pts b o [.slice A m c] :: L) (pts b o [.slice A m' c] :: L) := Ent.eq (by simp [h])
theorem it_shut {α : Type} {enc : α → Option Addr → Nat → List Value} {lst : α → List Int} {b o c : Nat} {x : α} {A : Option Addr} {vs : List Value} (hv : vs = enc x A c) : Ent (pts b o vs :: roS encInt 1 A c (lst x) :: L) (itS enc lst b o x :: L) := by
  subst hv; exact shut (N := itN enc lst b o x) (A, c) rfl
theorem unfocus_st {α : Type} {enc : α → Option Addr → Nat → List Value} {lst : α → List Int} {sz b o c : Nat} {xs : List α} {i : Int} {y : α} (hi : i.toNat < xs.length) : Ent (itS enc lst b (o + i.toNat * sz) y :: holeI enc lst sz b o c xs i.toNat :: L) (rowI enc lst sz (some ⟨b, o, none⟩) c (st_ xs i y) :: L) := unfocus hi
theorem addr_inj {b b' o o' : Nat} (h : (some (⟨b, o, none⟩ : Addr)) = some ⟨b', o', none⟩) : b = b' ∧ o = o' := by
  have := Option.some.inj h; exact ⟨congrArg Addr.block this, congrArg Addr.off this⟩
theorem set_at {α : Type} [Inhabited α] {xs : List α} {i : Int} (h : 0 ≤ i ∧ i < (xs.length : Int)) : xs.set i.toNat (at_ xs i) = xs := by
  have : i.toNat < xs.length := by omega
  rw [← at_eq this]; simp
theorem rd_nil : Ent L (rdS enc sz A ([] : List α) :: L) := look_true.trans (Ent.cons (look_mono fun _ _ => Sl.nil) Ent.refl)
end
end
end Go.Proofs.YtpbkelpokpglaaaGreat
