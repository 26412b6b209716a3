/- A separation logic over the walk's rules: cells and objects that a call owns, registers that are known, operations one at a time. No program occurs here. -/
import Derived.WalkKit
import Derived.WalkSpells
import Derived.WalkLawsBesides
import Derived.Lib.Hide
import Derived.Deep.QuietTactic
import Derived.BigQuiet
import Derived.KernelRfl
namespace Go.Proofs.Ytkfkiaieeiodnaa
open Go Go.RowKit

inductive Item where
  | cell (v : Value)
  | obj (o : Obj)
  | look (v : Value)
def Obj.plain : Obj → Bool
  | .cells .. => false
  | _ => true
abbrev Hp := Nat → Nat → Option Item
def apart (h k : Hp) : Prop := ∀ b o, h b o = none ∨ k b o = none
def join (h k : Hp) : Hp := fun b o => match h b o with
  | some x => some x
  | none => k b o
abbrev SProp := Hp → Prop
def star : List SProp → SProp
  | [], _ => True
  | A :: L, h => ∃ k1 k2, apart k1 k2 ∧ h = join k1 k2 ∧ A k1 ∧ star L k2
def itemOk (w : World) (b o : Nat) : Item → Prop
  | .cell v => w.cell? ⟨b, o, none⟩ = some v ∧ w.frozen? ⟨b, o, none⟩ = false
  | .obj x => w.heap[b]? = some x ∧ Obj.plain x = true ∧ o = 0
  | .look v => w.cell? ⟨b, o, none⟩ = some v
def Holds (B : Nat) (w : World) (h : Hp) : Prop := ∀ b o x, h b o = some x → B ≤ b ∧ itemOk w b o x
def Sat (B : Nat) (w : World) (L : List SProp) : Prop := ∃ h, Holds B w h ∧ star L h

theorem apart_comm {h k : Hp} (a : apart h k) : apart k h := fun b o => (a b o).symm
theorem join_comm {h k : Hp} (a : apart h k) : join h k = join k h := by
  funext b o
  unfold join
  rcases a b o with e | e <;> rw [e]
  · cases k b o <;> rfl
  · cases h b o <;> rfl
theorem join_assoc (a b c : Hp) : join (join a b) c = join a (join b c) := by
  funext x y; unfold join; cases a x y <;> rfl
theorem apart_join {a b c : Hp} : apart (join a b) c ↔ apart a c ∧ apart b c := by
  constructor
  · intro h
    refine ⟨fun x y => ?_, fun x y => ?_⟩
    · rcases h x y with e | e
      · left; unfold join at e; cases ha : a x y with
        | none => rfl
        | some v => rw [ha] at e; cases e
      · exact .inr e
    · rcases h x y with e | e
      · unfold join at e
        cases ha : a x y with
        | none => rw [ha] at e; exact .inl e
        | some v => rw [ha] at e; cases e
      · exact .inr e
  · rintro ⟨h1, h2⟩ x y
    rcases h1 x y with e1 | e1
    · rcases h2 x y with e2 | e2
      · left; unfold join; rw [e1]; exact e2
      · exact .inr e2
    · exact .inr e1
theorem star_swap {A B : SProp} {L : List SProp} {h : Hp} (s : star (A :: B :: L) h) : star (B :: A :: L) h := by
  obtain ⟨k1, k2, a, e, hA, k3, k4, a', e', hB, hL⟩ := s
  subst e'
  have a1 := apart_join.1 (apart_comm a)
  refine ⟨k3, join k1 k4, ?_, ?_, hB, k1, k4, apart_comm a1.2, rfl, hA, hL⟩
  · exact apart_comm (apart_join.2 ⟨apart_comm a1.1, apart_comm a'⟩)
  · rw [e, ← join_assoc, ← join_assoc, join_comm (apart_comm a1.1)]
theorem star_tail {A : SProp} {L L' : List SProp} (f : ∀ h, star L h → star L' h) {h : Hp} (s : star (A :: L) h) : star (A :: L') h := by
  obtain ⟨k1, k2, a, e, hA, hL⟩ := s
  exact ⟨k1, k2, a, e, hA, f _ hL⟩
theorem star_head {A A' : SProp} {L : List SProp} (f : ∀ h, A h → A' h) {h : Hp} (s : star (A :: L) h) : star (A' :: L) h := by
  obtain ⟨k1, k2, a, e, hA, hL⟩ := s
  exact ⟨k1, k2, a, e, f _ hA, hL⟩
theorem star_perm {L L' : List SProp} (p : L.Perm L') : ∀ {h : Hp}, star L h → star L' h := by
  induction p with
  | nil => exact id
  | cons x _ ih => exact star_tail (fun h => ih)
  | swap x y l => exact star_swap
  | trans _ _ ih1 ih2 => exact fun s => ih2 (ih1 s)
theorem star_append {L M : List SProp} : ∀ {h : Hp}, star (L ++ M) h ↔ ∃ k1 k2, apart k1 k2 ∧ h = join k1 k2 ∧ star L k1 ∧ star M k2 := by
  induction L with
  | nil =>
    intro h
    constructor
    · exact fun s => ⟨fun _ _ => none, h, fun _ _ => .inl rfl, by funext x y; rfl, trivial, s⟩
    · rintro ⟨k1, k2, a, e, _, s⟩
      -- the first part may own more than is asked
      have : ∀ {M : List SProp} {k h : Hp}, apart k h → star M h → star M (join k h) := by
        intro M
        induction M with
        | nil => exact fun _ _ => trivial
        | cons A M ih =>
          intro k h a s
          obtain ⟨x, y, a', e', hA, hM⟩ := s
          subst e'
          have a2 := apart_join.1 (apart_comm a)
          refine ⟨x, join k y, ?_, ?_, hA, ih (apart_comm a2.2) hM⟩
          · exact apart_comm (apart_join.2 ⟨apart_comm a2.1, apart_comm a'⟩)
          · rw [← join_assoc, ← join_assoc, join_comm (apart_comm a2.1)]
      rw [e]; exact this a s
  | cons A L ih =>
    intro h
    constructor
    · rintro ⟨k1, k2, a, e, hA, hL⟩
      obtain ⟨k3, k4, a', e', h3, h4⟩ := ih.1 hL
      subst e'
      have a2 := apart_join.1 (apart_comm a)
      exact ⟨join k1 k3, k4, apart_join.2 ⟨apart_comm a2.2, a'⟩, by rw [e, join_assoc], ⟨k1, k3, apart_comm a2.1, rfl, hA, h3⟩, h4⟩
    · rintro ⟨k1, k2, a, e, ⟨x, y, a', e', hA, hL⟩, hM⟩
      subst e'
      have a2 := apart_join.1 a
      exact ⟨x, join y k2, apart_comm (apart_join.2 ⟨apart_comm a', apart_comm a2.1⟩), by rw [e, join_assoc], hA, ih.2 ⟨y, k2, a2.2, rfl, hL, hM⟩⟩
def starS (L : List SProp) : SProp := star L

/-! ### What a list of assertions holds -/
section
variable {B : Nat} {w w' : World} {L L' M : List SProp} {A A' : SProp}
theorem Sat.imp (f : ∀ h, star L h → star L' h) (s : Sat B w L) : Sat B w L' := let ⟨h, a, b⟩ := s; ⟨h, a, f h b⟩
theorem Sat.perm (s : Sat B w L) (p : L.Perm L') : Sat B w L' := s.imp fun _ => star_perm p
theorem Sat.fold (s : Sat B w (L ++ M)) : Sat B w (L ++ [starS M]) := s.imp fun _ h => by
  obtain ⟨k1, k2, a, e, h1, h2⟩ := star_append.1 h
  exact star_append.2 ⟨k1, k2, a, e, h1, k2, fun _ _ => none, fun _ _ => .inr rfl, by funext x y; unfold join; cases k2 x y <;> rfl, h2, trivial⟩
theorem Sat.unfold (s : Sat B w (L ++ [starS M])) : Sat B w (L ++ M) := s.imp fun _ h => by
  obtain ⟨k1, k2, a, e, h1, k3, k4, a', e', h3, _⟩ := star_append.1 h
  refine star_append.2 ⟨k1, k2, a, e, h1, ?_⟩
  subst e'
  have : star (M ++ []) (join k3 k4) := star_append.2 ⟨k3, k4, a', rfl, h3, trivial⟩
  simpa using this
theorem Holds.mono {h : Hp} (H : Holds B w h) (f : ∀ b o x, B ≤ b → itemOk w b o x → itemOk w' b o x) : Holds B w' h := fun b o x e => ⟨(H b o x e).1, f b o x (H b o x e).1 (H b o x e).2⟩
theorem itemOk.lt {b o : Nat} {x : Item} (h : itemOk w b o x) : b < w.heap.size := by
  rcases Nat.lt_or_ge b w.heap.size with hlt | hge
  · exact hlt
  · have e := Array.getElem?_eq_none hge
    cases x with
    | cell v => unfold itemOk at h; unfold World.cell? at h; rw [e] at h; cases h.1
    | obj o => unfold itemOk at h; rw [e] at h; cases h.1
    | look v => unfold itemOk at h; unfold World.cell? at h; rw [e] at h; cases h
theorem itemOk.same {b o : Nat} {x : Item} (h : itemOk w b o x) (e : w'.heap[b]? = w.heap[b]?) : itemOk w' b o x := by
  cases x with
  | cell v => unfold itemOk at *; unfold World.cell? World.frozen? at *; rwa [e]
  | obj o => unfold itemOk at *; rwa [e]
  | look v => unfold itemOk at *; unfold World.cell? at *; rwa [e]
theorem Sat.below (s : Sat B w L) (h : Below w.heap.size w w') : Sat B w' L :=
  let ⟨k, a, b⟩ := s
  ⟨k, a.mono fun _ _ _ _ i => i.same (h.block _ i.lt), b⟩
theorem Sat.drop (s : Sat B w (A :: L)) : Sat B w L :=
  let ⟨_, H, k1, k2, a, e, _, hL⟩ := s
  ⟨k2, fun b o x hx => H b o x (by rw [e]; unfold join; rcases a b o with h1 | h1 <;> simp_all), hL⟩
theorem Sat.nil (B : Nat) (w : World) : Sat B w [] := ⟨fun _ _ => none, (fun _ _ _ (e : none = some _) => by cases e), trivial⟩
end

/-! ### Cells in a row -/
def pts (b o : Nat) (vs : List Value) : SProp := fun h => ∀ i v, vs[i]? = some v → h b (o + i) = some (.cell v)
section
variable {B : Nat} {w : World} {L : List SProp} {b o : Nat} {vs : List Value}
theorem Sat.cell (s : Sat B w (pts b o vs :: L)) {i : Nat} {v : Value} (hi : vs[i]? = some v) : B ≤ b ∧ w.cell? ⟨b, o + i, none⟩ = some v ∧ w.frozen? ⟨b, o + i, none⟩ = false := by
  obtain ⟨h, H, k1, k2, a, e, hA, hL⟩ := s
  have := H b (o + i) (.cell v) (by rw [e]; unfold join; rw [hA i v hi])
  exact this
theorem cell_setCell_ne (w : World) (p q : Addr) (u : Value) (h : p.block ≠ q.block ∨ p.off ≠ q.off) (hs : p.spot = none) (hq : q.spot = none) : (w.setCell p u).cell? q = w.cell? q := by
  unfold World.setCell World.cell?
  simp only [Array.getElem?_modify]
  by_cases e : p.block = q.block
  · rw [if_pos e]
    have ho : p.off ≠ q.off := by rcases h with h | h; exact absurd e h; exact h
    cases hw : w.heap[q.block]? with
    | none => rfl
    | some x => cases x <;> simp [hs, hq, ho]
  · rw [if_neg e]
theorem cell_setCell_eq (w : World) (b o : Nat) (u v : Value) (h : w.cell? ⟨b, o, none⟩ = some v) : (w.setCell ⟨b, o, none⟩ u).cell? ⟨b, o, none⟩ = some u := by
  unfold World.setCell World.cell? at *
  simp only [Array.getElem?_modify, if_true]
  cases hw : w.heap[b]? with
  | none => rw [hw] at h; cases h
  | some x =>
    rw [hw] at h
    cases x <;> simp at h ⊢
    obtain ⟨hlt, _⟩ := Array.getElem?_eq_some_iff.1 h
    simp [hlt]
theorem frozen_setCell (w : World) (p q : Addr) (u : Value) : (w.setCell p u).frozen? q = w.frozen? q := by
  unfold World.setCell World.frozen?
  simp only [Array.getElem?_modify]
  by_cases e : p.block = q.block
  · rw [if_pos e]
    cases hw : w.heap[q.block]? with
    | none => rfl
    | some x => cases x <;> rfl
  · rw [if_neg e]
theorem obj_setCell (w : World) (p : Addr) (u : Value) (b : Nat) (x : Obj) (h : w.heap[b]? = some x) (hx : Obj.plain x = true) : (w.setCell p u).heap[b]? = some x := by
  unfold World.setCell
  simp only [Array.getElem?_modify]
  split
  · rw [h]; cases x <;> simp_all [Obj.plain]
  · exact h
theorem Sat.store (s : Sat B w (pts b o vs :: L)) {i : Nat} (hi : i < vs.length) (u : Value) : Sat B (w.setCell ⟨b, o + i, none⟩ u) (pts b o (vs.set i u) :: L) := by
  obtain ⟨h, H, k1, k2, a, e, hA, hL⟩ := s
  have hv : vs[i]? = some vs[i] := List.getElem?_eq_getElem hi
  have h1 := hA i _ hv
  refine ⟨join (fun b' o' => if b' = b ∧ o' = o + i then some (.cell u) else k1 b' o') k2, ?_, _, k2, ?_, rfl, ?_, hL⟩
  · intro b' o' x hx
    by_cases hc : b' = b ∧ o' = o + i
    · obtain ⟨rfl, rfl⟩ := hc
      have h2 := H b' (o + i) (.cell vs[i]) (by rw [e]; unfold join; rw [h1])
      unfold join at hx
      simp only [and_self, if_true] at hx
      obtain rfl := Option.some.inj hx
      exact ⟨h2.1, cell_setCell_eq _ _ _ _ _ h2.2.1, (frozen_setCell _ _ _ _).trans h2.2.2⟩
    · have hx' : h b' o' = some x := by
        rw [e]; unfold join at hx ⊢
        simp only [if_neg hc] at hx
        exact hx
      have h2 := H b' o' x hx'
      refine ⟨h2.1, ?_⟩
      cases x with
      | cell v =>
        have h3 := h2.2
        unfold itemOk at h3 ⊢
        refine ⟨(cell_setCell_ne _ _ _ _ ?_ rfl rfl).trans h3.1, (frozen_setCell _ _ _ _).trans h3.2⟩
        by_cases hb : b' = b
        · right; intro ho; exact hc ⟨hb, ho.symm⟩
        · left; exact fun h => hb h.symm
      | obj x => exact ⟨obj_setCell _ _ _ _ _ h2.2.1 h2.2.2.1, h2.2.2⟩
      | look v =>
        have h3 := h2.2
        unfold itemOk at h3 ⊢
        refine (cell_setCell_ne _ _ _ _ ?_ rfl rfl).trans h3
        by_cases hb : b' = b
        · right; intro ho; exact hc ⟨hb, ho.symm⟩
        · left; exact fun h => hb h.symm
  · intro b' o'
    by_cases hc : b' = b ∧ o' = o + i
    · obtain ⟨rfl, rfl⟩ := hc
      rcases a b' (o + i) with h2 | h2
      · rw [h1] at h2; cases h2
      · exact .inr h2
    · simp only [if_neg hc]; exact a b' o'
  · intro j v hj
    by_cases e : j = i
    · subst e
      have : v = u := by simpa [hi] using hj.symm
      subst this
      simp
    · rw [List.getElem?_set_ne (by omega)] at hj
      have : ¬ (b = b ∧ o + j = o + i) := by omega
      show (if b = b ∧ o + j = o + i then _ else k1 b (o + j)) = _
      rw [if_neg this]
      exact hA j v hj
theorem Sat.fresh {cs : Array Value} {T : TypeId} (s : Sat B w L) (hB : B ≤ w.heap.size) : Sat B (w.alloc (.cells cs T)) (pts w.heap.size 0 cs.toList :: L) := by
  obtain ⟨h, H, hL⟩ := s
  have hfar : ∀ o, h w.heap.size o = none := fun o => by
    cases e : h w.heap.size o with
    | none => rfl
    | some x => exact absurd (H _ _ _ e).2.lt (by omega)
  refine ⟨join (fun b' o' => if b' = w.heap.size then (cs[o']?).map .cell else none) h, ?_, _, h, ?_, rfl, ?_, hL⟩
  · intro b' o' x hx
    unfold join at hx
    by_cases hb : b' = w.heap.size
    · subst hb
      simp only [if_true, hfar] at hx
      cases hc : cs[o']? with
      | none => rw [hc] at hx; cases hx
      | some v =>
        rw [hc] at hx
        obtain rfl := Option.some.inj hx
        refine ⟨hB, ?_, ?_⟩
        · rw [cell_of_row _ _ _ _ _ _ (heap_alloc_new w (.cells cs T))]; exact hc
        · unfold World.frozen?; rw [heap_alloc_new w (.cells cs T)]; simp
    · simp only [if_neg hb] at hx
      have h2 := H b' o' x hx
      refine ⟨h2.1, h2.2.same ?_⟩
      exact Below.heap_alloc w _ _ h2.2.lt
  · intro b' o'
    by_cases hb : b' = w.heap.size
    · subst hb; exact .inr (hfar o')
    · left; simp [hb]
  · intro i v hi
    have : cs[i]? = some v := by simpa using hi
    simp [this]
end
theorem pts_append {b o : Nat} {xs ys : List Value} {h : Hp} (p : pts b o (xs ++ ys) h) : pts b o xs h ∧ pts b (o + xs.length) ys h := by
  refine ⟨fun i v hi => p i v ?_, fun i v hi => ?_⟩
  · rw [List.getElem?_append_left]
    · exact hi
    · rcases Nat.lt_or_ge i xs.length with h1 | h1
      · exact h1
      · rw [List.getElem?_eq_none h1] at hi; cases hi
  · have := p (xs.length + i) v (by rw [List.getElem?_append_right (by omega)]; simpa using hi)
    rwa [← Nat.add_assoc] at this
end Go.Proofs.Ytkfkiaieeiodnaa
