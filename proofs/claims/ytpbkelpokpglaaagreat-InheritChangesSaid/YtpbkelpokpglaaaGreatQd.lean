/- Rows of things each of which holds a list of numbers that is only read. No program occurs here. The reference's data: memories, records, frames, events; how they lie; words for what its functions answer. No program occurs here. -/
import Derived.Test.YtpbkelpokpglaaaGreatQc
set_option linter.all false
namespace Go.Proofs.YtpbkelpokpglaaaGreat
section
open Go Go.RowKit
theorem pts_join {b o : Nat} {xs ys : List Value} {h k : Hp} (p1 : pts b o xs h) (p2 : pts b (o + xs.length) ys k) (a : apart h k) : pts b o (xs ++ ys) (join h k) := fun i v hi => by
  unfold join
  rcases Nat.lt_or_ge i xs.length with h1 | h1
  · rw [List.getElem?_append_left h1] at hi
    rw [p1 i v hi]
  · rw [List.getElem?_append_right h1] at hi
    have := p2 _ v hi
    rw [Nat.add_assoc, Nat.add_sub_cancel' h1] at this
    rcases a b (o + i) with e | e | ⟨u, _, e⟩
    · rw [e]; exact this
    · rw [e] at this; cases this
    · rw [e] at this; cases this
theorem pts_split {b o : Nat} {xs ys : List Value} {h : Hp} (p : pts b o (xs ++ ys) h) : ∃ h1 h2, apart h1 h2 ∧ h = join h1 h2 ∧ pts b o xs h1 ∧ pts b (o + xs.length) ys h2 := by
  have p2 := pts_append p
  refine ⟨fun b' o' => if b' = b ∧ o' < o + xs.length then h b' o' else none, fun b' o' => if b' = b ∧ o' < o + xs.length then none else h b' o', fun b' o' => ?_, ?_, fun i v hi => ?_, fun i v hi => ?_⟩
  · by_cases hc : b' = b ∧ o' < o + xs.length
    · simp only [if_pos hc]; exact .inr (.inl rfl)
    · simp only [if_neg hc]; exact .inl rfl
  · funext b' o'
    unfold join
    by_cases hc : b' = b ∧ o' < o + xs.length
    · simp only [if_pos hc]; cases h b' o' <;> rfl
    · simp only [if_neg hc]
  · have hlt := (List.getElem?_eq_some_iff.1 hi).1
    simp only [true_and]
    rw [if_pos (by omega)]
    exact p2.1 i v hi
  · have : ¬ (b = b ∧ o + xs.length + i < o + xs.length) := by omega
    show (if b = b ∧ o + xs.length + i < o + xs.length then none else h b (o + xs.length + i)) = _
    rw [if_neg this]
    exact p2.2 i v hi
theorem pts_two {b o : Nat} {xs ys : List Value} {L : List SProp} : Ent (pts b o (xs ++ ys) :: L) (pts b o xs :: pts b (o + xs.length) ys :: L) := fun h s => by
  obtain ⟨k1, k2, a, e, hA, hL⟩ := s
  obtain ⟨h1, h2, a', e', p1, p2⟩ := pts_split hA
  subst e'
  have a2 := (apart_join2 a').1 a
  exact ⟨h1, join h2 k2, apart_comm ((apart_join2 a2.2).2 ⟨apart_comm a', apart_comm a2.1⟩), by rw [e, join_assoc], p1, h2, k2, a2.2, rfl, p2, hL⟩
theorem pts_one {b o o' : Nat} {xs ys : List Value} {L : List SProp} (ho : o + xs.length = o') : Ent (pts b o xs :: pts b o' ys :: L) (pts b o (xs ++ ys) :: L) := fun h s => by
  subst ho
  obtain ⟨k1, k2, a, e, hA, k3, k4, a', e', hB, hL⟩ := s
  subst e'
  have a1 := (apart_join2 a').1 (apart_comm a)
  exact ⟨join k1 k3, k4, (apart_join2 (apart_comm a1.1)).2 ⟨apart_comm a1.2, a'⟩, by rw [e, join_assoc], pts_join hA hB (apart_comm a1.1), hL⟩
section
variable {α : Type} (enc : α → Option Addr → Nat → List Value) (lst : α → List Int) (sz : Nat)
end
section
variable {α : Type} {enc : α → Option Addr → Nat → List Value} {lst : α → List Int} {sz : Nat}
variable {r : Option Nat} {P : Program} {ops : Array Oper} {Q : Exit → Act → World → Prop} {n B : Nat} {W : World} {R R' : RList} {L L' M : List SProp} {v : Value} {x y z : Operand}
  {d : Option Tmp} {ty : TypeId} {ps : String} {af : Array Edge} {g : Option (Nat × Bool)} {T T' : TypeId} {A : Option Addr} {c i : Nat} {xs : List α}
end
end
section
open Go Go.RowKit
structure AccV where
  kind : Int
  cell : Int
  old : Int
  new : Int
  deriving DecidableEq, Inhabited
structure MemV where
  cells : List Int
  last : AccV
  count : Int
  deriving DecidableEq, Inhabited
structure RecV where
  prog : Int
  parent : Int
  pc : Int
  left : Int
  waiting : Int
  kids : List Int
  started : Bool
  deriving DecidableEq, Inhabited
structure QV where
  top : Int
  bottom : Int
  ring : Int
  cap : Int
  deriving DecidableEq, Inhabited
structure FrV where
  kind : Int
  line : Int
  q : QV
  a : Int
  b : Int
  d : Int
  i : Int
  j : Int
  n : Int
  t : Int
  u : Int
  v : Int
  w : Int
  x : Int
  l : List Int
  deriving DecidableEq, Inhabited
structure ResV where
  done : Bool
  code : Int
  value : Int
  deriving DecidableEq, Inhabited
structure EntV where
  kind : Int
  value : Int
  deriving DecidableEq, Inhabited
deriving instance Inhabited for Ins
deriving instance Inhabited for Sub
deriving instance Inhabited for Ev
def EntV.enc (x : EntV) : List Value := [.int .i64 x.kind, .int .i64 x.value]
instance : Inhabited Addr := ⟨⟨0, 0, none⟩⟩
/-! ### Words -/
@[reducible] def wi (a : Int) : Int := IntKind.i64.wrap a
@[reducible] def wu (a : Int) : Int := IntKind.u64.wrap a
@[reducible] def orU (a b : Int) : Int := IntKind.u64.wrap (BitVec.ofInt IntKind.u64.bits a ||| BitVec.ofInt IntKind.u64.bits b).toNat
@[reducible] def andU (a b : Int) : Int := IntKind.u64.wrap (BitVec.ofInt IntKind.u64.bits a &&& BitVec.ofInt IntKind.u64.bits b).toNat
@[reducible] def cplU (a : Int) : Int := IntKind.u64.wrap (BitVec.ofInt IntKind.u64.bits (if IntKind.u64.signed then -1 else IntKind.u64.max) ^^^ BitVec.ofInt IntKind.u64.bits a).toNat
def at_ {α : Type} [Inhabited α] (xs : List α) (i : Int) : α := (xs[i.toNat]?).getD default
/-! ### Reading -/
section
variable {r : Option Nat} {P : Program} {ops : Array Oper} {Q : Exit → Act → World → Prop} {n B : Nat} {W : World} {R R' : RList} {L L' M : List SProp} {v : Value} {x y z : Operand}
  {d : Option Tmp} {ty : TypeId} {ps : String} {af : Array Edge} {g : Option (Nat × Bool)} {T T' : TypeId} {α : Type} {enc : α → List Value} {sz : Nat} {A : Option Addr} {c : Nat} {xs : List α}
/-! ### Loops that answer -/
/-! ### Rows of plain things -/
end
end
end Go.Proofs.YtpbkelpokpglaaaGreat
