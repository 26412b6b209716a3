/- What Decode computes, in plain Lean, and the lemmas by which its rows are kept. -/
import Derived.Test.YtpbkelpokpglaaaGreatDec1
import Derived.OwnWalk
import Derived.Maps.AppendAt
set_option linter.all false
namespace Go.Proofs.YtpbkelpokpglaaaGreat
open Go.RowKit
def decInstr (bs : List Nat) (n lv : Int) (at_ : Nat) : Ins × Nat :=
  if rd bs at_ 3 = 0 then (⟨rd bs at_ 3, 1 + rd bs (at_ + 1) 4, 0⟩, at_ + 2)
  else if rd bs at_ 3 = 1 then (⟨rd bs at_ 3, rd bs (at_ + 1) n, rd bs (at_ + 2) lv⟩, at_ + 3)
  else (⟨rd bs at_ 3, rd bs (at_ + 1) 4, 0⟩, at_ + 2)
def decProg (bs : List Nat) (n lv : Int) : Nat → Nat → List Ins → List Ins × Nat
  | 0, at_, acc => (acc, at_)
  | j + 1, at_, acc => decProg bs n lv j (decInstr bs n lv at_).2 (acc ++ [(decInstr bs n lv at_).1])
def decProgs (bs : List Nat) (n lv : Int) : Nat → Nat → List (List Ins) → List (List Ins) × Nat
  | 0, at_, acc => (acc, at_)
  | j + 1, at_, acc => decProgs bs n lv j (decProg bs n lv (rd bs at_ 6).toNat (at_ + 1) []).2 (acc ++ [(decProg bs n lv (rd bs at_ 6).toNat (at_ + 1) []).1])
def decSubs (bs : List Nat) (n lv : Int) : Nat → Nat → List Sub → List Sub
  | 0, _, acc => acc
  | j + 1, at_, acc => decSubs bs n lv j (at_ + 3) (acc ++ [⟨rd bs at_ n, rd bs (at_ + 1) lv, rd bs (at_ + 2) 16⟩])
def decN (bs : List Nat) : Int := 1 + rd bs 9 4
def decLv (bs : List Nat) : Int := 1 + rd bs 1 4
def decPs (bs : List Nat) : List (List Ins) × Nat := decProgs bs (decN bs) (decLv bs) (decN bs).toNat 10 []
def decode (bs : List Nat) : Cfg where
  workers := 1 + rd bs 0 4
  levels := decLv bs
  classes := 1 + rd bs 2 (if decLv bs < 3 then decLv bs else 3)
  tasks := 1 + rd bs 3 12
  deque := 1 + rd bs 4 4
  heap := 1 + rd bs 5 4
  batch := 1 + rd bs 6 (1 + rd bs 4 4)
  age := rd bs 7 6
  patience := 1 + rd bs 8 8
  progs := (decPs bs).1
  subs := decSubs bs (decN bs) (decLv bs) (rd bs (decPs bs).2 6).toNat ((decPs bs).2 + 1) []
section
variable {a b c : World} {row row2 : Option Nat}
theorem grown_refl (a : World) (row : Option Nat) : a.grownBy a row := ⟨rfl, rfl, rfl, Nat.le_refl _, fun _ _ _ => rfl⟩
theorem grown_new (h : a.grownBy b row) (k : b.grownBy c row2) (hr : ∀ x, row2 = some x → a.heap.size ≤ x ∨ row = some x) : a.grownBy c row :=
  ⟨k.os.trans h.os, k.tape.trans h.tape, k.output.trans h.output, Nat.le_trans h.size k.size, fun i hi hne =>
    (k.block i (Nat.lt_of_lt_of_le hi h.size) (fun e => by rcases hr i e.symm with h1 | h1 <;> first | omega | exact hne h1.symm)).trans (h.block i hi hne)⟩
theorem grown_set (h : a.grownBy b row) {p : Addr} {u : Value} (hp : a.heap.size ≤ p.block ∨ row = some p.block) : a.grownBy (b.setCell p u) row :=
  grown_new h (row2 := some p.block) ⟨rfl, rfl, rfl, by simp [World.setCell], fun k _ hne => Below.heap_setCell b p u k (fun e => hne (by rw [e]))⟩ (fun x e => by injection e with e; rw [← e]; exact hp)
theorem grown_alloc (h : a.grownBy b row) {o : Obj} : a.grownBy (b.alloc o) row := h.trans (World.grownBy_alloc _ _ _)
theorem below_grown {B : Nat} (hb : Below B a b) (hg : b.grownBy c row) (hB : B ≤ b.heap.size) (hrow : ∀ x, row = some x → B ≤ x) : Below B a c :=
  ⟨hg.os.trans hb.os, hg.tape.trans hb.tape, hg.output.trans hb.output, Nat.le_trans hb.size hg.size, fun g hlt => (hg.block g (by omega) (fun e => by have := hrow g e.symm; omega)).trans (hb.block g hlt)⟩
end
section
variable {w w' : World} {base base2 : Nat} {e e2 : TypeId} {size size2 : Nat} {v v2 : Value} {n n2 : Nat} {xs xs2 : List Value} {g : Nat} {t : TypeId} {cs : Array Value}
theorem row_ne (h : w.ownsRow base e size v n xs) (hB : Blk w g t cs) (hne : t ≠ e) : v.ownBlock = none ∨ v.ownBlock ≠ some g := by
  rcases h.2 with ⟨rfl, _⟩ | ⟨g', cap, cur, rfl, _, hg, _⟩
  · exact .inl rfl
  · refine .inr fun e1 => ?_
    injection e1 with e1
    subst e1
    unfold Blk at hB
    rw [hg] at hB
    injection hB with hB
    injection hB with _ hB
    exact hne hB.symm
theorem rows_ne (h : w.ownsRow base e size v n xs) (h2 : w.ownsRow base2 e2 size2 v2 n2 xs2) (hne : e2 ≠ e) : v.ownBlock = none ∨ v.ownBlock ≠ v2.ownBlock := by
  rcases h2.2 with ⟨rfl, _⟩ | ⟨g', cap, cur, rfl, _, hg, _⟩
  · rcases h.2 with ⟨rfl, _⟩ | ⟨g'', cap, cur, rfl, _⟩
    · exact .inl rfl
    · exact .inr (by simp [Value.ownBlock])
  · exact row_ne h (t := e2) hg hne
theorem blk_row {g : Nat} (hB : Blk w g t cs) (h : w.ownsRow base e size v n xs) (hne : t ≠ e) : some g ≠ v.ownBlock := by
  rcases row_ne h hB hne with h1 | h1
  · rw [h1]; simp
  · exact fun e => h1 e.symm
theorem row_set (h : w.ownsRow base e size v n xs) (hB : Blk w g t cs) (hne : t ≠ e) (i : Nat) (u : Value) : (w.setCell ⟨g, i, none⟩ u).ownsRow base e size v n xs :=
  h.kept (grown_set (grown_refl w (some g)) (.inr rfl)) (row_ne h hB hne)
end
/-- The programs that are made so far: rows of the call's own. -/
def PrAcc (w : World) (base : Nat) (vs : List Value) (acc : List (List Ins)) : Prop :=
  vs.length = acc.length ∧ ∀ (i : Nat) (p : List Ins), acc[i]? = some p → ∃ u, vs[i]? = some u ∧ w.ownsRow base 112 3 u p.length (p.flatMap Ins.enc)
theorem PrAcc.kept {w w' : World} {base : Nat} {vs : List Value} {acc : List (List Ins)} {row : Option Nat} (h : PrAcc w base vs acc) (hg : w.grownBy w' row) (hne : ∀ u n xs, w.ownsRow base 112 3 u n xs → u.ownBlock = none ∨ u.ownBlock ≠ row) : PrAcc w' base vs acc :=
  ⟨h.1, fun i p hp => by obtain ⟨u, h1, h2⟩ := h.2 i p hp; exact ⟨u, h1, h2.kept hg (hne _ _ _ h2)⟩⟩
theorem PrAcc.push {w : World} {base : Nat} {vs : List Value} {acc : List (List Ins)} {p : List Ins} {u : Value} (h : PrAcc w base vs acc) (hu : w.ownsRow base 112 3 u p.length (p.flatMap Ins.enc)) : PrAcc w base (vs ++ [u]) (acc ++ [p]) := by
  refine ⟨by simp [h.1], fun i q hq => ?_⟩
  rcases Nat.lt_or_ge i acc.length with hlt | hge
  · rw [List.getElem?_append_left hlt] at hq
    obtain ⟨u', h1, h2⟩ := h.2 i q hq
    exact ⟨u', by rw [List.getElem?_append_left (by rw [h.1]; exact hlt)]; exact h1, h2⟩
  · rw [List.getElem?_append_right hge] at hq
    have e : i - acc.length = 0 := by
      rcases Nat.eq_zero_or_pos (i - acc.length) with h0 | h0
      · exact h0
      · rw [List.getElem?_eq_none (by simp; omega)] at hq; cases hq
    rw [e] at hq
    injection hq with hq
    subst hq
    exact ⟨u, by rw [List.getElem?_append_right (by rw [h.1]; exact hge), h.1, e]; rfl, hu⟩
theorem flat_getD {α : Type} {enc : α → List Value} {sz : Nat} (henc : ∀ x, (enc x).length = sz) : ∀ (xs : List α) (i : Nat) (x : α), xs[i]? = some x → ∀ (j : Nat) u, (enc x)[j]? = some u → (xs.flatMap enc)[i * sz + j]? = some u
  | [], _, _, h, _, _, _ => by simp at h
  | y :: ys, 0, x, h, j, u, hu => by
    simp at h; subst h
    have hj : j < (enc y).length := by
      rcases Nat.lt_or_ge j (enc y).length with h | h
      · exact h
      · rw [List.getElem?_eq_none h] at hu; cases hu
    rw [List.flatMap_cons, Nat.zero_mul, Nat.zero_add, List.getElem?_append_left hj]; exact hu
  | y :: ys, i + 1, x, h, j, u, hu => by
    simp at h
    rw [List.flatMap_cons, List.getElem?_append_right (by rw [henc, Nat.succ_mul]; omega), henc, show (i + 1) * sz + j - sz = i * sz + j from by rw [Nat.succ_mul]; omega]
    exact flat_getD henc ys i x h j u hu
theorem addr_add (g j : Nat) : (⟨g, 0, none⟩ : Addr).add j = ⟨g, j, none⟩ := by unfold Addr.add; split <;> simp_all
theorem sl_of_row {α : Type} {enc : α → List Value} {sz : Nat} (henc : ∀ x, (enc x).length = sz) {w : World} {base : Nat} {e : TypeId} {v : Value} {xs : List α} (h : w.ownsRow base e sz v xs.length (xs.flatMap enc)) (hl : xs.length ≤ 9223372036854775807) :
    ∃ A cap, v = .slice A xs.length cap ∧ Sl enc sz w w.heap.size A xs := by
  rcases h.2 with ⟨rfl, h0⟩ | ⟨g, cap, cur, rfl, hb, hg, _⟩
  · have : xs = [] := List.eq_nil_of_length_eq_zero h0
    subst this
    exact ⟨none, 0, rfl, Sl.nil⟩
  · refine ⟨_, _, rfl, hl, fun _ => ⟨g, 0, rfl, (h.lt g rfl).2, fun i x hx j u hu => ?_⟩⟩
    have := h.cells (g := g) rfl (i * sz + j) u (flat_getD henc xs i x hx j u hu)
    rw [addr_add] at this
    rw [Nat.zero_add]
    exact this
theorem progs_of_rows {w : World} {base : Nat} {v : Value} {vs : List Value} {acc : List (List Ins)} (h : w.ownsRow base 110 1 v acc.length vs) (hp : PrAcc w base vs acc) (hl : acc.length ≤ 9223372036854775807) (hl2 : ∀ p ∈ acc, p.length ≤ 9223372036854775807) :
    ∃ A cap, v = .slice A acc.length cap ∧ Progs w w.heap.size A acc := by
  rcases h.2 with ⟨rfl, h0⟩ | ⟨g, cap, cur, rfl, hb, hg, _⟩
  · have : acc = [] := List.eq_nil_of_length_eq_zero h0
    subst this
    exact ⟨none, 0, rfl, by simp, fun h => absurd rfl h⟩
  · refine ⟨_, _, rfl, hl, fun _ => ⟨g, 0, rfl, (h.lt g rfl).2, fun i p hpi => ?_⟩⟩
    obtain ⟨u, h1, h2⟩ := hp.2 i p hpi
    obtain ⟨A, c, rfl, hs⟩ := sl_of_row (fun x => by cases x; rfl) h2 (hl2 p (List.mem_of_getElem? hpi))
    refine ⟨A, c, ?_, hs⟩
    have := h.cells (g := g) rfl i _ h1
    rw [addr_add] at this
    rw [Nat.zero_add]
    exact this
end Go.Proofs.YtpbkelpokpglaaaGreat
