/- What always holds of the reference's machines, 1: lines. No program occurs here. What always holds of the reference's machines, 2: frames, their stack, a step. -/
import Derived.Test.YtpbkelpokpglaaaGreatQr
import Derived.Test.YtpbkelpokpglaaaGreatQs
set_option linter.all false
namespace Go.Proofs.YtpbkelpokpglaaaGreat
section
open Go
structure FrR (K : Nat) (f : FrV) : Prop where
  a : Rg f.a
  b : Rg f.b
  d : Rg f.d
  i : Rg f.i
  j : Rg f.j
  n : Rg f.n
  t : Rg f.t
  l : ∀ x ∈ f.l, Rg x
  ln : f.l.length ≤ K
  cap : f.q.cap ≤ 9223372036854775807
structure EvR (e : Ev) : Prop where
  kind : Rg e.kind
  worker : Rg e.worker
  task : Rg e.task
  other : Rg e.other
  level : Rg e.level
def EvsR (K : Nat) (evs : List Ev) : Prop := evs.length ≤ K ∧ ∀ e ∈ evs, EvR e
def RcsR (K : Nat) (c : Cfg) (recs : List RecV) : Prop := (recs.length : Int) = c.tasks ∧ ∀ r ∈ recs, r.kids.length ≤ K ∧ ∀ x ∈ r.kids, Rg x
theorem FrR.le {K L : Nat} {f : FrV} (h : FrR K f) (hl : K ≤ L) : FrR L f := ⟨h.a, h.b, h.d, h.i, h.j, h.n, h.t, h.l, Nat.le_trans h.ln hl, h.cap⟩
theorem EvsR.le {K L : Nat} {e : List Ev} (h : EvsR K e) (hl : K ≤ L) : EvsR L e := ⟨Nat.le_trans h.1 hl, h.2⟩
theorem RcsR.le {K L : Nat} {c : Cfg} {e : List RecV} (h : RcsR K c e) (hl : K ≤ L) : RcsR L c e := ⟨h.1, fun r hr => ⟨Nat.le_trans (h.2 r hr).1 hl, (h.2 r hr).2⟩⟩
theorem FrR.up {K : Nat} {f : FrV} (h : FrR K f) : FrR (K + 1) f := h.le (Nat.le_succ K)
theorem rg0 : Rg 0 := rg_lit (by decide)
theorem rg_low (x : Int) : Rg (lowV x) := by have := lowV_rg x; exact rg_lit (by omega)
theorem rg_high (x : Int) : Rg (highV x) := by have := highV_rg x; exact rg_lit (by omega)
/-- What a line may do with an environment, as long as no event is emitted. -/
structure EP (K : Nat) (e e' : EnvV) : Prop where
  c : e'.c = e.c
  now : e'.now = e.now
  draw : e'.draw = e.draw
  len : e'.m.cells.length = e.m.cells.length
  rcs : RcsR K e.c e.recs → RcsR (K + 1) e.c e'.recs
  evs : e'.evs = e.evs
/-- One event at most. -/
structure EQ (K : Nat) (e e' : EnvV) : Prop where
  c : e'.c = e.c
  now : e'.now = e.now
  draw : e'.draw = e.draw
  len : e'.m.cells.length = e.m.cells.length
  rcs : RcsR K e.c e.recs → RcsR (K + 1) e.c e'.recs
  evs : EvsR K e.evs → EvsR (K + 1) e'.evs
section
variable {K : Nat} {e e' : EnvV} {f : FrV}
theorem EP.refl : EP K e e := ⟨rfl, rfl, rfl, rfl, fun h => h.le (Nat.le_succ K), rfl⟩
theorem EP.ac (h : EP K e e') {k a v w : Int} : EP K e (e'.ac k a v w) := ⟨h.c, h.now, h.draw, (acc_len _ _ _ _ _).trans h.len, h.rcs, h.evs⟩
theorem mem_set {α : Type} {xs : List α} {n : Nat} {y x : α} (h : x ∈ xs.set n y) : x = y ∨ x ∈ xs := by
  rcases List.mem_or_eq_of_mem_set h with h | h
  · exact .inr h
  · exact .inl h
theorem EP.put (h : EP K e e') {t : Int} {r : RecV} (hr : RcsR K e.c e.recs → r.kids.length ≤ K + 1 ∧ ∀ x ∈ r.kids, Rg x) : EP K e (e'.put t r) := ⟨h.c, h.now, h.draw, h.len, fun hh => by
  have h1 := h.rcs hh
  refine ⟨by simp [EnvV.put]; exact h1.1, fun x hx => ?_⟩
  rcases mem_set hx with rfl | hx
  · exact hr hh
  · exact h1.2 x hx, h.evs⟩
theorem EQ.of (h : EP K e e') : EQ K e e' := ⟨h.c, h.now, h.draw, h.len, h.rcs, fun hh => by rw [h.evs]; exact hh.le (Nat.le_succ K)⟩
theorem EQ.em (h : EP K e e') {k w t o l : Int} (hk : Rg k) (hw : Rg w) (ht : Rg t) (ho : Rg o) (hl : Rg l) : EQ K e (e'.em k w t o l) := ⟨h.c, h.now, h.draw, h.len, h.rcs, fun hh => by
  refine ⟨by simp [EnvV.em, h.evs]; exact hh.1, fun x hx => ?_⟩
  have hx2 : x ∈ e.evs ++ [⟨k, w, t, o, l⟩] := by rw [← h.evs]; exact hx
  rcases List.mem_append.1 hx2 with hx | hx
  · exact hh.2 x hx
  · rw [List.mem_singleton] at hx; subst hx; exact ⟨hk, hw, ht, ho, hl⟩⟩
theorem at_in {α : Type} {d : α} {xs : List α} {i : Int} (h : 0 ≤ i ∧ i < (xs.length : Int)) : atL d xs i ∈ xs := List.mem_of_getElem? (atL_get h)
theorem rc_ok (hr : RcsR K e.c e.recs) (t : Int) : (e.rc t).kids.length ≤ K ∧ ∀ x ∈ (e.rc t).kids, Rg x := by
  by_cases h : t.toNat < e.recs.length
  · refine hr.2 _ ?_
    have : e.recs[t.toNat]? = some (e.rc t) := by simp [EnvV.rc, atK7, atL, h]; rfl
    exact List.mem_of_getElem? this
  · have : e.rc t = (dfR 7 : TR 7) := by simp [EnvV.rc, atK7, atL, h]; rfl
    rw [this]
    exact ⟨Nat.zero_le _, fun x hx => by cases hx⟩
/-- A line of a frame: the frame's numbers stay numbers, its kind stays. -/
structure LfP (K : Nat) (e : EnvV) (f : FrV) (o : Lf) : Prop where
  fr : FrR (K + 1) o.2.2
  kind : o.2.2.kind = f.kind
  val : Rg o.1.value
  env : EQ K e o.2.1
theorem push_inv (h : FrR K f) : LfP K e f (pushM e f) := by
  unfold pushM
  repeat' split
  all_goals exact ⟨by dsimp only [go, fin]; (constructor <;> (try dsimp only) <;> first | with_reducible (first | assumption | exact rg_wi _ | exact h.a | exact h.b | exact h.d | exact h.i | exact h.j | exact h.n | exact h.t | exact h.l | exact h.up.ln | exact h.cap) | exact rg_lit (by decide) | with_reducible (first | exact rg_low _ | exact rg_high _)), rfl, by dsimp only [go, fin]; (first | with_reducible (first | assumption | exact rg_wi _ | exact h.a | exact h.b | exact h.d | exact h.i | exact h.j | exact h.n | exact h.t) | exact rg_lit (by decide) | with_reducible (first | exact rg_low _ | exact rg_high _)), by dsimp only [go, fin]; (first | with_reducible (first | exact EQ.of EP.refl | exact EQ.of EP.refl.ac) | (refine EQ.em (by first | with_reducible (first | exact EP.refl | exact EP.refl.ac)) ?_ ?_ ?_ ?_ ?_ <;> (first | with_reducible (first | assumption | exact rg_wi _ | exact h.a | exact h.b | exact h.d | exact h.i | exact h.j | exact h.n | exact h.t) | exact rg_lit (by decide) | with_reducible (first | exact rg_low _ | exact rg_high _))))⟩
theorem pop_inv (h : FrR K f) : LfP K e f (popM e f) := by
  unfold popM
  repeat' split
  all_goals exact ⟨by dsimp only [go, fin]; (constructor <;> (try dsimp only) <;> first | with_reducible (first | assumption | exact rg_wi _ | exact h.a | exact h.b | exact h.d | exact h.i | exact h.j | exact h.n | exact h.t | exact h.l | exact h.up.ln | exact h.cap) | exact rg_lit (by decide) | with_reducible (first | exact rg_low _ | exact rg_high _)), rfl, by dsimp only [go, fin]; (first | with_reducible (first | assumption | exact rg_wi _ | exact h.a | exact h.b | exact h.d | exact h.i | exact h.j | exact h.n | exact h.t) | exact rg_lit (by decide) | with_reducible (first | exact rg_low _ | exact rg_high _)), by dsimp only [go, fin]; (first | with_reducible (first | exact EQ.of EP.refl | exact EQ.of EP.refl.ac) | (refine EQ.em (by first | with_reducible (first | exact EP.refl | exact EP.refl.ac)) ?_ ?_ ?_ ?_ ?_ <;> (first | with_reducible (first | assumption | exact rg_wi _ | exact h.a | exact h.b | exact h.d | exact h.i | exact h.j | exact h.n | exact h.t) | exact rg_lit (by decide) | with_reducible (first | exact rg_low _ | exact rg_high _))))⟩
theorem steal_inv (h : FrR K f) : LfP K e f (stealM e f) := by
  unfold stealM
  repeat' split
  all_goals exact ⟨by dsimp only [go, fin]; (constructor <;> (try dsimp only) <;> first | with_reducible (first | assumption | exact rg_wi _ | exact h.a | exact h.b | exact h.d | exact h.i | exact h.j | exact h.n | exact h.t | exact h.l | exact h.up.ln | exact h.cap) | exact rg_lit (by decide) | with_reducible (first | exact rg_low _ | exact rg_high _)), rfl, by dsimp only [go, fin]; (first | with_reducible (first | assumption | exact rg_wi _ | exact h.a | exact h.b | exact h.d | exact h.i | exact h.j | exact h.n | exact h.t) | exact rg_lit (by decide) | with_reducible (first | exact rg_low _ | exact rg_high _)), by dsimp only [go, fin]; (first | with_reducible (first | exact EQ.of EP.refl | exact EQ.of EP.refl.ac) | (refine EQ.em (by first | with_reducible (first | exact EP.refl | exact EP.refl.ac)) ?_ ?_ ?_ ?_ ?_ <;> (first | with_reducible (first | assumption | exact rg_wi _ | exact h.a | exact h.b | exact h.d | exact h.i | exact h.j | exact h.n | exact h.t) | exact rg_lit (by decide) | with_reducible (first | exact rg_low _ | exact rg_high _))))⟩
theorem clear_inv (h : FrR K f) : LfP K e f (clearM e f) := by
  unfold clearM
  repeat' split
  all_goals exact ⟨by dsimp only [go, fin]; (constructor <;> (try dsimp only) <;> first | with_reducible (first | assumption | exact rg_wi _ | exact h.a | exact h.b | exact h.d | exact h.i | exact h.j | exact h.n | exact h.t | exact h.l | exact h.up.ln | exact h.cap) | exact rg_lit (by decide) | with_reducible (first | exact rg_low _ | exact rg_high _)), rfl, by dsimp only [go, fin]; (first | with_reducible (first | assumption | exact rg_wi _ | exact h.a | exact h.b | exact h.d | exact h.i | exact h.j | exact h.n | exact h.t) | exact rg_lit (by decide) | with_reducible (first | exact rg_low _ | exact rg_high _)), by dsimp only [go, fin]; (first | with_reducible (first | exact EQ.of EP.refl | exact EQ.of EP.refl.ac) | (refine EQ.em (by first | with_reducible (first | exact EP.refl | exact EP.refl.ac)) ?_ ?_ ?_ ?_ ?_ <;> (first | with_reducible (first | assumption | exact rg_wi _ | exact h.a | exact h.b | exact h.d | exact h.i | exact h.j | exact h.n | exact h.t) | exact rg_lit (by decide) | with_reducible (first | exact rg_low _ | exact rg_high _))))⟩
theorem insert_inv (h : FrR K f) : LfP K e f (insertM e f) := by
  unfold insertM
  repeat' split
  all_goals exact ⟨by dsimp only [go, fin]; (constructor <;> (try dsimp only) <;> first | with_reducible (first | assumption | exact rg_wi _ | exact h.a | exact h.b | exact h.d | exact h.i | exact h.j | exact h.n | exact h.t | exact h.l | exact h.up.ln | exact h.cap) | exact rg_lit (by decide) | with_reducible (first | exact rg_low _ | exact rg_high _)), rfl, by dsimp only [go, fin]; (first | with_reducible (first | assumption | exact rg_wi _ | exact h.a | exact h.b | exact h.d | exact h.i | exact h.j | exact h.n | exact h.t) | exact rg_lit (by decide) | with_reducible (first | exact rg_low _ | exact rg_high _)), by dsimp only [go, fin]; (first | with_reducible (first | exact EQ.of EP.refl | exact EQ.of EP.refl.ac) | (refine EQ.em (by first | with_reducible (first | exact EP.refl | exact EP.refl.ac)) ?_ ?_ ?_ ?_ ?_ <;> (first | with_reducible (first | assumption | exact rg_wi _ | exact h.a | exact h.b | exact h.d | exact h.i | exact h.j | exact h.n | exact h.t) | exact rg_lit (by decide) | with_reducible (first | exact rg_low _ | exact rg_high _))))⟩
theorem remove_inv (h : FrR K f) : LfP K e f (removeM e f) := by
  unfold removeM; have hu : Rg (unpackV f.u).2.2 := rg_wi _
  repeat' split
  all_goals exact ⟨by dsimp only [go, fin]; (constructor <;> (try dsimp only) <;> first | with_reducible (first | assumption | exact rg_wi _ | exact h.a | exact h.b | exact h.d | exact h.i | exact h.j | exact h.n | exact h.t | exact h.l | exact h.up.ln | exact h.cap) | exact rg_lit (by decide) | with_reducible (first | exact rg_low _ | exact rg_high _)), rfl, by dsimp only [go, fin]; (first | with_reducible (first | assumption | exact rg_wi _ | exact h.a | exact h.b | exact h.d | exact h.i | exact h.j | exact h.n | exact h.t) | exact rg_lit (by decide) | with_reducible (first | exact rg_low _ | exact rg_high _)), by dsimp only [go, fin]; (first | with_reducible (first | exact EQ.of EP.refl | exact EQ.of EP.refl.ac) | (refine EQ.em (by first | with_reducible (first | exact EP.refl | exact EP.refl.ac)) ?_ ?_ ?_ ?_ ?_ <;> (first | with_reducible (first | assumption | exact rg_wi _ | exact h.a | exact h.b | exact h.d | exact h.i | exact h.j | exact h.n | exact h.t) | exact rg_lit (by decide) | with_reducible (first | exact rg_low _ | exact rg_high _))))⟩
theorem publish_inv (h : FrR K f) : LfP K e f (publishM e f) := by
  unfold publishM
  repeat' split
  all_goals exact ⟨by dsimp only [go, fin]; (constructor <;> (try dsimp only) <;> first | with_reducible (first | assumption | exact rg_wi _ | exact h.a | exact h.b | exact h.d | exact h.i | exact h.j | exact h.n | exact h.t | exact h.l | exact h.up.ln | exact h.cap) | exact rg_lit (by decide) | with_reducible (first | exact rg_low _ | exact rg_high _)), rfl, by dsimp only [go, fin]; (first | with_reducible (first | assumption | exact rg_wi _ | exact h.a | exact h.b | exact h.d | exact h.i | exact h.j | exact h.n | exact h.t) | exact rg_lit (by decide) | with_reducible (first | exact rg_low _ | exact rg_high _)), by dsimp only [go, fin]; (first | with_reducible (first | exact EQ.of EP.refl | exact EQ.of EP.refl.ac) | (refine EQ.em (by first | with_reducible (first | exact EP.refl | exact EP.refl.ac)) ?_ ?_ ?_ ?_ ?_ <;> (first | with_reducible (first | assumption | exact rg_wi _ | exact h.a | exact h.b | exact h.d | exact h.i | exact h.j | exact h.n | exact h.t) | exact rg_lit (by decide) | with_reducible (first | exact rg_low _ | exact rg_high _))))⟩
theorem enterT_inv (h : FrR K f) : LfP K e f (enterTM e f) := by
  unfold enterTM
  repeat' split
  all_goals exact ⟨by dsimp only [go, fin]; (constructor <;> (try dsimp only) <;> first | with_reducible (first | assumption | exact rg_wi _ | exact h.a | exact h.b | exact h.d | exact h.i | exact h.j | exact h.n | exact h.t | exact h.l | exact h.up.ln | exact h.cap) | exact rg_lit (by decide) | with_reducible (first | exact rg_low _ | exact rg_high _)), rfl, by dsimp only [go, fin]; (first | with_reducible (first | assumption | exact rg_wi _ | exact h.a | exact h.b | exact h.d | exact h.i | exact h.j | exact h.n | exact h.t) | exact rg_lit (by decide) | with_reducible (first | exact rg_low _ | exact rg_high _)), by dsimp only [go, fin]; (first | with_reducible (first | exact EQ.of EP.refl | exact EQ.of EP.refl.ac) | (refine EQ.em (by first | with_reducible (first | exact EP.refl | exact EP.refl.ac)) ?_ ?_ ?_ ?_ ?_ <;> (first | with_reducible (first | assumption | exact rg_wi _ | exact h.a | exact h.b | exact h.d | exact h.i | exact h.j | exact h.n | exact h.t) | exact rg_lit (by decide) | with_reducible (first | exact rg_low _ | exact rg_high _))))⟩
theorem raise_inv (h : FrR K f) : LfP K e f (raiseM e f) := by
  unfold raiseM
  repeat' split
  all_goals exact ⟨by dsimp only [go, fin]; (constructor <;> (try dsimp only) <;> first | with_reducible (first | assumption | exact rg_wi _ | exact h.a | exact h.b | exact h.d | exact h.i | exact h.j | exact h.n | exact h.t | exact h.l | exact h.up.ln | exact h.cap) | exact rg_lit (by decide) | with_reducible (first | exact rg_low _ | exact rg_high _)), rfl, by dsimp only [go, fin]; (first | with_reducible (first | assumption | exact rg_wi _ | exact h.a | exact h.b | exact h.d | exact h.i | exact h.j | exact h.n | exact h.t) | exact rg_lit (by decide) | with_reducible (first | exact rg_low _ | exact rg_high _)), by dsimp only [go, fin]; (first | with_reducible (first | exact EQ.of EP.refl | exact EQ.of EP.refl.ac) | (refine EQ.em (by first | with_reducible (first | exact EP.refl | exact EP.refl.ac)) ?_ ?_ ?_ ?_ ?_ <;> (first | with_reducible (first | assumption | exact rg_wi _ | exact h.a | exact h.b | exact h.d | exact h.i | exact h.j | exact h.n | exact h.t) | exact rg_lit (by decide) | with_reducible (first | exact rg_low _ | exact rg_high _))))⟩
theorem walk_inv (h : FrR K f) : LfP K e f (walkM e f) := by
  unfold walkM
  repeat' split
  all_goals exact ⟨by dsimp only [go, fin]; (constructor <;> (try dsimp only) <;> first | with_reducible (first | assumption | exact rg_wi _ | exact h.a | exact h.b | exact h.d | exact h.i | exact h.j | exact h.n | exact h.t | exact h.l | exact h.up.ln | exact h.cap) | exact rg_lit (by decide) | with_reducible (first | exact rg_low _ | exact rg_high _)), rfl, by dsimp only [go, fin]; (first | with_reducible (first | assumption | exact rg_wi _ | exact h.a | exact h.b | exact h.d | exact h.i | exact h.j | exact h.n | exact h.t) | exact rg_lit (by decide) | with_reducible (first | exact rg_low _ | exact rg_high _)), by dsimp only [go, fin]; (first | with_reducible (first | exact EQ.of EP.refl | exact EQ.of EP.refl.ac) | (refine EQ.em (by first | with_reducible (first | exact EP.refl | exact EP.refl.ac)) ?_ ?_ ?_ ?_ ?_ <;> (first | with_reducible (first | assumption | exact rg_wi _ | exact h.a | exact h.b | exact h.d | exact h.i | exact h.j | exact h.n | exact h.t) | exact rg_lit (by decide) | with_reducible (first | exact rg_low _ | exact rg_high _))))⟩
theorem sweep_inv (h : FrR K f) : LfP K e f (sweepM e f) := by
  unfold sweepM
  repeat' split
  all_goals exact ⟨by dsimp only [go, fin]; (constructor <;> (try dsimp only) <;> first | with_reducible (first | assumption | exact rg_wi _ | exact h.a | exact h.b | exact h.d | exact h.i | exact h.j | exact h.n | exact h.t | exact h.l | exact h.up.ln | exact h.cap) | exact rg_lit (by decide) | with_reducible (first | exact rg_low _ | exact rg_high _)), rfl, by dsimp only [go, fin]; (first | with_reducible (first | assumption | exact rg_wi _ | exact h.a | exact h.b | exact h.d | exact h.i | exact h.j | exact h.n | exact h.t) | exact rg_lit (by decide) | with_reducible (first | exact rg_low _ | exact rg_high _)), by dsimp only [go, fin]; (first | with_reducible (first | exact EQ.of EP.refl | exact EQ.of EP.refl.ac) | (refine EQ.em (by first | with_reducible (first | exact EP.refl | exact EP.refl.ac)) ?_ ?_ ?_ ?_ ?_ <;> (first | with_reducible (first | assumption | exact rg_wi _ | exact h.a | exact h.b | exact h.d | exact h.i | exact h.j | exact h.n | exact h.t) | exact rg_lit (by decide) | with_reducible (first | exact rg_low _ | exact rg_high _))))⟩
theorem sleep_inv (h : FrR K f) (hn : Rg e.now) : LfP K e f (sleepM e f) := by
  unfold sleepM
  repeat' split
  all_goals exact ⟨by dsimp only [go, fin]; (constructor <;> (try dsimp only) <;> first | with_reducible (first | assumption | exact rg_wi _ | exact h.a | exact h.b | exact h.d | exact h.i | exact h.j | exact h.n | exact h.t | exact h.l | exact h.up.ln | exact h.cap) | exact rg_lit (by decide) | with_reducible (first | exact rg_low _ | exact rg_high _)), rfl, by dsimp only [go, fin]; (first | with_reducible (first | assumption | exact rg_wi _ | exact h.a | exact h.b | exact h.d | exact h.i | exact h.j | exact h.n | exact h.t) | exact rg_lit (by decide) | with_reducible (first | exact rg_low _ | exact rg_high _)), by dsimp only [go, fin]; (first | with_reducible (first | exact EQ.of EP.refl | exact EQ.of EP.refl.ac) | (refine EQ.em (by first | with_reducible (first | exact EP.refl | exact EP.refl.ac)) ?_ ?_ ?_ ?_ ?_ <;> (first | with_reducible (first | assumption | exact rg_wi _ | exact h.a | exact h.b | exact h.d | exact h.i | exact h.j | exact h.n | exact h.t) | exact rg_lit (by decide) | with_reducible (first | exact rg_low _ | exact rg_high _))))⟩
theorem wake_inv (h : FrR K f) : LfP K e f (wakeM e f) := by
  unfold wakeM
  repeat' split
  all_goals exact ⟨by dsimp only [go, fin]; (constructor <;> (try dsimp only) <;> first | with_reducible (first | assumption | exact rg_wi _ | exact h.a | exact h.b | exact h.d | exact h.i | exact h.j | exact h.n | exact h.t | exact h.l | exact h.up.ln | exact h.cap) | exact rg_lit (by decide) | with_reducible (first | exact rg_low _ | exact rg_high _)), rfl, by dsimp only [go, fin]; (first | with_reducible (first | assumption | exact rg_wi _ | exact h.a | exact h.b | exact h.d | exact h.i | exact h.j | exact h.n | exact h.t) | exact rg_lit (by decide) | with_reducible (first | exact rg_low _ | exact rg_high _)), by dsimp only [go, fin]; (first | with_reducible (first | exact EQ.of EP.refl | exact EQ.of EP.refl.ac) | (refine EQ.em (by first | with_reducible (first | exact EP.refl | exact EP.refl.ac)) ?_ ?_ ?_ ?_ ?_ <;> (first | with_reducible (first | assumption | exact rg_wi _ | exact h.a | exact h.b | exact h.d | exact h.i | exact h.j | exact h.n | exact h.t) | exact rg_lit (by decide) | with_reducible (first | exact rg_low _ | exact rg_high _))))⟩
theorem drain_inv (h : FrR K f) : LfP K e f (drainM e f) := by
  unfold drainM
  repeat' split
  all_goals exact ⟨by dsimp only [go, fin]; (constructor <;> (try dsimp only) <;> first | with_reducible (first | assumption | exact rg_wi _ | exact h.a | exact h.b | exact h.d | exact h.i | exact h.j | exact h.n | exact h.t | exact h.l | exact h.up.ln | exact h.cap) | exact rg_lit (by decide) | with_reducible (first | exact rg_low _ | exact rg_high _)), rfl, by dsimp only [go, fin]; (first | with_reducible (first | assumption | exact rg_wi _ | exact h.a | exact h.b | exact h.d | exact h.i | exact h.j | exact h.n | exact h.t) | exact rg_lit (by decide) | with_reducible (first | exact rg_low _ | exact rg_high _)), by dsimp only [go, fin]; (first | with_reducible (first | exact EQ.of EP.refl | exact EQ.of EP.refl.ac) | (refine EQ.em (by first | with_reducible (first | exact EP.refl | exact EP.refl.ac)) ?_ ?_ ?_ ?_ ?_ <;> (first | with_reducible (first | assumption | exact rg_wi _ | exact h.a | exact h.b | exact h.d | exact h.i | exact h.j | exact h.n | exact h.t) | exact rg_lit (by decide) | with_reducible (first | exact rg_low _ | exact rg_high _))))⟩
theorem claim_inv (h : FrR K f) : LfP K e f (claimM e f) := by
  unfold claimM
  split
  · refine ⟨h.up, rfl, h.b, EQ.em (EP.refl.ac.put fun hr => ?_) ?_ ?_ ?_ ?_ ?_⟩
    · have := rc_ok hr f.b
      exact ⟨Nat.le_succ_of_le this.1, this.2⟩
    · split <;> exact rg_lit (by decide)
    all_goals (first | with_reducible (first | assumption | exact rg_wi _ | exact h.a | exact h.b | exact h.d | exact h.i | exact h.j | exact h.n | exact h.t) | exact rg_lit (by decide) | with_reducible (first | exact rg_low _ | exact rg_high _))
  · refine ⟨h.up, rfl, rg0, EQ.em EP.refl.ac ?_ ?_ ?_ ?_ ?_⟩ <;> (first | with_reducible (first | assumption | exact rg_wi _ | exact h.a | exact h.b | exact h.d | exact h.i | exact h.j | exact h.n | exact h.t) | exact rg_lit (by decide) | with_reducible (first | exact rg_low _ | exact rg_high _))
theorem alloc_inv (h : FrR K f) : LfP K e f (allocM e f) ∧ (allocM e f).1.done = true ∧ (allocM e f).2.1.recs = e.recs ∧ ((allocM e f).1.code = 3 ∨ IsTask e (allocM e f).1.value) := by
  unfold allocM
  split
  · rename_i hh; exact ⟨⟨h.up, rfl, rg_wi _, EQ.of EP.refl.ac⟩, rfl, rfl, .inr hh⟩
  · exact ⟨⟨h.up, rfl, rg0, EQ.of EP.refl.ac⟩, rfl, rfl, .inl rfl⟩
theorem probe_inv (h : FrR K f) (hc : CfgOk e.c) (hd : Rg e.draw) (hi : 0 ≤ f.i ∧ f.i ≤ e.c.workers) : LfP K e f (probeM e f) ∧ ((probeM e f).1.done = false → 0 ≤ (probeM e f).2.2.i ∧ (probeM e f).2.2.i ≤ e.c.workers) := by
  have w1 := hc.w1
  have w2 := hc.w2
  have hb : FrR K (probeB e f) ∧ (probeB e f).kind = f.kind ∧ (probeB e f).i = f.i := by
    unfold probeB
    split
    · have hdr : Rg (drawV e.draw e.c.workers) := drawV_big (by omega)
      refine ⟨?_, rfl, rfl⟩
      constructor <;> (try dsimp only) <;> first | exact hdr | exact h.a | exact h.b | exact h.d | exact h.i | exact h.l | exact h.ln | exact h.cap | exact rg_lit (by decide)
    · exact ⟨h, rfl, rfl⟩
  unfold probeM
  generalize probeB e f = g at hb
  obtain ⟨hg, hk, hgi⟩ := hb
  suffices H : LfP K e g (probeX e g) ∧ ((probeX e g).1.done = false → 0 ≤ (probeX e g).2.2.i ∧ (probeX e g).2.2.i ≤ e.c.workers) from ⟨⟨H.1.fr, H.1.kind.trans hk, H.1.val, H.1.env⟩, H.2⟩
  rw [← hgi] at hi
  clear h hk hgi
  have h := hg
  have hI : g.i ≤ probeI e g ∧ probeI e g ≤ g.i + 1 := by
    unfold probeI
    split
    · rw [wi_id (rg_lit (by omega))]; omega
    · omega
  have hI2 : wi (probeI e g + 1) = probeI e g + 1 := wi_id (rg_lit (by omega))
  have hv : Rg (probeV e g) := tmod_rg w1 (by omega)
  have hf : FrR (K + 1) (probeF e g) ∧ (probeF e g).kind = g.kind ∧ (probeF e g).i = probeI e g + 1 := by
    unfold probeF
    have hh : Rg (probeH e g) := rg_high _
    split
    · refine ⟨?_, rfl, hI2⟩
      (constructor <;> (try dsimp only) <;> first | with_reducible (first | assumption | exact rg_wi _ | exact h.a | exact h.b | exact h.d | exact h.i | exact h.j | exact h.n | exact h.t | exact h.l | exact h.up.ln | exact h.cap) | exact rg_lit (by decide) | with_reducible (first | exact rg_low _ | exact rg_high _))
    · refine ⟨?_, rfl, hI2⟩
      (constructor <;> (try dsimp only) <;> first | with_reducible (first | assumption | exact rg_wi _ | exact h.a | exact h.b | exact h.d | exact h.i | exact h.j | exact h.n | exact h.t | exact h.l | exact h.up.ln | exact h.cap) | exact rg_lit (by decide) | with_reducible (first | exact rg_low _ | exact rg_high _))
  unfold probeX
  split
  · exact ⟨⟨h.up, rfl, rg0, EQ.of EP.refl⟩, fun e => by cases e⟩
  split
  · rename_i hl
    refine ⟨⟨hf.1, hf.2.1, rg0, EQ.of EP.refl.ac⟩, fun _ => ?_⟩
    show 0 ≤ (probeF e g).i ∧ (probeF e g).i ≤ e.c.workers
    rw [hf.2.2]
    rw [hI2] at hl
    by_cases hw : probeI e g + 1 < e.c.workers
    · omega
    · exfalso
      unfold leftB at hl
      rw [show (e.c.workers - (probeI e g + 1)).toNat = 0 by omega] at hl
      cases hl
  split
  · exact ⟨⟨hf.1, hf.2.1, rg0, EQ.of EP.refl.ac⟩, fun e => by cases e⟩
  · exact ⟨⟨hf.1, hf.2.1, rg_wi _, EQ.of EP.refl.ac⟩, fun e => by cases e⟩
/-- What a frame of Run is when it may be looked at from outside. -/
def RunTop (c : Cfg) (f : FrV) : Prop := f.l ≠ [] ∧ f.line ≠ 3 ∧ f.line ≠ 5 ∧ f.line ≠ 23 ∧ (f.line ≠ 1 → 0 ≤ topL f.l ∧ topL f.l < c.tasks)
theorem top_rg (h : FrR K f) : Rg (topL f.l) := by
  unfold topL
  cases hl : f.l.getLast? with
  | none => exact rg_lit (by decide)
  | some x => exact h.l x (List.mem_of_getLast? hl)
theorem leave_inv (h : FrR K f) (he : EQ K e e') : LfP K e f (leaveM e' f) ∧ (f.l ≠ [] → (leaveM e' f).1.done = false → RunTop e.c (leaveM e' f).2.2) := by
  have hf : FrR (K + 1) { f with line := 1, l := f.l.dropLast } := by
    have hln : f.l.dropLast.length ≤ K + 1 := by have := h.ln; simp; omega
    have hl2 : ∀ x ∈ f.l.dropLast, Rg x := fun x hx => h.l x (List.mem_of_mem_take (by rw [List.dropLast_eq_take] at hx; exact hx))
    (constructor <;> (try dsimp only) <;> first | with_reducible (first | assumption | exact rg_wi _ | exact h.a | exact h.b | exact h.d | exact h.i | exact h.j | exact h.n | exact h.t | exact h.l | exact h.up.ln | exact h.cap) | exact rg_lit (by decide) | with_reducible (first | exact rg_low _ | exact rg_high _))
  unfold leaveM
  split
  · exact ⟨⟨hf, rfl, rg0, he⟩, fun _ e => by cases e⟩
  · rename_i hl
    refine ⟨⟨hf, rfl, rg0, he⟩, fun hne _ => ⟨?_, by simp [go], by simp [go], by simp [go], fun e => absurd rfl e⟩⟩
    show f.l.dropLast ≠ []
    intro e0
    have h1 := List.length_pos_iff.2 hne
    have h2 := congrArg List.length e0
    simp at h2
    omega
theorem finish_inv (h : FrR K f) (hl : f.l ≠ []) (ht : 0 ≤ topL f.l ∧ topL f.l < e.c.tasks) : LfP K e f (finishM e f (topL f.l)) ∧ ((finishM e f (topL f.l)).1.done = false → RunTop e.c (finishM e f (topL f.l)).2.2) := by
  have hT := top_rg h
  unfold finishM
  split
  · refine ⟨?_, fun _ => ⟨hl, by simp [go], by simp [go], by simp [go], fun _ => ht⟩⟩
    exact ⟨by dsimp only [go, fin]; (constructor <;> (try dsimp only) <;> first | with_reducible (first | assumption | exact rg_wi _ | exact h.a | exact h.b | exact h.d | exact h.i | exact h.j | exact h.n | exact h.t | exact h.l | exact h.up.ln | exact h.cap) | exact rg_lit (by decide) | with_reducible (first | exact rg_low _ | exact rg_high _)), rfl, by dsimp only [go, fin]; (first | with_reducible (first | assumption | exact rg_wi _ | exact h.a | exact h.b | exact h.d | exact h.i | exact h.j | exact h.n | exact h.t) | exact rg_lit (by decide) | with_reducible (first | exact rg_low _ | exact rg_high _)), by dsimp only [go, fin]; (first | with_reducible (first | exact EQ.of EP.refl | exact EQ.of EP.refl.ac) | (refine EQ.em (by first | with_reducible (first | exact EP.refl | exact EP.refl.ac)) ?_ ?_ ?_ ?_ ?_ <;> (first | with_reducible (first | assumption | exact rg_wi _ | exact h.a | exact h.b | exact h.d | exact h.i | exact h.j | exact h.n | exact h.t) | exact rg_lit (by decide) | with_reducible (first | exact rg_low _ | exact rg_high _))))⟩
  split
  · split
    · have := leave_inv (e := e) h (EQ.em (e' := e.ac 3 (taskA e.c (topL f.l) 2) 0 4294967296) (k := 10) (w := f.a) (t := topL f.l) (o := 0) (l := 0) EP.refl.ac (rg_lit (by decide)) h.a hT (rg_lit (by decide)) (rg_lit (by decide)))
      exact ⟨this.1, this.2 hl⟩
    · refine ⟨?_, fun _ => ⟨hl, by simp [go], by simp [go], by simp [go], fun _ => ht⟩⟩
      exact ⟨by dsimp only [go, fin]; (constructor <;> (try dsimp only) <;> first | with_reducible (first | assumption | exact rg_wi _ | exact h.a | exact h.b | exact h.d | exact h.i | exact h.j | exact h.n | exact h.t | exact h.l | exact h.up.ln | exact h.cap) | exact rg_lit (by decide) | with_reducible (first | exact rg_low _ | exact rg_high _)), rfl, by dsimp only [go, fin]; (first | with_reducible (first | assumption | exact rg_wi _ | exact h.a | exact h.b | exact h.d | exact h.i | exact h.j | exact h.n | exact h.t) | exact rg_lit (by decide) | with_reducible (first | exact rg_low _ | exact rg_high _)), by dsimp only [go, fin]; (first | with_reducible (first | exact EQ.of EP.refl | exact EQ.of EP.refl.ac) | (refine EQ.em (by first | with_reducible (first | exact EP.refl | exact EP.refl.ac)) ?_ ?_ ?_ ?_ ?_ <;> (first | with_reducible (first | assumption | exact rg_wi _ | exact h.a | exact h.b | exact h.d | exact h.i | exact h.j | exact h.n | exact h.t) | exact rg_lit (by decide) | with_reducible (first | exact rg_low _ | exact rg_high _))))⟩
  split
  · refine ⟨?_, fun _ => ⟨hl, by simp [go], by simp [go], by simp [go], fun _ => ht⟩⟩
    exact ⟨by dsimp only [go, fin]; (constructor <;> (try dsimp only) <;> first | with_reducible (first | assumption | exact rg_wi _ | exact h.a | exact h.b | exact h.d | exact h.i | exact h.j | exact h.n | exact h.t | exact h.l | exact h.up.ln | exact h.cap) | exact rg_lit (by decide) | with_reducible (first | exact rg_low _ | exact rg_high _)), rfl, by dsimp only [go, fin]; (first | with_reducible (first | assumption | exact rg_wi _ | exact h.a | exact h.b | exact h.d | exact h.i | exact h.j | exact h.n | exact h.t) | exact rg_lit (by decide) | with_reducible (first | exact rg_low _ | exact rg_high _)), by dsimp only [go, fin]; (first | with_reducible (first | exact EQ.of EP.refl | exact EQ.of EP.refl.ac) | (refine EQ.em (by first | with_reducible (first | exact EP.refl | exact EP.refl.ac)) ?_ ?_ ?_ ?_ ?_ <;> (first | with_reducible (first | assumption | exact rg_wi _ | exact h.a | exact h.b | exact h.d | exact h.i | exact h.j | exact h.n | exact h.t) | exact rg_lit (by decide) | with_reducible (first | exact rg_low _ | exact rg_high _))))⟩
  · have h2 : FrR K { f with n := wi (wu (e.ld (taskA e.c (topL f.l) 2) - 1)) } := ⟨h.a, h.b, h.d, h.i, h.j, rg_wi _, h.t, h.l, h.ln, h.cap⟩
    have := leave_inv (e := e) (e' := e.lm (taskA e.c (topL f.l) 2)) h2 (EQ.of EP.refl.ac)
    exact ⟨⟨this.1.fr, this.1.kind, this.1.val, this.1.env⟩, this.2 hl⟩
theorem run_inv (h : FrR K f) (hl : f.l ≠ []) (ht : f.line ≠ 23 → 0 ≤ topL f.l ∧ topL f.l < e.c.tasks) : LfP K e f (runM e f) ∧ ((runM e f).1.done = false → RunTop e.c (runM e f).2.2) := by
  have hT := top_rg h
  have hr : ∀ {r : RecV}, r.kids = (e.rc (topL f.l)).kids → RcsR K e.c e.recs → r.kids.length ≤ K + 1 ∧ ∀ x ∈ r.kids, Rg x := fun hk hr => by
    have := rc_ok hr (topL f.l)
    rw [hk]; exact ⟨Nat.le_succ_of_le this.1, this.2⟩
  unfold runM
  by_cases h23 : f.line = 23
  · rw [if_pos h23]; exact ⟨⟨h.up, rfl, rg0, EQ.of EP.refl⟩, fun e => by cases e⟩
  rw [if_neg h23]
  have ht := ht h23
  by_cases h2 : f.line = 2
  · rw [if_pos h2]
    refine ⟨⟨?_, rfl, rg0, EQ.of (EP.refl.ac.put (hr rfl))⟩, fun _ => ⟨hl, by simp [go], by simp [go], by simp [go], fun _ => ht⟩⟩
    dsimp only [go]; (constructor <;> (try dsimp only) <;> first | with_reducible (first | assumption | exact rg_wi _ | exact h.a | exact h.b | exact h.d | exact h.i | exact h.j | exact h.n | exact h.t | exact h.l | exact h.up.ln | exact h.cap) | exact rg_lit (by decide) | with_reducible (first | exact rg_low _ | exact rg_high _))
  rw [if_neg h2]
  by_cases h3 : f.line = 3
  · rw [if_pos h3]
    refine ⟨⟨?_, rfl, rg0, EQ.of (EP.refl.put (hr ?_))⟩, fun _ => ⟨hl, by simp [go], by simp [go], by simp [go], fun _ => ht⟩⟩
    · dsimp only [go]; (constructor <;> (try dsimp only) <;> first | with_reducible (first | assumption | exact rg_wi _ | exact h.a | exact h.b | exact h.d | exact h.i | exact h.j | exact h.n | exact h.t | exact h.l | exact h.up.ln | exact h.cap) | exact rg_lit (by decide) | with_reducible (first | exact rg_low _ | exact rg_high _))
    · unfold compR
      repeat' split
      all_goals rfl
  rw [if_neg h3]
  by_cases h4 : f.line = 4
  · rw [if_pos h4]
    refine ⟨⟨?_, rfl, rg0, EQ.of (EP.refl.put (hr rfl))⟩, fun _ => ⟨hl, by simp [go], by simp [go], by simp [go], fun _ => ht⟩⟩
    dsimp only [go]; (constructor <;> (try dsimp only) <;> first | with_reducible (first | assumption | exact rg_wi _ | exact h.a | exact h.b | exact h.d | exact h.i | exact h.j | exact h.n | exact h.t | exact h.l | exact h.up.ln | exact h.cap) | exact rg_lit (by decide) | with_reducible (first | exact rg_low _ | exact rg_high _))
  rw [if_neg h4]
  by_cases h10 : f.line = 10
  · rw [if_pos h10]
    refine ⟨⟨?_, rfl, rg0, EQ.of (EP.refl.ac.put (hr rfl))⟩, fun _ => ⟨hl, by simp [go], by simp [go], by simp [go], fun _ => ht⟩⟩
    dsimp only [go]; (constructor <;> (try dsimp only) <;> first | with_reducible (first | assumption | exact rg_wi _ | exact h.a | exact h.b | exact h.d | exact h.i | exact h.j | exact h.n | exact h.t | exact h.l | exact h.up.ln | exact h.cap) | exact rg_lit (by decide) | with_reducible (first | exact rg_low _ | exact rg_high _))
  rw [if_neg h10]
  by_cases h16 : f.line = 16
  · simp only [h16, if_true, if_false, Int.reduceEq]
    refine ⟨⟨?_, rfl, rg0, EQ.em (EP.refl.ac.put (hr (r := { e.rc (topL f.l) with waiting := -1 }) rfl)) ?_ ?_ ?_ ?_ ?_⟩, fun _ => ⟨hl, by simp [go], by simp [go], by simp [go], fun _ => ht⟩⟩
    · dsimp only [go]; (constructor <;> (try dsimp only) <;> first | with_reducible (first | assumption | exact rg_wi _ | exact h.a | exact h.b | exact h.d | exact h.i | exact h.j | exact h.n | exact h.t | exact h.l | exact h.up.ln | exact h.cap) | exact rg_lit (by decide) | with_reducible (first | exact rg_low _ | exact rg_high _))
    all_goals (first | with_reducible (first | assumption | exact rg_wi _ | exact h.a | exact h.b | exact h.d | exact h.i | exact h.j | exact h.n | exact h.t) | exact rg_lit (by decide) | with_reducible (first | exact rg_low _ | exact rg_high _))
  simp only [if_neg h16]
  by_cases h11 : f.line = 11 ∨ f.line = 12 ∨ f.line = 13 ∨ f.line = 15
  · repeat' split
    all_goals first
      | (refine ⟨?_, fun _ => ⟨hl, by simp [go], by simp [go], by simp [go], fun _ => ht⟩⟩; exact ⟨by dsimp only [go, fin]; (constructor <;> (try dsimp only) <;> first | with_reducible (first | assumption | exact rg_wi _ | exact h.a | exact h.b | exact h.d | exact h.i | exact h.j | exact h.n | exact h.t | exact h.l | exact h.up.ln | exact h.cap) | exact rg_lit (by decide) | with_reducible (first | exact rg_low _ | exact rg_high _)), rfl, by dsimp only [go, fin]; (first | with_reducible (first | assumption | exact rg_wi _ | exact h.a | exact h.b | exact h.d | exact h.i | exact h.j | exact h.n | exact h.t) | exact rg_lit (by decide) | with_reducible (first | exact rg_low _ | exact rg_high _)), by dsimp only [go, fin]; (first | with_reducible (first | exact EQ.of EP.refl | exact EQ.of EP.refl.ac) | (refine EQ.em (by first | with_reducible (first | exact EP.refl | exact EP.refl.ac)) ?_ ?_ ?_ ?_ ?_ <;> (first | with_reducible (first | assumption | exact rg_wi _ | exact h.a | exact h.b | exact h.d | exact h.i | exact h.j | exact h.n | exact h.t) | exact rg_lit (by decide) | with_reducible (first | exact rg_low _ | exact rg_high _))))⟩)
      | (exfalso; omega)
  · rw [if_neg (by omega), if_neg (by omega), if_neg (by omega), if_neg (by omega)]
    exact finish_inv h hl ht
theorem client_inv (h : FrR K f) (hc : CfgOk e.c) (hi : 0 ≤ f.i ∧ f.i ≤ (e.c.subs.length : Int)) : LfP K e f (clientM e f) ∧ (clientM e f).2.2.i = f.i := by
  have w1 := hc.w1
  have w2 := hc.w2
  have hw : Rg e.c.workers := rg_lit (by omega)
  unfold clientM
  repeat' split
  all_goals
    refine ⟨?_, rfl⟩
    exact ⟨by dsimp only [go, fin]; (constructor <;> (try dsimp only) <;> first | with_reducible (first | assumption | exact rg_wi _ | exact h.a | exact h.b | exact h.d | exact h.i | exact h.j | exact h.n | exact h.t | exact h.l | exact h.up.ln | exact h.cap) | exact rg_lit (by decide) | with_reducible (first | exact rg_low _ | exact rg_high _)), rfl, by dsimp only [go, fin]; (first | with_reducible (first | assumption | exact rg_wi _ | exact h.a | exact h.b | exact h.d | exact h.i | exact h.j | exact h.n | exact h.t) | exact rg_lit (by decide) | with_reducible (first | exact rg_low _ | exact rg_high _)), by dsimp only [go, fin]; (first | with_reducible (first | exact EQ.of EP.refl | exact EQ.of EP.refl.ac) | (refine EQ.em (by first | with_reducible (first | exact EP.refl | exact EP.refl.ac)) ?_ ?_ ?_ ?_ ?_ <;> (first | with_reducible (first | assumption | exact rg_wi _ | exact h.a | exact h.b | exact h.d | exact h.i | exact h.j | exact h.n | exact h.t) | exact rg_lit (by decide) | with_reducible (first | exact rg_low _ | exact rg_high _))))⟩
end
end
section
open Go
/-- How high a kind of frame may stand. -/
def rank (k : Int) : Nat := if k = 25 ∨ k = 26 then 4 else if k = 24 then 3 else if k = 15 ∨ k = 17 ∨ k = 18 ∨ k = 22 ∨ k = 23 then 2 else if k = 5 ∨ k = 6 then 1 else 0
theorem rank_le (k : Int) : rank k ≤ 4 := by
  unfold rank
  repeat' split
  all_goals omega
/-- A topmost frame that rests. -/
structure TopOk (c : Cfg) (f : FrV) : Prop where
  run : f.kind = 24 → RunTop c f
  cl : f.kind = 26 → 0 ≤ f.i ∧ f.i ≤ (c.subs.length : Int)
  pr : f.kind = 21 → 0 ≤ f.i ∧ f.i ≤ c.workers
/-- One whose line is to be performed. -/
structure LiveOk (e : EnvV) (f : FrV) : Prop where
  run : f.kind = 24 → f.l ≠ [] ∧ (f.line ≠ 23 → 0 ≤ topL f.l ∧ topL f.l < e.c.tasks) ∧ (f.line = 3 → PcIn e (topL f.l))
  cl : f.kind = 26 → 0 ≤ f.i ∧ f.i ≤ (e.c.subs.length : Int)
  pr : f.kind = 21 → 0 ≤ f.i ∧ f.i ≤ e.c.workers
/-- One that runs another. -/
structure ParOk (c : Cfg) (p ch : FrV) : Prop where
  rk : rank ch.kind < rank p.kind
  run : p.kind = 24 → p.l ≠ [] ∧ (0 ≤ topL p.l ∧ topL p.l < c.tasks) ∧ (p.line = 5 → ch.kind = 12) ∧ p.line ≠ 3 ∧ p.line ≠ 23
  cl : p.kind = 26 → 0 ≤ p.i ∧ p.i < (c.subs.length : Int) ∧ (p.line = 3 → ch.kind = 12)
def PcP (e : EnvV) (p : FrV) : Prop := p.kind = 24 → p.line = 5 → PcIn e (topL p.l)
/-- The environment. -/
structure EnvOk (K : Nat) (e : EnvV) : Prop where
  cf : CfgOk e.c
  rcs : RcsR K e.c e.recs
  evs : EvsR K e.evs
  now : Rg e.now
  draw : Rg e.draw
theorem EnvOk.le {K L : Nat} {e : EnvV} (h : EnvOk K e) (hl : K ≤ L) : EnvOk L e := ⟨h.cf, h.rcs.le hl, h.evs.le hl, h.now, h.draw⟩
theorem EQ.ok {K : Nat} {e e' : EnvV} (q : EQ K e e') (h : EnvOk K e) : EnvOk (K + 1) e' := ⟨q.c ▸ h.cf, by rw [q.c]; exact q.rcs h.rcs, q.evs h.evs, q.now ▸ h.now, q.draw ▸ h.draw⟩
theorem EnvOk.fit {K : Nat} {e : EnvV} (h : EnvOk K e) (hK : K ≤ 900000000) : Fit e := by have := h.evs.1; unfold Fit; omega
structure LeafP (K : Nat) (e : EnvV) (f : FrV) (o : Lf) : Prop where
  lf : LfP K e f o
  top : o.1.done = false → TopOk e.c o.2.2
  new : f.kind = 12 → o.1.done = true ∧ o.2.1.recs = e.recs ∧ (o.1.code = 3 ∨ (0 ≤ o.1.value ∧ o.1.value < (e.recs.length : Int)))
section
variable {K : Nat} {e e' : EnvV} {f : FrV}
/-- A frame whose kind bears no promise. -/
theorem topOk_of {c : Cfg} {g : FrV} (h1 : g.kind ≠ 24) (h2 : g.kind ≠ 26) (h3 : g.kind ≠ 21) : TopOk c g := ⟨fun e => absurd e h1, fun e => absurd e h2, fun e => absurd e h3⟩
theorem LeafP.of {o : Lf} (h : LfP K e f o) (h12 : f.kind ≠ 12) (h4 : f.kind ≠ 24) (h6 : f.kind ≠ 26) (h1 : f.kind ≠ 21) : LeafP K e f o :=
  ⟨h, fun _ => topOk_of (by rw [h.kind]; exact h4) (by rw [h.kind]; exact h6) (by rw [h.kind]; exact h1), fun e => absurd e h12⟩
theorem LiveOk.pre (hl : LiveOk e f) (h : FrR K f) (he : EnvOk K e) (hK : K ≤ 900000000) : LeafC e f := ⟨he.cf, he.fit hK, he.rcs.1, h.cap, fun hk => by
    obtain ⟨h1, h2, h3⟩ := hl.run hk
    exact ⟨⟨h1, by have := h.ln; omega⟩, fun e => by have := h2 e; have := he.rcs.1; exact ⟨by omega, by omega⟩, h3⟩, fun hk => (hl.cl hk).1, hl.pr⟩
theorem leaf_inv (h : FrR K f) (he : EnvOk K e) (hl : LiveOk e f) : LeafP K e f (leafM e f) := by
  have hn := he.now
  unfold leafM
  by_cases k0 : f.kind = 0
  · simp only [k0, if_true, if_false, Int.reduceEq]
    exact LeafP.of (push_inv h) (by rw [k0]; decide) (by rw [k0]; decide) (by rw [k0]; decide) (by rw [k0]; decide)
  by_cases k1 : f.kind = 1
  · simp only [k1, if_true, if_false, Int.reduceEq]
    exact LeafP.of (pop_inv h) (by rw [k1]; decide) (by rw [k1]; decide) (by rw [k1]; decide) (by rw [k1]; decide)
  by_cases k2 : f.kind = 2
  · simp only [k2, if_true, if_false, Int.reduceEq]
    exact LeafP.of (steal_inv h) (by rw [k2]; decide) (by rw [k2]; decide) (by rw [k2]; decide) (by rw [k2]; decide)
  by_cases k3 : f.kind = 3
  · simp only [k3, if_true, if_false, Int.reduceEq]
    refine LeafP.of ?_ (by rw [k3]; decide) (by rw [k3]; decide) (by rw [k3]; decide) (by rw [k3]; decide)
    (repeat' split) <;> exact ⟨by dsimp only [go, fin]; (constructor <;> (try dsimp only) <;> first | with_reducible (first | assumption | exact rg_wi _ | exact h.a | exact h.b | exact h.d | exact h.i | exact h.j | exact h.n | exact h.t | exact h.l | exact h.up.ln | exact h.cap) | exact rg_lit (by decide) | with_reducible (first | exact rg_low _ | exact rg_high _)), (by first | rfl | exact k3.symm), by dsimp only [go, fin]; (first | with_reducible (first | assumption | exact rg_wi _ | exact h.a | exact h.b | exact h.d | exact h.i | exact h.j | exact h.n | exact h.t) | exact rg_lit (by decide) | with_reducible (first | exact rg_low _ | exact rg_high _)), by dsimp only [go, fin]; (first | with_reducible (first | exact EQ.of EP.refl | exact EQ.of EP.refl.ac) | (refine EQ.em (by first | with_reducible (first | exact EP.refl | exact EP.refl.ac)) ?_ ?_ ?_ ?_ ?_ <;> (first | with_reducible (first | assumption | exact rg_wi _ | exact h.a | exact h.b | exact h.d | exact h.i | exact h.j | exact h.n | exact h.t) | exact rg_lit (by decide) | with_reducible (first | exact rg_low _ | exact rg_high _))))⟩
  by_cases k4 : f.kind = 4
  · simp only [k4, if_true, if_false, Int.reduceEq]
    exact LeafP.of (clear_inv h) (by rw [k4]; decide) (by rw [k4]; decide) (by rw [k4]; decide) (by rw [k4]; decide)
  by_cases k6 : f.kind = 6
  · simp only [k6, if_true, if_false, Int.reduceEq]
    refine LeafP.of ?_ (by rw [k6]; decide) (by rw [k6]; decide) (by rw [k6]; decide) (by rw [k6]; decide)
    (repeat' split) <;> exact ⟨by dsimp only [go, fin]; (constructor <;> (try dsimp only) <;> first | with_reducible (first | assumption | exact rg_wi _ | exact h.a | exact h.b | exact h.d | exact h.i | exact h.j | exact h.n | exact h.t | exact h.l | exact h.up.ln | exact h.cap) | exact rg_lit (by decide) | with_reducible (first | exact rg_low _ | exact rg_high _)), (by first | rfl | exact k6.symm), by dsimp only [go, fin]; (first | with_reducible (first | assumption | exact rg_wi _ | exact h.a | exact h.b | exact h.d | exact h.i | exact h.j | exact h.n | exact h.t) | exact rg_lit (by decide) | with_reducible (first | exact rg_low _ | exact rg_high _)), by dsimp only [go, fin]; (first | with_reducible (first | exact EQ.of EP.refl | exact EQ.of EP.refl.ac) | (refine EQ.em (by first | with_reducible (first | exact EP.refl | exact EP.refl.ac)) ?_ ?_ ?_ ?_ ?_ <;> (first | with_reducible (first | assumption | exact rg_wi _ | exact h.a | exact h.b | exact h.d | exact h.i | exact h.j | exact h.n | exact h.t) | exact rg_lit (by decide) | with_reducible (first | exact rg_low _ | exact rg_high _))))⟩
  by_cases k7 : f.kind = 7
  · simp only [k7, if_true, if_false, Int.reduceEq]
    refine LeafP.of ?_ (by rw [k7]; decide) (by rw [k7]; decide) (by rw [k7]; decide) (by rw [k7]; decide)
    (repeat' split) <;> exact ⟨by dsimp only [go, fin]; (constructor <;> (try dsimp only) <;> first | with_reducible (first | assumption | exact rg_wi _ | exact h.a | exact h.b | exact h.d | exact h.i | exact h.j | exact h.n | exact h.t | exact h.l | exact h.up.ln | exact h.cap) | exact rg_lit (by decide) | with_reducible (first | exact rg_low _ | exact rg_high _)), (by first | rfl | exact k7.symm), by dsimp only [go, fin]; (first | with_reducible (first | assumption | exact rg_wi _ | exact h.a | exact h.b | exact h.d | exact h.i | exact h.j | exact h.n | exact h.t) | exact rg_lit (by decide) | with_reducible (first | exact rg_low _ | exact rg_high _)), by dsimp only [go, fin]; (first | with_reducible (first | exact EQ.of EP.refl | exact EQ.of EP.refl.ac) | (refine EQ.em (by first | with_reducible (first | exact EP.refl | exact EP.refl.ac)) ?_ ?_ ?_ ?_ ?_ <;> (first | with_reducible (first | assumption | exact rg_wi _ | exact h.a | exact h.b | exact h.d | exact h.i | exact h.j | exact h.n | exact h.t) | exact rg_lit (by decide) | with_reducible (first | exact rg_low _ | exact rg_high _))))⟩
  by_cases k8 : f.kind = 8
  · simp only [k8, if_true, if_false, Int.reduceEq]
    refine LeafP.of ?_ (by rw [k8]; decide) (by rw [k8]; decide) (by rw [k8]; decide) (by rw [k8]; decide)
    (repeat' split) <;> exact ⟨by dsimp only [go, fin]; (constructor <;> (try dsimp only) <;> first | with_reducible (first | assumption | exact rg_wi _ | exact h.a | exact h.b | exact h.d | exact h.i | exact h.j | exact h.n | exact h.t | exact h.l | exact h.up.ln | exact h.cap) | exact rg_lit (by decide) | with_reducible (first | exact rg_low _ | exact rg_high _)), (by first | rfl | exact k8.symm), by dsimp only [go, fin]; (first | with_reducible (first | assumption | exact rg_wi _ | exact h.a | exact h.b | exact h.d | exact h.i | exact h.j | exact h.n | exact h.t) | exact rg_lit (by decide) | with_reducible (first | exact rg_low _ | exact rg_high _)), by dsimp only [go, fin]; (first | with_reducible (first | exact EQ.of EP.refl | exact EQ.of EP.refl.ac) | (refine EQ.em (by first | with_reducible (first | exact EP.refl | exact EP.refl.ac)) ?_ ?_ ?_ ?_ ?_ <;> (first | with_reducible (first | assumption | exact rg_wi _ | exact h.a | exact h.b | exact h.d | exact h.i | exact h.j | exact h.n | exact h.t) | exact rg_lit (by decide) | with_reducible (first | exact rg_low _ | exact rg_high _))))⟩
  by_cases k9 : f.kind = 9
  · simp only [k9, if_true, if_false, Int.reduceEq]
    refine LeafP.of ?_ (by rw [k9]; decide) (by rw [k9]; decide) (by rw [k9]; decide) (by rw [k9]; decide)
    (repeat' split) <;> exact ⟨by dsimp only [go, fin]; (constructor <;> (try dsimp only) <;> first | with_reducible (first | assumption | exact rg_wi _ | exact h.a | exact h.b | exact h.d | exact h.i | exact h.j | exact h.n | exact h.t | exact h.l | exact h.up.ln | exact h.cap) | exact rg_lit (by decide) | with_reducible (first | exact rg_low _ | exact rg_high _)), (by first | rfl | exact k9.symm), by dsimp only [go, fin]; (first | with_reducible (first | assumption | exact rg_wi _ | exact h.a | exact h.b | exact h.d | exact h.i | exact h.j | exact h.n | exact h.t) | exact rg_lit (by decide) | with_reducible (first | exact rg_low _ | exact rg_high _)), by dsimp only [go, fin]; (first | with_reducible (first | exact EQ.of EP.refl | exact EQ.of EP.refl.ac) | (refine EQ.em (by first | with_reducible (first | exact EP.refl | exact EP.refl.ac)) ?_ ?_ ?_ ?_ ?_ <;> (first | with_reducible (first | assumption | exact rg_wi _ | exact h.a | exact h.b | exact h.d | exact h.i | exact h.j | exact h.n | exact h.t) | exact rg_lit (by decide) | with_reducible (first | exact rg_low _ | exact rg_high _))))⟩
  by_cases k10 : f.kind = 10
  · simp only [k10, if_true, if_false, Int.reduceEq]
    exact LeafP.of (insert_inv h) (by rw [k10]; decide) (by rw [k10]; decide) (by rw [k10]; decide) (by rw [k10]; decide)
  by_cases k11 : f.kind = 11
  · simp only [k11, if_true, if_false, Int.reduceEq]
    exact LeafP.of (remove_inv h) (by rw [k11]; decide) (by rw [k11]; decide) (by rw [k11]; decide) (by rw [k11]; decide)
  by_cases k12 : f.kind = 12
  · simp only [k12, if_true, if_false, Int.reduceEq]
    obtain ⟨a1, a2, a3, a4⟩ := alloc_inv (e := e) h
    exact ⟨a1, fun e => (by rw [a2] at e; cases e), fun _ => ⟨a2, a3, a4.imp id fun t => ⟨t.1, t.2.2⟩⟩⟩
  by_cases k13 : f.kind = 13
  · simp only [k13, if_true, if_false, Int.reduceEq]
    exact LeafP.of (publish_inv h) (by rw [k13]; decide) (by rw [k13]; decide) (by rw [k13]; decide) (by rw [k13]; decide)
  by_cases k14 : f.kind = 14
  · simp only [k14, if_true, if_false, Int.reduceEq]
    exact LeafP.of (claim_inv h) (by rw [k14]; decide) (by rw [k14]; decide) (by rw [k14]; decide) (by rw [k14]; decide)
  by_cases k15 : f.kind = 15
  · simp only [k15, if_true, if_false, Int.reduceEq]
    exact LeafP.of (enterT_inv h) (by rw [k15]; decide) (by rw [k15]; decide) (by rw [k15]; decide) (by rw [k15]; decide)
  by_cases k16 : f.kind = 16
  · simp only [k16, if_true, if_false, Int.reduceEq]
    exact LeafP.of (raise_inv h) (by rw [k16]; decide) (by rw [k16]; decide) (by rw [k16]; decide) (by rw [k16]; decide)
  by_cases k17 : f.kind = 17
  · simp only [k17, if_true, if_false, Int.reduceEq]
    exact LeafP.of (walk_inv h) (by rw [k17]; decide) (by rw [k17]; decide) (by rw [k17]; decide) (by rw [k17]; decide)
  by_cases k18 : f.kind = 18
  · simp only [k18, if_true, if_false, Int.reduceEq]
    exact LeafP.of (sweep_inv h) (by rw [k18]; decide) (by rw [k18]; decide) (by rw [k18]; decide) (by rw [k18]; decide)
  by_cases k19 : f.kind = 19
  · simp only [k19, if_true, if_false, Int.reduceEq]
    exact LeafP.of (sleep_inv h hn) (by rw [k19]; decide) (by rw [k19]; decide) (by rw [k19]; decide) (by rw [k19]; decide)
  by_cases k20 : f.kind = 20
  · simp only [k20, if_true, if_false, Int.reduceEq]
    exact LeafP.of (wake_inv h) (by rw [k20]; decide) (by rw [k20]; decide) (by rw [k20]; decide) (by rw [k20]; decide)
  by_cases k21 : f.kind = 21
  · simp only [k21, if_true, if_false, Int.reduceEq]
    obtain ⟨a1, a2⟩ := probe_inv h he.cf he.draw (hl.pr k21)
    exact ⟨a1, fun e => ⟨fun e' => (by rw [a1.kind, k21] at e'; cases e'), fun e' => (by rw [a1.kind, k21] at e'; cases e'), fun _ => a2 e⟩, fun e => (by rw [k21] at e; cases e)⟩
  by_cases k22 : f.kind = 22
  · simp only [k22, if_true, if_false, Int.reduceEq]
    exact LeafP.of (drain_inv h) (by rw [k22]; decide) (by rw [k22]; decide) (by rw [k22]; decide) (by rw [k22]; decide)
  by_cases k24 : f.kind = 24
  · simp only [k24, if_true, if_false, Int.reduceEq]
    obtain ⟨r1, r2, r3⟩ := hl.run k24
    obtain ⟨a1, a2⟩ := run_inv h r1 r2
    exact ⟨a1, fun e => ⟨fun _ => a2 e, fun e' => (by rw [a1.kind, k24] at e'; cases e'), fun e' => by rw [a1.kind, k24] at e'; cases e'⟩, fun e => by rw [k24] at e; cases e⟩
  by_cases k26 : f.kind = 26
  · simp only [k26, if_true, if_false, Int.reduceEq]
    obtain ⟨a1, a2⟩ := client_inv h he.cf (hl.cl k26)
    exact ⟨a1, fun _ => ⟨fun e' => (by rw [a1.kind, k26] at e'; cases e'), fun _ => by rw [a2]; exact hl.cl k26, fun e' => by rw [a1.kind, k26] at e'; cases e'⟩, fun e => by rw [k26] at e; cases e⟩
  simp only [k0, k1, k2, k3, k4, k6, k7, k8, k9, k10, k11, k12, k13, k14, k15, k16, k17, k18, k19, k20, k21, k22, k24, k26, if_false]
  exact LeafP.of ⟨h.up, rfl, rg0, EQ.of EP.refl⟩ k12 k24 k26 k21
theorem queue_cap {c : Cfg} (hc : CfgOk c) (w l : Int) : (queueA c w l).cap ≤ 9223372036854775807 := by
  have := hc.q2
  unfold queueA
  repeat' split
  all_goals first | decide | (show c.deque ≤ _; omega)
theorem bitmap_rg {c : Cfg} (w : Int) : Rg (bitmapA c w) := by
  unfold bitmapA ixA
  repeat' split
  all_goals first | exact rg_lit (by decide) | exact rg_wi _
/-- What a frame becomes when it enters another machine, and that machine's frame. -/
structure EntP (K : Nat) (e : EnvV) (f : FrV) (o : Option FrV × FrV) : Prop where
  fr : FrR K o.2
  kind : o.2.kind = f.kind
  no : o.1 = none → LiveOk e o.2
  yes : ∀ ch, o.1 = some ch → FrR K { ch with line := 1 } ∧ TopOk e.c { ch with line := 1 } ∧ ParOk e.c o.2 ch ∧ PcP e o.2
theorem EntP.stop {f' : FrV} (h : FrR K f') (hk : f'.kind = f.kind) (hl : LiveOk e f') : EntP K e f (none, f') := ⟨h, hk, fun _ => hl, fun _ e => by cases e⟩
theorem EntP.go {f' ch : FrV} (h : FrR K f') (hk : f'.kind = f.kind) (h1 : FrR K { ch with line := 1 }) (h2 : TopOk e.c { ch with line := 1 }) (h3 : ParOk e.c f' ch) (h4 : PcP e f') : EntP K e f (some ch, f') := ⟨h, hk, fun e => (by cases e), fun _ e => by cases e; exact ⟨h1, h2, h3, h4⟩⟩
/-- A child of a frame that is neither Run nor the client. -/
theorem EntP.plain {f' ch : FrV} (h : FrR K f') (hk : f'.kind = f.kind) (h1 : FrR K { ch with line := 1 }) (n4 : f.kind ≠ 24) (n6 : f.kind ≠ 26) (h2 : TopOk e.c { ch with line := 1 }) (hr : rank ch.kind < rank f.kind) : EntP K e f (some ch, f') :=
  EntP.go h hk h1 h2 ⟨by rw [hk]; exact hr, fun e => absurd (hk.symm.trans e) n4, fun e => absurd (hk.symm.trans e) n6⟩ fun e => absurd (hk.symm.trans e) n4
theorem live_of (n4 : f.kind ≠ 24) (n6 : f.kind ≠ 26) (n1 : f.kind ≠ 21) : LiveOk e f := ⟨fun e => absurd e n4, fun e => absurd e n6, fun e => absurd e n1⟩
/-- The line that a Run frame chooses. -/
structure ChP (K : Nat) (e : EnvV) (f g : FrV) : Prop where
  fr : FrR K g
  kind : g.kind = f.kind
  ne : g.l ≠ []
  top : g.line ≠ 23 → 0 ≤ topL g.l ∧ topL g.l < e.c.tasks
  pc : g.line = 3 ∨ g.line = 5 → PcIn e (topL g.l)
theorem choose_inv (h : FrR K f) (he : EnvOk K e) (ht : RunTop e.c f) : ChP K e f (chooseM e f) := by
  obtain ⟨hl, h3, h5, h23, htop⟩ := ht
  have hc := he.cf
  unfold chooseM
  by_cases l1 : f.line ≠ 1
  · rw [if_pos l1]; exact ⟨h, rfl, hl, fun _ => htop l1, fun e => by omega⟩
  rw [if_neg l1]
  by_cases hT : ¬ IsTask e (topL f.l)
  · rw [if_pos hT]
    exact ⟨by (constructor <;> (try dsimp only [frK]) <;> first | with_reducible (first | assumption | exact rg_wi _ | exact h.a | exact h.b | exact h.d | exact h.i | exact h.j | exact h.n | exact h.t | exact h.l | exact h.ln | exact h.cap) | exact rg_lit (by decide) | exact Nat.zero_le _ | exact queue_cap hc _ _ | exact bitmap_rg _ | (intro x hx; cases hx; done) | decide), rfl, hl, fun e => absurd rfl e, fun e => by rcases e with e | e <;> cases e⟩
  rw [if_neg hT]
  have hT : IsTask e (topL f.l) := by simpa using hT
  have hT2 : 0 ≤ topL f.l ∧ topL f.l < e.c.tasks := ⟨hT.1, hT.2.1⟩
  have mk : ∀ n : Int, n ≠ 3 → n ≠ 5 → ChP K e f { f with line := n } := fun n h3 h5 => ⟨by (constructor <;> (try dsimp only [frK]) <;> first | with_reducible (first | assumption | exact rg_wi _ | exact h.a | exact h.b | exact h.d | exact h.i | exact h.j | exact h.n | exact h.t | exact h.l | exact h.ln | exact h.cap) | exact rg_lit (by decide) | exact Nat.zero_le _ | exact queue_cap hc _ _ | exact bitmap_rg _ | (intro x hx; cases hx; done) | decide), rfl, hl, fun _ => hT2, fun e => by rcases e with e | e <;> first | exact absurd e h3 | exact absurd e h5⟩
  by_cases hw : (e.rc (topL f.l)).waiting ≠ -1
  · rw [if_pos hw]; exact mk 2 (by decide) (by decide)
  rw [if_neg hw]
  by_cases hpc : (e.rc (topL f.l)).pc < 0 ∨ ((e.prog (topL f.l)).length : Int) ≤ (e.rc (topL f.l)).pc
  · rw [if_pos hpc]; exact mk 17 (by decide) (by decide)
  rw [if_neg hpc]
  have hP : PcIn e (topL f.l) := by
    refine ⟨?_, by omega, by omega⟩
    by_cases hp : (e.rc (topL f.l)).prog < 0 ∨ (e.c.progs.length : Int) ≤ (e.rc (topL f.l)).prog
    · exfalso
      have e0 : e.prog (topL f.l) = [] := by unfold EnvV.prog; rw [if_pos hp]
      rw [e0] at hpc
      simp at hpc
      omega
    · omega
  have mk2 : ∀ n : Int, ChP K e f { f with line := n } := fun n => ⟨by (constructor <;> (try dsimp only [frK]) <;> first | with_reducible (first | assumption | exact rg_wi _ | exact h.a | exact h.b | exact h.d | exact h.i | exact h.j | exact h.n | exact h.t | exact h.l | exact h.ln | exact h.cap) | exact rg_lit (by decide) | exact Nat.zero_le _ | exact queue_cap hc _ _ | exact bitmap_rg _ | (intro x hx; cases hx; done) | decide), rfl, hl, fun _ => hT2, fun _ => hP⟩
  split
  · exact mk2 3
  split
  · exact mk2 5
  split
  · rename_i o0 o1 hk
    have ha := ins_a hc hP o0 o1
    have hj : Rg (atK1 (e.rc (topL f.l)).kids (e.ins (topL f.l)).a) := (rc_ok he.rcs (topL f.l)).2 _ (at_in ⟨ha, hk.1⟩)
    exact ⟨by (constructor <;> (try dsimp only [frK]) <;> first | with_reducible (first | assumption | exact rg_wi _ | exact h.a | exact h.b | exact h.d | exact h.i | exact h.j | exact h.n | exact h.t | exact h.l | exact h.ln | exact h.cap) | exact rg_lit (by decide) | exact Nat.zero_le _ | exact queue_cap hc _ _ | exact bitmap_rg _ | (intro x hx; cases hx; done) | decide), rfl, hl, fun _ => hT2, fun _ => hP⟩
  · exact mk 4 (by decide) (by decide)
theorem runE_inv {g : FrV} (hg : ChP K e f g) (hk : f.kind = 24) : EntP K e f (runE g, g) := by
  have h := hg.fr
  have hgk : g.kind = 24 := hg.kind.trans hk
  have hp : ∀ ch : FrV, g.line ≠ 23 → g.line ≠ 3 → rank ch.kind < 3 → (g.line = 5 → ch.kind = 12) → ParOk e.c g ch := fun ch h1 h4 h2 h3 => ⟨by rw [hgk]; exact h2, fun _ => ⟨hg.ne, hg.top h1, h3, h4, h1⟩, fun e => by rw [hgk] at e; cases e⟩
  have hq : PcP e g := fun _ e => hg.pc (.inr e)
  have hno : LiveOk e g := ⟨fun _ => ⟨hg.ne, hg.top, fun e => hg.pc (.inl e)⟩, fun e => (by rw [hgk] at e; cases e), fun e => by rw [hgk] at e; cases e⟩
  have hc : CfgOk e.c → True := fun _ => trivial
  unfold runE
  repeat' split
  all_goals first
    | exact EntP.stop h hg.kind hno
    | (refine EntP.go h hg.kind ?_ (topOk_of (by dsimp only [frK]; decide) (by dsimp only [frK]; decide) (by dsimp only [frK]; decide)) (hp _ (by omega) (by omega) (by dsimp only [frK]; decide) ?_) hq
       · (constructor <;> (try dsimp only [frK]) <;> first | with_reducible (first | assumption | exact h.a | exact h.b | exact h.d | exact h.i | exact h.j | exact h.n | exact h.t | exact h.l | exact h.ln | exact h.cap) | exact rg_lit (by decide) | exact Nat.zero_le _ | (intro x hx; cases hx; done) | decide)
       · first | (intro _; rfl) | (intro e; omega))
theorem enter_inv (h : FrR K f) (he : EnvOk K e) (ht : TopOk e.c f) (hK1 : 1 ≤ K) : EntP K e f (enterM e f) := by
  have hc := he.cf
  have w1 := hc.w1
  have w2 := hc.w2
  unfold enterM
  by_cases k5 : f.kind = 5
  · simp only [k5, if_true, if_false, Int.reduceEq]
    split <;> exact EntP.plain h rfl (by (constructor <;> (try dsimp only [frK]) <;> first | with_reducible (first | assumption | exact rg_wi _ | exact h.a | exact h.b | exact h.d | exact h.i | exact h.j | exact h.n | exact h.t | exact h.l | exact h.ln | exact h.cap) | exact rg_lit (by decide) | exact Nat.zero_le _ | exact queue_cap hc _ _ | exact bitmap_rg _ | (intro x hx; cases hx; done) | decide)) (by rw [k5]; decide) (by rw [k5]; decide) (topOk_of (by dsimp only [frK]; decide) (by dsimp only [frK]; decide) (by dsimp only [frK]; decide)) (by rw [k5]; dsimp only [frK]; decide)
  by_cases k6 : f.kind = 6
  · simp only [k6, if_true, if_false, Int.reduceEq]
    (repeat' split) <;> first | exact EntP.plain h rfl (by (constructor <;> (try dsimp only [frK]) <;> first | with_reducible (first | assumption | exact rg_wi _ | exact h.a | exact h.b | exact h.d | exact h.i | exact h.j | exact h.n | exact h.t | exact h.l | exact h.ln | exact h.cap) | exact rg_lit (by decide) | exact Nat.zero_le _ | exact queue_cap hc _ _ | exact bitmap_rg _ | (intro x hx; cases hx; done) | decide)) (by rw [k6]; decide) (by rw [k6]; decide) (topOk_of (by dsimp only [frK]; decide) (by dsimp only [frK]; decide) (by dsimp only [frK]; decide)) (by rw [k6]; dsimp only [frK]; decide) | exact EntP.stop h rfl (live_of (by rw [k6]; decide) (by rw [k6]; decide) (by rw [k6]; decide))
  by_cases k15 : f.kind = 15
  · simp only [k15, if_true, if_false, Int.reduceEq]
    (repeat' split) <;> first | exact EntP.plain h rfl (by (constructor <;> (try dsimp only [frK]) <;> first | with_reducible (first | assumption | exact rg_wi _ | exact h.a | exact h.b | exact h.d | exact h.i | exact h.j | exact h.n | exact h.t | exact h.l | exact h.ln | exact h.cap) | exact rg_lit (by decide) | exact Nat.zero_le _ | exact queue_cap hc _ _ | exact bitmap_rg _ | (intro x hx; cases hx; done) | decide)) (by rw [k15]; decide) (by rw [k15]; decide) (topOk_of (by dsimp only [frK]; decide) (by dsimp only [frK]; decide) (by dsimp only [frK]; decide)) (by rw [k15]; dsimp only [frK]; decide) | exact EntP.stop h rfl (live_of (by rw [k15]; decide) (by rw [k15]; decide) (by rw [k15]; decide))
  by_cases k17 : f.kind = 17
  · simp only [k17, if_true, if_false, Int.reduceEq]
    (repeat' split) <;> first | exact EntP.plain h rfl (by (constructor <;> (try dsimp only [frK]) <;> first | with_reducible (first | assumption | exact rg_wi _ | exact h.a | exact h.b | exact h.d | exact h.i | exact h.j | exact h.n | exact h.t | exact h.l | exact h.ln | exact h.cap) | exact rg_lit (by decide) | exact Nat.zero_le _ | exact queue_cap hc _ _ | exact bitmap_rg _ | (intro x hx; cases hx; done) | decide)) (by rw [k17]; decide) (by rw [k17]; decide) (topOk_of (by dsimp only [frK]; decide) (by dsimp only [frK]; decide) (by dsimp only [frK]; decide)) (by rw [k17]; dsimp only [frK]; decide) | exact EntP.stop h rfl (live_of (by rw [k17]; decide) (by rw [k17]; decide) (by rw [k17]; decide))
  by_cases k18 : f.kind = 18
  · simp only [k18, if_true, if_false, Int.reduceEq]
    (repeat' split) <;> first | exact EntP.plain h rfl (by (constructor <;> (try dsimp only [frK]) <;> first | with_reducible (first | assumption | exact rg_wi _ | exact h.a | exact h.b | exact h.d | exact h.i | exact h.j | exact h.n | exact h.t | exact h.l | exact h.ln | exact h.cap) | exact rg_lit (by decide) | exact Nat.zero_le _ | exact queue_cap hc _ _ | exact bitmap_rg _ | (intro x hx; cases hx; done) | decide)) (by rw [k18]; decide) (by rw [k18]; decide) (topOk_of (by dsimp only [frK]; decide) (by dsimp only [frK]; decide) (by dsimp only [frK]; decide)) (by rw [k18]; dsimp only [frK]; decide) | exact EntP.stop h rfl (live_of (by rw [k18]; decide) (by rw [k18]; decide) (by rw [k18]; decide))
  by_cases k22 : f.kind = 22
  · simp only [k22, if_true, if_false, Int.reduceEq]
    unfold drainE
    (repeat' split) <;> first | exact EntP.plain h rfl (by (constructor <;> (try dsimp only [frK]) <;> first | with_reducible (first | assumption | exact rg_wi _ | exact h.a | exact h.b | exact h.d | exact h.i | exact h.j | exact h.n | exact h.t | exact h.l | exact h.ln | exact h.cap) | exact rg_lit (by decide) | exact Nat.zero_le _ | exact queue_cap hc _ _ | exact bitmap_rg _ | (intro x hx; cases hx; done) | decide)) (by rw [k22]; decide) (by rw [k22]; decide) (topOk_of (by dsimp only [frK]; decide) (by dsimp only [frK]; decide) (by dsimp only [frK]; decide)) (by rw [k22]; dsimp only [frK]; decide) | exact EntP.stop h rfl (live_of (by rw [k22]; decide) (by rw [k22]; decide) (by rw [k22]; decide))
  by_cases k23 : f.kind = 23
  · simp only [k23, if_true, if_false, Int.reduceEq]
    (repeat' split) <;> exact EntP.plain h rfl (by (constructor <;> (try dsimp only [frK]) <;> first | with_reducible (first | assumption | exact rg_wi _ | exact h.a | exact h.b | exact h.d | exact h.i | exact h.j | exact h.n | exact h.t | exact h.l | exact h.ln | exact h.cap) | exact rg_lit (by decide) | exact Nat.zero_le _ | exact queue_cap hc _ _ | exact bitmap_rg _ | (intro x hx; cases hx; done) | decide)) (by rw [k23]; decide) (by rw [k23]; decide) (topOk_of (by dsimp only [frK]; decide) (by dsimp only [frK]; decide) (by dsimp only [frK]; decide)) (by rw [k23]; dsimp only [frK]; decide)
  by_cases k24 : f.kind = 24
  · simp only [k24, if_true, if_false, Int.reduceEq]
    exact runE_inv (choose_inv h he (ht.run k24)) k24
  by_cases k25 : f.kind = 25
  · simp only [k25, if_true, if_false, Int.reduceEq]
    have hb : FrR K (workerB e f) ∧ (workerB e f).kind = f.kind := by
      unfold workerB; split
      · exact ⟨by (constructor <;> (try dsimp only [frK]) <;> first | with_reducible (first | assumption | exact rg_wi _ | exact h.a | exact h.b | exact h.d | exact h.i | exact h.j | exact h.n | exact h.t | exact h.l | exact h.ln | exact h.cap) | exact rg_lit (by decide) | exact Nat.zero_le _ | exact queue_cap hc _ _ | exact bitmap_rg _ | (intro x hx; cases hx; done) | decide), rfl⟩
      · exact ⟨h, rfl⟩
    have hk := hb.2
    generalize workerB e f = g at hb hk
    have h := hb.1
    unfold workerE
    have hl : ∀ x ∈ [g.n], Rg x := fun x hx => by rw [List.mem_singleton] at hx; subst hx; exact h.n
    have hl1 : [g.n].length ≤ K := hK1
    by_cases l4 : g.line = 4
    · simp only [l4, if_true, if_false, Int.reduceEq]
      exact EntP.plain h hk (by (constructor <;> (try dsimp only [frK]) <;> first | with_reducible (first | assumption | exact rg_wi _ | exact h.a | exact h.b | exact h.d | exact h.i | exact h.j | exact h.n | exact h.t | exact h.l | exact h.ln | exact h.cap) | exact rg_lit (by decide) | exact Nat.zero_le _ | exact queue_cap hc _ _ | exact bitmap_rg _ | (intro x hx; cases hx; done) | decide)) (by rw [k25]; decide) (by rw [k25]; decide) ⟨fun e => (by cases e), fun e => (by cases e), fun _ => ⟨Int.le_refl 0, (by show (0 : Int) ≤ e.c.workers; omega)⟩⟩ (by rw [k25]; dsimp only [frK]; decide)
    by_cases l7 : g.line = 7
    · simp only [l7, if_true, if_false, Int.reduceEq]
      exact EntP.plain h hk (by (constructor <;> (try dsimp only [frK]) <;> first | with_reducible (first | assumption | exact rg_wi _ | exact h.a | exact h.b | exact h.d | exact h.i | exact h.j | exact h.n | exact h.t | exact h.l | exact h.ln | exact h.cap) | exact rg_lit (by decide) | exact Nat.zero_le _ | exact queue_cap hc _ _ | exact bitmap_rg _ | (intro x hx; cases hx; done) | decide)) (by rw [k25]; decide) (by rw [k25]; decide) ⟨fun _ => ⟨by simp, by simp, by simp, by simp, fun e => absurd rfl e⟩, fun e => (by cases e), fun e => by cases e⟩ (by rw [k25]; dsimp only [frK]; decide)
    simp only [if_neg l4, if_neg l7]
    (repeat' split) <;> exact EntP.plain h hk (by (constructor <;> (try dsimp only [frK]) <;> first | with_reducible (first | assumption | exact rg_wi _ | exact h.a | exact h.b | exact h.d | exact h.i | exact h.j | exact h.n | exact h.t | exact h.l | exact h.ln | exact h.cap) | exact rg_lit (by decide) | exact Nat.zero_le _ | exact queue_cap hc _ _ | exact bitmap_rg _ | (intro x hx; cases hx; done) | decide)) (by rw [k25]; decide) (by rw [k25]; decide) (topOk_of (by dsimp only [frK]; decide) (by dsimp only [frK]; decide) (by dsimp only [frK]; decide)) (by rw [k25]; dsimp only [frK]; decide)
  by_cases k26 : f.kind = 26
  · simp only [k26, if_true, if_false, Int.reduceEq]
    have hi := ht.cl k26
    have hno : LiveOk e f := ⟨fun e => (by rw [k26] at e; cases e), fun _ => hi, fun e => by rw [k26] at e; cases e⟩
    unfold clientE
    by_cases hs : (e.c.subs.length : Int) ≤ f.i
    · rw [if_pos hs]; exact EntP.stop h rfl hno
    rw [if_neg hs]
    have hsub := hc.sub _ (at_in (d := dfR 4) (xs := e.c.subs) (i := f.i) ⟨hi.1, Int.not_le.1 hs⟩)
    have hs1 : Rg (e.sub f.i).level := hsub.1
    have hs2 : Rg (e.sub f.i).deadline := hsub.2.1
    have hw : Rg e.c.workers := rg_lit (by omega)
    have hp : ∀ g : FrV, rank g.kind < 4 → (f.line = 3 → g.kind = 12) → ParOk e.c f g := fun g h1 h3 => ⟨by rw [k26]; exact h1, fun e => (by rw [k26] at e; cases e), fun _ => ⟨hi.1, by omega, h3⟩⟩
    have hq : PcP e f := fun e => by rw [k26] at e; cases e
    (repeat' split) <;> first
      | exact EntP.stop h rfl hno
      | exact EntP.go h rfl (by (constructor <;> (try dsimp only [frK]) <;> first | with_reducible (first | assumption | exact rg_wi _ | exact h.a | exact h.b | exact h.d | exact h.i | exact h.j | exact h.n | exact h.t | exact h.l | exact h.ln | exact h.cap) | exact rg_lit (by decide) | exact Nat.zero_le _ | exact queue_cap hc _ _ | exact bitmap_rg _ | (intro x hx; cases hx; done) | decide)) (topOk_of (by dsimp only [frK]; decide) (by dsimp only [frK]; decide) (by dsimp only [frK]; decide)) (hp _ (by dsimp only [frK]; decide) (by first | (intro _; rfl) | (intro e; omega))) hq
  by_cases k21 : f.kind = 21
  · simp only [k21, if_false, Int.reduceEq]
    exact EntP.stop h rfl ⟨fun e => (by rw [k21] at e; cases e), fun e => (by rw [k21] at e; cases e), ht.pr⟩
  simp only [k5, k6, k15, k17, k18, k22, k23, k24, k25, k26, if_false]
  exact EntP.stop h rfl (live_of k24 k26 k21)
end
end
end Go.Proofs.YtpbkelpokpglaaaGreat
