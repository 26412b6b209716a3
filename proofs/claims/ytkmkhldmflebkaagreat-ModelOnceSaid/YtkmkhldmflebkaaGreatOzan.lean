/- What always holds of the reference's machines,1: lines. No program occurs here. What always holds of the reference's machines,2: frames,their stack,a step. -/
import Derived.Test.YtkmkhldmflebkaaGreatOzam
set_option linter.all false
namespace Go.Proofs.YtkmkhldmflebkaaGreat
section
open Go
structure FrR (K : Nat) (f : FrV) : Prop where
 a : Rg f.a
 b : Rg f.b
 d : Rg f.d
 i : Rg f.i
 j : Rg f.j
 n : Rg f.n
 t : Rg f.t
 l : ∀ x ∈ f.l,Rg x
 ln : f.l.length ≤ K
 cap : f.q.cap ≤ 9223372036854775807
structure EvR (e : Ev) : Prop where
 kind : Rg e.kind
 worker : Rg e.worker
 task : Rg e.task
 other : Rg e.other
 level : Rg e.level
def axn (K : Nat) (evs : List Ev) : Prop := evs.length ≤ K ∧ ∀ e ∈ evs,EvR e
def aqd (K : Nat) (c : Cfg) (recs : List RecV) : Prop := (recs.length : Int) = c.tasks ∧ ∀ r ∈ recs,r.kids.length ≤ K ∧ ∀ x ∈ r.kids,Rg x
theorem FrR.le {K L : Nat} {f : FrV} (h : FrR K f) (hl : K ≤ L) : FrR L f := ⟨h.a,h.b,h.d,h.i,h.j,h.n,h.t,h.l,Nat.le_trans h.ln hl,h.cap⟩
theorem axn.le {K L : Nat} {e : List Ev} (h : axn K e) (hl : K ≤ L) : axn L e := ⟨Nat.le_trans h.1 hl,h.2⟩
theorem aqd.le {K L : Nat} {c : Cfg} {e : List RecV} (h : aqd K c e) (hl : K ≤ L) : aqd L c e := ⟨h.1,fun r hr =>⟨Nat.le_trans (h.2 r hr).1 hl,(h.2 r hr).2⟩⟩
theorem FrR.up {K : Nat} {f : FrV} (h : FrR K f) : FrR (K + 1) f := h.le (Nat.le_succ K)
theorem rg0 : Rg 0 := aab (by decide)
theorem aai (x : Int) : Rg (awn x) := by have := awm x; exact aab (by omega)
theorem aac (x : Int) : Rg (agj x) := by have := auj x; exact aab (by omega)
structure EP (K : Nat) (e e' : EnvV) : Prop where
 c : e'.c = e.c
 now : e'.now = e.now
 draw : e'.draw = e.draw
 len : e'.m.cells.length = e.m.cells.length
 rcs : aqd K e.c e.recs → aqd (K + 1) e.c e'.recs
 evs : e'.evs = e.evs
structure EQ (K : Nat) (e e' : EnvV) : Prop where
 c : e'.c = e.c
 now : e'.now = e.now
 draw : e'.draw = e.draw
 len : e'.m.cells.length = e.m.cells.length
 rcs : aqd K e.c e.recs → aqd (K + 1) e.c e'.recs
 evs : axn K e.evs → axn (K + 1) e'.evs
section
variable {K : Nat} {e e' : EnvV} {f : FrV}
theorem EP.refl : EP K e e := ⟨rfl,rfl,rfl,rfl,fun h =>h.le (Nat.le_succ K),rfl⟩
theorem EP.ac (h : EP K e e') {k a v w : Int} : EP K e (e'.ac k a v w) := ⟨h.c,h.now,h.draw,(aw7 _ _ _ _ _).trans h.len,h.rcs,h.evs⟩
theorem arC {α : Type} {xs : List α} {n : Nat} {y x : α} (h : x ∈ xs.set n y) : x = y ∨ x ∈ xs := by
 rcases List.mem_or_eq_of_mem_set h with h | h
 ·exact .inr h
 ·exact .inl h
theorem EP.put (h : EP K e e') {t : Int} {r : RecV} (hr : aqd K e.c e.recs → r.kids.length ≤ K + 1 ∧ ∀ x ∈ r.kids,Rg x) : EP K e (e'.put t r) := ⟨h.c,h.now,h.draw,h.len,fun hh =>by
 have h1 := h.rcs hh
 refine ⟨by simp [EnvV.put]; exact h1.1,fun x hx =>?_⟩
 rcases arC hx with rfl | hx
 ·exact hr hh
 ·exact h1.2 x hx,h.evs⟩
theorem EQ.of (h : EP K e e') : EQ K e e' := ⟨h.c,h.now,h.draw,h.len,h.rcs,fun hh =>by rw [h.evs]; exact hh.le (Nat.le_succ K)⟩
theorem EQ.em (h : EP K e e') {k w t o l : Int} (hk : Rg k) (hw : Rg w) (ht : Rg t) (ho : Rg o) (hl : Rg l) : EQ K e (e'.em k w t o l) := ⟨h.c,h.now,h.draw,h.len,h.rcs,fun hh =>by
 refine ⟨by simp [EnvV.em,h.evs]; exact hh.1,fun x hx =>?_⟩
 have hx2 : x ∈ e.evs ++ [⟨k,w,t,o,l⟩] := by rw [← h.evs]; exact hx
 rcases List.mem_append.1 hx2 with hx | hx
 ·exact hh.2 x hx
 ·rw [List.mem_singleton] at hx; subst hx; exact ⟨hk,hw,ht,ho,hl⟩⟩
theorem aqM (hr : aqd K e.c e.recs) (t : Int) : (e.rc t).kids.length ≤ K ∧ ∀ x ∈ (e.rc t).kids,Rg x := by
 by_cases h : t.toNat < e.recs.length
 ·refine hr.2 _ ?_
  have : e.recs[t.toNat]? = some (e.rc t) := by simp [EnvV.rc,aap,atL,h]; rfl
  exact List.mem_of_getElem? this
 ·have : e.rc t = (dfR 7 : TR 7) := by simp [EnvV.rc,aap,atL,h]; rfl
  rw [this]
  exact ⟨Nat.zero_le _,fun x hx =>by cases hx⟩
structure LfP (K : Nat) (e : EnvV) (f : FrV) (o : Lf) : Prop where
 fr : FrR (K + 1) o.2.2
 kind : o.2.2.kind = f.kind
 val : Rg o.1.value
 env : EQ K e o.2.1
theorem atO (h : FrR K f) : LfP K e f (ard e f) := by
 unfold ard
 repeat' split
 all_goals exact ⟨by dsimp only [go,fin]; (constructor <;> (try dsimp only) <;> first | with_reducible assumption | with_reducible exact aan _ | (with_reducible exact h.a) | (with_reducible exact h.b) | (with_reducible exact h.d) | (with_reducible exact h.i) | (with_reducible exact h.j) | (with_reducible exact h.n) | (with_reducible exact h.t) | (with_reducible exact h.l) | (with_reducible exact h.up.ln) | (with_reducible exact h.cap) | exact aab (by decide) | with_reducible exact aai _ | with_reducible exact aac _),rfl,by dsimp only [go,fin]; (first | with_reducible assumption | with_reducible exact aan _ | (with_reducible exact h.a) | (with_reducible exact h.b) | (with_reducible exact h.d) | (with_reducible exact h.i) | (with_reducible exact h.j) | (with_reducible exact h.n) | (with_reducible exact h.t) | exact aab (by decide) | with_reducible exact aai _ | with_reducible exact aac _),by dsimp only [go,fin]; (first | with_reducible exact EQ.of EP.refl | with_reducible exact EQ.of EP.refl.ac | (refine EQ.em (by first | with_reducible exact EP.refl | with_reducible exact EP.refl.ac) ?_ ?_ ?_ ?_ ?_ <;> (first | with_reducible assumption | with_reducible exact aan _ | (with_reducible exact h.a) | (with_reducible exact h.b) | (with_reducible exact h.d) | (with_reducible exact h.i) | (with_reducible exact h.j) | (with_reducible exact h.n) | (with_reducible exact h.t) | exact aab (by decide) | with_reducible exact aai _ | with_reducible exact aac _)))⟩
theorem av6 (h : FrR K f) : LfP K e f (axJ e f) := by
 unfold axJ
 repeat' split
 all_goals exact ⟨by dsimp only [go,fin]; (constructor <;> (try dsimp only) <;> first | with_reducible assumption | with_reducible exact aan _ | (with_reducible exact h.a) | (with_reducible exact h.b) | (with_reducible exact h.d) | (with_reducible exact h.i) | (with_reducible exact h.j) | (with_reducible exact h.n) | (with_reducible exact h.t) | (with_reducible exact h.l) | (with_reducible exact h.up.ln) | (with_reducible exact h.cap) | exact aab (by decide) | with_reducible exact aai _ | with_reducible exact aac _),rfl,by dsimp only [go,fin]; (first | with_reducible assumption | with_reducible exact aan _ | (with_reducible exact h.a) | (with_reducible exact h.b) | (with_reducible exact h.d) | (with_reducible exact h.i) | (with_reducible exact h.j) | (with_reducible exact h.n) | (with_reducible exact h.t) | exact aab (by decide) | with_reducible exact aai _ | with_reducible exact aac _),by dsimp only [go,fin]; (first | with_reducible exact EQ.of EP.refl | with_reducible exact EQ.of EP.refl.ac | (refine EQ.em (by first | with_reducible exact EP.refl | with_reducible exact EP.refl.ac) ?_ ?_ ?_ ?_ ?_ <;> (first | with_reducible assumption | with_reducible exact aan _ | (with_reducible exact h.a) | (with_reducible exact h.b) | (with_reducible exact h.d) | (with_reducible exact h.i) | (with_reducible exact h.j) | (with_reducible exact h.n) | (with_reducible exact h.t) | exact aab (by decide) | with_reducible exact aai _ | with_reducible exact aac _)))⟩
theorem aqt (h : FrR K f) : LfP K e f (alu e f) := by
 unfold alu
 repeat' split
 all_goals exact ⟨by dsimp only [go,fin]; (constructor <;> (try dsimp only) <;> first | with_reducible assumption | with_reducible exact aan _ | (with_reducible exact h.a) | (with_reducible exact h.b) | (with_reducible exact h.d) | (with_reducible exact h.i) | (with_reducible exact h.j) | (with_reducible exact h.n) | (with_reducible exact h.t) | (with_reducible exact h.l) | (with_reducible exact h.up.ln) | (with_reducible exact h.cap) | exact aab (by decide) | with_reducible exact aai _ | with_reducible exact aac _),rfl,by dsimp only [go,fin]; (first | with_reducible assumption | with_reducible exact aan _ | (with_reducible exact h.a) | (with_reducible exact h.b) | (with_reducible exact h.d) | (with_reducible exact h.i) | (with_reducible exact h.j) | (with_reducible exact h.n) | (with_reducible exact h.t) | exact aab (by decide) | with_reducible exact aai _ | with_reducible exact aac _),by dsimp only [go,fin]; (first | with_reducible exact EQ.of EP.refl | with_reducible exact EQ.of EP.refl.ac | (refine EQ.em (by first | with_reducible exact EP.refl | with_reducible exact EP.refl.ac) ?_ ?_ ?_ ?_ ?_ <;> (first | with_reducible assumption | with_reducible exact aan _ | (with_reducible exact h.a) | (with_reducible exact h.b) | (with_reducible exact h.d) | (with_reducible exact h.i) | (with_reducible exact h.j) | (with_reducible exact h.n) | (with_reducible exact h.t) | exact aab (by decide) | with_reducible exact aai _ | with_reducible exact aac _)))⟩
theorem asx (h : FrR K f) : LfP K e f (amx e f) := by
 unfold amx
 repeat' split
 all_goals exact ⟨by dsimp only [go,fin]; (constructor <;> (try dsimp only) <;> first | with_reducible assumption | with_reducible exact aan _ | (with_reducible exact h.a) | (with_reducible exact h.b) | (with_reducible exact h.d) | (with_reducible exact h.i) | (with_reducible exact h.j) | (with_reducible exact h.n) | (with_reducible exact h.t) | (with_reducible exact h.l) | (with_reducible exact h.up.ln) | (with_reducible exact h.cap) | exact aab (by decide) | with_reducible exact aai _ | with_reducible exact aac _),rfl,by dsimp only [go,fin]; (first | with_reducible assumption | with_reducible exact aan _ | (with_reducible exact h.a) | (with_reducible exact h.b) | (with_reducible exact h.d) | (with_reducible exact h.i) | (with_reducible exact h.j) | (with_reducible exact h.n) | (with_reducible exact h.t) | exact aab (by decide) | with_reducible exact aai _ | with_reducible exact aac _),by dsimp only [go,fin]; (first | with_reducible exact EQ.of EP.refl | with_reducible exact EQ.of EP.refl.ac | (refine EQ.em (by first | with_reducible exact EP.refl | with_reducible exact EP.refl.ac) ?_ ?_ ?_ ?_ ?_ <;> (first | with_reducible assumption | with_reducible exact aan _ | (with_reducible exact h.a) | (with_reducible exact h.b) | (with_reducible exact h.d) | (with_reducible exact h.i) | (with_reducible exact h.j) | (with_reducible exact h.n) | (with_reducible exact h.t) | exact aab (by decide) | with_reducible exact aai _ | with_reducible exact aac _)))⟩
theorem apR (h : FrR K f) : LfP K e f (aiU e f) := by
 unfold aiU
 repeat' split
 all_goals exact ⟨by dsimp only [go,fin]; (constructor <;> (try dsimp only) <;> first | with_reducible assumption | with_reducible exact aan _ | (with_reducible exact h.a) | (with_reducible exact h.b) | (with_reducible exact h.d) | (with_reducible exact h.i) | (with_reducible exact h.j) | (with_reducible exact h.n) | (with_reducible exact h.t) | (with_reducible exact h.l) | (with_reducible exact h.up.ln) | (with_reducible exact h.cap) | exact aab (by decide) | with_reducible exact aai _ | with_reducible exact aac _),rfl,by dsimp only [go,fin]; (first | with_reducible assumption | with_reducible exact aan _ | (with_reducible exact h.a) | (with_reducible exact h.b) | (with_reducible exact h.d) | (with_reducible exact h.i) | (with_reducible exact h.j) | (with_reducible exact h.n) | (with_reducible exact h.t) | exact aab (by decide) | with_reducible exact aai _ | with_reducible exact aac _),by dsimp only [go,fin]; (first | with_reducible exact EQ.of EP.refl | with_reducible exact EQ.of EP.refl.ac | (refine EQ.em (by first | with_reducible exact EP.refl | with_reducible exact EP.refl.ac) ?_ ?_ ?_ ?_ ?_ <;> (first | with_reducible assumption | with_reducible exact aan _ | (with_reducible exact h.a) | (with_reducible exact h.b) | (with_reducible exact h.d) | (with_reducible exact h.i) | (with_reducible exact h.j) | (with_reducible exact h.n) | (with_reducible exact h.t) | exact aab (by decide) | with_reducible exact aai _ | with_reducible exact aac _)))⟩
theorem apg (h : FrR K f) : LfP K e f (air e f) := by
 unfold air; have hu : Rg (adX f.u).2.2 := aan _
 repeat' split
 all_goals exact ⟨by dsimp only [go,fin]; (constructor <;> (try dsimp only) <;> first | with_reducible assumption | with_reducible exact aan _ | (with_reducible exact h.a) | (with_reducible exact h.b) | (with_reducible exact h.d) | (with_reducible exact h.i) | (with_reducible exact h.j) | (with_reducible exact h.n) | (with_reducible exact h.t) | (with_reducible exact h.l) | (with_reducible exact h.up.ln) | (with_reducible exact h.cap) | exact aab (by decide) | with_reducible exact aai _ | with_reducible exact aac _),rfl,by dsimp only [go,fin]; (first | with_reducible assumption | with_reducible exact aan _ | (with_reducible exact h.a) | (with_reducible exact h.b) | (with_reducible exact h.d) | (with_reducible exact h.i) | (with_reducible exact h.j) | (with_reducible exact h.n) | (with_reducible exact h.t) | exact aab (by decide) | with_reducible exact aai _ | with_reducible exact aac _),by dsimp only [go,fin]; (first | with_reducible exact EQ.of EP.refl | with_reducible exact EQ.of EP.refl.ac | (refine EQ.em (by first | with_reducible exact EP.refl | with_reducible exact EP.refl.ac) ?_ ?_ ?_ ?_ ?_ <;> (first | with_reducible assumption | with_reducible exact aan _ | (with_reducible exact h.a) | (with_reducible exact h.b) | (with_reducible exact h.d) | (with_reducible exact h.i) | (with_reducible exact h.j) | (with_reducible exact h.n) | (with_reducible exact h.t) | exact aab (by decide) | with_reducible exact aai _ | with_reducible exact aac _)))⟩
theorem ang (h : FrR K f) : LfP K e f (agK e f) := by
 unfold agK
 repeat' split
 all_goals exact ⟨by dsimp only [go,fin]; (constructor <;> (try dsimp only) <;> first | with_reducible assumption | with_reducible exact aan _ | (with_reducible exact h.a) | (with_reducible exact h.b) | (with_reducible exact h.d) | (with_reducible exact h.i) | (with_reducible exact h.j) | (with_reducible exact h.n) | (with_reducible exact h.t) | (with_reducible exact h.l) | (with_reducible exact h.up.ln) | (with_reducible exact h.cap) | exact aab (by decide) | with_reducible exact aai _ | with_reducible exact aac _),rfl,by dsimp only [go,fin]; (first | with_reducible assumption | with_reducible exact aan _ | (with_reducible exact h.a) | (with_reducible exact h.b) | (with_reducible exact h.d) | (with_reducible exact h.i) | (with_reducible exact h.j) | (with_reducible exact h.n) | (with_reducible exact h.t) | exact aab (by decide) | with_reducible exact aai _ | with_reducible exact aac _),by dsimp only [go,fin]; (first | with_reducible exact EQ.of EP.refl | with_reducible exact EQ.of EP.refl.ac | (refine EQ.em (by first | with_reducible exact EP.refl | with_reducible exact EP.refl.ac) ?_ ?_ ?_ ?_ ?_ <;> (first | with_reducible assumption | with_reducible exact aan _ | (with_reducible exact h.a) | (with_reducible exact h.b) | (with_reducible exact h.d) | (with_reducible exact h.i) | (with_reducible exact h.j) | (with_reducible exact h.n) | (with_reducible exact h.t) | exact aab (by decide) | with_reducible exact aai _ | with_reducible exact aac _)))⟩
theorem apY (h : FrR K f) : LfP K e f (ai2 e f) := by
 unfold ai2
 repeat' split
 all_goals exact ⟨by dsimp only [go,fin]; (constructor <;> (try dsimp only) <;> first | with_reducible assumption | with_reducible exact aan _ | (with_reducible exact h.a) | (with_reducible exact h.b) | (with_reducible exact h.d) | (with_reducible exact h.i) | (with_reducible exact h.j) | (with_reducible exact h.n) | (with_reducible exact h.t) | (with_reducible exact h.l) | (with_reducible exact h.up.ln) | (with_reducible exact h.cap) | exact aab (by decide) | with_reducible exact aai _ | with_reducible exact aac _),rfl,by dsimp only [go,fin]; (first | with_reducible assumption | with_reducible exact aan _ | (with_reducible exact h.a) | (with_reducible exact h.b) | (with_reducible exact h.d) | (with_reducible exact h.i) | (with_reducible exact h.j) | (with_reducible exact h.n) | (with_reducible exact h.t) | exact aab (by decide) | with_reducible exact aai _ | with_reducible exact aac _),by dsimp only [go,fin]; (first | with_reducible exact EQ.of EP.refl | with_reducible exact EQ.of EP.refl.ac | (refine EQ.em (by first | with_reducible exact EP.refl | with_reducible exact EP.refl.ac) ?_ ?_ ?_ ?_ ?_ <;> (first | with_reducible assumption | with_reducible exact aan _ | (with_reducible exact h.a) | (with_reducible exact h.b) | (with_reducible exact h.d) | (with_reducible exact h.i) | (with_reducible exact h.j) | (with_reducible exact h.n) | (with_reducible exact h.t) | exact aab (by decide) | with_reducible exact aai _ | with_reducible exact aac _)))⟩
theorem aqQ (h : FrR K f) : LfP K e f (alJ e f) := by
 unfold alJ
 repeat' split
 all_goals exact ⟨by dsimp only [go,fin]; (constructor <;> (try dsimp only) <;> first | with_reducible assumption | with_reducible exact aan _ | (with_reducible exact h.a) | (with_reducible exact h.b) | (with_reducible exact h.d) | (with_reducible exact h.i) | (with_reducible exact h.j) | (with_reducible exact h.n) | (with_reducible exact h.t) | (with_reducible exact h.l) | (with_reducible exact h.up.ln) | (with_reducible exact h.cap) | exact aab (by decide) | with_reducible exact aai _ | with_reducible exact aac _),rfl,by dsimp only [go,fin]; (first | with_reducible assumption | with_reducible exact aan _ | (with_reducible exact h.a) | (with_reducible exact h.b) | (with_reducible exact h.d) | (with_reducible exact h.i) | (with_reducible exact h.j) | (with_reducible exact h.n) | (with_reducible exact h.t) | exact aab (by decide) | with_reducible exact aai _ | with_reducible exact aac _),by dsimp only [go,fin]; (first | with_reducible exact EQ.of EP.refl | with_reducible exact EQ.of EP.refl.ac | (refine EQ.em (by first | with_reducible exact EP.refl | with_reducible exact EP.refl.ac) ?_ ?_ ?_ ?_ ?_ <;> (first | with_reducible assumption | with_reducible exact aan _ | (with_reducible exact h.a) | (with_reducible exact h.b) | (with_reducible exact h.d) | (with_reducible exact h.i) | (with_reducible exact h.j) | (with_reducible exact h.n) | (with_reducible exact h.t) | exact aab (by decide) | with_reducible exact aai _ | with_reducible exact aac _)))⟩
theorem as3 (h : FrR K f) : LfP K e f (aqf e f) := by
 unfold aqf
 repeat' split
 all_goals exact ⟨by dsimp only [go,fin]; (constructor <;> (try dsimp only) <;> first | with_reducible assumption | with_reducible exact aan _ | (with_reducible exact h.a) | (with_reducible exact h.b) | (with_reducible exact h.d) | (with_reducible exact h.i) | (with_reducible exact h.j) | (with_reducible exact h.n) | (with_reducible exact h.t) | (with_reducible exact h.l) | (with_reducible exact h.up.ln) | (with_reducible exact h.cap) | exact aab (by decide) | with_reducible exact aai _ | with_reducible exact aac _),rfl,by dsimp only [go,fin]; (first | with_reducible assumption | with_reducible exact aan _ | (with_reducible exact h.a) | (with_reducible exact h.b) | (with_reducible exact h.d) | (with_reducible exact h.i) | (with_reducible exact h.j) | (with_reducible exact h.n) | (with_reducible exact h.t) | exact aab (by decide) | with_reducible exact aai _ | with_reducible exact aac _),by dsimp only [go,fin]; (first | with_reducible exact EQ.of EP.refl | with_reducible exact EQ.of EP.refl.ac | (refine EQ.em (by first | with_reducible exact EP.refl | with_reducible exact EP.refl.ac) ?_ ?_ ?_ ?_ ?_ <;> (first | with_reducible assumption | with_reducible exact aan _ | (with_reducible exact h.a) | (with_reducible exact h.b) | (with_reducible exact h.d) | (with_reducible exact h.i) | (with_reducible exact h.j) | (with_reducible exact h.n) | (with_reducible exact h.t) | exact aab (by decide) | with_reducible exact aai _ | with_reducible exact aac _)))⟩
theorem aqn (h : FrR K f) : LfP K e f (als e f) := by
 unfold als
 repeat' split
 all_goals exact ⟨by dsimp only [go,fin]; (constructor <;> (try dsimp only) <;> first | with_reducible assumption | with_reducible exact aan _ | (with_reducible exact h.a) | (with_reducible exact h.b) | (with_reducible exact h.d) | (with_reducible exact h.i) | (with_reducible exact h.j) | (with_reducible exact h.n) | (with_reducible exact h.t) | (with_reducible exact h.l) | (with_reducible exact h.up.ln) | (with_reducible exact h.cap) | exact aab (by decide) | with_reducible exact aai _ | with_reducible exact aac _),rfl,by dsimp only [go,fin]; (first | with_reducible assumption | with_reducible exact aan _ | (with_reducible exact h.a) | (with_reducible exact h.b) | (with_reducible exact h.d) | (with_reducible exact h.i) | (with_reducible exact h.j) | (with_reducible exact h.n) | (with_reducible exact h.t) | exact aab (by decide) | with_reducible exact aai _ | with_reducible exact aac _),by dsimp only [go,fin]; (first | with_reducible exact EQ.of EP.refl | with_reducible exact EQ.of EP.refl.ac | (refine EQ.em (by first | with_reducible exact EP.refl | with_reducible exact EP.refl.ac) ?_ ?_ ?_ ?_ ?_ <;> (first | with_reducible assumption | with_reducible exact aan _ | (with_reducible exact h.a) | (with_reducible exact h.b) | (with_reducible exact h.d) | (with_reducible exact h.i) | (with_reducible exact h.j) | (with_reducible exact h.n) | (with_reducible exact h.t) | exact aab (by decide) | with_reducible exact aai _ | with_reducible exact aac _)))⟩
theorem aqv (h : FrR K f) (hn : Rg e.now) : LfP K e f (alw e f) := by
 unfold alw
 repeat' split
 all_goals exact ⟨by dsimp only [go,fin]; (constructor <;> (try dsimp only) <;> first | with_reducible assumption | with_reducible exact aan _ | (with_reducible exact h.a) | (with_reducible exact h.b) | (with_reducible exact h.d) | (with_reducible exact h.i) | (with_reducible exact h.j) | (with_reducible exact h.n) | (with_reducible exact h.t) | (with_reducible exact h.l) | (with_reducible exact h.up.ln) | (with_reducible exact h.cap) | exact aab (by decide) | with_reducible exact aai _ | with_reducible exact aac _),rfl,by dsimp only [go,fin]; (first | with_reducible assumption | with_reducible exact aan _ | (with_reducible exact h.a) | (with_reducible exact h.b) | (with_reducible exact h.d) | (with_reducible exact h.i) | (with_reducible exact h.j) | (with_reducible exact h.n) | (with_reducible exact h.t) | exact aab (by decide) | with_reducible exact aai _ | with_reducible exact aac _),by dsimp only [go,fin]; (first | with_reducible exact EQ.of EP.refl | with_reducible exact EQ.of EP.refl.ac | (refine EQ.em (by first | with_reducible exact EP.refl | with_reducible exact EP.refl.ac) ?_ ?_ ?_ ?_ ?_ <;> (first | with_reducible assumption | with_reducible exact aan _ | (with_reducible exact h.a) | (with_reducible exact h.b) | (with_reducible exact h.d) | (with_reducible exact h.i) | (with_reducible exact h.j) | (with_reducible exact h.n) | (with_reducible exact h.t) | exact aab (by decide) | with_reducible exact aai _ | with_reducible exact aac _)))⟩
theorem as4 (h : FrR K f) : LfP K e f (aqi e f) := by
 unfold aqi
 repeat' split
 all_goals exact ⟨by dsimp only [go,fin]; (constructor <;> (try dsimp only) <;> first | with_reducible assumption | with_reducible exact aan _ | (with_reducible exact h.a) | (with_reducible exact h.b) | (with_reducible exact h.d) | (with_reducible exact h.i) | (with_reducible exact h.j) | (with_reducible exact h.n) | (with_reducible exact h.t) | (with_reducible exact h.l) | (with_reducible exact h.up.ln) | (with_reducible exact h.cap) | exact aab (by decide) | with_reducible exact aai _ | with_reducible exact aac _),rfl,by dsimp only [go,fin]; (first | with_reducible assumption | with_reducible exact aan _ | (with_reducible exact h.a) | (with_reducible exact h.b) | (with_reducible exact h.d) | (with_reducible exact h.i) | (with_reducible exact h.j) | (with_reducible exact h.n) | (with_reducible exact h.t) | exact aab (by decide) | with_reducible exact aai _ | with_reducible exact aac _),by dsimp only [go,fin]; (first | with_reducible exact EQ.of EP.refl | with_reducible exact EQ.of EP.refl.ac | (refine EQ.em (by first | with_reducible exact EP.refl | with_reducible exact EP.refl.ac) ?_ ?_ ?_ ?_ ?_ <;> (first | with_reducible assumption | with_reducible exact aan _ | (with_reducible exact h.a) | (with_reducible exact h.b) | (with_reducible exact h.d) | (with_reducible exact h.i) | (with_reducible exact h.j) | (with_reducible exact h.n) | (with_reducible exact h.t) | exact aab (by decide) | with_reducible exact aai _ | with_reducible exact aac _)))⟩
theorem asi (h : FrR K f) : LfP K e f (ams e f) := by
 unfold ams
 repeat' split
 all_goals exact ⟨by dsimp only [go,fin]; (constructor <;> (try dsimp only) <;> first | with_reducible assumption | with_reducible exact aan _ | (with_reducible exact h.a) | (with_reducible exact h.b) | (with_reducible exact h.d) | (with_reducible exact h.i) | (with_reducible exact h.j) | (with_reducible exact h.n) | (with_reducible exact h.t) | (with_reducible exact h.l) | (with_reducible exact h.up.ln) | (with_reducible exact h.cap) | exact aab (by decide) | with_reducible exact aai _ | with_reducible exact aac _),rfl,by dsimp only [go,fin]; (first | with_reducible assumption | with_reducible exact aan _ | (with_reducible exact h.a) | (with_reducible exact h.b) | (with_reducible exact h.d) | (with_reducible exact h.i) | (with_reducible exact h.j) | (with_reducible exact h.n) | (with_reducible exact h.t) | exact aab (by decide) | with_reducible exact aai _ | with_reducible exact aac _),by dsimp only [go,fin]; (first | with_reducible exact EQ.of EP.refl | with_reducible exact EQ.of EP.refl.ac | (refine EQ.em (by first | with_reducible exact EP.refl | with_reducible exact EP.refl.ac) ?_ ?_ ?_ ?_ ?_ <;> (first | with_reducible assumption | with_reducible exact aan _ | (with_reducible exact h.a) | (with_reducible exact h.b) | (with_reducible exact h.d) | (with_reducible exact h.i) | (with_reducible exact h.j) | (with_reducible exact h.n) | (with_reducible exact h.t) | exact aab (by decide) | with_reducible exact aai _ | with_reducible exact aac _)))⟩
theorem asz (h : FrR K f) : LfP K e f (aj1 e f) := by
 unfold aj1
 split
 ·refine ⟨h.up,rfl,h.b,EQ.em (EP.refl.ac.put fun hr =>?_) ?_ ?_ ?_ ?_ ?_⟩
  ·have := aqM hr f.b
   exact ⟨Nat.le_succ_of_le this.1,this.2⟩
  ·split <;> exact aab (by decide)
  all_goals (first | with_reducible assumption | with_reducible exact aan _ | (with_reducible exact h.a) | (with_reducible exact h.b) | (with_reducible exact h.d) | (with_reducible exact h.i) | (with_reducible exact h.j) | (with_reducible exact h.n) | (with_reducible exact h.t) | exact aab (by decide) | with_reducible exact aai _ | with_reducible exact aac _)
 ·refine ⟨h.up,rfl,rg0,EQ.em EP.refl.ac ?_ ?_ ?_ ?_ ?_⟩ <;> (first | with_reducible assumption | with_reducible exact aan _ | (with_reducible exact h.a) | (with_reducible exact h.b) | (with_reducible exact h.d) | (with_reducible exact h.i) | (with_reducible exact h.j) | (with_reducible exact h.n) | (with_reducible exact h.t) | exact aab (by decide) | with_reducible exact aai _ | with_reducible exact aac _)
theorem asU (h : FrR K f) : LfP K e f (ag7 e f) ∧ (ag7 e f).1.done = true ∧ (ag7 e f).2.1.recs = e.recs ∧ ((ag7 e f).1.code = 3 ∨ abP e (ag7 e f).1.value) := by
 unfold ag7
 split
 ·rename_i hh; exact ⟨⟨h.up,rfl,aan _,EQ.of EP.refl.ac⟩,rfl,rfl,.inr hh⟩
 ·exact ⟨⟨h.up,rfl,rg0,EQ.of EP.refl.ac⟩,rfl,rfl,.inl rfl⟩
theorem arj (h : FrR K f) (hc : CfgOk e.c) (hd : Rg e.draw) (hi : 0 ≤ f.i ∧ f.i ≤ e.c.workers) : LfP K e f (ahV e f) ∧ ((ahV e f).1.done = false → 0 ≤ (ahV e f).2.2.i ∧ (ahV e f).2.2.i ≤ e.c.workers) := by
 have w1 := hc.w1
 have w2 := hc.w2
 have hb : FrR K (afZ e f) ∧ (afZ e f).kind = f.kind ∧ (afZ e f).i = f.i := by
  unfold afZ
  split
  ·have hdr : Rg (abV e.draw e.c.workers) := ash (by omega)
   refine ⟨?_,rfl,rfl⟩
   constructor <;> (try dsimp only) <;> first | exact hdr | exact h.a | exact h.b | exact h.d | exact h.i | exact h.l | exact h.ln | exact h.cap | exact aab (by decide)
  ·exact ⟨h,rfl,rfl⟩
 unfold ahV
 generalize afZ e f = g at hb
 obtain ⟨hg,hk,hgi⟩ := hb
 suffices H : LfP K e g (ahU e g) ∧ ((ahU e g).1.done = false → 0 ≤ (ahU e g).2.2.i ∧ (ahU e g).2.2.i ≤ e.c.workers) from ⟨⟨H.1.fr,H.1.kind.trans hk,H.1.val,H.1.env⟩,H.2⟩
 rw [← hgi] at hi
 clear h hk hgi
 have h := hg
 have hI : g.i ≤ acJ e g ∧ acJ e g ≤ g.i + 1 := by
  unfold acJ
  split
  ·rw [aa7 (aab (by omega))]; omega
  ·omega
 have hI2 : wi (acJ e g + 1) = acJ e g + 1 := aa7 (aab (by omega))
 have hv : Rg (acB e g) := akd w1 (by omega)
 have hf : FrR (K + 1) (ab0 e g) ∧ (ab0 e g).kind = g.kind ∧ (ab0 e g).i = acJ e g + 1 := by
  unfold ab0
  have hh : Rg (afa e g) := aac _
  split
  ·refine ⟨?_,rfl,hI2⟩
   (constructor <;> (try dsimp only) <;> first | with_reducible assumption | with_reducible exact aan _ | (with_reducible exact h.a) | (with_reducible exact h.b) | (with_reducible exact h.d) | (with_reducible exact h.i) | (with_reducible exact h.j) | (with_reducible exact h.n) | (with_reducible exact h.t) | (with_reducible exact h.l) | (with_reducible exact h.up.ln) | (with_reducible exact h.cap) | exact aab (by decide) | with_reducible exact aai _ | with_reducible exact aac _)
  ·refine ⟨?_,rfl,hI2⟩
   (constructor <;> (try dsimp only) <;> first | with_reducible assumption | with_reducible exact aan _ | (with_reducible exact h.a) | (with_reducible exact h.b) | (with_reducible exact h.d) | (with_reducible exact h.i) | (with_reducible exact h.j) | (with_reducible exact h.n) | (with_reducible exact h.t) | (with_reducible exact h.l) | (with_reducible exact h.up.ln) | (with_reducible exact h.cap) | exact aab (by decide) | with_reducible exact aai _ | with_reducible exact aac _)
 unfold ahU
 split
 ·exact ⟨⟨h.up,rfl,rg0,EQ.of EP.refl⟩,fun e =>by cases e⟩
 split
 ·rename_i hl
  refine ⟨⟨hf.1,hf.2.1,rg0,EQ.of EP.refl.ac⟩,fun _ =>?_⟩
  show 0 ≤ (ab0 e g).i ∧ (ab0 e g).i ≤ e.c.workers
  rw [hf.2.2]
  rw [hI2] at hl
  by_cases hw : acJ e g + 1 < e.c.workers
  ·omega
  ·exfalso
   unfold awp at hl
   rw [show (e.c.workers - (acJ e g + 1)).toNat = 0 by omega] at hl
   cases hl
 split
 ·exact ⟨⟨hf.1,hf.2.1,rg0,EQ.of EP.refl.ac⟩,fun e =>by cases e⟩
 ·exact ⟨⟨hf.1,hf.2.1,aan _,EQ.of EP.refl.ac⟩,fun e =>by cases e⟩
def ajd (c : Cfg) (f : FrV) : Prop := f.l ≠ [] ∧ f.line ≠ 3 ∧ f.line ≠ 5 ∧ f.line ≠ 23 ∧ (f.line ≠ 1 → 0 ≤ aaQ f.l ∧ aaQ f.l < c.tasks)
theorem aqk (h : FrR K f) : Rg (aaQ f.l) := by
 unfold aaQ
 cases hl : f.l.getLast? with
 | none =>exact aab (by decide)
 | some x =>exact h.l x (List.mem_of_getLast? hl)
theorem afh (h : FrR K f) (he : EQ K e e') : LfP K e f (acW e' f) ∧ (f.l ≠ [] → (acW e' f).1.done = false → ajd e.c (acW e' f).2.2) := by
 have hf : FrR (K + 1) { f with line := 1,l := f.l.dropLast } := by
  have hln : f.l.dropLast.length ≤ K + 1 := by have := h.ln; simp; omega
  have hl2 : ∀ x ∈ f.l.dropLast,Rg x := fun x hx =>h.l x (List.mem_of_mem_take (by rw [List.dropLast_eq_take] at hx; exact hx))
  (constructor <;> (try dsimp only) <;> first | with_reducible assumption | with_reducible exact aan _ | (with_reducible exact h.a) | (with_reducible exact h.b) | (with_reducible exact h.d) | (with_reducible exact h.i) | (with_reducible exact h.j) | (with_reducible exact h.n) | (with_reducible exact h.t) | (with_reducible exact h.l) | (with_reducible exact h.up.ln) | (with_reducible exact h.cap) | exact aab (by decide) | with_reducible exact aai _ | with_reducible exact aac _)
 unfold acW
 split
 ·exact ⟨⟨hf,rfl,rg0,he⟩,fun _ e =>by cases e⟩
 ·rename_i hl
  refine ⟨⟨hf,rfl,rg0,he⟩,fun hne _ =>⟨?_,by simp [go],by simp [go],by simp [go],fun e =>absurd rfl e⟩⟩
  show f.l.dropLast ≠ []
  intro e0
  have h1 := List.length_pos_iff.2 hne
  have h2 := congrArg List.length e0
  simp at h2
  omega
theorem apV (h : FrR K f) (hl : f.l ≠ []) (ht : 0 ≤ aaQ f.l ∧ aaQ f.l < e.c.tasks) : LfP K e f (agk e f (aaQ f.l)) ∧ ((agk e f (aaQ f.l)).1.done = false → ajd e.c (agk e f (aaQ f.l)).2.2) := by
 have hT := aqk h
 unfold agk
 split
 ·refine ⟨?_,fun _ =>⟨hl,by simp [go],by simp [go],by simp [go],fun _ =>ht⟩⟩
  exact ⟨by dsimp only [go,fin]; (constructor <;> (try dsimp only) <;> first | with_reducible assumption | with_reducible exact aan _ | (with_reducible exact h.a) | (with_reducible exact h.b) | (with_reducible exact h.d) | (with_reducible exact h.i) | (with_reducible exact h.j) | (with_reducible exact h.n) | (with_reducible exact h.t) | (with_reducible exact h.l) | (with_reducible exact h.up.ln) | (with_reducible exact h.cap) | exact aab (by decide) | with_reducible exact aai _ | with_reducible exact aac _),rfl,by dsimp only [go,fin]; (first | with_reducible assumption | with_reducible exact aan _ | (with_reducible exact h.a) | (with_reducible exact h.b) | (with_reducible exact h.d) | (with_reducible exact h.i) | (with_reducible exact h.j) | (with_reducible exact h.n) | (with_reducible exact h.t) | exact aab (by decide) | with_reducible exact aai _ | with_reducible exact aac _),by dsimp only [go,fin]; (first | with_reducible exact EQ.of EP.refl | with_reducible exact EQ.of EP.refl.ac | (refine EQ.em (by first | with_reducible exact EP.refl | with_reducible exact EP.refl.ac) ?_ ?_ ?_ ?_ ?_ <;> (first | with_reducible assumption | with_reducible exact aan _ | (with_reducible exact h.a) | (with_reducible exact h.b) | (with_reducible exact h.d) | (with_reducible exact h.i) | (with_reducible exact h.j) | (with_reducible exact h.n) | (with_reducible exact h.t) | exact aab (by decide) | with_reducible exact aai _ | with_reducible exact aac _)))⟩
 split
 ·split
  ·have := afh (e := e) h (EQ.em (e' := e.ac 3 (aaK e.c (aaQ f.l) 2) 0 4294967296) (k := 10) (w := f.a) (t := aaQ f.l) (o := 0) (l := 0) EP.refl.ac (aab (by decide)) h.a hT (aab (by decide)) (aab (by decide)))
   exact ⟨this.1,this.2 hl⟩
  ·refine ⟨?_,fun _ =>⟨hl,by simp [go],by simp [go],by simp [go],fun _ =>ht⟩⟩
   exact ⟨by dsimp only [go,fin]; (constructor <;> (try dsimp only) <;> first | with_reducible assumption | with_reducible exact aan _ | (with_reducible exact h.a) | (with_reducible exact h.b) | (with_reducible exact h.d) | (with_reducible exact h.i) | (with_reducible exact h.j) | (with_reducible exact h.n) | (with_reducible exact h.t) | (with_reducible exact h.l) | (with_reducible exact h.up.ln) | (with_reducible exact h.cap) | exact aab (by decide) | with_reducible exact aai _ | with_reducible exact aac _),rfl,by dsimp only [go,fin]; (first | with_reducible assumption | with_reducible exact aan _ | (with_reducible exact h.a) | (with_reducible exact h.b) | (with_reducible exact h.d) | (with_reducible exact h.i) | (with_reducible exact h.j) | (with_reducible exact h.n) | (with_reducible exact h.t) | exact aab (by decide) | with_reducible exact aai _ | with_reducible exact aac _),by dsimp only [go,fin]; (first | with_reducible exact EQ.of EP.refl | with_reducible exact EQ.of EP.refl.ac | (refine EQ.em (by first | with_reducible exact EP.refl | with_reducible exact EP.refl.ac) ?_ ?_ ?_ ?_ ?_ <;> (first | with_reducible assumption | with_reducible exact aan _ | (with_reducible exact h.a) | (with_reducible exact h.b) | (with_reducible exact h.d) | (with_reducible exact h.i) | (with_reducible exact h.j) | (with_reducible exact h.n) | (with_reducible exact h.t) | exact aab (by decide) | with_reducible exact aai _ | with_reducible exact aac _)))⟩
 split
 ·refine ⟨?_,fun _ =>⟨hl,by simp [go],by simp [go],by simp [go],fun _ =>ht⟩⟩
  exact ⟨by dsimp only [go,fin]; (constructor <;> (try dsimp only) <;> first | with_reducible assumption | with_reducible exact aan _ | (with_reducible exact h.a) | (with_reducible exact h.b) | (with_reducible exact h.d) | (with_reducible exact h.i) | (with_reducible exact h.j) | (with_reducible exact h.n) | (with_reducible exact h.t) | (with_reducible exact h.l) | (with_reducible exact h.up.ln) | (with_reducible exact h.cap) | exact aab (by decide) | with_reducible exact aai _ | with_reducible exact aac _),rfl,by dsimp only [go,fin]; (first | with_reducible assumption | with_reducible exact aan _ | (with_reducible exact h.a) | (with_reducible exact h.b) | (with_reducible exact h.d) | (with_reducible exact h.i) | (with_reducible exact h.j) | (with_reducible exact h.n) | (with_reducible exact h.t) | exact aab (by decide) | with_reducible exact aai _ | with_reducible exact aac _),by dsimp only [go,fin]; (first | with_reducible exact EQ.of EP.refl | with_reducible exact EQ.of EP.refl.ac | (refine EQ.em (by first | with_reducible exact EP.refl | with_reducible exact EP.refl.ac) ?_ ?_ ?_ ?_ ?_ <;> (first | with_reducible assumption | with_reducible exact aan _ | (with_reducible exact h.a) | (with_reducible exact h.b) | (with_reducible exact h.d) | (with_reducible exact h.i) | (with_reducible exact h.j) | (with_reducible exact h.n) | (with_reducible exact h.t) | exact aab (by decide) | with_reducible exact aai _ | with_reducible exact aac _)))⟩
 ·have h2 : FrR K { f with n := wi (wu (e.ld (aaK e.c (aaQ f.l) 2) - 1)) } := ⟨h.a,h.b,h.d,h.i,h.j,aan _,h.t,h.l,h.ln,h.cap⟩
  have := afh (e := e) (e' := e.lm (aaK e.c (aaQ f.l) 2)) h2 (EQ.of EP.refl.ac)
  exact ⟨⟨this.1.fr,this.1.kind,this.1.val,this.1.env⟩,this.2 hl⟩
theorem avO (h : FrR K f) (hl : f.l ≠ []) (ht : f.line ≠ 23 → 0 ≤ aaQ f.l ∧ aaQ f.l < e.c.tasks) : LfP K e f (avP e f) ∧ ((avP e f).1.done = false → ajd e.c (avP e f).2.2) := by
 have hT := aqk h
 have hr : ∀ {r : RecV},r.kids = (e.rc (aaQ f.l)).kids → aqd K e.c e.recs → r.kids.length ≤ K + 1 ∧ ∀ x ∈ r.kids,Rg x := fun hk hr =>by
  have := aqM hr (aaQ f.l)
  rw [hk]; exact ⟨Nat.le_succ_of_le this.1,this.2⟩
 unfold avP
 by_cases h23 : f.line = 23
 ·rw [if_pos h23]; exact ⟨⟨h.up,rfl,rg0,EQ.of EP.refl⟩,fun e =>by cases e⟩
 rw [if_neg h23]
 have ht := ht h23
 by_cases h2 : f.line = 2
 ·rw [if_pos h2]
  refine ⟨⟨?_,rfl,rg0,EQ.of (EP.refl.ac.put (hr rfl))⟩,fun _ =>⟨hl,by simp [go],by simp [go],by simp [go],fun _ =>ht⟩⟩
  dsimp only [go]; (constructor <;> (try dsimp only) <;> first | with_reducible assumption | with_reducible exact aan _ | (with_reducible exact h.a) | (with_reducible exact h.b) | (with_reducible exact h.d) | (with_reducible exact h.i) | (with_reducible exact h.j) | (with_reducible exact h.n) | (with_reducible exact h.t) | (with_reducible exact h.l) | (with_reducible exact h.up.ln) | (with_reducible exact h.cap) | exact aab (by decide) | with_reducible exact aai _ | with_reducible exact aac _)
 rw [if_neg h2]
 by_cases h3 : f.line = 3
 ·rw [if_pos h3]
  refine ⟨⟨?_,rfl,rg0,EQ.of (EP.refl.put (hr ?_))⟩,fun _ =>⟨hl,by simp [go],by simp [go],by simp [go],fun _ =>ht⟩⟩
  ·dsimp only [go]; (constructor <;> (try dsimp only) <;> first | with_reducible assumption | with_reducible exact aan _ | (with_reducible exact h.a) | (with_reducible exact h.b) | (with_reducible exact h.d) | (with_reducible exact h.i) | (with_reducible exact h.j) | (with_reducible exact h.n) | (with_reducible exact h.t) | (with_reducible exact h.l) | (with_reducible exact h.up.ln) | (with_reducible exact h.cap) | exact aab (by decide) | with_reducible exact aai _ | with_reducible exact aac _)
  ·unfold awW
   repeat' split
   all_goals rfl
 rw [if_neg h3]
 by_cases h4 : f.line = 4
 ·rw [if_pos h4]
  refine ⟨⟨?_,rfl,rg0,EQ.of (EP.refl.put (hr rfl))⟩,fun _ =>⟨hl,by simp [go],by simp [go],by simp [go],fun _ =>ht⟩⟩
  dsimp only [go]; (constructor <;> (try dsimp only) <;> first | with_reducible assumption | with_reducible exact aan _ | (with_reducible exact h.a) | (with_reducible exact h.b) | (with_reducible exact h.d) | (with_reducible exact h.i) | (with_reducible exact h.j) | (with_reducible exact h.n) | (with_reducible exact h.t) | (with_reducible exact h.l) | (with_reducible exact h.up.ln) | (with_reducible exact h.cap) | exact aab (by decide) | with_reducible exact aai _ | with_reducible exact aac _)
 rw [if_neg h4]
 by_cases h10 : f.line = 10
 ·rw [if_pos h10]
  refine ⟨⟨?_,rfl,rg0,EQ.of (EP.refl.ac.put (hr rfl))⟩,fun _ =>⟨hl,by simp [go],by simp [go],by simp [go],fun _ =>ht⟩⟩
  dsimp only [go]; (constructor <;> (try dsimp only) <;> first | with_reducible assumption | with_reducible exact aan _ | (with_reducible exact h.a) | (with_reducible exact h.b) | (with_reducible exact h.d) | (with_reducible exact h.i) | (with_reducible exact h.j) | (with_reducible exact h.n) | (with_reducible exact h.t) | (with_reducible exact h.l) | (with_reducible exact h.up.ln) | (with_reducible exact h.cap) | exact aab (by decide) | with_reducible exact aai _ | with_reducible exact aac _)
 rw [if_neg h10]
 by_cases h16 : f.line = 16
 ·simp only [h16,if_true,if_false,Int.reduceEq]
  refine ⟨⟨?_,rfl,rg0,EQ.em (EP.refl.ac.put (hr (r := { e.rc (aaQ f.l) with waiting := -1 }) rfl)) ?_ ?_ ?_ ?_ ?_⟩,fun _ =>⟨hl,by simp [go],by simp [go],by simp [go],fun _ =>ht⟩⟩
  ·dsimp only [go]; (constructor <;> (try dsimp only) <;> first | with_reducible assumption | with_reducible exact aan _ | (with_reducible exact h.a) | (with_reducible exact h.b) | (with_reducible exact h.d) | (with_reducible exact h.i) | (with_reducible exact h.j) | (with_reducible exact h.n) | (with_reducible exact h.t) | (with_reducible exact h.l) | (with_reducible exact h.up.ln) | (with_reducible exact h.cap) | exact aab (by decide) | with_reducible exact aai _ | with_reducible exact aac _)
  all_goals (first | with_reducible assumption | with_reducible exact aan _ | (with_reducible exact h.a) | (with_reducible exact h.b) | (with_reducible exact h.d) | (with_reducible exact h.i) | (with_reducible exact h.j) | (with_reducible exact h.n) | (with_reducible exact h.t) | exact aab (by decide) | with_reducible exact aai _ | with_reducible exact aac _)
 simp only [if_neg h16]
 by_cases h11 : f.line = 11 ∨ f.line = 12 ∨ f.line = 13 ∨ f.line = 15
 ·repeat' split
  all_goals first
   | (refine ⟨?_,fun _ =>⟨hl,by simp [go],by simp [go],by simp [go],fun _ =>ht⟩⟩; exact ⟨by dsimp only [go,fin]; (constructor <;> (try dsimp only) <;> first | with_reducible assumption | with_reducible exact aan _ | (with_reducible exact h.a) | (with_reducible exact h.b) | (with_reducible exact h.d) | (with_reducible exact h.i) | (with_reducible exact h.j) | (with_reducible exact h.n) | (with_reducible exact h.t) | (with_reducible exact h.l) | (with_reducible exact h.up.ln) | (with_reducible exact h.cap) | exact aab (by decide) | with_reducible exact aai _ | with_reducible exact aac _),rfl,by dsimp only [go,fin]; (first | with_reducible assumption | with_reducible exact aan _ | (with_reducible exact h.a) | (with_reducible exact h.b) | (with_reducible exact h.d) | (with_reducible exact h.i) | (with_reducible exact h.j) | (with_reducible exact h.n) | (with_reducible exact h.t) | exact aab (by decide) | with_reducible exact aai _ | with_reducible exact aac _),by dsimp only [go,fin]; (first | with_reducible exact EQ.of EP.refl | with_reducible exact EQ.of EP.refl.ac | (refine EQ.em (by first | with_reducible exact EP.refl | with_reducible exact EP.refl.ac) ?_ ?_ ?_ ?_ ?_ <;> (first | with_reducible assumption | with_reducible exact aan _ | (with_reducible exact h.a) | (with_reducible exact h.b) | (with_reducible exact h.d) | (with_reducible exact h.i) | (with_reducible exact h.j) | (with_reducible exact h.n) | (with_reducible exact h.t) | exact aab (by decide) | with_reducible exact aai _ | with_reducible exact aac _)))⟩)
   | (exfalso; omega)
 ·rw [if_neg (by omega),if_neg (by omega),if_neg (by omega),if_neg (by omega)]
  exact apV h hl ht
theorem ap0 (h : FrR K f) (hc : CfgOk e.c) (hi : 0 ≤ f.i ∧ f.i ≤ (e.c.subs.length : Int)) : LfP K e f (ahD e f) ∧ (ahD e f).2.2.i = f.i := by
 have w1 := hc.w1
 have w2 := hc.w2
 have hw : Rg e.c.workers := aab (by omega)
 unfold ahD
 repeat' split
 all_goals
  refine ⟨?_,rfl⟩
  exact ⟨by dsimp only [go,fin]; (constructor <;> (try dsimp only) <;> first | with_reducible assumption | with_reducible exact aan _ | (with_reducible exact h.a) | (with_reducible exact h.b) | (with_reducible exact h.d) | (with_reducible exact h.i) | (with_reducible exact h.j) | (with_reducible exact h.n) | (with_reducible exact h.t) | (with_reducible exact h.l) | (with_reducible exact h.up.ln) | (with_reducible exact h.cap) | exact aab (by decide) | with_reducible exact aai _ | with_reducible exact aac _),rfl,by dsimp only [go,fin]; (first | with_reducible assumption | with_reducible exact aan _ | (with_reducible exact h.a) | (with_reducible exact h.b) | (with_reducible exact h.d) | (with_reducible exact h.i) | (with_reducible exact h.j) | (with_reducible exact h.n) | (with_reducible exact h.t) | exact aab (by decide) | with_reducible exact aai _ | with_reducible exact aac _),by dsimp only [go,fin]; (first | with_reducible exact EQ.of EP.refl | with_reducible exact EQ.of EP.refl.ac | (refine EQ.em (by first | with_reducible exact EP.refl | with_reducible exact EP.refl.ac) ?_ ?_ ?_ ?_ ?_ <;> (first | with_reducible assumption | with_reducible exact aan _ | (with_reducible exact h.a) | (with_reducible exact h.b) | (with_reducible exact h.d) | (with_reducible exact h.i) | (with_reducible exact h.j) | (with_reducible exact h.n) | (with_reducible exact h.t) | exact aab (by decide) | with_reducible exact aai _ | with_reducible exact aac _)))⟩
end
def alj (k : Int) : Nat := if k = 25 ∨ k = 26 then 4 else if k = 24 then 3 else if k = 15 ∨ k = 17 ∨ k = 18 ∨ k = 22 ∨ k = 23 then 2 else if k = 5 ∨ k = 6 then 1 else 0
theorem amZ (k : Int) : alj k ≤ 4 := by
 unfold alj
 repeat' split
 all_goals omega
structure TopOk (c : Cfg) (f : FrV) : Prop where
 run : f.kind = 24 → ajd c f
 cl : f.kind = 26 → 0 ≤ f.i ∧ f.i ≤ (c.subs.length : Int)
 pr : f.kind = 21 → 0 ≤ f.i ∧ f.i ≤ c.workers
structure LiveOk (e : EnvV) (f : FrV) : Prop where
 run : f.kind = 24 → f.l ≠ [] ∧ (f.line ≠ 23 → 0 ≤ aaQ f.l ∧ aaQ f.l < e.c.tasks) ∧ (f.line = 3 → alm e (aaQ f.l))
 cl : f.kind = 26 → 0 ≤ f.i ∧ f.i ≤ (e.c.subs.length : Int)
 pr : f.kind = 21 → 0 ≤ f.i ∧ f.i ≤ e.c.workers
structure ParOk (c : Cfg) (p ch : FrV) : Prop where
 rk : alj ch.kind < alj p.kind
 run : p.kind = 24 → p.l ≠ [] ∧ (0 ≤ aaQ p.l ∧ aaQ p.l < c.tasks) ∧ (p.line = 5 → ch.kind = 12) ∧ p.line ≠ 3 ∧ p.line ≠ 23
 cl : p.kind = 26 → 0 ≤ p.i ∧ p.i < (c.subs.length : Int) ∧ (p.line = 3 → ch.kind = 12)
def PcP (e : EnvV) (p : FrV) : Prop := p.kind = 24 → p.line = 5 → alm e (aaQ p.l)
structure EnvOk (K : Nat) (e : EnvV) : Prop where
 cf : CfgOk e.c
 rcs : aqd K e.c e.recs
 evs : axn K e.evs
 now : Rg e.now
 draw : Rg e.draw
theorem EnvOk.le {K L : Nat} {e : EnvV} (h : EnvOk K e) (hl : K ≤ L) : EnvOk L e := ⟨h.cf,h.rcs.le hl,h.evs.le hl,h.now,h.draw⟩
theorem EQ.ok {K : Nat} {e e' : EnvV} (q : EQ K e e') (h : EnvOk K e) : EnvOk (K + 1) e' := ⟨q.c ▸ h.cf,by rw [q.c]; exact q.rcs h.rcs,q.evs h.evs,q.now ▸ h.now,q.draw ▸ h.draw⟩
theorem EnvOk.fit {K : Nat} {e : EnvV} (h : EnvOk K e) (hK : K ≤ 900000000) : Fit e := by have := h.evs.1; unfold Fit; omega
structure LeafP (K : Nat) (e : EnvV) (f : FrV) (o : Lf) : Prop where
 lf : LfP K e f o
 top : o.1.done = false → TopOk e.c o.2.2
 new : f.kind = 12 → o.1.done = true ∧ o.2.1.recs = e.recs ∧ (o.1.code = 3 ∨ (0 ≤ o.1.value ∧ o.1.value < (e.recs.length : Int)))
section
variable {K : Nat} {e e' : EnvV} {f : FrV}
theorem acx {c : Cfg} {g : FrV} (h1 : g.kind ≠ 24) (h2 : g.kind ≠ 26) (h3 : g.kind ≠ 21) : TopOk c g := ⟨fun e =>absurd e h1,fun e =>absurd e h2,fun e =>absurd e h3⟩
theorem LeafP.of {o : Lf} (h : LfP K e f o) (h12 : f.kind ≠ 12) (h4 : f.kind ≠ 24) (h6 : f.kind ≠ 26) (h1 : f.kind ≠ 21) : LeafP K e f o :=
 ⟨h,fun _ =>acx (by rw [h.kind]; exact h4) (by rw [h.kind]; exact h6) (by rw [h.kind]; exact h1),fun e =>absurd e h12⟩
theorem LiveOk.pre (hl : LiveOk e f) (h : FrR K f) (he : EnvOk K e) (hK : K ≤ 900000000) : LeafC e f := ⟨he.cf,he.fit hK,he.rcs.1,h.cap,fun hk =>by
  obtain ⟨h1,h2,h3⟩ := hl.run hk
  exact ⟨⟨h1,by have := h.ln; omega⟩,fun e =>by have := h2 e; have := he.rcs.1; exact ⟨by omega,by omega⟩,h3⟩,fun hk =>(hl.cl hk).1,hl.pr⟩
theorem aoC (h : FrR K f) (he : EnvOk K e) (hl : LiveOk e f) : LeafP K e f (adJ e f) := by
 have hn := he.now
 unfold adJ
 by_cases k0 : f.kind = 0
 ·simp only [k0,if_true,if_false,Int.reduceEq]
  exact LeafP.of (atO h) (by rw [k0]; decide) (by rw [k0]; decide) (by rw [k0]; decide) (by rw [k0]; decide)
 by_cases k1 : f.kind = 1
 ·simp only [k1,if_true,if_false,Int.reduceEq]
  exact LeafP.of (av6 h) (by rw [k1]; decide) (by rw [k1]; decide) (by rw [k1]; decide) (by rw [k1]; decide)
 by_cases k2 : f.kind = 2
 ·simp only [k2,if_true,if_false,Int.reduceEq]
  exact LeafP.of (aqt h) (by rw [k2]; decide) (by rw [k2]; decide) (by rw [k2]; decide) (by rw [k2]; decide)
 by_cases k3 : f.kind = 3
 ·simp only [k3,if_true,if_false,Int.reduceEq]
  refine LeafP.of ?_ (by rw [k3]; decide) (by rw [k3]; decide) (by rw [k3]; decide) (by rw [k3]; decide)
  (repeat' split) <;> exact ⟨by dsimp only [go,fin]; (constructor <;> (try dsimp only) <;> first | with_reducible assumption | with_reducible exact aan _ | (with_reducible exact h.a) | (with_reducible exact h.b) | (with_reducible exact h.d) | (with_reducible exact h.i) | (with_reducible exact h.j) | (with_reducible exact h.n) | (with_reducible exact h.t) | (with_reducible exact h.l) | (with_reducible exact h.up.ln) | (with_reducible exact h.cap) | exact aab (by decide) | with_reducible exact aai _ | with_reducible exact aac _),(by first | rfl | exact k3.symm),by dsimp only [go,fin]; (first | with_reducible assumption | with_reducible exact aan _ | (with_reducible exact h.a) | (with_reducible exact h.b) | (with_reducible exact h.d) | (with_reducible exact h.i) | (with_reducible exact h.j) | (with_reducible exact h.n) | (with_reducible exact h.t) | exact aab (by decide) | with_reducible exact aai _ | with_reducible exact aac _),by dsimp only [go,fin]; (first | with_reducible exact EQ.of EP.refl | with_reducible exact EQ.of EP.refl.ac | (refine EQ.em (by first | with_reducible exact EP.refl | with_reducible exact EP.refl.ac) ?_ ?_ ?_ ?_ ?_ <;> (first | with_reducible assumption | with_reducible exact aan _ | (with_reducible exact h.a) | (with_reducible exact h.b) | (with_reducible exact h.d) | (with_reducible exact h.i) | (with_reducible exact h.j) | (with_reducible exact h.n) | (with_reducible exact h.t) | exact aab (by decide) | with_reducible exact aai _ | with_reducible exact aac _)))⟩
 by_cases k4 : f.kind = 4
 ·simp only [k4,if_true,if_false,Int.reduceEq]
  exact LeafP.of (asx h) (by rw [k4]; decide) (by rw [k4]; decide) (by rw [k4]; decide) (by rw [k4]; decide)
 by_cases k6 : f.kind = 6
 ·simp only [k6,if_true,if_false,Int.reduceEq]
  refine LeafP.of ?_ (by rw [k6]; decide) (by rw [k6]; decide) (by rw [k6]; decide) (by rw [k6]; decide)
  (repeat' split) <;> exact ⟨by dsimp only [go,fin]; (constructor <;> (try dsimp only) <;> first | with_reducible assumption | with_reducible exact aan _ | (with_reducible exact h.a) | (with_reducible exact h.b) | (with_reducible exact h.d) | (with_reducible exact h.i) | (with_reducible exact h.j) | (with_reducible exact h.n) | (with_reducible exact h.t) | (with_reducible exact h.l) | (with_reducible exact h.up.ln) | (with_reducible exact h.cap) | exact aab (by decide) | with_reducible exact aai _ | with_reducible exact aac _),(by first | rfl | exact k6.symm),by dsimp only [go,fin]; (first | with_reducible assumption | with_reducible exact aan _ | (with_reducible exact h.a) | (with_reducible exact h.b) | (with_reducible exact h.d) | (with_reducible exact h.i) | (with_reducible exact h.j) | (with_reducible exact h.n) | (with_reducible exact h.t) | exact aab (by decide) | with_reducible exact aai _ | with_reducible exact aac _),by dsimp only [go,fin]; (first | with_reducible exact EQ.of EP.refl | with_reducible exact EQ.of EP.refl.ac | (refine EQ.em (by first | with_reducible exact EP.refl | with_reducible exact EP.refl.ac) ?_ ?_ ?_ ?_ ?_ <;> (first | with_reducible assumption | with_reducible exact aan _ | (with_reducible exact h.a) | (with_reducible exact h.b) | (with_reducible exact h.d) | (with_reducible exact h.i) | (with_reducible exact h.j) | (with_reducible exact h.n) | (with_reducible exact h.t) | exact aab (by decide) | with_reducible exact aai _ | with_reducible exact aac _)))⟩
 by_cases k7 : f.kind = 7
 ·simp only [k7,if_true,if_false,Int.reduceEq]
  refine LeafP.of ?_ (by rw [k7]; decide) (by rw [k7]; decide) (by rw [k7]; decide) (by rw [k7]; decide)
  (repeat' split) <;> exact ⟨by dsimp only [go,fin]; (constructor <;> (try dsimp only) <;> first | with_reducible assumption | with_reducible exact aan _ | (with_reducible exact h.a) | (with_reducible exact h.b) | (with_reducible exact h.d) | (with_reducible exact h.i) | (with_reducible exact h.j) | (with_reducible exact h.n) | (with_reducible exact h.t) | (with_reducible exact h.l) | (with_reducible exact h.up.ln) | (with_reducible exact h.cap) | exact aab (by decide) | with_reducible exact aai _ | with_reducible exact aac _),(by first | rfl | exact k7.symm),by dsimp only [go,fin]; (first | with_reducible assumption | with_reducible exact aan _ | (with_reducible exact h.a) | (with_reducible exact h.b) | (with_reducible exact h.d) | (with_reducible exact h.i) | (with_reducible exact h.j) | (with_reducible exact h.n) | (with_reducible exact h.t) | exact aab (by decide) | with_reducible exact aai _ | with_reducible exact aac _),by dsimp only [go,fin]; (first | with_reducible exact EQ.of EP.refl | with_reducible exact EQ.of EP.refl.ac | (refine EQ.em (by first | with_reducible exact EP.refl | with_reducible exact EP.refl.ac) ?_ ?_ ?_ ?_ ?_ <;> (first | with_reducible assumption | with_reducible exact aan _ | (with_reducible exact h.a) | (with_reducible exact h.b) | (with_reducible exact h.d) | (with_reducible exact h.i) | (with_reducible exact h.j) | (with_reducible exact h.n) | (with_reducible exact h.t) | exact aab (by decide) | with_reducible exact aai _ | with_reducible exact aac _)))⟩
 by_cases k8 : f.kind = 8
 ·simp only [k8,if_true,if_false,Int.reduceEq]
  refine LeafP.of ?_ (by rw [k8]; decide) (by rw [k8]; decide) (by rw [k8]; decide) (by rw [k8]; decide)
  (repeat' split) <;> exact ⟨by dsimp only [go,fin]; (constructor <;> (try dsimp only) <;> first | with_reducible assumption | with_reducible exact aan _ | (with_reducible exact h.a) | (with_reducible exact h.b) | (with_reducible exact h.d) | (with_reducible exact h.i) | (with_reducible exact h.j) | (with_reducible exact h.n) | (with_reducible exact h.t) | (with_reducible exact h.l) | (with_reducible exact h.up.ln) | (with_reducible exact h.cap) | exact aab (by decide) | with_reducible exact aai _ | with_reducible exact aac _),(by first | rfl | exact k8.symm),by dsimp only [go,fin]; (first | with_reducible assumption | with_reducible exact aan _ | (with_reducible exact h.a) | (with_reducible exact h.b) | (with_reducible exact h.d) | (with_reducible exact h.i) | (with_reducible exact h.j) | (with_reducible exact h.n) | (with_reducible exact h.t) | exact aab (by decide) | with_reducible exact aai _ | with_reducible exact aac _),by dsimp only [go,fin]; (first | with_reducible exact EQ.of EP.refl | with_reducible exact EQ.of EP.refl.ac | (refine EQ.em (by first | with_reducible exact EP.refl | with_reducible exact EP.refl.ac) ?_ ?_ ?_ ?_ ?_ <;> (first | with_reducible assumption | with_reducible exact aan _ | (with_reducible exact h.a) | (with_reducible exact h.b) | (with_reducible exact h.d) | (with_reducible exact h.i) | (with_reducible exact h.j) | (with_reducible exact h.n) | (with_reducible exact h.t) | exact aab (by decide) | with_reducible exact aai _ | with_reducible exact aac _)))⟩
 by_cases k9 : f.kind = 9
 ·simp only [k9,if_true,if_false,Int.reduceEq]
  refine LeafP.of ?_ (by rw [k9]; decide) (by rw [k9]; decide) (by rw [k9]; decide) (by rw [k9]; decide)
  (repeat' split) <;> exact ⟨by dsimp only [go,fin]; (constructor <;> (try dsimp only) <;> first | with_reducible assumption | with_reducible exact aan _ | (with_reducible exact h.a) | (with_reducible exact h.b) | (with_reducible exact h.d) | (with_reducible exact h.i) | (with_reducible exact h.j) | (with_reducible exact h.n) | (with_reducible exact h.t) | (with_reducible exact h.l) | (with_reducible exact h.up.ln) | (with_reducible exact h.cap) | exact aab (by decide) | with_reducible exact aai _ | with_reducible exact aac _),(by first | rfl | exact k9.symm),by dsimp only [go,fin]; (first | with_reducible assumption | with_reducible exact aan _ | (with_reducible exact h.a) | (with_reducible exact h.b) | (with_reducible exact h.d) | (with_reducible exact h.i) | (with_reducible exact h.j) | (with_reducible exact h.n) | (with_reducible exact h.t) | exact aab (by decide) | with_reducible exact aai _ | with_reducible exact aac _),by dsimp only [go,fin]; (first | with_reducible exact EQ.of EP.refl | with_reducible exact EQ.of EP.refl.ac | (refine EQ.em (by first | with_reducible exact EP.refl | with_reducible exact EP.refl.ac) ?_ ?_ ?_ ?_ ?_ <;> (first | with_reducible assumption | with_reducible exact aan _ | (with_reducible exact h.a) | (with_reducible exact h.b) | (with_reducible exact h.d) | (with_reducible exact h.i) | (with_reducible exact h.j) | (with_reducible exact h.n) | (with_reducible exact h.t) | exact aab (by decide) | with_reducible exact aai _ | with_reducible exact aac _)))⟩
 by_cases k10 : f.kind = 10
 ·simp only [k10,if_true,if_false,Int.reduceEq]
  exact LeafP.of (apR h) (by rw [k10]; decide) (by rw [k10]; decide) (by rw [k10]; decide) (by rw [k10]; decide)
 by_cases k11 : f.kind = 11
 ·simp only [k11,if_true,if_false,Int.reduceEq]
  exact LeafP.of (apg h) (by rw [k11]; decide) (by rw [k11]; decide) (by rw [k11]; decide) (by rw [k11]; decide)
 by_cases k12 : f.kind = 12
 ·simp only [k12,if_true,if_false,Int.reduceEq]
  obtain ⟨a1,a2,a3,a4⟩ := asU (e := e) h
  exact ⟨a1,fun e =>(by rw [a2] at e; cases e),fun _ =>⟨a2,a3,a4.imp id fun t =>⟨t.1,t.2.2⟩⟩⟩
 by_cases k13 : f.kind = 13
 ·simp only [k13,if_true,if_false,Int.reduceEq]
  exact LeafP.of (ang h) (by rw [k13]; decide) (by rw [k13]; decide) (by rw [k13]; decide) (by rw [k13]; decide)
 by_cases k14 : f.kind = 14
 ·simp only [k14,if_true,if_false,Int.reduceEq]
  exact LeafP.of (asz h) (by rw [k14]; decide) (by rw [k14]; decide) (by rw [k14]; decide) (by rw [k14]; decide)
 by_cases k15 : f.kind = 15
 ·simp only [k15,if_true,if_false,Int.reduceEq]
  exact LeafP.of (apY h) (by rw [k15]; decide) (by rw [k15]; decide) (by rw [k15]; decide) (by rw [k15]; decide)
 by_cases k16 : f.kind = 16
 ·simp only [k16,if_true,if_false,Int.reduceEq]
  exact LeafP.of (aqQ h) (by rw [k16]; decide) (by rw [k16]; decide) (by rw [k16]; decide) (by rw [k16]; decide)
 by_cases k17 : f.kind = 17
 ·simp only [k17,if_true,if_false,Int.reduceEq]
  exact LeafP.of (as3 h) (by rw [k17]; decide) (by rw [k17]; decide) (by rw [k17]; decide) (by rw [k17]; decide)
 by_cases k18 : f.kind = 18
 ·simp only [k18,if_true,if_false,Int.reduceEq]
  exact LeafP.of (aqn h) (by rw [k18]; decide) (by rw [k18]; decide) (by rw [k18]; decide) (by rw [k18]; decide)
 by_cases k19 : f.kind = 19
 ·simp only [k19,if_true,if_false,Int.reduceEq]
  exact LeafP.of (aqv h hn) (by rw [k19]; decide) (by rw [k19]; decide) (by rw [k19]; decide) (by rw [k19]; decide)
 by_cases k20 : f.kind = 20
 ·simp only [k20,if_true,if_false,Int.reduceEq]
  exact LeafP.of (as4 h) (by rw [k20]; decide) (by rw [k20]; decide) (by rw [k20]; decide) (by rw [k20]; decide)
 by_cases k21 : f.kind = 21
 ·simp only [k21,if_true,if_false,Int.reduceEq]
  obtain ⟨a1,a2⟩ := arj h he.cf he.draw (hl.pr k21)
  exact ⟨a1,fun e =>⟨fun e' =>(by rw [a1.kind,k21] at e'; cases e'),fun e' =>(by rw [a1.kind,k21] at e'; cases e'),fun _ =>a2 e⟩,fun e =>(by rw [k21] at e; cases e)⟩
 by_cases k22 : f.kind = 22
 ·simp only [k22,if_true,if_false,Int.reduceEq]
  exact LeafP.of (asi h) (by rw [k22]; decide) (by rw [k22]; decide) (by rw [k22]; decide) (by rw [k22]; decide)
 by_cases k24 : f.kind = 24
 ·simp only [k24,if_true,if_false,Int.reduceEq]
  obtain ⟨r1,r2,r3⟩ := hl.run k24
  obtain ⟨a1,a2⟩ := avO h r1 r2
  exact ⟨a1,fun e =>⟨fun _ =>a2 e,fun e' =>(by rw [a1.kind,k24] at e'; cases e'),fun e' =>by rw [a1.kind,k24] at e'; cases e'⟩,fun e =>by rw [k24] at e; cases e⟩
 by_cases k26 : f.kind = 26
 ·simp only [k26,if_true,if_false,Int.reduceEq]
  obtain ⟨a1,a2⟩ := ap0 h he.cf (hl.cl k26)
  exact ⟨a1,fun _ =>⟨fun e' =>(by rw [a1.kind,k26] at e'; cases e'),fun _ =>by rw [a2]; exact hl.cl k26,fun e' =>by rw [a1.kind,k26] at e'; cases e'⟩,fun e =>by rw [k26] at e; cases e⟩
 simp only [k0,k1,k2,k3,k4,k6,k7,k8,k9,k10,k11,k12,k13,k14,k15,k16,k17,k18,k19,k20,k21,k22,k24,k26,if_false]
 exact LeafP.of ⟨h.up,rfl,rg0,EQ.of EP.refl⟩ k12 k24 k26 k21
theorem abF {c : Cfg} (hc : CfgOk c) (w l : Int) : (agJ c w l).cap ≤ 9223372036854775807 := by
 have := hc.q2
 unfold agJ
 repeat' split
 all_goals first | decide | (show c.deque ≤ _; omega)
theorem abG {c : Cfg} (w : Int) : Rg (abu c w) := by
 unfold abu ixA
 repeat' split
 all_goals first | exact aab (by decide) | exact aan _
structure EntP (K : Nat) (e : EnvV) (f : FrV) (o : Option FrV × FrV) : Prop where
 fr : FrR K o.2
 kind : o.2.kind = f.kind
 no : o.1 = none → LiveOk e o.2
 yes : ∀ ch,o.1 = some ch → FrR K { ch with line := 1 } ∧ TopOk e.c { ch with line := 1 } ∧ ParOk e.c o.2 ch ∧ PcP e o.2
theorem EntP.stop {f' : FrV} (h : FrR K f') (hk : f'.kind = f.kind) (hl : LiveOk e f') : EntP K e f (none,f') := ⟨h,hk,fun _ =>hl,fun _ e =>by cases e⟩
theorem EntP.go {f' ch : FrV} (h : FrR K f') (hk : f'.kind = f.kind) (h1 : FrR K { ch with line := 1 }) (h2 : TopOk e.c { ch with line := 1 }) (h3 : ParOk e.c f' ch) (h4 : PcP e f') : EntP K e f (some ch,f') := ⟨h,hk,fun e =>(by cases e),fun _ e =>by cases e; exact ⟨h1,h2,h3,h4⟩⟩
theorem EntP.plain {f' ch : FrV} (h : FrR K f') (hk : f'.kind = f.kind) (h1 : FrR K { ch with line := 1 }) (n4 : f.kind ≠ 24) (n6 : f.kind ≠ 26) (h2 : TopOk e.c { ch with line := 1 }) (hr : alj ch.kind < alj f.kind) : EntP K e f (some ch,f') :=
 EntP.go h hk h1 h2 ⟨by rw [hk]; exact hr,fun e =>absurd (hk.symm.trans e) n4,fun e =>absurd (hk.symm.trans e) n6⟩ fun e =>absurd (hk.symm.trans e) n4
theorem ahw (n4 : f.kind ≠ 24) (n6 : f.kind ≠ 26) (n1 : f.kind ≠ 21) : LiveOk e f := ⟨fun e =>absurd e n4,fun e =>absurd e n6,fun e =>absurd e n1⟩
structure ChP (K : Nat) (e : EnvV) (f g : FrV) : Prop where
 fr : FrR K g
 kind : g.kind = f.kind
 ne : g.l ≠ []
 top : g.line ≠ 23 → 0 ≤ aaQ g.l ∧ aaQ g.l < e.c.tasks
 pc : g.line = 3 ∨ g.line = 5 → alm e (aaQ g.l)
theorem ap1 (h : FrR K f) (he : EnvOk K e) (ht : ajd e.c f) : ChP K e f (ad3 e f) := by
 obtain ⟨hl,h3,h5,h23,htop⟩ := ht
 have hc := he.cf
 unfold ad3
 by_cases l1 : f.line ≠ 1
 ·rw [if_pos l1]; exact ⟨h,rfl,hl,fun _ =>htop l1,fun e =>by omega⟩
 rw [if_neg l1]
 by_cases hT : ¬ abP e (aaQ f.l)
 ·rw [if_pos hT]
  exact ⟨by (constructor <;> (try dsimp only [frK]) <;> first | with_reducible assumption | with_reducible exact aan _ | (with_reducible exact h.a) | (with_reducible exact h.b) | (with_reducible exact h.d) | (with_reducible exact h.i) | (with_reducible exact h.j) | (with_reducible exact h.n) | (with_reducible exact h.t) | (with_reducible exact h.l) | (with_reducible exact h.ln) | (with_reducible exact h.cap) | exact aab (by decide) | exact Nat.zero_le _ | exact abF hc _ _ | exact abG _ | (intro x hx; cases hx; done) | decide),rfl,hl,fun e =>absurd rfl e,fun e =>by rcases e with e | e <;> cases e⟩
 rw [if_neg hT]
 have hT : abP e (aaQ f.l) := by simpa using hT
 have hT2 : 0 ≤ aaQ f.l ∧ aaQ f.l < e.c.tasks := ⟨hT.1,hT.2.1⟩
 have mk : ∀ n : Int,n ≠ 3 → n ≠ 5 → ChP K e f { f with line := n } := fun n h3 h5 =>⟨by (constructor <;> (try dsimp only [frK]) <;> first | with_reducible assumption | with_reducible exact aan _ | (with_reducible exact h.a) | (with_reducible exact h.b) | (with_reducible exact h.d) | (with_reducible exact h.i) | (with_reducible exact h.j) | (with_reducible exact h.n) | (with_reducible exact h.t) | (with_reducible exact h.l) | (with_reducible exact h.ln) | (with_reducible exact h.cap) | exact aab (by decide) | exact Nat.zero_le _ | exact abF hc _ _ | exact abG _ | (intro x hx; cases hx; done) | decide),rfl,hl,fun _ =>hT2,fun e =>by rcases e with e | e <;> first | exact absurd e h3 | exact absurd e h5⟩
 by_cases hw : (e.rc (aaQ f.l)).waiting ≠ -1
 ·rw [if_pos hw]; exact mk 2 (by decide) (by decide)
 rw [if_neg hw]
 by_cases hpc : (e.rc (aaQ f.l)).pc < 0 ∨ ((e.prog (aaQ f.l)).length : Int) ≤ (e.rc (aaQ f.l)).pc
 ·rw [if_pos hpc]; exact mk 17 (by decide) (by decide)
 rw [if_neg hpc]
 have hP : alm e (aaQ f.l) := by
  refine ⟨?_,by omega,by omega⟩
  by_cases hp : (e.rc (aaQ f.l)).prog < 0 ∨ (e.c.progs.length : Int) ≤ (e.rc (aaQ f.l)).prog
  ·exfalso
   have e0 : e.prog (aaQ f.l) = [] := by unfold EnvV.prog; rw [if_pos hp]
   rw [e0] at hpc
   simp at hpc
   omega
  ·omega
 have mk2 : ∀ n : Int,ChP K e f { f with line := n } := fun n =>⟨by (constructor <;> (try dsimp only [frK]) <;> first | with_reducible assumption | with_reducible exact aan _ | (with_reducible exact h.a) | (with_reducible exact h.b) | (with_reducible exact h.d) | (with_reducible exact h.i) | (with_reducible exact h.j) | (with_reducible exact h.n) | (with_reducible exact h.t) | (with_reducible exact h.l) | (with_reducible exact h.ln) | (with_reducible exact h.cap) | exact aab (by decide) | exact Nat.zero_le _ | exact abF hc _ _ | exact abG _ | (intro x hx; cases hx; done) | decide),rfl,hl,fun _ =>hT2,fun _ =>hP⟩
 split
 ·exact mk2 3
 split
 ·exact mk2 5
 split
 ·rename_i o0 o1 hk
  have ha := ayp hc hP o0 o1
  have hj : Rg (aae (e.rc (aaQ f.l)).kids (e.ins (aaQ f.l)).a) := (aqM he.rcs (aaQ f.l)).2 _ (ajr ⟨ha,hk.1⟩)
  exact ⟨by (constructor <;> (try dsimp only [frK]) <;> first | with_reducible assumption | with_reducible exact aan _ | (with_reducible exact h.a) | (with_reducible exact h.b) | (with_reducible exact h.d) | (with_reducible exact h.i) | (with_reducible exact h.j) | (with_reducible exact h.n) | (with_reducible exact h.t) | (with_reducible exact h.l) | (with_reducible exact h.ln) | (with_reducible exact h.cap) | exact aab (by decide) | exact Nat.zero_le _ | exact abF hc _ _ | exact abG _ | (intro x hx; cases hx; done) | decide),rfl,hl,fun _ =>hT2,fun _ =>hP⟩
 ·exact mk 4 (by decide) (by decide)
theorem atq {g : FrV} (hg : ChP K e f g) (hk : f.kind = 24) : EntP K e f (axc g,g) := by
  have h := hg.fr
  have hgk : g.kind = 24 := hg.kind.trans hk
  have hp : ∀ ch : FrV,g.line ≠ 23 → g.line ≠ 3 → alj ch.kind < 3 → (g.line = 5 → ch.kind = 12) → ParOk e.c g ch := fun ch h1 h4 h2 h3 =>⟨by rw [hgk]; exact h2,fun _ =>⟨hg.ne,hg.top h1,h3,h4,h1⟩,fun e =>by rw [hgk] at e; cases e⟩
  have hq : PcP e g := fun _ e =>hg.pc (.inr e)
  have hno : LiveOk e g := ⟨fun _ =>⟨hg.ne,hg.top,fun e =>hg.pc (.inl e)⟩,fun e =>(by rw [hgk] at e; cases e),fun e =>by rw [hgk] at e; cases e⟩
  have hc : CfgOk e.c → True := fun _ =>trivial
  unfold axc
  repeat' split
  all_goals first
    | exact EntP.stop h hg.kind hno
    | (refine EntP.go h hg.kind ?_ (acx (by dsimp only [frK]; decide) (by dsimp only [frK]; decide) (by dsimp only [frK]; decide)) (hp _ (by omega) (by omega) (by dsimp only [frK]; decide) ?_) hq
       · (constructor <;> (try dsimp only [frK]) <;> first | with_reducible assumption | (with_reducible exact h.a) | (with_reducible exact h.b) | (with_reducible exact h.d) | (with_reducible exact h.i) | (with_reducible exact h.j) | (with_reducible exact h.n) | (with_reducible exact h.t) | (with_reducible exact h.l) | (with_reducible exact h.ln) | (with_reducible exact h.cap) | exact aab (by decide) | exact Nat.zero_le _ | (intro x hx; cases hx; done) | decide)
       · first | (intro _; rfl) | (intro e; omega))
theorem amq (h : FrR K f) (he : EnvOk K e) (ht : TopOk e.c f) (hK1 : 1 ≤ K) : EntP K e f (agW e f) := by
 have hc := he.cf
 have w1 := hc.w1
 have w2 := hc.w2
 unfold agW
 by_cases k5 : f.kind = 5
 ·simp only [k5,if_true,if_false,Int.reduceEq]
  split <;> exact EntP.plain h rfl (by (constructor <;> (try dsimp only [frK]) <;> first | with_reducible assumption | with_reducible exact aan _ | (with_reducible exact h.a) | (with_reducible exact h.b) | (with_reducible exact h.d) | (with_reducible exact h.i) | (with_reducible exact h.j) | (with_reducible exact h.n) | (with_reducible exact h.t) | (with_reducible exact h.l) | (with_reducible exact h.ln) | (with_reducible exact h.cap) | exact aab (by decide) | exact Nat.zero_le _ | exact abF hc _ _ | exact abG _ | (intro x hx; cases hx; done) | decide)) (by rw [k5]; decide) (by rw [k5]; decide) (acx (by dsimp only [frK]; decide) (by dsimp only [frK]; decide) (by dsimp only [frK]; decide)) (by rw [k5]; dsimp only [frK]; decide)
 by_cases k6 : f.kind = 6
 ·simp only [k6,if_true,if_false,Int.reduceEq]
  (repeat' split) <;> first | exact EntP.plain h rfl (by (constructor <;> (try dsimp only [frK]) <;> first | with_reducible assumption | with_reducible exact aan _ | (with_reducible exact h.a) | (with_reducible exact h.b) | (with_reducible exact h.d) | (with_reducible exact h.i) | (with_reducible exact h.j) | (with_reducible exact h.n) | (with_reducible exact h.t) | (with_reducible exact h.l) | (with_reducible exact h.ln) | (with_reducible exact h.cap) | exact aab (by decide) | exact Nat.zero_le _ | exact abF hc _ _ | exact abG _ | (intro x hx; cases hx; done) | decide)) (by rw [k6]; decide) (by rw [k6]; decide) (acx (by dsimp only [frK]; decide) (by dsimp only [frK]; decide) (by dsimp only [frK]; decide)) (by rw [k6]; dsimp only [frK]; decide) | exact EntP.stop h rfl (ahw (by rw [k6]; decide) (by rw [k6]; decide) (by rw [k6]; decide))
 by_cases k15 : f.kind = 15
 ·simp only [k15,if_true,if_false,Int.reduceEq]
  (repeat' split) <;> first | exact EntP.plain h rfl (by (constructor <;> (try dsimp only [frK]) <;> first | with_reducible assumption | with_reducible exact aan _ | (with_reducible exact h.a) | (with_reducible exact h.b) | (with_reducible exact h.d) | (with_reducible exact h.i) | (with_reducible exact h.j) | (with_reducible exact h.n) | (with_reducible exact h.t) | (with_reducible exact h.l) | (with_reducible exact h.ln) | (with_reducible exact h.cap) | exact aab (by decide) | exact Nat.zero_le _ | exact abF hc _ _ | exact abG _ | (intro x hx; cases hx; done) | decide)) (by rw [k15]; decide) (by rw [k15]; decide) (acx (by dsimp only [frK]; decide) (by dsimp only [frK]; decide) (by dsimp only [frK]; decide)) (by rw [k15]; dsimp only [frK]; decide) | exact EntP.stop h rfl (ahw (by rw [k15]; decide) (by rw [k15]; decide) (by rw [k15]; decide))
 by_cases k17 : f.kind = 17
 ·simp only [k17,if_true,if_false,Int.reduceEq]
  (repeat' split) <;> first | exact EntP.plain h rfl (by (constructor <;> (try dsimp only [frK]) <;> first | with_reducible assumption | with_reducible exact aan _ | (with_reducible exact h.a) | (with_reducible exact h.b) | (with_reducible exact h.d) | (with_reducible exact h.i) | (with_reducible exact h.j) | (with_reducible exact h.n) | (with_reducible exact h.t) | (with_reducible exact h.l) | (with_reducible exact h.ln) | (with_reducible exact h.cap) | exact aab (by decide) | exact Nat.zero_le _ | exact abF hc _ _ | exact abG _ | (intro x hx; cases hx; done) | decide)) (by rw [k17]; decide) (by rw [k17]; decide) (acx (by dsimp only [frK]; decide) (by dsimp only [frK]; decide) (by dsimp only [frK]; decide)) (by rw [k17]; dsimp only [frK]; decide) | exact EntP.stop h rfl (ahw (by rw [k17]; decide) (by rw [k17]; decide) (by rw [k17]; decide))
 by_cases k18 : f.kind = 18
 ·simp only [k18,if_true,if_false,Int.reduceEq]
  (repeat' split) <;> first | exact EntP.plain h rfl (by (constructor <;> (try dsimp only [frK]) <;> first | with_reducible assumption | with_reducible exact aan _ | (with_reducible exact h.a) | (with_reducible exact h.b) | (with_reducible exact h.d) | (with_reducible exact h.i) | (with_reducible exact h.j) | (with_reducible exact h.n) | (with_reducible exact h.t) | (with_reducible exact h.l) | (with_reducible exact h.ln) | (with_reducible exact h.cap) | exact aab (by decide) | exact Nat.zero_le _ | exact abF hc _ _ | exact abG _ | (intro x hx; cases hx; done) | decide)) (by rw [k18]; decide) (by rw [k18]; decide) (acx (by dsimp only [frK]; decide) (by dsimp only [frK]; decide) (by dsimp only [frK]; decide)) (by rw [k18]; dsimp only [frK]; decide) | exact EntP.stop h rfl (ahw (by rw [k18]; decide) (by rw [k18]; decide) (by rw [k18]; decide))
 by_cases k22 : f.kind = 22
 ·simp only [k22,if_true,if_false,Int.reduceEq]
  unfold amt
  (repeat' split) <;> first | exact EntP.plain h rfl (by (constructor <;> (try dsimp only [frK]) <;> first | with_reducible assumption | with_reducible exact aan _ | (with_reducible exact h.a) | (with_reducible exact h.b) | (with_reducible exact h.d) | (with_reducible exact h.i) | (with_reducible exact h.j) | (with_reducible exact h.n) | (with_reducible exact h.t) | (with_reducible exact h.l) | (with_reducible exact h.ln) | (with_reducible exact h.cap) | exact aab (by decide) | exact Nat.zero_le _ | exact abF hc _ _ | exact abG _ | (intro x hx; cases hx; done) | decide)) (by rw [k22]; decide) (by rw [k22]; decide) (acx (by dsimp only [frK]; decide) (by dsimp only [frK]; decide) (by dsimp only [frK]; decide)) (by rw [k22]; dsimp only [frK]; decide) | exact EntP.stop h rfl (ahw (by rw [k22]; decide) (by rw [k22]; decide) (by rw [k22]; decide))
 by_cases k23 : f.kind = 23
 ·simp only [k23,if_true,if_false,Int.reduceEq]
  (repeat' split) <;> exact EntP.plain h rfl (by (constructor <;> (try dsimp only [frK]) <;> first | with_reducible assumption | with_reducible exact aan _ | (with_reducible exact h.a) | (with_reducible exact h.b) | (with_reducible exact h.d) | (with_reducible exact h.i) | (with_reducible exact h.j) | (with_reducible exact h.n) | (with_reducible exact h.t) | (with_reducible exact h.l) | (with_reducible exact h.ln) | (with_reducible exact h.cap) | exact aab (by decide) | exact Nat.zero_le _ | exact abF hc _ _ | exact abG _ | (intro x hx; cases hx; done) | decide)) (by rw [k23]; decide) (by rw [k23]; decide) (acx (by dsimp only [frK]; decide) (by dsimp only [frK]; decide) (by dsimp only [frK]; decide)) (by rw [k23]; dsimp only [frK]; decide)
 by_cases k24 : f.kind = 24
 ·simp only [k24,if_true,if_false,Int.reduceEq]
  exact atq (ap1 h he (ht.run k24)) k24
 by_cases k25 : f.kind = 25
 ·simp only [k25,if_true,if_false,Int.reduceEq]
  have hb : FrR K (ael e f) ∧ (ael e f).kind = f.kind := by
   unfold ael; split
   ·exact ⟨by (constructor <;> (try dsimp only [frK]) <;> first | with_reducible assumption | with_reducible exact aan _ | (with_reducible exact h.a) | (with_reducible exact h.b) | (with_reducible exact h.d) | (with_reducible exact h.i) | (with_reducible exact h.j) | (with_reducible exact h.n) | (with_reducible exact h.t) | (with_reducible exact h.l) | (with_reducible exact h.ln) | (with_reducible exact h.cap) | exact aab (by decide) | exact Nat.zero_le _ | exact abF hc _ _ | exact abG _ | (intro x hx; cases hx; done) | decide),rfl⟩
   ·exact ⟨h,rfl⟩
  have hk := hb.2
  generalize ael e f = g at hb hk
  have h := hb.1
  unfold akb
  have hl : ∀ x ∈ [g.n],Rg x := fun x hx =>by rw [List.mem_singleton] at hx; subst hx; exact h.n
  have hl1 : [g.n].length ≤ K := hK1
  by_cases l4 : g.line = 4
  ·simp only [l4,if_true,if_false,Int.reduceEq]
   exact EntP.plain h hk (by (constructor <;> (try dsimp only [frK]) <;> first | with_reducible assumption | with_reducible exact aan _ | (with_reducible exact h.a) | (with_reducible exact h.b) | (with_reducible exact h.d) | (with_reducible exact h.i) | (with_reducible exact h.j) | (with_reducible exact h.n) | (with_reducible exact h.t) | (with_reducible exact h.l) | (with_reducible exact h.ln) | (with_reducible exact h.cap) | exact aab (by decide) | exact Nat.zero_le _ | exact abF hc _ _ | exact abG _ | (intro x hx; cases hx; done) | decide)) (by rw [k25]; decide) (by rw [k25]; decide) ⟨fun e =>(by cases e),fun e =>(by cases e),fun _ =>⟨Int.le_refl 0,(by show (0 : Int) ≤ e.c.workers; omega)⟩⟩ (by rw [k25]; dsimp only [frK]; decide)
  by_cases l7 : g.line = 7
  ·simp only [l7,if_true,if_false,Int.reduceEq]
   exact EntP.plain h hk (by (constructor <;> (try dsimp only [frK]) <;> first | with_reducible assumption | with_reducible exact aan _ | (with_reducible exact h.a) | (with_reducible exact h.b) | (with_reducible exact h.d) | (with_reducible exact h.i) | (with_reducible exact h.j) | (with_reducible exact h.n) | (with_reducible exact h.t) | (with_reducible exact h.l) | (with_reducible exact h.ln) | (with_reducible exact h.cap) | exact aab (by decide) | exact Nat.zero_le _ | exact abF hc _ _ | exact abG _ | (intro x hx; cases hx; done) | decide)) (by rw [k25]; decide) (by rw [k25]; decide) ⟨fun _ =>⟨by simp,by simp,by simp,by simp,fun e =>absurd rfl e⟩,fun e =>(by cases e),fun e =>by cases e⟩ (by rw [k25]; dsimp only [frK]; decide)
  simp only [if_neg l4,if_neg l7]
  (repeat' split) <;> exact EntP.plain h hk (by (constructor <;> (try dsimp only [frK]) <;> first | with_reducible assumption | with_reducible exact aan _ | (with_reducible exact h.a) | (with_reducible exact h.b) | (with_reducible exact h.d) | (with_reducible exact h.i) | (with_reducible exact h.j) | (with_reducible exact h.n) | (with_reducible exact h.t) | (with_reducible exact h.l) | (with_reducible exact h.ln) | (with_reducible exact h.cap) | exact aab (by decide) | exact Nat.zero_le _ | exact abF hc _ _ | exact abG _ | (intro x hx; cases hx; done) | decide)) (by rw [k25]; decide) (by rw [k25]; decide) (acx (by dsimp only [frK]; decide) (by dsimp only [frK]; decide) (by dsimp only [frK]; decide)) (by rw [k25]; dsimp only [frK]; decide)
 by_cases k26 : f.kind = 26
 ·simp only [k26,if_true,if_false,Int.reduceEq]
  have hi := ht.cl k26
  have hno : LiveOk e f := ⟨fun e =>(by rw [k26] at e; cases e),fun _ =>hi,fun e =>by rw [k26] at e; cases e⟩
  unfold ai7
  by_cases hs : (e.c.subs.length : Int) ≤ f.i
  ·rw [if_pos hs]; exact EntP.stop h rfl hno
  rw [if_neg hs]
  have hsub := hc.sub _ (ajr (d := dfR 4) (xs := e.c.subs) (i := f.i) ⟨hi.1,Int.not_le.1 hs⟩)
  have hs1 : Rg (e.sub f.i).level := hsub.1
  have hs2 : Rg (e.sub f.i).deadline := hsub.2.1
  have hw : Rg e.c.workers := aab (by omega)
  have hp : ∀ g : FrV,alj g.kind < 4 → (f.line = 3 → g.kind = 12) → ParOk e.c f g := fun g h1 h3 =>⟨by rw [k26]; exact h1,fun e =>(by rw [k26] at e; cases e),fun _ =>⟨hi.1,by omega,h3⟩⟩
  have hq : PcP e f := fun e =>by rw [k26] at e; cases e
  (repeat' split) <;> first
   | exact EntP.stop h rfl hno
   | exact EntP.go h rfl (by (constructor <;> (try dsimp only [frK]) <;> first | with_reducible assumption | with_reducible exact aan _ | (with_reducible exact h.a) | (with_reducible exact h.b) | (with_reducible exact h.d) | (with_reducible exact h.i) | (with_reducible exact h.j) | (with_reducible exact h.n) | (with_reducible exact h.t) | (with_reducible exact h.l) | (with_reducible exact h.ln) | (with_reducible exact h.cap) | exact aab (by decide) | exact Nat.zero_le _ | exact abF hc _ _ | exact abG _ | (intro x hx; cases hx; done) | decide)) (acx (by dsimp only [frK]; decide) (by dsimp only [frK]; decide) (by dsimp only [frK]; decide)) (hp _ (by dsimp only [frK]; decide) (by first | (intro _; rfl) | (intro e; omega))) hq
 by_cases k21 : f.kind = 21
 ·simp only [k21,if_false,Int.reduceEq]
  exact EntP.stop h rfl ⟨fun e =>(by rw [k21] at e; cases e),fun e =>(by rw [k21] at e; cases e),ht.pr⟩
 simp only [k5,k6,k15,k17,k18,k22,k23,k24,k25,k26,if_false]
 exact EntP.stop h rfl (ahw k24 k26 k21)
end
end
end Go.Proofs.YtkmkhldmflebkaaGreat
