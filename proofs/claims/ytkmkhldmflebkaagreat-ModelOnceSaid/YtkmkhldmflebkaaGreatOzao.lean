/- What always holds of the reference's machines,3: going back,the stack,a step. A step of the reference's machine is what was said plainly. The reference: the engine. The reference's engine,said plainly: a new one,an entry,entries,stamped events. -/
import Derived.Test.YtkmkhldmflebkaaGreatOzan
import Derived.Test.YtkmkhldmflebkaaGreatOzal
set_option linter.all false
namespace Go.Proofs.YtkmkhldmflebkaaGreat
section
open Go
structure BackP (K : Nat) (e : EnvV) (f : FrV) (o : Lf) : Prop where
 lf : LfP K e f o
 top : o.1.done = false → TopOk e.c o.2.2
section
variable {K : Nat} {e e' : EnvV} {f : FrV} {code value : Int}
theorem BackP.of {o : Lf} (h : LfP K e f o) (h4 : f.kind ≠ 24) (h6 : f.kind ≠ 26) (h1 : f.kind ≠ 21) : BackP K e f o :=
 ⟨h,fun _ =>acx (by rw [h.kind]; exact h4) (by rw [h.kind]; exact h6) (by rw [h.kind]; exact h1)⟩
theorem aqg (h : FrR K f) : LfP K e f (aqh e f code) := by
 unfold aqh
 (repeat' split) <;> exact ⟨by dsimp only [go,fin]; (constructor <;> (try dsimp only) <;> first | with_reducible assumption | with_reducible exact aan _ | (with_reducible exact h.a) | (with_reducible exact h.b) | (with_reducible exact h.d) | (with_reducible exact h.i) | (with_reducible exact h.j) | (with_reducible exact h.n) | (with_reducible exact h.t) | (with_reducible exact h.l) | (with_reducible exact h.up.ln) | (with_reducible exact h.cap) | exact aab (by decide) | with_reducible exact aai _ | with_reducible exact aac _),rfl,by dsimp only [go,fin]; (first | with_reducible assumption | with_reducible exact aan _ | (with_reducible exact h.a) | (with_reducible exact h.b) | (with_reducible exact h.d) | (with_reducible exact h.i) | (with_reducible exact h.j) | (with_reducible exact h.n) | (with_reducible exact h.t) | exact aab (by decide) | with_reducible exact aai _ | with_reducible exact aac _),by dsimp only [go,fin]; (first | with_reducible exact EQ.of EP.refl | with_reducible exact EQ.of EP.refl.ac | (refine EQ.em (by first | with_reducible exact EP.refl | with_reducible exact EP.refl.ac) ?_ ?_ ?_ ?_ ?_ <;> (first | with_reducible assumption | with_reducible exact aan _ | (with_reducible exact h.a) | (with_reducible exact h.b) | (with_reducible exact h.d) | (with_reducible exact h.i) | (with_reducible exact h.j) | (with_reducible exact h.n) | (with_reducible exact h.t) | exact aab (by decide) | with_reducible exact aai _ | with_reducible exact aac _)))⟩
theorem apZ (h : FrR K f) (hv : Rg value) : LfP K e f (amu e f code value) := by
 unfold amu
 (repeat' split) <;> exact ⟨by dsimp only [go,fin]; (constructor <;> (try dsimp only) <;> first | with_reducible assumption | with_reducible exact aan _ | (with_reducible exact h.a) | (with_reducible exact h.b) | (with_reducible exact h.d) | (with_reducible exact h.i) | (with_reducible exact h.j) | (with_reducible exact h.n) | (with_reducible exact h.t) | (with_reducible exact h.l) | (with_reducible exact h.up.ln) | (with_reducible exact h.cap) | exact aab (by decide) | with_reducible exact aai _ | with_reducible exact aac _),rfl,by dsimp only [go,fin]; (first | with_reducible assumption | with_reducible exact aan _ | (with_reducible exact h.a) | (with_reducible exact h.b) | (with_reducible exact h.d) | (with_reducible exact h.i) | (with_reducible exact h.j) | (with_reducible exact h.n) | (with_reducible exact h.t) | exact aab (by decide) | with_reducible exact aai _ | with_reducible exact aac _),by dsimp only [go,fin]; (first | with_reducible exact EQ.of EP.refl | with_reducible exact EQ.of EP.refl.ac | (refine EQ.em (by first | with_reducible exact EP.refl | with_reducible exact EP.refl.ac) ?_ ?_ ?_ ?_ ?_ <;> (first | with_reducible assumption | with_reducible exact aan _ | (with_reducible exact h.a) | (with_reducible exact h.b) | (with_reducible exact h.d) | (with_reducible exact h.i) | (with_reducible exact h.j) | (with_reducible exact h.n) | (with_reducible exact h.t) | exact aab (by decide) | with_reducible exact aai _ | with_reducible exact aac _)))⟩
theorem ao6 (h : FrR K f) (hv : Rg value) : LfP K e f (alr e f code value) := by
 unfold alr
 (repeat' split) <;> exact ⟨by dsimp only [go,fin]; (constructor <;> (try dsimp only) <;> first | with_reducible assumption | with_reducible exact aan _ | (with_reducible exact h.a) | (with_reducible exact h.b) | (with_reducible exact h.d) | (with_reducible exact h.i) | (with_reducible exact h.j) | (with_reducible exact h.n) | (with_reducible exact h.t) | (with_reducible exact h.l) | (with_reducible exact h.up.ln) | (with_reducible exact h.cap) | exact aab (by decide) | with_reducible exact aai _ | with_reducible exact aac _),rfl,by dsimp only [go,fin]; (first | with_reducible assumption | with_reducible exact aan _ | (with_reducible exact h.a) | (with_reducible exact h.b) | (with_reducible exact h.d) | (with_reducible exact h.i) | (with_reducible exact h.j) | (with_reducible exact h.n) | (with_reducible exact h.t) | exact aab (by decide) | with_reducible exact aai _ | with_reducible exact aac _),by dsimp only [go,fin]; (first | with_reducible exact EQ.of EP.refl | with_reducible exact EQ.of EP.refl.ac | (refine EQ.em (by first | with_reducible exact EP.refl | with_reducible exact EP.refl.ac) ?_ ?_ ?_ ?_ ?_ <;> (first | with_reducible assumption | with_reducible exact aan _ | (with_reducible exact h.a) | (with_reducible exact h.b) | (with_reducible exact h.d) | (with_reducible exact h.i) | (with_reducible exact h.j) | (with_reducible exact h.n) | (with_reducible exact h.t) | exact aab (by decide) | with_reducible exact aai _ | with_reducible exact aac _)))⟩
theorem alo (h : FrR K f) (hv : Rg value) (hc : CfgOk e.c) : LfP K e f (agm e f code value) := by
 have t2 := hc.t2
 have h1 : Rg (Int.tmod (wi (f.j + 1)) (if 1 < e.c.tasks then e.c.tasks else 1)) := akd (by split <;> omega) (by split <;> omega)
 have h2 : Rg (Int.tmod value 64) := akd (by decide) (by decide)
 unfold agm
 by_cases l1 : f.line = 1
 ·rw [if_pos l1]; exact ⟨by dsimp only [go,fin]; (constructor <;> (try dsimp only) <;> first | with_reducible assumption | with_reducible exact aan _ | (with_reducible exact h.a) | (with_reducible exact h.b) | (with_reducible exact h.d) | (with_reducible exact h.i) | (with_reducible exact h.j) | (with_reducible exact h.n) | (with_reducible exact h.t) | (with_reducible exact h.l) | (with_reducible exact h.up.ln) | (with_reducible exact h.cap) | exact aab (by decide) | with_reducible exact aai _ | with_reducible exact aac _),rfl,by dsimp only [go,fin]; (first | with_reducible assumption | with_reducible exact aan _ | (with_reducible exact h.a) | (with_reducible exact h.b) | (with_reducible exact h.d) | (with_reducible exact h.i) | (with_reducible exact h.j) | (with_reducible exact h.n) | (with_reducible exact h.t) | exact aab (by decide) | with_reducible exact aai _ | with_reducible exact aac _),by dsimp only [go,fin]; (first | with_reducible exact EQ.of EP.refl | with_reducible exact EQ.of EP.refl.ac | (refine EQ.em (by first | with_reducible exact EP.refl | with_reducible exact EP.refl.ac) ?_ ?_ ?_ ?_ ?_ <;> (first | with_reducible assumption | with_reducible exact aan _ | (with_reducible exact h.a) | (with_reducible exact h.b) | (with_reducible exact h.d) | (with_reducible exact h.i) | (with_reducible exact h.j) | (with_reducible exact h.n) | (with_reducible exact h.t) | exact aab (by decide) | with_reducible exact aai _ | with_reducible exact aac _)))⟩
 rw [if_neg l1]
 (repeat' split) <;> exact ⟨by dsimp only [go,fin]; (constructor <;> (try dsimp only) <;> first | with_reducible assumption | with_reducible exact aan _ | (with_reducible exact h.a) | (with_reducible exact h.b) | (with_reducible exact h.d) | (with_reducible exact h.i) | (with_reducible exact h.j) | (with_reducible exact h.n) | (with_reducible exact h.t) | (with_reducible exact h.l) | (with_reducible exact h.up.ln) | (with_reducible exact h.cap) | exact aab (by decide) | with_reducible exact aai _ | with_reducible exact aac _),rfl,by dsimp only [go,fin]; (first | with_reducible assumption | with_reducible exact aan _ | (with_reducible exact h.a) | (with_reducible exact h.b) | (with_reducible exact h.d) | (with_reducible exact h.i) | (with_reducible exact h.j) | (with_reducible exact h.n) | (with_reducible exact h.t) | exact aab (by decide) | with_reducible exact aai _ | with_reducible exact aac _),by dsimp only [go,fin]; (first | with_reducible exact EQ.of EP.refl | with_reducible exact EQ.of EP.refl.ac | (refine EQ.em (by first | with_reducible exact EP.refl | with_reducible exact EP.refl.ac) ?_ ?_ ?_ ?_ ?_ <;> (first | with_reducible assumption | with_reducible exact aan _ | (with_reducible exact h.a) | (with_reducible exact h.b) | (with_reducible exact h.d) | (with_reducible exact h.i) | (with_reducible exact h.j) | (with_reducible exact h.n) | (with_reducible exact h.t) | exact aab (by decide) | with_reducible exact aai _ | with_reducible exact aac _)))⟩
theorem acK {o : Lf} (hk : f.kind = 26) (h : LfP K e f o) (hi : o.1.done = false → 0 ≤ o.2.2.i ∧ o.2.2.i ≤ (e.c.subs.length : Int)) : BackP K e f o :=
 ⟨h,fun d =>⟨fun e' =>(by rw [h.kind,hk] at e'; cases e'),fun _ =>hi d,fun e' =>by rw [h.kind,hk] at e'; cases e'⟩⟩
theorem ajW (h : FrR K f) (hk : f.kind = 26) (hi : 0 ≤ f.i ∧ f.i < (e.c.subs.length : Int)) (hc : CfgOk e.c) : BackP K e f (ahA e f) := by
 have hsl := hc.sl
 have e1 : wi (f.i + 1) = f.i + 1 := aa7 (aab (by omega))
 unfold ahA
 rw [e1]
 have hr : Rg (f.i + 1) := aab (by omega)
 split
 ·exact acK hk (by exact ⟨by dsimp only [go,fin]; (constructor <;> (try dsimp only) <;> first | with_reducible assumption | with_reducible exact aan _ | (with_reducible exact h.a) | (with_reducible exact h.b) | (with_reducible exact h.d) | (with_reducible exact h.i) | (with_reducible exact h.j) | (with_reducible exact h.n) | (with_reducible exact h.t) | (with_reducible exact h.l) | (with_reducible exact h.up.ln) | (with_reducible exact h.cap) | exact aab (by decide) | with_reducible exact aai _ | with_reducible exact aac _),rfl,by dsimp only [go,fin]; (first | with_reducible assumption | with_reducible exact aan _ | (with_reducible exact h.a) | (with_reducible exact h.b) | (with_reducible exact h.d) | (with_reducible exact h.i) | (with_reducible exact h.j) | (with_reducible exact h.n) | (with_reducible exact h.t) | exact aab (by decide) | with_reducible exact aai _ | with_reducible exact aac _),by dsimp only [go,fin]; (first | with_reducible exact EQ.of EP.refl | with_reducible exact EQ.of EP.refl.ac | (refine EQ.em (by first | with_reducible exact EP.refl | with_reducible exact EP.refl.ac) ?_ ?_ ?_ ?_ ?_ <;> (first | with_reducible assumption | with_reducible exact aan _ | (with_reducible exact h.a) | (with_reducible exact h.b) | (with_reducible exact h.d) | (with_reducible exact h.i) | (with_reducible exact h.j) | (with_reducible exact h.n) | (with_reducible exact h.t) | exact aab (by decide) | with_reducible exact aai _ | with_reducible exact aac _)))⟩) fun d =>by cases d
 ·exact acK hk (by exact ⟨by dsimp only [go,fin]; (constructor <;> (try dsimp only) <;> first | with_reducible assumption | with_reducible exact aan _ | (with_reducible exact h.a) | (with_reducible exact h.b) | (with_reducible exact h.d) | (with_reducible exact h.i) | (with_reducible exact h.j) | (with_reducible exact h.n) | (with_reducible exact h.t) | (with_reducible exact h.l) | (with_reducible exact h.up.ln) | (with_reducible exact h.cap) | exact aab (by decide) | with_reducible exact aai _ | with_reducible exact aac _),rfl,by dsimp only [go,fin]; (first | with_reducible assumption | with_reducible exact aan _ | (with_reducible exact h.a) | (with_reducible exact h.b) | (with_reducible exact h.d) | (with_reducible exact h.i) | (with_reducible exact h.j) | (with_reducible exact h.n) | (with_reducible exact h.t) | exact aab (by decide) | with_reducible exact aai _ | with_reducible exact aac _),by dsimp only [go,fin]; (first | with_reducible exact EQ.of EP.refl | with_reducible exact EQ.of EP.refl.ac | (refine EQ.em (by first | with_reducible exact EP.refl | with_reducible exact EP.refl.ac) ?_ ?_ ?_ ?_ ?_ <;> (first | with_reducible assumption | with_reducible exact aan _ | (with_reducible exact h.a) | (with_reducible exact h.b) | (with_reducible exact h.d) | (with_reducible exact h.i) | (with_reducible exact h.j) | (with_reducible exact h.n) | (with_reducible exact h.t) | exact aab (by decide) | with_reducible exact aai _ | with_reducible exact aac _)))⟩) fun _ =>by dsimp only [go]; omega
theorem anI {ch : FrV} (h : FrR K f) (he : EnvOk K e) (hv : Rg value) (hk : f.kind = 26) (hp : ParOk e.c f ch) (h12 : ch.kind = 12 → code = 3 ∨ (0 ≤ value ∧ value < (e.recs.length : Int))) : BackP K e f (ai8 e f code value) := by
 have hc := he.cf
 have w1 := hc.w1
 have w2 := hc.w2
 have hw : Rg e.c.workers := aab (by omega)
 obtain ⟨i1,i2,i3⟩ := hp.cl hk
 have hsub := hc.sub _ (ajr (d := dfR 4) (xs := e.c.subs) (i := f.i) ⟨i1,i2⟩)
 have hs1 : Rg (e.sub f.i).level := hsub.1
 have hi2 : f.i ≤ (e.c.subs.length : Int) := Int.le_of_lt i2
 unfold ai8
 by_cases l1 : f.line = 1
 ·rw [if_pos l1]; exact acK hk (by exact ⟨by dsimp only [go,fin]; (constructor <;> (try dsimp only) <;> first | with_reducible assumption | with_reducible exact aan _ | (with_reducible exact h.a) | (with_reducible exact h.b) | (with_reducible exact h.d) | (with_reducible exact h.i) | (with_reducible exact h.j) | (with_reducible exact h.n) | (with_reducible exact h.t) | (with_reducible exact h.l) | (with_reducible exact h.up.ln) | (with_reducible exact h.cap) | exact aab (by decide) | with_reducible exact aai _ | with_reducible exact aac _),rfl,by dsimp only [go,fin]; (first | with_reducible assumption | with_reducible exact aan _ | (with_reducible exact h.a) | (with_reducible exact h.b) | (with_reducible exact h.d) | (with_reducible exact h.i) | (with_reducible exact h.j) | (with_reducible exact h.n) | (with_reducible exact h.t) | exact aab (by decide) | with_reducible exact aai _ | with_reducible exact aac _),by dsimp only [go,fin]; (first | with_reducible exact EQ.of EP.refl | with_reducible exact EQ.of EP.refl.ac | (refine EQ.em (by first | with_reducible exact EP.refl | with_reducible exact EP.refl.ac) ?_ ?_ ?_ ?_ ?_ <;> (first | with_reducible assumption | with_reducible exact aan _ | (with_reducible exact h.a) | (with_reducible exact h.b) | (with_reducible exact h.d) | (with_reducible exact h.i) | (with_reducible exact h.j) | (with_reducible exact h.n) | (with_reducible exact h.t) | exact aab (by decide) | with_reducible exact aai _ | with_reducible exact aac _)))⟩) fun _ =>⟨i1,hi2⟩
 rw [if_neg l1]
 by_cases l3 : f.line = 3
 ·rw [if_pos l3]
  split
  ·exact acK hk (by exact ⟨by dsimp only [go,fin]; (constructor <;> (try dsimp only) <;> first | with_reducible assumption | with_reducible exact aan _ | (with_reducible exact h.a) | (with_reducible exact h.b) | (with_reducible exact h.d) | (with_reducible exact h.i) | (with_reducible exact h.j) | (with_reducible exact h.n) | (with_reducible exact h.t) | (with_reducible exact h.l) | (with_reducible exact h.up.ln) | (with_reducible exact h.cap) | exact aab (by decide) | with_reducible exact aai _ | with_reducible exact aac _),rfl,by dsimp only [go,fin]; (first | with_reducible assumption | with_reducible exact aan _ | (with_reducible exact h.a) | (with_reducible exact h.b) | (with_reducible exact h.d) | (with_reducible exact h.i) | (with_reducible exact h.j) | (with_reducible exact h.n) | (with_reducible exact h.t) | exact aab (by decide) | with_reducible exact aai _ | with_reducible exact aac _),by dsimp only [go,fin]; (first | with_reducible exact EQ.of EP.refl | with_reducible exact EQ.of EP.refl.ac | (refine EQ.em (by first | with_reducible exact EP.refl | with_reducible exact EP.refl.ac) ?_ ?_ ?_ ?_ ?_ <;> (first | with_reducible assumption | with_reducible exact aan _ | (with_reducible exact h.a) | (with_reducible exact h.b) | (with_reducible exact h.d) | (with_reducible exact h.i) | (with_reducible exact h.j) | (with_reducible exact h.n) | (with_reducible exact h.t) | exact aab (by decide) | with_reducible exact aai _ | with_reducible exact aac _)))⟩) fun _ =>⟨i1,hi2⟩
  ·exact acK hk ⟨by dsimp only [go]; (constructor <;> (try dsimp only) <;> first | with_reducible assumption | with_reducible exact aan _ | (with_reducible exact h.a) | (with_reducible exact h.b) | (with_reducible exact h.d) | (with_reducible exact h.i) | (with_reducible exact h.j) | (with_reducible exact h.n) | (with_reducible exact h.t) | (with_reducible exact h.l) | (with_reducible exact h.up.ln) | (with_reducible exact h.cap) | exact aab (by decide) | with_reducible exact aai _ | with_reducible exact aac _),rfl,rg0,EQ.of (EP.refl.put fun _ =>⟨Nat.zero_le _,fun x hx =>by cases hx⟩)⟩ fun _ =>⟨i1,hi2⟩
 rw [if_neg l3]
 by_cases l6 : f.line = 6
 ·rw [if_pos l6]
  split
  ·exact acK hk (by exact ⟨by dsimp only [go,fin]; (constructor <;> (try dsimp only) <;> first | with_reducible assumption | with_reducible exact aan _ | (with_reducible exact h.a) | (with_reducible exact h.b) | (with_reducible exact h.d) | (with_reducible exact h.i) | (with_reducible exact h.j) | (with_reducible exact h.n) | (with_reducible exact h.t) | (with_reducible exact h.l) | (with_reducible exact h.up.ln) | (with_reducible exact h.cap) | exact aab (by decide) | with_reducible exact aai _ | with_reducible exact aac _),rfl,by dsimp only [go,fin]; (first | with_reducible assumption | with_reducible exact aan _ | (with_reducible exact h.a) | (with_reducible exact h.b) | (with_reducible exact h.d) | (with_reducible exact h.i) | (with_reducible exact h.j) | (with_reducible exact h.n) | (with_reducible exact h.t) | exact aab (by decide) | with_reducible exact aai _ | with_reducible exact aac _),by dsimp only [go,fin]; (first | with_reducible exact EQ.of EP.refl | with_reducible exact EQ.of EP.refl.ac | (refine EQ.em (by first | with_reducible exact EP.refl | with_reducible exact EP.refl.ac) ?_ ?_ ?_ ?_ ?_ <;> (first | with_reducible assumption | with_reducible exact aan _ | (with_reducible exact h.a) | (with_reducible exact h.b) | (with_reducible exact h.d) | (with_reducible exact h.i) | (with_reducible exact h.j) | (with_reducible exact h.n) | (with_reducible exact h.t) | exact aab (by decide) | with_reducible exact aai _ | with_reducible exact aac _)))⟩) fun _ =>⟨i1,hi2⟩
  ·exact acK hk (by exact ⟨by dsimp only [go,fin]; (constructor <;> (try dsimp only) <;> first | with_reducible assumption | with_reducible exact aan _ | (with_reducible exact h.a) | (with_reducible exact h.b) | (with_reducible exact h.d) | (with_reducible exact h.i) | (with_reducible exact h.j) | (with_reducible exact h.n) | (with_reducible exact h.t) | (with_reducible exact h.l) | (with_reducible exact h.up.ln) | (with_reducible exact h.cap) | exact aab (by decide) | with_reducible exact aai _ | with_reducible exact aac _),rfl,by dsimp only [go,fin]; (first | with_reducible assumption | with_reducible exact aan _ | (with_reducible exact h.a) | (with_reducible exact h.b) | (with_reducible exact h.d) | (with_reducible exact h.i) | (with_reducible exact h.j) | (with_reducible exact h.n) | (with_reducible exact h.t) | exact aab (by decide) | with_reducible exact aai _ | with_reducible exact aac _),by dsimp only [go,fin]; (first | with_reducible exact EQ.of EP.refl | with_reducible exact EQ.of EP.refl.ac | (refine EQ.em (by first | with_reducible exact EP.refl | with_reducible exact EP.refl.ac) ?_ ?_ ?_ ?_ ?_ <;> (first | with_reducible assumption | with_reducible exact aan _ | (with_reducible exact h.a) | (with_reducible exact h.b) | (with_reducible exact h.d) | (with_reducible exact h.i) | (with_reducible exact h.j) | (with_reducible exact h.n) | (with_reducible exact h.t) | exact aab (by decide) | with_reducible exact aai _ | with_reducible exact aac _)))⟩) fun _ =>⟨i1,hi2⟩
 rw [if_neg l6]
 split
 ·split
  ·exact acK hk (by exact ⟨by dsimp only [go,fin]; (constructor <;> (try dsimp only) <;> first | with_reducible assumption | with_reducible exact aan _ | (with_reducible exact h.a) | (with_reducible exact h.b) | (with_reducible exact h.d) | (with_reducible exact h.i) | (with_reducible exact h.j) | (with_reducible exact h.n) | (with_reducible exact h.t) | (with_reducible exact h.l) | (with_reducible exact h.up.ln) | (with_reducible exact h.cap) | exact aab (by decide) | with_reducible exact aai _ | with_reducible exact aac _),rfl,by dsimp only [go,fin]; (first | with_reducible assumption | with_reducible exact aan _ | (with_reducible exact h.a) | (with_reducible exact h.b) | (with_reducible exact h.d) | (with_reducible exact h.i) | (with_reducible exact h.j) | (with_reducible exact h.n) | (with_reducible exact h.t) | exact aab (by decide) | with_reducible exact aai _ | with_reducible exact aac _),by dsimp only [go,fin]; (first | with_reducible exact EQ.of EP.refl | with_reducible exact EQ.of EP.refl.ac | (refine EQ.em (by first | with_reducible exact EP.refl | with_reducible exact EP.refl.ac) ?_ ?_ ?_ ?_ ?_ <;> (first | with_reducible assumption | with_reducible exact aan _ | (with_reducible exact h.a) | (with_reducible exact h.b) | (with_reducible exact h.d) | (with_reducible exact h.i) | (with_reducible exact h.j) | (with_reducible exact h.n) | (with_reducible exact h.t) | exact aab (by decide) | with_reducible exact aai _ | with_reducible exact aac _)))⟩) fun _ =>⟨i1,hi2⟩
  ·exact ajW h hk ⟨i1,i2⟩ hc
 ·exact ajW h hk ⟨i1,i2⟩ hc
theorem acI {o : Lf} (hk : f.kind = 24) (h : LfP K e f o) (ht : o.1.done = false → ajd e.c o.2.2) : BackP K e f o :=
 ⟨h,fun d =>⟨fun _ =>ht d,fun e' =>(by rw [h.kind,hk] at e'; cases e'),fun e' =>by rw [h.kind,hk] at e'; cases e'⟩⟩
theorem ayo (hc : CfgOk e.c) {t : Int} (h1 : alm e t) : Rg (e.ins t).a ∧ Rg (e.ins t).b := by
 obtain ⟨p1,p2⟩ := h1
 have hp := alm.prog ⟨p1,p2⟩
 have m1 : e.prog t ∈ e.c.progs := by rw [hp]; exact List.mem_of_getElem? (abZ p1)
 have m2 : e.ins t ∈ e.prog t := List.mem_of_getElem? (abZ (d := dfR 3) p2)
 exact ⟨(hc.ins _ m1 _ m2).1,(hc.ins _ m1 _ m2).2.1⟩
theorem atr {ch : FrV} (h : FrR K f) (he : EnvOk K e) (hv : Rg value) (hk : f.kind = 24) (hp : ParOk e.c f ch) (hpc : PcP e f) : BackP K e f (axA e f code value) := by
 obtain ⟨hl,ht,h5,h3,h23⟩ := hp.run hk
 have hT := aqk h
 have hrt : ∀ (n : Int) (g : FrV),g.l = f.l → g.line = n → n ≠ 3 → n ≠ 5 → n ≠ 23 → ajd e.c g := fun n g e1 e2 a b d =>⟨by rw [e1]; exact hl,by rw [e2]; exact a,by rw [e2]; exact b,by rw [e2]; exact d,fun _ =>by rw [e1]; exact ht⟩
 have hr : ∀ (k : Int),Rg k → aqd K e.c e.recs → (ayj (e.rc (aaQ f.l)) k).kids.length ≤ K + 1 ∧ ∀ x ∈ (ayj (e.rc (aaQ f.l)) k).kids,Rg x := fun k hk hr =>by
  have := aqM hr (aaQ f.l)
  refine ⟨by simp [ayj]; exact this.1,fun x hx =>?_⟩
  rcases List.mem_append.1 hx with hx | hx
  ·exact this.2 x hx
  ·rw [List.mem_singleton] at hx; subst hx; exact hk
 unfold axA
 by_cases l5 : f.line = 5
 ·rw [if_pos l5]
  have hi := ayo he.cf (hpc hk l5)
  have hi2 := hi.2
  split
  ·refine acI hk ⟨by dsimp only [go]; (constructor <;> (try dsimp only) <;> first | with_reducible assumption | with_reducible exact aan _ | (with_reducible exact h.a) | (with_reducible exact h.b) | (with_reducible exact h.d) | (with_reducible exact h.i) | (with_reducible exact h.j) | (with_reducible exact h.n) | (with_reducible exact h.t) | (with_reducible exact h.l) | (with_reducible exact h.up.ln) | (with_reducible exact h.cap) | exact aab (by decide) | with_reducible exact aai _ | with_reducible exact aac _),rfl,rg0,EQ.em (EP.refl.put (hr (-1) (aab (by decide)))) ?_ ?_ ?_ ?_ ?_⟩ fun _ =>hrt 1 _ rfl rfl (by decide) (by decide) (by decide)
   all_goals (first | with_reducible assumption | with_reducible exact aan _ | (with_reducible exact h.a) | (with_reducible exact h.b) | (with_reducible exact h.d) | (with_reducible exact h.i) | (with_reducible exact h.j) | (with_reducible exact h.n) | (with_reducible exact h.t) | exact aab (by decide) | with_reducible exact aai _ | with_reducible exact aac _)
  ·refine acI hk ⟨by dsimp only [go]; (constructor <;> (try dsimp only) <;> first | with_reducible assumption | with_reducible exact aan _ | (with_reducible exact h.a) | (with_reducible exact h.b) | (with_reducible exact h.d) | (with_reducible exact h.i) | (with_reducible exact h.j) | (with_reducible exact h.n) | (with_reducible exact h.t) | (with_reducible exact h.l) | (with_reducible exact h.up.ln) | (with_reducible exact h.cap) | exact aab (by decide) | with_reducible exact aai _ | with_reducible exact aac _),rfl,rg0,EQ.of ((EP.refl.put (hr value hv)).put fun _ =>⟨Nat.zero_le _,fun x hx =>by cases hx⟩)⟩ fun _ =>hrt 6 _ rfl rfl (by decide) (by decide) (by decide)
 rw [if_neg l5]
 by_cases l6 : f.line = 6
 ·rw [if_pos l6]; exact acI hk (by exact ⟨by dsimp only [go,fin]; (constructor <;> (try dsimp only) <;> first | with_reducible assumption | with_reducible exact aan _ | (with_reducible exact h.a) | (with_reducible exact h.b) | (with_reducible exact h.d) | (with_reducible exact h.i) | (with_reducible exact h.j) | (with_reducible exact h.n) | (with_reducible exact h.t) | (with_reducible exact h.l) | (with_reducible exact h.up.ln) | (with_reducible exact h.cap) | exact aab (by decide) | with_reducible exact aai _ | with_reducible exact aac _),rfl,by dsimp only [go,fin]; (first | with_reducible assumption | with_reducible exact aan _ | (with_reducible exact h.a) | (with_reducible exact h.b) | (with_reducible exact h.d) | (with_reducible exact h.i) | (with_reducible exact h.j) | (with_reducible exact h.n) | (with_reducible exact h.t) | exact aab (by decide) | with_reducible exact aai _ | with_reducible exact aac _),by dsimp only [go,fin]; (first | with_reducible exact EQ.of EP.refl | with_reducible exact EQ.of EP.refl.ac | (refine EQ.em (by first | with_reducible exact EP.refl | with_reducible exact EP.refl.ac) ?_ ?_ ?_ ?_ ?_ <;> (first | with_reducible assumption | with_reducible exact aan _ | (with_reducible exact h.a) | (with_reducible exact h.b) | (with_reducible exact h.d) | (with_reducible exact h.i) | (with_reducible exact h.j) | (with_reducible exact h.n) | (with_reducible exact h.t) | exact aab (by decide) | with_reducible exact aai _ | with_reducible exact aac _)))⟩) fun _ =>hrt 7 _ rfl rfl (by decide) (by decide) (by decide)
 rw [if_neg l6]
 by_cases l7 : f.line = 7
 ·rw [if_pos l7]
  split
  ·exact acI hk (by exact ⟨by dsimp only [go,fin]; (constructor <;> (try dsimp only) <;> first | with_reducible assumption | with_reducible exact aan _ | (with_reducible exact h.a) | (with_reducible exact h.b) | (with_reducible exact h.d) | (with_reducible exact h.i) | (with_reducible exact h.j) | (with_reducible exact h.n) | (with_reducible exact h.t) | (with_reducible exact h.l) | (with_reducible exact h.up.ln) | (with_reducible exact h.cap) | exact aab (by decide) | with_reducible exact aai _ | with_reducible exact aac _),rfl,by dsimp only [go,fin]; (first | with_reducible assumption | with_reducible exact aan _ | (with_reducible exact h.a) | (with_reducible exact h.b) | (with_reducible exact h.d) | (with_reducible exact h.i) | (with_reducible exact h.j) | (with_reducible exact h.n) | (with_reducible exact h.t) | exact aab (by decide) | with_reducible exact aai _ | with_reducible exact aac _),by dsimp only [go,fin]; (first | with_reducible exact EQ.of EP.refl | with_reducible exact EQ.of EP.refl.ac | (refine EQ.em (by first | with_reducible exact EP.refl | with_reducible exact EP.refl.ac) ?_ ?_ ?_ ?_ ?_ <;> (first | with_reducible assumption | with_reducible exact aan _ | (with_reducible exact h.a) | (with_reducible exact h.b) | (with_reducible exact h.d) | (with_reducible exact h.i) | (with_reducible exact h.j) | (with_reducible exact h.n) | (with_reducible exact h.t) | exact aab (by decide) | with_reducible exact aai _ | with_reducible exact aac _)))⟩) fun _ =>hrt 9 _ rfl rfl (by decide) (by decide) (by decide)
  ·exact acI hk (by exact ⟨by dsimp only [go,fin]; (constructor <;> (try dsimp only) <;> first | with_reducible assumption | with_reducible exact aan _ | (with_reducible exact h.a) | (with_reducible exact h.b) | (with_reducible exact h.d) | (with_reducible exact h.i) | (with_reducible exact h.j) | (with_reducible exact h.n) | (with_reducible exact h.t) | (with_reducible exact h.l) | (with_reducible exact h.up.ln) | (with_reducible exact h.cap) | exact aab (by decide) | with_reducible exact aai _ | with_reducible exact aac _),rfl,by dsimp only [go,fin]; (first | with_reducible assumption | with_reducible exact aan _ | (with_reducible exact h.a) | (with_reducible exact h.b) | (with_reducible exact h.d) | (with_reducible exact h.i) | (with_reducible exact h.j) | (with_reducible exact h.n) | (with_reducible exact h.t) | exact aab (by decide) | with_reducible exact aai _ | with_reducible exact aac _),by dsimp only [go,fin]; (first | with_reducible exact EQ.of EP.refl | with_reducible exact EQ.of EP.refl.ac | (refine EQ.em (by first | with_reducible exact EP.refl | with_reducible exact EP.refl.ac) ?_ ?_ ?_ ?_ ?_ <;> (first | with_reducible assumption | with_reducible exact aan _ | (with_reducible exact h.a) | (with_reducible exact h.b) | (with_reducible exact h.d) | (with_reducible exact h.i) | (with_reducible exact h.j) | (with_reducible exact h.n) | (with_reducible exact h.t) | exact aab (by decide) | with_reducible exact aai _ | with_reducible exact aac _)))⟩) fun _ =>hrt 8 _ rfl rfl (by decide) (by decide) (by decide)
 rw [if_neg l7]
 by_cases l8 : f.line = 8
 ·rw [if_pos l8]; exact acI hk (by exact ⟨by dsimp only [go,fin]; (constructor <;> (try dsimp only) <;> first | with_reducible assumption | with_reducible exact aan _ | (with_reducible exact h.a) | (with_reducible exact h.b) | (with_reducible exact h.d) | (with_reducible exact h.i) | (with_reducible exact h.j) | (with_reducible exact h.n) | (with_reducible exact h.t) | (with_reducible exact h.l) | (with_reducible exact h.up.ln) | (with_reducible exact h.cap) | exact aab (by decide) | with_reducible exact aai _ | with_reducible exact aac _),rfl,by dsimp only [go,fin]; (first | with_reducible assumption | with_reducible exact aan _ | (with_reducible exact h.a) | (with_reducible exact h.b) | (with_reducible exact h.d) | (with_reducible exact h.i) | (with_reducible exact h.j) | (with_reducible exact h.n) | (with_reducible exact h.t) | exact aab (by decide) | with_reducible exact aai _ | with_reducible exact aac _),by dsimp only [go,fin]; (first | with_reducible exact EQ.of EP.refl | with_reducible exact EQ.of EP.refl.ac | (refine EQ.em (by first | with_reducible exact EP.refl | with_reducible exact EP.refl.ac) ?_ ?_ ?_ ?_ ?_ <;> (first | with_reducible assumption | with_reducible exact aan _ | (with_reducible exact h.a) | (with_reducible exact h.b) | (with_reducible exact h.d) | (with_reducible exact h.i) | (with_reducible exact h.j) | (with_reducible exact h.n) | (with_reducible exact h.t) | exact aab (by decide) | with_reducible exact aai _ | with_reducible exact aac _)))⟩) fun _ =>hrt 1 _ rfl rfl (by decide) (by decide) (by decide)
 rw [if_neg l8]
 by_cases l9 : f.line = 9
 ·rw [if_pos l9]
  split
  ·have hln : (f.l ++ [f.n]).length ≤ K + 1 := by have := h.ln; simp; omega
   have hll : ∀ x ∈ f.l ++ [f.n],Rg x := fun x hx =>by
    rcases List.mem_append.1 hx with hx | hx
    ·exact h.l x hx
    ·rw [List.mem_singleton] at hx; subst hx; exact h.n
   exact acI hk (by exact ⟨by dsimp only [go,fin]; (constructor <;> (try dsimp only) <;> first | with_reducible assumption | with_reducible exact aan _ | (with_reducible exact h.a) | (with_reducible exact h.b) | (with_reducible exact h.d) | (with_reducible exact h.i) | (with_reducible exact h.j) | (with_reducible exact h.n) | (with_reducible exact h.t) | (with_reducible exact h.l) | (with_reducible exact h.up.ln) | (with_reducible exact h.cap) | exact aab (by decide) | with_reducible exact aai _ | with_reducible exact aac _),rfl,by dsimp only [go,fin]; (first | with_reducible assumption | with_reducible exact aan _ | (with_reducible exact h.a) | (with_reducible exact h.b) | (with_reducible exact h.d) | (with_reducible exact h.i) | (with_reducible exact h.j) | (with_reducible exact h.n) | (with_reducible exact h.t) | exact aab (by decide) | with_reducible exact aai _ | with_reducible exact aac _),by dsimp only [go,fin]; (first | with_reducible exact EQ.of EP.refl | with_reducible exact EQ.of EP.refl.ac | (refine EQ.em (by first | with_reducible exact EP.refl | with_reducible exact EP.refl.ac) ?_ ?_ ?_ ?_ ?_ <;> (first | with_reducible assumption | with_reducible exact aan _ | (with_reducible exact h.a) | (with_reducible exact h.b) | (with_reducible exact h.d) | (with_reducible exact h.i) | (with_reducible exact h.j) | (with_reducible exact h.n) | (with_reducible exact h.t) | exact aab (by decide) | with_reducible exact aai _ | with_reducible exact aac _)))⟩) fun _ =>⟨by simp [go],by simp [go],by simp [go],by simp [go],fun e =>absurd rfl e⟩
  ·exact acI hk (by exact ⟨by dsimp only [go,fin]; (constructor <;> (try dsimp only) <;> first | with_reducible assumption | with_reducible exact aan _ | (with_reducible exact h.a) | (with_reducible exact h.b) | (with_reducible exact h.d) | (with_reducible exact h.i) | (with_reducible exact h.j) | (with_reducible exact h.n) | (with_reducible exact h.t) | (with_reducible exact h.l) | (with_reducible exact h.up.ln) | (with_reducible exact h.cap) | exact aab (by decide) | with_reducible exact aai _ | with_reducible exact aac _),rfl,by dsimp only [go,fin]; (first | with_reducible assumption | with_reducible exact aan _ | (with_reducible exact h.a) | (with_reducible exact h.b) | (with_reducible exact h.d) | (with_reducible exact h.i) | (with_reducible exact h.j) | (with_reducible exact h.n) | (with_reducible exact h.t) | exact aab (by decide) | with_reducible exact aai _ | with_reducible exact aac _),by dsimp only [go,fin]; (first | with_reducible exact EQ.of EP.refl | with_reducible exact EQ.of EP.refl.ac | (refine EQ.em (by first | with_reducible exact EP.refl | with_reducible exact EP.refl.ac) ?_ ?_ ?_ ?_ ?_ <;> (first | with_reducible assumption | with_reducible exact aan _ | (with_reducible exact h.a) | (with_reducible exact h.b) | (with_reducible exact h.d) | (with_reducible exact h.i) | (with_reducible exact h.j) | (with_reducible exact h.n) | (with_reducible exact h.t) | exact aab (by decide) | with_reducible exact aai _ | with_reducible exact aac _)))⟩) fun _ =>hrt 1 _ rfl rfl (by decide) (by decide) (by decide)
 rw [if_neg l9]
 by_cases l14 : f.line = 14
 ·rw [if_pos l14]
  have := afh (e := e) h (EQ.em (e' := e) (k := 7) (w := f.a) (t := aaQ f.l) (o := 0) (l := f.t) EP.refl (aab (by decide)) h.a hT rg0 h.t)
  exact acI hk this.1 (this.2 hl)
 rw [if_neg l14]
 by_cases l20 : f.line = 20
 ·rw [if_pos l20]
  split
  ·exact acI hk (by exact ⟨by dsimp only [go,fin]; (constructor <;> (try dsimp only) <;> first | with_reducible assumption | with_reducible exact aan _ | (with_reducible exact h.a) | (with_reducible exact h.b) | (with_reducible exact h.d) | (with_reducible exact h.i) | (with_reducible exact h.j) | (with_reducible exact h.n) | (with_reducible exact h.t) | (with_reducible exact h.l) | (with_reducible exact h.up.ln) | (with_reducible exact h.cap) | exact aab (by decide) | with_reducible exact aai _ | with_reducible exact aac _),rfl,by dsimp only [go,fin]; (first | with_reducible assumption | with_reducible exact aan _ | (with_reducible exact h.a) | (with_reducible exact h.b) | (with_reducible exact h.d) | (with_reducible exact h.i) | (with_reducible exact h.j) | (with_reducible exact h.n) | (with_reducible exact h.t) | exact aab (by decide) | with_reducible exact aai _ | with_reducible exact aac _),by dsimp only [go,fin]; (first | with_reducible exact EQ.of EP.refl | with_reducible exact EQ.of EP.refl.ac | (refine EQ.em (by first | with_reducible exact EP.refl | with_reducible exact EP.refl.ac) ?_ ?_ ?_ ?_ ?_ <;> (first | with_reducible assumption | with_reducible exact aan _ | (with_reducible exact h.a) | (with_reducible exact h.b) | (with_reducible exact h.d) | (with_reducible exact h.i) | (with_reducible exact h.j) | (with_reducible exact h.n) | (with_reducible exact h.t) | exact aab (by decide) | with_reducible exact aai _ | with_reducible exact aac _)))⟩) fun _ =>hrt 22 _ rfl rfl (by decide) (by decide) (by decide)
  ·exact acI hk (by exact ⟨by dsimp only [go,fin]; (constructor <;> (try dsimp only) <;> first | with_reducible assumption | with_reducible exact aan _ | (with_reducible exact h.a) | (with_reducible exact h.b) | (with_reducible exact h.d) | (with_reducible exact h.i) | (with_reducible exact h.j) | (with_reducible exact h.n) | (with_reducible exact h.t) | (with_reducible exact h.l) | (with_reducible exact h.up.ln) | (with_reducible exact h.cap) | exact aab (by decide) | with_reducible exact aai _ | with_reducible exact aac _),rfl,by dsimp only [go,fin]; (first | with_reducible assumption | with_reducible exact aan _ | (with_reducible exact h.a) | (with_reducible exact h.b) | (with_reducible exact h.d) | (with_reducible exact h.i) | (with_reducible exact h.j) | (with_reducible exact h.n) | (with_reducible exact h.t) | exact aab (by decide) | with_reducible exact aai _ | with_reducible exact aac _),by dsimp only [go,fin]; (first | with_reducible exact EQ.of EP.refl | with_reducible exact EQ.of EP.refl.ac | (refine EQ.em (by first | with_reducible exact EP.refl | with_reducible exact EP.refl.ac) ?_ ?_ ?_ ?_ ?_ <;> (first | with_reducible assumption | with_reducible exact aan _ | (with_reducible exact h.a) | (with_reducible exact h.b) | (with_reducible exact h.d) | (with_reducible exact h.i) | (with_reducible exact h.j) | (with_reducible exact h.n) | (with_reducible exact h.t) | exact aab (by decide) | with_reducible exact aai _ | with_reducible exact aac _)))⟩) fun _ =>hrt 21 _ rfl rfl (by decide) (by decide) (by decide)
 rw [if_neg l20]
 by_cases l21 : f.line = 21
 ·rw [if_pos l21]
  have := afh (e := e) h (EQ.of EP.refl)
  exact acI hk this.1 (this.2 hl)
 rw [if_neg l21]
 by_cases l22 : f.line = 22
 ·rw [if_pos l22]
  split
  ·have hln : (f.l.dropLast ++ [f.n]).length ≤ K + 1 := by have := h.ln; simp; omega
   have hll : ∀ x ∈ f.l.dropLast ++ [f.n],Rg x := fun x hx =>by
    rcases List.mem_append.1 hx with hx | hx
    ·exact h.l x (List.mem_of_mem_take (by rw [List.dropLast_eq_take] at hx; exact hx))
    ·rw [List.mem_singleton] at hx; subst hx; exact h.n
   exact acI hk (by exact ⟨by dsimp only [go,fin]; (constructor <;> (try dsimp only) <;> first | with_reducible assumption | with_reducible exact aan _ | (with_reducible exact h.a) | (with_reducible exact h.b) | (with_reducible exact h.d) | (with_reducible exact h.i) | (with_reducible exact h.j) | (with_reducible exact h.n) | (with_reducible exact h.t) | (with_reducible exact h.l) | (with_reducible exact h.up.ln) | (with_reducible exact h.cap) | exact aab (by decide) | with_reducible exact aai _ | with_reducible exact aac _),rfl,by dsimp only [go,fin]; (first | with_reducible assumption | with_reducible exact aan _ | (with_reducible exact h.a) | (with_reducible exact h.b) | (with_reducible exact h.d) | (with_reducible exact h.i) | (with_reducible exact h.j) | (with_reducible exact h.n) | (with_reducible exact h.t) | exact aab (by decide) | with_reducible exact aai _ | with_reducible exact aac _),by dsimp only [go,fin]; (first | with_reducible exact EQ.of EP.refl | with_reducible exact EQ.of EP.refl.ac | (refine EQ.em (by first | with_reducible exact EP.refl | with_reducible exact EP.refl.ac) ?_ ?_ ?_ ?_ ?_ <;> (first | with_reducible assumption | with_reducible exact aan _ | (with_reducible exact h.a) | (with_reducible exact h.b) | (with_reducible exact h.d) | (with_reducible exact h.i) | (with_reducible exact h.j) | (with_reducible exact h.n) | (with_reducible exact h.t) | exact aab (by decide) | with_reducible exact aai _ | with_reducible exact aac _)))⟩) fun _ =>⟨by simp [go],by simp [go],by simp [go],by simp [go],fun e =>absurd rfl e⟩
  ·have := afh (e := e) h (EQ.of EP.refl)
   exact acI hk this.1 (this.2 hl)
 rw [if_neg l22]
 exact acI hk ⟨h.up,rfl,rg0,EQ.of EP.refl⟩ fun _ =>⟨hl,h3,l5,h23,fun _ =>ht⟩
theorem aoY {ch : FrV} (h : FrR K f) (he : EnvOk K e) (hcd : True) (hv : Rg value) (hp : ParOk e.c f ch) (hpc : PcP e f) (h12 : ch.kind = 12 → code = 3 ∨ (0 ≤ value ∧ value < (e.recs.length : Int))) : BackP K e f (afR e f code value) := by
 unfold afR
 by_cases k5 : f.kind = 5
 ·rw [if_pos k5]
  refine BackP.of ?_ (by rw [k5]; decide) (by rw [k5]; decide) (by rw [k5]; decide)
  (repeat' split) <;> exact ⟨by dsimp only [go,fin]; (constructor <;> (try dsimp only) <;> first | with_reducible assumption | with_reducible exact aan _ | (with_reducible exact h.a) | (with_reducible exact h.b) | (with_reducible exact h.d) | (with_reducible exact h.i) | (with_reducible exact h.j) | (with_reducible exact h.n) | (with_reducible exact h.t) | (with_reducible exact h.l) | (with_reducible exact h.up.ln) | (with_reducible exact h.cap) | exact aab (by decide) | with_reducible exact aai _ | with_reducible exact aac _),rfl,by dsimp only [go,fin]; (first | with_reducible assumption | with_reducible exact aan _ | (with_reducible exact h.a) | (with_reducible exact h.b) | (with_reducible exact h.d) | (with_reducible exact h.i) | (with_reducible exact h.j) | (with_reducible exact h.n) | (with_reducible exact h.t) | exact aab (by decide) | with_reducible exact aai _ | with_reducible exact aac _),by dsimp only [go,fin]; (first | with_reducible exact EQ.of EP.refl | with_reducible exact EQ.of EP.refl.ac | (refine EQ.em (by first | with_reducible exact EP.refl | with_reducible exact EP.refl.ac) ?_ ?_ ?_ ?_ ?_ <;> (first | with_reducible assumption | with_reducible exact aan _ | (with_reducible exact h.a) | (with_reducible exact h.b) | (with_reducible exact h.d) | (with_reducible exact h.i) | (with_reducible exact h.j) | (with_reducible exact h.n) | (with_reducible exact h.t) | exact aab (by decide) | with_reducible exact aai _ | with_reducible exact aac _)))⟩
 rw [if_neg k5]
 by_cases k6 : f.kind = 6
 ·rw [if_pos k6]
  refine BackP.of ?_ (by rw [k6]; decide) (by rw [k6]; decide) (by rw [k6]; decide)
  (repeat' split) <;> exact ⟨by dsimp only [go,fin]; (constructor <;> (try dsimp only) <;> first | with_reducible assumption | with_reducible exact aan _ | (with_reducible exact h.a) | (with_reducible exact h.b) | (with_reducible exact h.d) | (with_reducible exact h.i) | (with_reducible exact h.j) | (with_reducible exact h.n) | (with_reducible exact h.t) | (with_reducible exact h.l) | (with_reducible exact h.up.ln) | (with_reducible exact h.cap) | exact aab (by decide) | with_reducible exact aai _ | with_reducible exact aac _),rfl,by dsimp only [go,fin]; (first | with_reducible assumption | with_reducible exact aan _ | (with_reducible exact h.a) | (with_reducible exact h.b) | (with_reducible exact h.d) | (with_reducible exact h.i) | (with_reducible exact h.j) | (with_reducible exact h.n) | (with_reducible exact h.t) | exact aab (by decide) | with_reducible exact aai _ | with_reducible exact aac _),by dsimp only [go,fin]; (first | with_reducible exact EQ.of EP.refl | with_reducible exact EQ.of EP.refl.ac | (refine EQ.em (by first | with_reducible exact EP.refl | with_reducible exact EP.refl.ac) ?_ ?_ ?_ ?_ ?_ <;> (first | with_reducible assumption | with_reducible exact aan _ | (with_reducible exact h.a) | (with_reducible exact h.b) | (with_reducible exact h.d) | (with_reducible exact h.i) | (with_reducible exact h.j) | (with_reducible exact h.n) | (with_reducible exact h.t) | exact aab (by decide) | with_reducible exact aai _ | with_reducible exact aac _)))⟩
 rw [if_neg k6]
 by_cases k15 : f.kind = 15
 ·rw [if_pos k15]
  exact BackP.of ⟨h.up,rfl,h.t,EQ.of EP.refl⟩ (by rw [k15]; decide) (by rw [k15]; decide) (by rw [k15]; decide)
 rw [if_neg k15]
 by_cases k17 : f.kind = 17
 ·rw [if_pos k17]; exact BackP.of (aqg h) (by rw [k17]; decide) (by rw [k17]; decide) (by rw [k17]; decide)
 rw [if_neg k17]
 by_cases k18 : f.kind = 18
 ·rw [if_pos k18]
  refine BackP.of ?_ (by rw [k18]; decide) (by rw [k18]; decide) (by rw [k18]; decide)
  (repeat' split) <;> exact ⟨by dsimp only [go,fin]; (constructor <;> (try dsimp only) <;> first | with_reducible assumption | with_reducible exact aan _ | (with_reducible exact h.a) | (with_reducible exact h.b) | (with_reducible exact h.d) | (with_reducible exact h.i) | (with_reducible exact h.j) | (with_reducible exact h.n) | (with_reducible exact h.t) | (with_reducible exact h.l) | (with_reducible exact h.up.ln) | (with_reducible exact h.cap) | exact aab (by decide) | with_reducible exact aai _ | with_reducible exact aac _),rfl,by dsimp only [go,fin]; (first | with_reducible assumption | with_reducible exact aan _ | (with_reducible exact h.a) | (with_reducible exact h.b) | (with_reducible exact h.d) | (with_reducible exact h.i) | (with_reducible exact h.j) | (with_reducible exact h.n) | (with_reducible exact h.t) | exact aab (by decide) | with_reducible exact aai _ | with_reducible exact aac _),by dsimp only [go,fin]; (first | with_reducible exact EQ.of EP.refl | with_reducible exact EQ.of EP.refl.ac | (refine EQ.em (by first | with_reducible exact EP.refl | with_reducible exact EP.refl.ac) ?_ ?_ ?_ ?_ ?_ <;> (first | with_reducible assumption | with_reducible exact aan _ | (with_reducible exact h.a) | (with_reducible exact h.b) | (with_reducible exact h.d) | (with_reducible exact h.i) | (with_reducible exact h.j) | (with_reducible exact h.n) | (with_reducible exact h.t) | exact aab (by decide) | with_reducible exact aai _ | with_reducible exact aac _)))⟩
 rw [if_neg k18]
 by_cases k22 : f.kind = 22
 ·rw [if_pos k22]; exact BackP.of (apZ h hv) (by rw [k22]; decide) (by rw [k22]; decide) (by rw [k22]; decide)
 rw [if_neg k22]
 by_cases k23 : f.kind = 23
 ·rw [if_pos k23]; exact BackP.of (ao6 h hv) (by rw [k23]; decide) (by rw [k23]; decide) (by rw [k23]; decide)
 rw [if_neg k23]
 by_cases k24 : f.kind = 24
 ·rw [if_pos k24]; exact atr h he hv k24 hp hpc
 rw [if_neg k24]
 by_cases k25 : f.kind = 25
 ·rw [if_pos k25]; exact BackP.of (alo h hv he.cf) (by rw [k25]; decide) (by rw [k25]; decide) (by rw [k25]; decide)
 rw [if_neg k25]
 by_cases k26 : f.kind = 26
 ·rw [if_pos k26]; exact anI h he hv k26 hp h12
 rw [if_neg k26]
 have h0 := hp.rk
 unfold alj at h0
 exfalso
 (repeat' split at h0) <;> omega
theorem ParOk.pre {ch : FrV} (hp : ParOk e.c f ch) (h : FrR K f) (he : EnvOk K e) (hpc : PcP e f) (hK : K ≤ 900000000) (h12 : ch.kind = 12 → code = 3 ∨ (0 ≤ value ∧ value < (e.recs.length : Int))) : BackC e f code value := ⟨he.cf,he.fit hK,fun hk =>by
  obtain ⟨h1,h2,h3,h4,h5⟩ := hp.run hk
  refine ⟨⟨⟨h1,by have := h.ln; omega⟩,by have := he.rcs.1; exact ⟨by omega,by omega⟩⟩,fun l5 =>⟨hpc hk l5,by have := (aqM he.rcs (aaQ f.l)).1; omega,fun hcode =>(h12 (h3 l5)).resolve_left hcode⟩⟩,fun hk =>by
  obtain ⟨h1,h2,h3⟩ := hp.cl hk
  exact ⟨⟨h1,h2⟩,fun l3 hcode =>(h12 (h3 l3)).resolve_left hcode⟩⟩
end
def Par (K : Nat) (c : Cfg) : List FrV → FrV → Prop
 | [],_ =>True
 | p :: ps,ch =>ParOk c p ch ∧ FrR K p ∧ Par K c ps p
def ayQ (p : FrV) : Prop := ¬ (p.kind = 24 ∧ p.line = 5)
section
variable {K : Nat} {c : Cfg}
theorem ParOk.ch {p a b : FrV} (h : ParOk c p a) (e : b.kind = a.kind) : ParOk c p b := ⟨by rw [e]; exact h.rk,by rw [e]; exact h.run,by rw [e]; exact h.cl⟩
theorem Par.ch {ps : List FrV} {a b : FrV} (h : Par K c ps a) (e : b.kind = a.kind) : Par K c ps b := by
 cases ps with
 | nil =>trivial
 | cons p ps =>exact ⟨h.1.ch e,h.2⟩
theorem Par.le {L : Nat} : ∀ {ps : List FrV} {a : FrV},Par K c ps a → K ≤ L → Par L c ps a
 | [],_,_,_ =>trivial
 | _ :: _,_,h,hl =>⟨h.1,h.2.1.le hl,h.2.2.le hl⟩
theorem Par.len : ∀ {ps : List FrV} {a : FrV},Par K c ps a → ps.length + alj a.kind ≤ 4
 | [],a,_ =>by have := amZ a.kind; simp; omega
 | p :: ps,a,h =>by
  have h1 := h.1.rk
  have h2 := h.2.2.len
  simp; omega
theorem Par.rest : ∀ {ps : List FrV} {a : FrV},Par K c ps a → a.kind ≠ 12 → ∀ p ∈ ps,ayQ p
 | [],_,_,_,p,hp =>by cases hp
 | q :: ps,a,h,ha,p,hp =>by
  rcases List.mem_cons.1 hp with rfl | hp
  ·exact fun e =>ha ((h.1.run e.1).2.2.1 e.2)
  ·refine h.2.2.rest (fun e =>?_) p hp
   have := h.1.rk
   rw [e] at this
   simp [alj] at this
theorem ayQ.pc {e : EnvV} {p : FrV} (h : ayQ p) : PcP e p := fun e1 e2 =>absurd ⟨e1,e2⟩ h
structure DeepP (K : Nat) (e : EnvV) (top : FrV) (ps : List FrV) : Prop where
 fr : FrR K top
 par : Par K e.c ps top
 pc : ∀ p ∈ ps,PcP e p
theorem ahC {e : EnvV} (he : EnvOk K e) (hK1 : 1 ≤ K) : ∀ (k : Nat) (top : FrV) (ps : List FrV),DeepP K e top ps → TopOk e.c top → alj top.kind < k → DeepP K e (adU e k top ps).1 (adU e k top ps).2 ∧ LiveOk e (adU e k top ps).1
 | 0,_,_,_,_,h =>by omega
 | k + 1,top,ps,hx,ht,hk =>by
  have ho := amq hx.fr he ht hK1
  rw [adU]
  rcases hM : agW e top with ⟨o,f'⟩
  rw [hM] at ho
  have ho1 := ho.fr
  have ho2 := ho.kind
  cases o with
  | none =>exact ⟨⟨ho1,hx.par.ch ho2,hx.pc⟩,ho.no rfl⟩
  | some ch =>
   obtain ⟨h1,h2,h3,h4⟩ := ho.yes ch rfl
   refine ahC he hK1 k _ _ ⟨h1,⟨h3.ch rfl,ho1,hx.par.ch ho2⟩,fun p hp =>?_⟩ h2 ?_
   ·rcases List.mem_cons.1 hp with rfl | hp
    ·exact h4
    ·exact hx.pc p hp
   ·have h5 := h3.rk
    rw [ho2] at h5
    show alj ch.kind < k
    omega
structure StOk (K : Nat) (c : Cfg) (t : FrV) (ps : List FrV) : Prop where
 fr : FrR K t
 top : TopOk c t
 par : Par K c ps t
 rest : ∀ p ∈ ps,ayQ p
theorem StOk.le {L : Nat} {top : FrV} {ps : List FrV} (h : StOk K c top ps) (hl : K ≤ L) : StOk L c top ps := ⟨h.fr.le hl,h.top,h.par.le hl,h.rest⟩
structure BkP (K : Nat) (e : EnvV) (o : Option ResV × EnvV × List FrV) : Prop where
 env : EnvOk K o.2.1
 c : o.2.1.c = e.c
 now : o.2.1.now = e.now
 draw : o.2.1.draw = e.draw
 len : o.2.1.m.cells.length = e.m.cells.length
 st : o.1 = none → ∃ top ps,o.2.2 = top :: ps ∧ StOk K e.c top ps
theorem amC {e0 : EnvV} : ∀ (ps : List FrV) (L : Nat) (r : ResV) (e : EnvV) (top : FrV),e.c = e0.c → e.now = e0.now → e.draw = e0.draw → e.m.cells.length = e0.m.cells.length →
  EnvOk L e → DeepP L e top ps → Rg r.value → (r.done = false → TopOk e.c top ∧ ∀ p ∈ ps,ayQ p) → (top.kind = 12 → r.code = 3 ∨ (0 ≤ r.value ∧ r.value < (e.recs.length : Int))) → BkP (L + ps.length) e0 (ajq r e top ps)
 | [],L,r,e,top,c1,c2,c3,c4,he,hx,hv,ht,h12 =>by
  rw [ajq]
  by_cases hd : r.done = true
  ·rw [if_pos hd]; exact ⟨he,c1,c2,c3,c4,fun e =>by cases e⟩
  ·rw [if_neg hd]
   have := ht (by simpa using hd)
   exact ⟨he,c1,c2,c3,c4,fun _ =>⟨top,[],rfl,hx.fr,c1 ▸ this.1,trivial,fun p hp =>by cases hp⟩⟩
 | p :: ps,L,r,e,top,c1,c2,c3,c4,he,hx,hv,ht,h12 =>by
  rw [ajq]
  by_cases hd : r.done = true
  ·rw [if_pos hd]
   have ho := aoY (code := r.code) hx.par.2.1 he trivial hv hx.par.1 (hx.pc p (List.mem_cons_self ..)) h12
   have hpk : p.kind ≠ 12 := fun e =>by
    have := hx.par.1.rk
    rw [e] at this
    simp [alj] at this
   have hrest := hx.par.2.2.rest hpk
   have hc := ho.lf.env.c
   have hg := amC (e0 := e0) ps (L + 1) (afR e p r.code r.value).1 (afR e p r.code r.value).2.1 (afR e p r.code r.value).2.2 (hc.trans c1) (ho.lf.env.now.trans c2) (ho.lf.env.draw.trans c3) (ho.lf.env.len.trans c4) (ho.lf.env.ok he)
    ⟨ho.lf.fr,by rw [hc]; exact (hx.par.2.2.le (Nat.le_succ _)).ch ho.lf.kind,fun q hq =>(hrest q hq).pc⟩ ho.lf.val (fun e =>⟨by rw [hc]; exact ho.top e,hrest⟩) (fun e =>absurd (ho.lf.kind.symm.trans e) hpk)
   rw [show L + (p :: ps).length = L + 1 + ps.length by simp; omega]
   exact hg
  ·rw [if_neg hd]
   have := ht (by simpa using hd)
   exact ⟨he.le (Nat.le_add_right _ _),c1,c2,c3,c4,fun _ =>⟨top,p :: ps,rfl,hx.fr.le (Nat.le_add_right _ _),c1 ▸ this.1,c1 ▸ hx.par.le (Nat.le_add_right _ _),this.2⟩⟩
theorem aqs {e : EnvV} {top : FrV} {ps : List FrV} (hx : StOk K e.c top ps) (he : EnvOk K e) (hK1 : 1 ≤ K) : BkP (K + 5) e (atd e top ps) := by
 unfold atd
 obtain ⟨hd,hl⟩ := ahC he hK1 8 top ps ⟨hx.fr,hx.par,fun p hp =>(hx.rest p hp).pc⟩ hx.top (by have := amZ top.kind; omega)
 generalize adU e 8 top ps = z at hd hl
 have ho := aoC hd.fr he hl
 have hlen := hd.par.len
 have hc := ho.lf.env.c
 have hpc : ∀ p ∈ z.2,PcP (adJ e z.1).2.1 p := fun p hp =>by
  by_cases h12 : z.1.kind = 12
  ·have h1 := (ho.new h12).2.1
   intro a b
   have := hd.pc p hp a b
   unfold alm EnvV.prog EnvV.rc at this ⊢
   rw [h1,hc]; exact this
  ·exact (hd.par.rest h12 p hp).pc
 have hlen2 : ((adJ e z.1).2.1.recs.length : Int) = (e.recs.length : Int) := by
  have h1 := (ho.lf.env.ok he).rcs.1
  have h2 := he.rcs.1
  rw [hc] at h1
  omega
 have hb := amC (e0 := e) z.2 (K + 1) (adJ e z.1).1 (adJ e z.1).2.1 (adJ e z.1).2.2 hc ho.lf.env.now ho.lf.env.draw ho.lf.env.len (ho.lf.env.ok he)
  ⟨ho.lf.fr,by rw [hc]; exact (hd.par.le (Nat.le_succ _)).ch ho.lf.kind,hpc⟩ ho.lf.val (fun d =>⟨by rw [hc]; exact ho.top d,hd.par.rest fun h12 =>by have := (ho.new h12).1; rw [d] at this; cases this⟩)
  (fun e2 =>by
   have := (ho.new (ho.lf.kind.symm.trans e2)).2.2
   omega)
 have hKK : K + 1 + z.2.length ≤ K + 5 := by omega
 exact ⟨hb.env.le hKK,hb.c,hb.now,hb.draw,hb.len,fun e1 =>by
  obtain ⟨t,q,h1,h2⟩ := hb.st e1
  exact ⟨t,q,h1,h2.le hKK⟩⟩
end
noncomputable def enF (self3 : MaV × EnvV × Unit → Option (MaV × EnvV × Unit)) (x1 : MaV × EnvV × Unit) : Option (MaV × EnvV × Unit) :=
  if 0 ≤ wi (((x1.1.f.length : Nat) : Int) - 1) ∧ wi (((x1.1.f.length : Nat) : Int) - 1) < ((x1.1.f.length : Nat) : Int) then
   agr (
    (af5 x1.2.1 (ap6 x1.1.f (wi (((x1.1.f.length : Nat) : Int) - 1)))).bind fun r5 =>
    if (!r5.1.2.1) = true then
     some (({ x1.1 with f := x1.1.f.set (wi (((x1.1.f.length : Nat) : Int) - 1)).toNat r5.2.2.1 } : MaV),r5.2.1,())
    else
    if ((((x1.1.f.set (wi (((x1.1.f.length : Nat) : Int) - 1)).toNat r5.2.2.1).length + ([({ r5.1.1 with line := 1 } : FrV)] : List FrV).length : Nat)) : Int) < 100000000000 then
     self3 (({ x1.1 with f := (x1.1.f.set (wi (((x1.1.f.length : Nat) : Int) - 1)).toNat r5.2.2.1) ++ ([({ r5.1.1 with line := 1 } : FrV)]) } : MaV),r5.2.1,())
    else none
   ) (
    (af5 x1.2.1 (ap6 x1.1.f (wi (((x1.1.f.length : Nat) : Int) - 1)))).bind fun r4 =>
    if (!r4.1.2.1) = true then
     some (({ x1.1 with f := x1.1.f.set (wi (((x1.1.f.length : Nat) : Int) - 1)).toNat r4.2.2.1 } : MaV),r4.2.1,())
    else
    if ((((x1.1.f.set (wi (((x1.1.f.length : Nat) : Int) - 1)).toNat r4.2.2.1).length + ([({ r4.1.1 with line := 1 } : FrV)] : List FrV).length : Nat)) : Int) < 100000000000 then
     self3 (({ x1.1 with f := (x1.1.f.set (wi (((x1.1.f.length : Nat) : Int) - 1)).toNat r4.2.2.1) ++ ([({ r4.1.1 with line := 1 } : FrV)]) } : MaV),r4.2.1,())
    else none
   )
  else none
noncomputable def bkF (self15 : ResV × MaV × EnvV × Unit → Option ((ResV × MaV × EnvV × Unit) ⊕ ((Bool × Unit) × (MaV × EnvV × Unit)))) (x13 : ResV × MaV × EnvV × Unit) : Option ((ResV × MaV × EnvV × Unit) ⊕ ((Bool × Unit) × (MaV × EnvV × Unit))) :=
    if x13.1.done = true then
     if 0 ≤ wi (((x13.2.1.f.length : Nat) : Int) - 1) ∧ wi (((x13.2.1.f.length : Nat) : Int) - 1) ≤ ((x13.2.1.f.length : Nat) : Int) then
      if (((x13.2.1.f.take (wi (((x13.2.1.f.length : Nat) : Int) - 1) : Int).toNat).length : Nat) : Int) = 0 then
       if x13.1.value = x13.1.value then
        if x13.1.code = x13.1.code then
         if x13.1.value = x13.1.value then
          Option.map Sum.inr (
           some ((true,()),(({ x13.1 with f := x13.2.1.f.take (wi (((x13.2.1.f.length : Nat) : Int) - 1) : Int).toNat,over := true } : MaV),x13.2.2.1,()))
          )
         else none
        else none
       else none
      else
      if 0 ≤ wi ((((x13.2.1.f.take (wi (((x13.2.1.f.length : Nat) : Int) - 1) : Int).toNat).length : Nat) : Int) - 1) ∧ wi ((((x13.2.1.f.take (wi (((x13.2.1.f.length : Nat) : Int) - 1) : Int).toNat).length : Nat) : Int) - 1) < (((x13.2.1.f.take (wi (((x13.2.1.f.length : Nat) : Int) - 1) : Int).toNat).length : Nat) : Int) then
       (ajF x13.2.2.1 (ap6 (x13.2.1.f.take (wi (((x13.2.1.f.length : Nat) : Int) - 1) : Int).toNat) (wi ((((x13.2.1.f.take (wi (((x13.2.1.f.length : Nat) : Int) - 1) : Int).toNat).length : Nat) : Int) - 1))) x13.1.code x13.1.value).bind fun r16 =>
       self15 (r16.1.1,({ x13.2.1 with f := (x13.2.1.f.take (wi (((x13.2.1.f.length : Nat) : Int) - 1) : Int).toNat).set (wi ((((x13.2.1.f.take (wi (((x13.2.1.f.length : Nat) : Int) - 1) : Int).toNat).length : Nat) : Int) - 1)).toNat r16.2.2.1 } : MaV),r16.2.1,())
      else none
     else none
    else
    some (Sum.inl (x13.1,x13.2.1,x13.2.2.1,()))
theorem atb (m : MaV) (e : EnvV) : acj m e = if m.over = true then some ((true,()),(m,e,())) else
    (lpF enF 18446744073709551616 (m,e,())).bind fun z2 =>
      if 0 ≤ wi (((z2.1.f.length : Nat) : Int) - 1) ∧ wi (((z2.1.f.length : Nat) : Int) - 1) < ((z2.1.f.length : Nat) : Int) then
        agr ((aiu z2.2.1 (ap6 z2.1.f (wi (((z2.1.f.length : Nat) : Int) - 1)))).bind fun r12 =>
          (lpF bkF 18446744073709551616 (r12.1.1,({ z2.1 with f := z2.1.f.set (wi (((z2.1.f.length : Nat) : Int) - 1)).toNat r12.2.2.1 } : MaV),r12.2.1,())).bind fun z14 =>match z14 with
            | .inr o17 =>some o17
            | .inl z14 =>some ((false,()),(z14.2.1,z14.2.2.1,())))
         ((aiu z2.2.1 (ap6 z2.1.f (wi (((z2.1.f.length : Nat) : Int) - 1)))).bind fun r12 =>
          (lpF bkF 18446744073709551616 (r12.1.1,({ z2.1 with f := z2.1.f.set (wi (((z2.1.f.length : Nat) : Int) - 1)).toNat r12.2.2.1 } : MaV),r12.2.1,())).bind fun z14 =>match z14 with
            | .inr o17 =>some o17
            | .inl z14 =>some ((false,()),(z14.2.1,z14.2.2.1,())))
      else none := by kernel_rfl
theorem akQ {n : Nat} (h : n ≤ 1000) : wi (((n + 1 : Nat) : Int) - 1) = (n : Int) := by
 rw [aa7 (aab (by omega))]; omega
theorem anr {a : List FrV} {t : FrV} : ap6 (a ++ [t]) (a.length : Int) = t := by simp [ap6,atL]; rfl
theorem anq {a : List FrV} {t g : FrV} : (a ++ [t]).set ((a.length : Int)).toNat g = a ++ [g] := by simp
theorem arN {a : List FrV} {t : FrV} : (a ++ [t]).take ((a.length : Int)).toNat = a := by simp
section
variable {K : Nat} {e : EnvV}
theorem ayA (self : MaV × EnvV × Unit → Option (MaV × EnvV × Unit)) (m : MaV) (top : FrV) (a : List FrV) (hp : EntC e top) (ha : a.length ≤ 900) :
  enF self ({ m with f := a ++ [top] },e,()) = match agW e top with
   | (none,f') =>some ({ m with f := a ++ [f'] },e,())
   | (some ch,f') =>self ({ m with f := (a ++ [f']) ++ [{ ch with line := 1 }] },e,()) := by
 unfold enF
 have h1 : (a ++ [top]).length = a.length + 1 := by simp
 have hg : 0 ≤ (a.length : Int) ∧ (a.length : Int) < ((a.length + 1 : Nat) : Int) := by omega
 simp only [acT,h1,akQ (show a.length ≤ 1000 by omega),hg,and_self,if_true,anr,auv hp,Option.bind_some,az6,anq]
 rcases agW e top with ⟨o,f'⟩
 cases o with
 | none =>rfl
 | some ch =>
  have hq : (((a ++ [f']).length + ([({ ch with line := 1 } : FrV)] : List FrV).length : Nat) : Int) < 100000000000 := by simp; omega
  simp only [Option.isSome_some,Bool.not_true,Bool.false_eq_true,if_false,Option.getD_some,hq,if_true]
theorem aoP (he : EnvOk K e) (hK1 : 1 ≤ K) (hK : K ≤ 900000000) (m : MaV) : ∀ (k n : Nat) (top : FrV) (ps : List FrV),DeepP K e top ps → TopOk e.c top → alj top.kind < k → k ≤ n →
  lpF enF n ({ m with f := ps.reverse ++ [top] },e,()) = some ({ m with f := (adU e k top ps).2.reverse ++ [(adU e k top ps).1] },e,())
 | 0,_,_,_,_,_,h,_ =>by omega
 | k + 1,0,_,_,_,_,_,h =>by omega
 | k + 1,n + 1,top,ps,hx,ht,hk,hn =>by
  have hlen := hx.par.len
  have hpre : EntC e top := ⟨he.cf,he.rcs.1,fun hk =>⟨(ht.run hk).1,by have := hx.fr.ln; omega⟩,fun hk =>(ht.cl hk).1⟩
  rw [abA,ayA _ m top ps.reverse hpre (by simp; omega),adU]
  have ho := amq hx.fr he ht hK1
  rcases hM : agW e top with ⟨o,f'⟩
  rw [hM] at ho
  have ho1 := ho.fr
  have ho2 := ho.kind
  cases o with
  | none =>rfl
  | some ch =>
   obtain ⟨h1,h2,h3,h4⟩ := ho.yes ch rfl
   have := aoP he hK1 hK m k n { ch with line := 1 } (f' :: ps) ⟨h1,⟨h3.ch rfl,ho1,hx.par.ch ho2⟩,fun p hp =>by
    rcases List.mem_cons.1 hp with rfl | hp
    ·exact h4
    ·exact hx.pc p hp⟩ h2 (by
     have h5 := h3.rk
     rw [ho2] at h5
     show alj ch.kind < k
     omega) (by omega)
   rw [List.reverse_cons] at this
   exact this
def bkO (m : MaV) (z : Option ResV × EnvV × List FrV) (r : ResV) : (ResV × MaV × EnvV × Unit) ⊕ ((Bool × Unit) × (MaV × EnvV × Unit)) := match z.1 with
 | some q =>.inr ((true,()),(⟨[],true,q.code,q.value⟩,z.2.1,()))
 | none =>.inl (r,{ m with f := z.2.2.reverse },z.2.1,())
theorem aw3 (self : ResV × MaV × EnvV × Unit → Option ((ResV × MaV × EnvV × Unit) ⊕ ((Bool × Unit) × (MaV × EnvV × Unit)))) (m : MaV) (r : ResV) (top : FrV) (hd : r.done = true) : bkF self (r,{ m with f := [top] },e,()) = some (.inr ((true,()),(⟨[],true,r.code,r.value⟩,e,()))) := by
 unfold bkF
 have h1 : wi (((([top] : List FrV).length : Nat) : Int) - 1) = 0 := rfl
 have hg : (0 : Int) ≤ 0 ∧ (0 : Int) ≤ ((([top] : List FrV).length : Nat) : Int) := ⟨by decide,by simp⟩
 have h2 : ((([top].take (0 : Int).toNat).length : Nat) : Int) = 0 := rfl
 simp only [hd,if_true,h1,hg,and_self,h2]
 rfl
theorem auM (self : ResV × MaV × EnvV × Unit → Option ((ResV × MaV × EnvV × Unit) ⊕ ((Bool × Unit) × (MaV × EnvV × Unit)))) (m : MaV) (r : ResV) (top p : FrV) (a : List FrV) (hd : r.done = true) (ha : a.length ≤ 900) (hp : BackC e p r.code r.value) :
  bkF self (r,{ m with f := (a ++ [p]) ++ [top] },e,()) = self ((afR e p r.code r.value).1,{ m with f := a ++ [(afR e p r.code r.value).2.2] },(afR e p r.code r.value).2.1,()) := by
 unfold bkF
 have h1 : ((a ++ [p]) ++ [top]).length = (a ++ [p]).length + 1 := by simp
 have h2 : (a ++ [p]).length = a.length + 1 := by simp
 have hg : 0 ≤ ((a ++ [p]).length : Int) ∧ ((a ++ [p]).length : Int) ≤ (((a ++ [p]).length + 1 : Nat) : Int) := by omega
 have hg2 : 0 ≤ (a.length : Int) ∧ (a.length : Int) < ((a.length + 1 : Nat) : Int) := by omega
 have h3 : ¬ ((((a.length + 1 : Nat)) : Int) = 0) := by omega
 simp only [hd,if_true,h1,akQ (show (a ++ [p]).length ≤ 1000 by omega),hg,and_self,arN]
 simp only [h2,akQ (show a.length ≤ 1000 by omega),hg2,and_self,h3,if_true,if_false,anr,anq,aw5 hp,Option.bind_some,adc]
theorem aoW {e0 : EnvV} (m : MaV) : ∀ (ps : List FrV) (n L : Nat) (r : ResV) (e : EnvV) (top : FrV),e.c = e0.c → ps.length < n → L + ps.length ≤ 900000000 → EnvOk L e → DeepP L e top ps → Rg r.value →
  (top.kind = 12 → r.code = 3 ∨ (0 ≤ r.value ∧ r.value < (e.recs.length : Int))) → ∃ r',lpF bkF n (r,{ m with f := ps.reverse ++ [top] },e,()) = some (bkO m (ajq r e top ps) r')
 | _,0,_,_,_,_,_,h,_,_,_,_,_ =>by omega
 | [],n + 1,L,r,e,top,c1,hn,hL,he,hx,hv,h12 =>by
  refine ⟨r,?_⟩
  rw [abA,ajq]
  by_cases hd : r.done = true
  ·rw [if_pos hd]
   exact aw3 _ m r top hd
  ·rw [if_neg hd]
   unfold bkF
   rw [if_neg hd]
   rfl
 | p :: ps,n + 1,L,r,e,top,c1,hn,hL,he,hx,hv,h12 =>by
  rw [abA,ajq]
  by_cases hd : r.done = true
  ·rw [if_pos hd]
   have hlen := hx.par.len
   have hpre := hx.par.1.pre hx.par.2.1 he (hx.pc p (List.mem_cons_self ..)) (by omega) (code := r.code) (value := r.value) h12
   rw [List.reverse_cons,auM _ m r top p ps.reverse hd (by simp at hlen ⊢; omega) hpre]
   have ho := aoY (code := r.code) hx.par.2.1 he trivial hv hx.par.1 (hx.pc p (List.mem_cons_self ..)) h12
   have hpk : p.kind ≠ 12 := fun e =>by
    have := hx.par.1.rk
    rw [e] at this
    simp [alj] at this
   have hrest := hx.par.2.2.rest hpk
   have hc := ho.lf.env.c
   exact aoW (e0 := e0) m ps n (L + 1) (afR e p r.code r.value).1 (afR e p r.code r.value).2.1 (afR e p r.code r.value).2.2 (hc.trans c1) (by simp at hn; omega) (by simp at hL; omega) (ho.lf.env.ok he)
    ⟨ho.lf.fr,by rw [hc]; exact (hx.par.2.2.le (Nat.le_succ _)).ch ho.lf.kind,fun q hq =>(hrest q hq).pc⟩ ho.lf.val (fun e =>absurd (ho.lf.kind.symm.trans e) hpk)
  ·rw [if_neg hd]
   refine ⟨r,?_⟩
   unfold bkF
   rw [if_neg hd]
   simp only [bkO,List.reverse_cons]
def aw9 (K : Nat) (c : Cfg) (x : MaV) : Prop := x.over = true ∨ ∃ top ps,x.f = ps.reverse ++ [top] ∧ StOk K c top ps
theorem aw9.le {L : Nat} {c : Cfg} {x : MaV} (h : aw9 K c x) (hl : K ≤ L) : aw9 L c x := h.imp id fun ⟨t,q,h1,h2⟩ =>⟨t,q,h1,h2.le hl⟩
structure StepP (K : Nat) (e : EnvV) (o : Bool × MaV × EnvV) : Prop where
 env : EnvOk K o.2.2
 c : o.2.2.c = e.c
 now : o.2.2.now = e.now
 draw : o.2.2.draw = e.draw
 len : o.2.2.m.cells.length = e.m.cells.length
 ma : aw9 K e.c o.2.1
theorem aqr {x : MaV} (hx : aw9 K e.c x) (he : EnvOk K e) (hK1 : 1 ≤ K) (hK : K ≤ 800000000) : acj x e = some (((ahe e x).1,()),((ahe e x).2.1,(ahe e x).2.2,())) ∧ StepP (K + 5) e (ahe e x) := by
 rw [atb]
 unfold ahe
 by_cases hov : x.over = true
 ·rw [if_pos hov,if_pos hov]
  exact ⟨rfl,he.le (Nat.le_add_right _ _),rfl,rfl,rfl,rfl,.inl hov⟩
 rw [if_neg hov,if_neg hov]
 obtain ⟨top,ps,hf,hs⟩ := hx.resolve_left hov
 have hrv : x.f.reverse = top :: ps := by rw [hf]; simp
 rw [hrv]
 dsimp only
 have hb := aqs hs he hK1
 have hD : DeepP K e top ps := ⟨hs.fr,hs.par,fun p hp =>(hs.rest p hp).pc⟩
 have hrk : alj top.kind < 8 := by have := amZ top.kind; omega
 have h1 := aoP he hK1 (by omega) x 8 18446744073709551616 top ps hD hs.top hrk (by omega)
 have hx0 : ({ x with f := ps.reverse ++ [top] } : MaV) = x := by rw [← hf]
 rw [hx0] at h1
 obtain ⟨hd,hl⟩ := ahC he hK1 8 top ps hD hs.top hrk
 have ho := aoC hd.fr he hl
 have hleaf := awq (hl.pre hd.fr he (by omega))
 have hlen := hd.par.len
 have hc := ho.lf.env.c
 unfold atd at hb ⊢
 generalize adU e 8 top ps = z at h1 hd hl ho hleaf hlen hc hb
 have hpc : ∀ p ∈ z.2,PcP (adJ e z.1).2.1 p := fun p hp =>by
  by_cases h12 : z.1.kind = 12
  ·have h1 := (ho.new h12).2.1
   intro a b
   have := hd.pc p hp a b
   unfold alm EnvV.prog EnvV.rc at this ⊢
   rw [h1,hc]; exact this
  ·exact (hd.par.rest h12 p hp).pc
 have hlen2 : ((adJ e z.1).2.1.recs.length : Int) = (e.recs.length : Int) := by
  have h1 := (ho.lf.env.ok he).rcs.1
  have h2 := he.rcs.1
  rw [hc] at h1
  omega
 obtain ⟨r',h2⟩ := aoW (e0 := e) x z.2 18446744073709551616 (K + 1) (adJ e z.1).1 (adJ e z.1).2.1 (adJ e z.1).2.2 hc (by omega) (by omega) (ho.lf.env.ok he)
  ⟨ho.lf.fr,by rw [hc]; exact (hd.par.le (Nat.le_succ _)).ch ho.lf.kind,hpc⟩ ho.lf.val
  (fun e2 =>by
   have := (ho.new (ho.lf.kind.symm.trans e2)).2.2
   omega)
 have e1 : (z.2.reverse ++ [z.1]).length = z.2.reverse.length + 1 := by simp
 have e2 : z.2.reverse.length ≤ 1000 := by simp; omega
 have hg : 0 ≤ (z.2.reverse.length : Int) ∧ (z.2.reverse.length : Int) < ((z.2.reverse.length + 1 : Nat) : Int) := by omega
 refine ⟨?_,?_⟩
 ·rw [h1]
  simp only [Option.bind_some,acT,e1,akQ e2,hg,and_self,if_true,anr,anq,hleaf,adc]
  rw [h2]
  generalize ajq (adJ e z.1).1 (adJ e z.1).2.1 (adJ e z.1).2.2 z.2 = w
  rcases w with ⟨o,e',s⟩
  cases o <;> simp only [Option.bind_some,bkO]
 ·generalize ajq (adJ e z.1).1 (adJ e z.1).2.1 (adJ e z.1).2.2 z.2 = w at hb
  rcases w with ⟨o,e',s⟩
  cases o with
  | some q =>exact ⟨hb.env,hb.c,hb.now,hb.draw,hb.len,.inl rfl⟩
  | none =>
   obtain ⟨t,q,h3,h4⟩ := hb.st rfl
   refine ⟨hb.env,hb.c,hb.now,hb.draw,hb.len,.inr ⟨t,q,?_,h4⟩⟩
   show s.reverse = _
   rw [show s = t :: q from h3,List.reverse_cons]
end
end
section
open Go Go.RowKit
set_option maxRecDepth 100000
variable [Tb]
noncomputable def apE (x : EngV) (v : EntV) : Option ((Unit) × (EngV × Unit)) :=
 if v.kind = 0 then
  (agF v.value ((x.m.length : Nat) : Int)).bind fun r1 =>
  if 0 ≤ r1.1.1 ∧ r1.1.1 < ((x.m.length : Nat) : Int) then
   (acj (aja x.m r1.1.1) x.e).bind fun r2 =>
   if x.e.m.count < r2.2.2.1.m.count then
   (lpF (σ := EngV × Unit) (β := EngV × Unit) (fun self5 x3 =>
   if ((x3.1.stamps.length : Nat) : Int) < ((x3.1.e.evs.length : Nat) : Int) then
   if (((x3.1.stamps.length + ([x3.1.n] : List Int).length : Nat)) : Int) < 1000000000000 then
   self5 (({ x3.1 with stamps := x3.1.stamps ++ ([x3.1.n]) } : EngV),())
   else none
   else
   some (x3.1,())
   ) 18446744073709551616 (({ x with e := r2.2.2.1,m := x.m.set r1.1.1.toNat r2.2.1,last := r2.2.2.1.m.last } : EngV),())).bind fun z4 =>
   some ((()),(({ z4.1 with n := wi (z4.1.n + 1) } : EngV),()))
   else
   (lpF (σ := EngV × Unit) (β := EngV × Unit) (fun self8 x6 =>
   if ((x6.1.stamps.length : Nat) : Int) < ((x6.1.e.evs.length : Nat) : Int) then
   if (((x6.1.stamps.length + ([x6.1.n] : List Int).length : Nat)) : Int) < 1000000000000 then
   self8 (({ x6.1 with stamps := x6.1.stamps ++ ([x6.1.n]) } : EngV),())
   else none
   else
   some (x6.1,())
   ) 18446744073709551616 (({ x with e := r2.2.2.1,m := x.m.set r1.1.1.toNat r2.2.1,last := ⟨0,0,0,0⟩ } : EngV),())).bind fun z7 =>
   some ((()),(({ z7.1 with n := wi (z7.1.n + 1) } : EngV),()))
  else none
 else
 if v.kind = 1 then
  if x.e.m.count < x.e.m.count then
   (lpF (σ := EngV × Unit) (β := EngV × Unit) (fun self11 x9 =>
   if ((x9.1.stamps.length : Nat) : Int) < ((x9.1.e.evs.length : Nat) : Int) then
   if (((x9.1.stamps.length + ([x9.1.n] : List Int).length : Nat)) : Int) < 1000000000000 then
   self11 (({ x9.1 with stamps := x9.1.stamps ++ ([x9.1.n]) } : EngV),())
   else none
   else
   some (x9.1,())
   ) 18446744073709551616 (({ x with e := ({ x.e with now := wi (x.e.now + 1) } : EnvV),last := x.e.m.last } : EngV),())).bind fun z10 =>
   some ((()),(({ z10.1 with n := wi (z10.1.n + 1) } : EngV),()))
  else
  (lpF (σ := EngV × Unit) (β := EngV × Unit) (fun self14 x12 =>
   if ((x12.1.stamps.length : Nat) : Int) < ((x12.1.e.evs.length : Nat) : Int) then
   if (((x12.1.stamps.length + ([x12.1.n] : List Int).length : Nat)) : Int) < 1000000000000 then
   self14 (({ x12.1 with stamps := x12.1.stamps ++ ([x12.1.n]) } : EngV),())
   else none
   else
   some (x12.1,())
  ) 18446744073709551616 (({ x with e := ({ x.e with now := wi (x.e.now + 1) } : EnvV),last := ⟨0,0,0,0⟩ } : EngV),())).bind fun z13 =>
  some ((()),(({ z13.1 with n := wi (z13.1.n + 1) } : EngV),()))
 else
 if v.kind = 2 then
  if x.e.m.count < x.e.m.count then
   (lpF (σ := EngV × Unit) (β := EngV × Unit) (fun self17 x15 =>
   if ((x15.1.stamps.length : Nat) : Int) < ((x15.1.e.evs.length : Nat) : Int) then
   if (((x15.1.stamps.length + ([x15.1.n] : List Int).length : Nat)) : Int) < 1000000000000 then
   self17 (({ x15.1 with stamps := x15.1.stamps ++ ([x15.1.n]) } : EngV),())
   else none
   else
   some (x15.1,())
   ) 18446744073709551616 (({ x with e := ({ x.e with draw := v.value } : EnvV),last := x.e.m.last } : EngV),())).bind fun z16 =>
   some ((()),(({ z16.1 with n := wi (z16.1.n + 1) } : EngV),()))
  else
  (lpF (σ := EngV × Unit) (β := EngV × Unit) (fun self20 x18 =>
   if ((x18.1.stamps.length : Nat) : Int) < ((x18.1.e.evs.length : Nat) : Int) then
   if (((x18.1.stamps.length + ([x18.1.n] : List Int).length : Nat)) : Int) < 1000000000000 then
   self20 (({ x18.1 with stamps := x18.1.stamps ++ ([x18.1.n]) } : EngV),())
   else none
   else
   some (x18.1,())
  ) 18446744073709551616 (({ x with e := ({ x.e with draw := v.value } : EnvV),last := ⟨0,0,0,0⟩ } : EngV),())).bind fun z19 =>
  some ((()),(({ z19.1 with n := wi (z19.1.n + 1) } : EngV),()))
 else
 if x.e.m.count < x.e.m.count then
  (lpF (σ := EngV × Unit) (β := EngV × Unit) (fun self23 x21 =>
   if ((x21.1.stamps.length : Nat) : Int) < ((x21.1.e.evs.length : Nat) : Int) then
   if (((x21.1.stamps.length + ([x21.1.n] : List Int).length : Nat)) : Int) < 1000000000000 then
   self23 (({ x21.1 with stamps := x21.1.stamps ++ ([x21.1.n]) } : EngV),())
   else none
   else
   some (x21.1,())
  ) 18446744073709551616 (({ x with last := x.e.m.last } : EngV),())).bind fun z22 =>
  some ((()),(({ z22.1 with n := wi (z22.1.n + 1) } : EngV),()))
 else
 (lpF (σ := EngV × Unit) (β := EngV × Unit) (fun self26 x24 =>
  if ((x24.1.stamps.length : Nat) : Int) < ((x24.1.e.evs.length : Nat) : Int) then
   if (((x24.1.stamps.length + ([x24.1.n] : List Int).length : Nat)) : Int) < 1000000000000 then
   self26 (({ x24.1 with stamps := x24.1.stamps ++ ([x24.1.n]) } : EngV),())
   else none
  else
  some (x24.1,())
 ) 18446744073709551616 (({ x with last := ⟨0,0,0,0⟩ } : EngV),())).bind fun z25 =>
 some ((()),(({ z25.1 with n := wi (z25.1.n + 1) } : EngV),()))
noncomputable abbrev aq8 : Con SR1 := ⟨31,[.ref 16,.val 5],[],fun x =>apE x.1 x.2.1⟩
theorem atG : CO Tryz.prog aq8 := aaC aaB Tryz.func31 [afy,aeL] ⟨ae8,ahh,trivial⟩ [] trivial (fun _ =>[]) [(12,.loop [.ob 0 16] 18446744073709551616 1)] fun x =>by kernel_rfl
noncomputable def aiD (x : EngV) (l : List EntV) : Option ((Unit) × (EngV × Unit)) :=
 (lpF (σ := Int × EngV × Unit) (β := Int × EngV × Unit) (fun self3 x1 =>
  if x1.1 < ((l.length : Nat) : Int) then
   if 0 ≤ x1.1 ∧ x1.1 < ((l.length : Nat) : Int) then
   (apE x1.2.1 (ay3 l x1.1)).bind fun r4 =>
   self3 (wi (x1.1 + 1),r4.2.1,())
   else none
  else
  some (x1.1,x1.2.1,())
 ) 18446744073709551616 (0,x,())).bind fun z2 =>
 some ((()),(z2.2.1,()))
noncomputable abbrev aom : Con SR1 := ⟨17,[.ref 16,.sh (.ro 5)],[],fun x =>aiD x.1 x.2.1⟩
theorem aq6 : CO Tryz.prog aom := aaC aaB Tryz.func17 [aq8] ⟨atG,trivial⟩ [] trivial (fun _ =>[]) [(1,.loop [.rg 4 sI_,.ob 0 16] 18446744073709551616 0)] fun x =>by kernel_rfl
noncomputable def aoo (c : Cfg) : Option ((EngV × Unit) × (Unit)) :=
 (aps c).bind fun r1 =>
 (lpF (σ := Int × EngV × Unit) (β := Int × EngV × Unit) (fun self4 x2 =>
  if x2.1 < c.workers then
   if c.tasks ≠ 0 then
   (agw (⟨25,0,⟨0,0,0,0⟩,x2.1,0,0,0,(Int.tmod x2.1 c.tasks),0,0,0,0,0,0,[]⟩ : FrV)).bind fun r5 =>
   if (((x2.2.1.m.length + ([r5.1.1] : List MaV).length : Nat)) : Int) < 100000000000 then
   self4 (wi (x2.1 + 1),({ x2.2.1 with m := x2.2.1.m ++ ([r5.1.1]) } : EngV),())
   else none
   else none
  else
  some (x2.1,x2.2.1,())
 ) 18446744073709551616 (0,(⟨r1.1.1,[],0,[],⟨0,0,0,0⟩⟩ : EngV),())).bind fun z3 =>
 (agw (⟨26,0,⟨0,0,0,0⟩,0,0,0,0,0,0,0,0,0,0,0,[]⟩ : FrV)).bind fun r6 =>
 if (((z3.2.1.m.length + ([r6.1.1] : List MaV).length : Nat)) : Int) < 100000000000 then
  some ((({ z3.2.1 with m := z3.2.1.m ++ ([r6.1.1]) } : EngV),()),())
 else none
noncomputable abbrev aon : Con SR1 := ⟨16,[.val 13],[.sh (.own 16)],fun x =>aoo x.1⟩
theorem aq7 : CO Tryz.prog aon := aaC aaB Tryz.func16 [aqY,aoj] ⟨atB,aqZ,trivial⟩ [] trivial (fun _ =>[]) [(3,.loop [.rg 4 sI_,.rg 3 (.own 16)] 18446744073709551616 0)] fun x =>by kernel_rfl
end
section
open Go
def adk (x : EngV) (v : EntV) : EngV :=
 if v.kind = 0 then { x with e := (ahe x.e (aja x.m (abV v.value x.m.length))).2.2,m := x.m.set (abV v.value x.m.length).toNat (ahe x.e (aja x.m (abV v.value x.m.length))).2.1 }
 else if v.kind = 1 then { x with e := { x.e with now := wi (x.e.now + 1) } }
 else if v.kind = 2 then { x with e := { x.e with draw := v.value } }
 else x
def doM (x : EngV) (v : EntV) : EngV :=
 { adk x v with last := if x.e.m.count < (adk x v).e.m.count then (adk x v).e.m.last else ⟨0,0,0,0⟩,stamps := x.stamps ++ List.replicate ((adk x v).e.evs.length - x.stamps.length) x.n,n := wi (x.n + 1) }
def avQ (x : EngV) : List EntV → EngV
 | [] =>x
 | v :: l =>avQ (doM x v) l
def ahv (n : Int) : Int := if 0 < (if 131072 < n then 131072 else n) then (if 131072 < n then 131072 else n) else 0
def au4 (c : Cfg) : EnvV := ⟨c,⟨List.replicate (ahv (asD c)).toNat 0,⟨0,0,0,0⟩,0⟩,0,0,List.replicate c.tasks.toNat (ahW 0 (-1)),[]⟩
def adW (c : Cfg) (w : Nat) : FrV := { frK 25 with line := 1,a := w,j := Int.tmod w c.tasks }
def axe (c : Cfg) : EngV := ⟨au4 c,(List.range c.workers.toNat).map (fun w =>⟨[adW c w],false,0,0⟩) ++ [⟨[{ frK 26 with line := 1 }],false,0,0⟩],0,[],⟨0,0,0,0⟩⟩
structure EngP (K : Nat) (x : EngV) : Prop where
 env : EnvOk K x.e
 ma : ∀ y ∈ x.m,aw9 K x.e.c y
 n1 : 1 ≤ x.m.length
 n2 : x.m.length ≤ 100
 st : x.e.evs.length ≤ x.stamps.length
 sl : x.stamps.length ≤ K
 mono : x.stamps.Pairwise (· ≤ ·)
 bd : ∀ s ∈ x.stamps,0 ≤ s ∧ s ≤ x.n
 n : 0 ≤ x.n ∧ x.n ≤ K
section
variable {K : Nat} {x : EngV}
noncomputable def stF (self : EngV × Unit → Option (EngV × Unit)) (x : EngV × Unit) : Option (EngV × Unit) :=
 if ((x.1.stamps.length : Nat) : Int) < ((x.1.e.evs.length : Nat) : Int) then
  if (((x.1.stamps.length + ([x.1.n] : List Int).length : Nat)) : Int) < 1000000000000 then self (({ x.1 with stamps := x.1.stamps ++ ([x.1.n]) } : EngV),()) else none
 else some (x.1,())
noncomputable def tlF (y : EngV) : Option ((Unit) × (EngV × Unit)) := (lpF stF 18446744073709551616 (y,())).bind fun z =>some ((()),(({ z.1 with n := wi (z.1.n + 1) } : EngV),()))
theorem ayB (x : EngV) (v : EntV) : apE x v =
 if v.kind = 0 then
  (agF v.value ((x.m.length : Nat) : Int)).bind fun r1 =>
  if 0 ≤ r1.1.1 ∧ r1.1.1 < ((x.m.length : Nat) : Int) then
   (acj (aja x.m r1.1.1) x.e).bind fun r2 =>
   if x.e.m.count < r2.2.2.1.m.count then tlF ({ x with e := r2.2.2.1,m := x.m.set r1.1.1.toNat r2.2.1,last := r2.2.2.1.m.last } : EngV)
   else tlF ({ x with e := r2.2.2.1,m := x.m.set r1.1.1.toNat r2.2.1,last := ⟨0,0,0,0⟩ } : EngV)
  else none
 else if v.kind = 1 then
  if x.e.m.count < x.e.m.count then tlF ({ x with e := ({ x.e with now := wi (x.e.now + 1) } : EnvV),last := x.e.m.last } : EngV)
  else tlF ({ x with e := ({ x.e with now := wi (x.e.now + 1) } : EnvV),last := ⟨0,0,0,0⟩ } : EngV)
 else if v.kind = 2 then
  if x.e.m.count < x.e.m.count then tlF ({ x with e := ({ x.e with draw := v.value } : EnvV),last := x.e.m.last } : EngV)
  else tlF ({ x with e := ({ x.e with draw := v.value } : EnvV),last := ⟨0,0,0,0⟩ } : EngV)
 else
  if x.e.m.count < x.e.m.count then tlF ({ x with last := x.e.m.last } : EngV) else tlF ({ x with last := ⟨0,0,0,0⟩ } : EngV) := by kernel_rfl
theorem avB (G : EngV × Unit → Option (EngV × Unit)) (y : EngV) (h1 : y.stamps.length < y.e.evs.length) (h2 : y.stamps.length ≤ 999999999) : stF G (y,()) = G (({ y with stamps := y.stamps ++ [y.n] } : EngV),()) := by
 unfold stF
 have a1 : ((y.stamps.length : Nat) : Int) < ((y.e.evs.length : Nat) : Int) := by omega
 have a2 : (((y.stamps.length + ([y.n] : List Int).length : Nat)) : Int) < 1000000000000 := by rw [List.length_singleton]; omega
 simp only [a1,a2,if_true]
theorem axs (G : EngV × Unit → Option (EngV × Unit)) (y : EngV) (h1 : y.e.evs.length ≤ y.stamps.length) : stF G (y,()) = some (y,()) := by
 unfold stF
 have a1 : ¬ ((y.stamps.length : Nat) : Int) < ((y.e.evs.length : Nat) : Int) := by omega
 simp only [a1,if_false]
theorem ao9 : ∀ (j k : Nat) (y : EngV),y.e.evs.length - y.stamps.length = j → j < k → y.e.evs.length ≤ 999999999 → lpF stF k (y,()) = some (({ y with stamps := y.stamps ++ List.replicate j y.n } : EngV),()) := by
 intro j
 induction j with
 | zero =>
  intro k y hj hk hl
  obtain ⟨k,rfl⟩ : ∃ k',k = k' + 1 := ⟨k - 1,by omega⟩
  rw [abA,axs _ y (by omega)]
  simp
 | succ j ih =>
  intro k y hj hk hl
  obtain ⟨k,rfl⟩ : ∃ k',k = k' + 1 := ⟨k - 1,by omega⟩
  rw [abA,avB _ y (by omega) (by omega)]
  have e1 : y.e.evs.length - (y.stamps ++ [y.n]).length = j := by rw [List.length_append,List.length_singleton]; omega
  rw [ih k ({ y with stamps := y.stamps ++ [y.n] } : EngV) e1 (by omega) hl]
  simp [List.replicate_succ]
theorem EngP.le {L : Nat} (h : EngP K x) (hl : K ≤ L) : EngP L x := ⟨h.env.le hl,fun y hy =>(h.ma y hy).le hl,h.n1,h.n2,h.st,Nat.le_trans h.sl hl,h.mono,h.bd,h.n.1,by have := h.n.2; omega⟩
theorem EnvOk.nd {e e' : EnvV} (h : EnvOk K e) (h1 : e'.c = e.c) (h2 : e'.recs = e.recs) (h3 : e'.evs = e.evs) (h4 : Rg e'.now) (h5 : Rg e'.draw) : EnvOk K e' := ⟨h1 ▸ h.cf,by rw [h1,h2]; exact h.rcs,by rw [h3]; exact h.evs,h4,h5⟩
theorem arp (h : EngP K x) (v : EntV) : 0 ≤ abV v.value x.m.length ∧ abV v.value x.m.length < (x.m.length : Int) := ak6 (by have := h.n1; omega) (by have := h.n2; omega)
theorem aou (h : EngP K x) {v : EntV} (hv : Rg v.value) (hK1 : 1 ≤ K) (hK : K ≤ 700000000) : EnvOk (K + 5) (adk x v).e ∧ (∀ y ∈ (adk x v).m,aw9 (K + 5) x.e.c y) ∧ (adk x v).m.length = x.m.length ∧ (adk x v).e.c = x.e.c ∧ (adk x v).stamps = x.stamps ∧ (adk x v).n = x.n ∧ (adk x v).e.m.cells.length = x.e.m.cells.length := by
 have h5 := h.le (Nat.le_add_right K 5)
 unfold adk
 split
 ·obtain ⟨_,hs⟩ := aqr (h.ma _ (ajr (d := dfR 15) (arp h v))) h.env hK1 (by omega)
  refine ⟨hs.env,fun y hy =>?_,by simp,hs.c,rfl,rfl,hs.len⟩
  rcases arC hy with rfl | hy
  ·exact hs.ma
  ·exact h5.ma y hy
 split
 ·exact ⟨h5.env.nd rfl rfl rfl (aan _) h.env.draw,h5.ma,rfl,rfl,rfl,rfl,rfl⟩
 split
 ·exact ⟨h5.env.nd rfl rfl rfl h.env.now hv,h5.ma,rfl,rfl,rfl,rfl,rfl⟩
 ·exact ⟨h5.env,h5.ma,rfl,rfl,rfl,rfl,rfl⟩
theorem avf (h : EngP K x) {v : EntV} (hv : Rg v.value) (hK1 : 1 ≤ K) (hK : K ≤ 700000000) : EngP (K + 5) (doM x v) ∧ (doM x v).e.c = x.e.c ∧ (doM x v).m.length = x.m.length ∧ (doM x v).e.m.cells.length = x.e.m.cells.length := by
 obtain ⟨h1,h2,h3,h4,h5,h6,h7⟩ := aou h hv hK1 hK
 have hn : wi (x.n + 1) = x.n + 1 := aa7 (aab (by have := h.n; omega))
 have hev := h1.evs.1
 have hsl := h.sl
 refine ⟨⟨h1,fun y hy =>by rw [show (doM x v).e.c = x.e.c from h4]; exact h2 y hy,h3 ▸ h.n1,h3 ▸ h.n2,?_,?_,?_,?_,?_⟩,h4,h3,h7⟩
 ·show (adk x v).e.evs.length ≤ (x.stamps ++ List.replicate _ x.n).length
  simp; omega
 ·show (x.stamps ++ List.replicate _ x.n).length ≤ K + 5
  simp; omega
 ·show (x.stamps ++ List.replicate _ x.n).Pairwise (· ≤ ·)
  refine List.pairwise_append.2 ⟨h.mono,List.pairwise_replicate.2 (.inr (Int.le_refl _)),fun a ha b hb =>?_⟩
  rw [(List.mem_replicate.1 hb).2]; exact (h.bd a ha).2
 ·show ∀ s ∈ x.stamps ++ List.replicate _ x.n,0 ≤ s ∧ s ≤ wi (x.n + 1)
  intro s hs
  rw [hn]
  rcases List.mem_append.1 hs with hs | hs
  ·have := h.bd s hs; omega
  ·rw [(List.mem_replicate.1 hs).2]; have := h.n; omega
 ·show 0 ≤ wi (x.n + 1) ∧ wi (x.n + 1) ≤ ((K + 5 : Nat) : Int)
  rw [hn]; have := h.n; omega
theorem awS (h : EngP K x) (y : EngV) (hy : y.e.evs.length ≤ K + 5) (h1 : y.n = x.n) (h2 : y.stamps = x.stamps) (hK : K ≤ 700000000) :
  tlF y = some ((()),(({ y with stamps := x.stamps ++ List.replicate (y.e.evs.length - x.stamps.length) x.n,n := wi (x.n + 1) } : EngV),())) := by
 unfold tlF
 rw [ao9 (y.e.evs.length - y.stamps.length) 18446744073709551616 y rfl (by omega) (by omega)]
 simp only [Option.bind_some,h1,h2]
theorem azS (h : EngP K x) {v : EntV} (hv : Rg v.value) (hK1 : 1 ≤ K) (hK : K ≤ 700000000) : apE x v = some ((()),(doM x v,())) := by
 obtain ⟨q1,q2,q3,q4,q5,q6,_⟩ := aou h hv hK1 hK
 have hev := q1.evs.1
 have tl : ∀ a : AccV,tlF { adk x v with last := a } = some ((()),(({ adk x v with last := a,stamps := x.stamps ++ List.replicate ((adk x v).e.evs.length - x.stamps.length) x.n,n := wi (x.n + 1) } : EngV),())) := fun a =>awS h { adk x v with last := a } hev q6 q5 hK
 have hlt : ¬ x.e.m.count < x.e.m.count := by omega
 rw [ayB]
 unfold doM
 by_cases k0 : v.kind = 0
 ·have hi := arp h v
  obtain ⟨hs,_⟩ := aqr (h.ma _ (ajr (d := dfR 15) hi)) h.env hK1 (by omega)
  have hp : adk x v = { x with e := (ahe x.e (aja x.m (abV v.value x.m.length))).2.2,m := x.m.set (abV v.value x.m.length).toNat (ahe x.e (aja x.m (abV v.value x.m.length))).2.1 } := by unfold adk; rw [if_pos k0]
  have hs' : acj (aja x.m (abV v.value ((x.m.length : Nat) : Int))) x.e = some (((ahe x.e (aja x.m (abV v.value x.m.length))).1,()),((ahe x.e (aja x.m (abV v.value x.m.length))).2.1,(ahe x.e (aja x.m (abV v.value x.m.length))).2.2,())) := hs
  rw [if_pos k0]
  simp only [aa2,Option.bind_some,hs']
  rw [if_pos hi]
  rw [hp] at tl ⊢
  generalize ahe x.e (aja x.m (abV v.value x.m.length)) = w at tl ⊢
  by_cases hc : x.e.m.count < w.2.2.m.count
  ·rw [if_pos hc,if_pos hc]; exact tl _
  ·rw [if_neg hc,if_neg hc]; exact tl _
 rw [if_neg k0]
 by_cases k1 : v.kind = 1
 ·have hp : adk x v = { x with e := { x.e with now := wi (x.e.now + 1) } } := by unfold adk; rw [if_neg k0,if_pos k1]
  rw [if_pos k1,if_neg hlt]
  rw [hp] at tl ⊢
  rw [if_neg hlt]; exact tl _
 rw [if_neg k1]
 by_cases k2 : v.kind = 2
 ·have hp : adk x v = { x with e := { x.e with draw := v.value } } := by unfold adk; rw [if_neg k0,if_neg k1,if_pos k2]
  rw [if_pos k2,if_neg hlt]
  rw [hp] at tl ⊢
  rw [if_neg hlt]; exact tl _
 rw [if_neg k2]
 have hp : adk x v = x := by unfold adk; rw [if_neg k0,if_neg k1,if_neg k2]
 rw [if_neg hlt]
 rw [hp] at tl ⊢
 rw [if_neg hlt]; exact tl _
theorem atp : ∀ (l : List EntV) (K : Nat) (x : EngV),EngP K x → (∀ v ∈ l,Rg v.value) → 1 ≤ K → K + 5 * l.length ≤ 700000000 → EngP (K + 5 * l.length) (avQ x l) ∧ (avQ x l).e.c = x.e.c ∧ (avQ x l).m.length = x.m.length ∧ (avQ x l).e.m.cells.length = x.e.m.cells.length := by
 intro l
 induction l with
 | nil =>exact fun K x h _ _ _ =>⟨h,rfl,rfl,rfl⟩
 | cons v l ih =>
  intro K x h hv hK1 hK
  rw [List.length_cons] at hK
  obtain ⟨h1,h2,h3,h4⟩ := avf h (hv v (List.mem_cons_self ..)) hK1 (by omega)
  obtain ⟨g1,g2,g3,g4⟩ := ih (K + 5) (doM x v) h1 (fun u hu =>hv u (List.mem_cons_of_mem _ hu)) (by omega) (by omega)
  rw [List.length_cons,show K + 5 * (l.length + 1) = K + 5 + 5 * l.length by omega]
  exact ⟨g1,g2.trans h2,g3.trans h3,g4.trans h4⟩
noncomputable def rnF (l0 : List EntV) (self : Int × EngV × Unit → Option (Int × EngV × Unit)) (x : Int × EngV × Unit) : Option (Int × EngV × Unit) :=
 if x.1 < ((l0.length : Nat) : Int) then (if 0 ≤ x.1 ∧ x.1 < ((l0.length : Nat) : Int) then (apE x.2.1 (ay3 l0 x.1)).bind fun r =>self (wi (x.1 + 1),r.2.1,()) else none) else some (x.1,x.2.1,())
theorem avN (x : EngV) (l : List EntV) : aiD x l = (lpF (rnF l) 18446744073709551616 (0,x,())).bind fun z2 =>some ((()),(z2.2.1,())) := by kernel_rfl
theorem avY (l0 : List EntV) (G : Int × EngV × Unit → Option (Int × EngV × Unit)) (i : Nat) (x : EngV) (v : EntV) (y : EngV) (h : l0[i]? = some v) (hl : l0.length ≤ 1000000000) (hd : apE x v = some ((()),(y,()))) : rnF l0 G ((i : Int),x,()) = G (((i + 1 : Nat) : Int),y,()) := by
 have hlt := (List.getElem?_eq_some_iff.1 h).1
 have a1 : (i : Int) < ((l0.length : Nat) : Int) := by omega
 have a2 : 0 ≤ (i : Int) ∧ (i : Int) < ((l0.length : Nat) : Int) := by omega
 have hv0 : ay3 l0 (i : Int) = v := by simp [ay3,atL,h]; rfl
 have e1 : wi ((i : Int) + 1) = ((i + 1 : Nat) : Int) := by rw [aa7 (aab (by omega))]; omega
 unfold rnF
 simp only [a1,a2,if_true,and_self,hv0,hd,Option.bind_some,e1]
theorem axF (l0 : List EntV) (G : Int × EngV × Unit → Option (Int × EngV × Unit)) (i : Nat) (x : EngV) (h : l0.length ≤ i) : rnF l0 G ((i : Int),x,()) = some ((i : Int),x,()) := by
 have a1 : ¬ (i : Int) < ((l0.length : Nat) : Int) := by omega
 unfold rnF
 simp only [a1,if_false]
theorem ato {l0 : List EntV} (hl0 : l0.length ≤ 1000000000) :
  ∀ (l : List EntV) (K n i : Nat) (x : EngV),EngP K x → (∀ v ∈ l,Rg v.value) → 1 ≤ K → K + 5 * l.length ≤ 700000000 → l0.drop i = l → i ≤ l0.length → l.length < n → lpF (rnF l0) n ((i : Int),x,()) = some ((l0.length : Int),avQ x l,()) := by
 intro l
 induction l with
 | nil =>
  intro K n i x _ _ _ _ hd hi hn
  obtain ⟨n,rfl⟩ : ∃ k',n = k' + 1 := ⟨n - 1,by simp at hn; omega⟩
  have h1 : l0.length ≤ i := List.drop_eq_nil_iff.1 hd
  rw [abA,axF _ _ _ _ h1,show (i : Int) = (l0.length : Int) by omega]; rfl
 | cons v l ih =>
  intro K n i x h hv hK1 hK hd hi hn
  rw [List.length_cons] at hK hn
  obtain ⟨n,rfl⟩ : ∃ k',n = k' + 1 := ⟨n - 1,by omega⟩
  have hlt : i < l0.length := by
   rcases Nat.lt_or_ge i l0.length with h | h
   ·exact h
   ·rw [List.drop_eq_nil_iff.2 h] at hd; cases hd
  have hvi : l0[i]? = some v := by rw [← List.head?_drop,hd]; rfl
  have hvr := hv v (List.mem_cons_self ..)
  rw [abA,avY l0 _ i x v _ hvi hl0 (azS h hvr hK1 (by omega))]
  exact ih (K + 5) n (i + 1) (doM x v) (avf h hvr hK1 (by omega)).1 (fun u hu =>hv u (List.mem_cons_of_mem _ hu)) (by omega) (by omega)
   (by rw [← List.drop_drop,hd]; rfl) (by omega) (by omega)
theorem run_eq' (h : EngP K x) {l : List EntV} (hv : ∀ v ∈ l,Rg v.value) (hK1 : 1 ≤ K) (hK : K + 5 * l.length ≤ 700000000) : aiD x l = some ((()),(avQ x l,())) := by
 rw [avN]
 have := ato (l0 := l) (by omega) l K 18446744073709551616 0 x h hv hK1 hK rfl (Nat.zero_le _) (by omega)
 rw [show ((0 : Nat) : Int) = 0 from rfl] at this
 rw [this]; rfl
end
end
end Go.Proofs.YtkmkhldmflebkaaGreat
