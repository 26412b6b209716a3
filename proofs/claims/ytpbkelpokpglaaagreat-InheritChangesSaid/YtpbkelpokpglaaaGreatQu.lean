/- What always holds of the reference's machines, 3: going back, the stack, a step. A step of the reference's machine is what was said plainly. -/
import Derived.Test.YtpbkelpokpglaaaGreatQt
set_option linter.all false
namespace Go.Proofs.YtpbkelpokpglaaaGreat
section
open Go
structure BackP (K : Nat) (e : EnvV) (f : FrV) (o : Lf) : Prop where
  lf : LfP K e f o
  top : o.1.done = false → TopOk e.c o.2.2
section
variable {K : Nat} {e e' : EnvV} {f : FrV} {code value : Int}
theorem BackP.of {o : Lf} (h : LfP K e f o) (h4 : f.kind ≠ 24) (h6 : f.kind ≠ 26) (h1 : f.kind ≠ 21) : BackP K e f o :=
  ⟨h, fun _ => topOk_of (by rw [h.kind]; exact h4) (by rw [h.kind]; exact h6) (by rw [h.kind]; exact h1)⟩
theorem walkB_inv (h : FrR K f) : LfP K e f (walkB e f code) := by
  unfold walkB
  (repeat' split) <;> exact ⟨by dsimp only [go, fin]; (constructor <;> (try dsimp only) <;> first | with_reducible (first | assumption | exact rg_wi _ | exact h.a | exact h.b | exact h.d | exact h.i | exact h.j | exact h.n | exact h.t | exact h.l | exact h.up.ln | exact h.cap) | exact rg_lit (by decide) | with_reducible (first | exact rg_low _ | exact rg_high _)), rfl, by dsimp only [go, fin]; (first | with_reducible (first | assumption | exact rg_wi _ | exact h.a | exact h.b | exact h.d | exact h.i | exact h.j | exact h.n | exact h.t) | exact rg_lit (by decide) | with_reducible (first | exact rg_low _ | exact rg_high _)), by dsimp only [go, fin]; (first | with_reducible (first | exact EQ.of EP.refl | exact EQ.of EP.refl.ac) | (refine EQ.em (by first | with_reducible (first | exact EP.refl | exact EP.refl.ac)) ?_ ?_ ?_ ?_ ?_ <;> (first | with_reducible (first | assumption | exact rg_wi _ | exact h.a | exact h.b | exact h.d | exact h.i | exact h.j | exact h.n | exact h.t) | exact rg_lit (by decide) | with_reducible (first | exact rg_low _ | exact rg_high _))))⟩
theorem drainB_inv (h : FrR K f) (hv : Rg value) : LfP K e f (drainB e f code value) := by
  unfold drainB
  (repeat' split) <;> exact ⟨by dsimp only [go, fin]; (constructor <;> (try dsimp only) <;> first | with_reducible (first | assumption | exact rg_wi _ | exact h.a | exact h.b | exact h.d | exact h.i | exact h.j | exact h.n | exact h.t | exact h.l | exact h.up.ln | exact h.cap) | exact rg_lit (by decide) | with_reducible (first | exact rg_low _ | exact rg_high _)), rfl, by dsimp only [go, fin]; (first | with_reducible (first | assumption | exact rg_wi _ | exact h.a | exact h.b | exact h.d | exact h.i | exact h.j | exact h.n | exact h.t) | exact rg_lit (by decide) | with_reducible (first | exact rg_low _ | exact rg_high _)), by dsimp only [go, fin]; (first | with_reducible (first | exact EQ.of EP.refl | exact EQ.of EP.refl.ac) | (refine EQ.em (by first | with_reducible (first | exact EP.refl | exact EP.refl.ac)) ?_ ?_ ?_ ?_ ?_ <;> (first | with_reducible (first | assumption | exact rg_wi _ | exact h.a | exact h.b | exact h.d | exact h.i | exact h.j | exact h.n | exact h.t) | exact rg_lit (by decide) | with_reducible (first | exact rg_low _ | exact rg_high _))))⟩
theorem takeBk_inv (h : FrR K f) (hv : Rg value) : LfP K e f (takeBk e f code value) := by
  unfold takeBk
  (repeat' split) <;> exact ⟨by dsimp only [go, fin]; (constructor <;> (try dsimp only) <;> first | with_reducible (first | assumption | exact rg_wi _ | exact h.a | exact h.b | exact h.d | exact h.i | exact h.j | exact h.n | exact h.t | exact h.l | exact h.up.ln | exact h.cap) | exact rg_lit (by decide) | with_reducible (first | exact rg_low _ | exact rg_high _)), rfl, by dsimp only [go, fin]; (first | with_reducible (first | assumption | exact rg_wi _ | exact h.a | exact h.b | exact h.d | exact h.i | exact h.j | exact h.n | exact h.t) | exact rg_lit (by decide) | with_reducible (first | exact rg_low _ | exact rg_high _)), by dsimp only [go, fin]; (first | with_reducible (first | exact EQ.of EP.refl | exact EQ.of EP.refl.ac) | (refine EQ.em (by first | with_reducible (first | exact EP.refl | exact EP.refl.ac)) ?_ ?_ ?_ ?_ ?_ <;> (first | with_reducible (first | assumption | exact rg_wi _ | exact h.a | exact h.b | exact h.d | exact h.i | exact h.j | exact h.n | exact h.t) | exact rg_lit (by decide) | with_reducible (first | exact rg_low _ | exact rg_high _))))⟩
theorem workerBk_inv (h : FrR K f) (hv : Rg value) (hc : CfgOk e.c) : LfP K e f (workerBk e f code value) := by
  have t2 := hc.t2
  have h1 : Rg (Int.tmod (wi (f.j + 1)) (if 1 < e.c.tasks then e.c.tasks else 1)) := tmod_rg (by split <;> omega) (by split <;> omega)
  have h2 : Rg (Int.tmod value 64) := tmod_rg (by decide) (by decide)
  unfold workerBk
  by_cases l1 : f.line = 1
  · rw [if_pos l1]; exact ⟨by dsimp only [go, fin]; (constructor <;> (try dsimp only) <;> first | with_reducible (first | assumption | exact rg_wi _ | exact h.a | exact h.b | exact h.d | exact h.i | exact h.j | exact h.n | exact h.t | exact h.l | exact h.up.ln | exact h.cap) | exact rg_lit (by decide) | with_reducible (first | exact rg_low _ | exact rg_high _)), rfl, by dsimp only [go, fin]; (first | with_reducible (first | assumption | exact rg_wi _ | exact h.a | exact h.b | exact h.d | exact h.i | exact h.j | exact h.n | exact h.t) | exact rg_lit (by decide) | with_reducible (first | exact rg_low _ | exact rg_high _)), by dsimp only [go, fin]; (first | with_reducible (first | exact EQ.of EP.refl | exact EQ.of EP.refl.ac) | (refine EQ.em (by first | with_reducible (first | exact EP.refl | exact EP.refl.ac)) ?_ ?_ ?_ ?_ ?_ <;> (first | with_reducible (first | assumption | exact rg_wi _ | exact h.a | exact h.b | exact h.d | exact h.i | exact h.j | exact h.n | exact h.t) | exact rg_lit (by decide) | with_reducible (first | exact rg_low _ | exact rg_high _))))⟩
  rw [if_neg l1]
  (repeat' split) <;> exact ⟨by dsimp only [go, fin]; (constructor <;> (try dsimp only) <;> first | with_reducible (first | assumption | exact rg_wi _ | exact h.a | exact h.b | exact h.d | exact h.i | exact h.j | exact h.n | exact h.t | exact h.l | exact h.up.ln | exact h.cap) | exact rg_lit (by decide) | with_reducible (first | exact rg_low _ | exact rg_high _)), rfl, by dsimp only [go, fin]; (first | with_reducible (first | assumption | exact rg_wi _ | exact h.a | exact h.b | exact h.d | exact h.i | exact h.j | exact h.n | exact h.t) | exact rg_lit (by decide) | with_reducible (first | exact rg_low _ | exact rg_high _)), by dsimp only [go, fin]; (first | with_reducible (first | exact EQ.of EP.refl | exact EQ.of EP.refl.ac) | (refine EQ.em (by first | with_reducible (first | exact EP.refl | exact EP.refl.ac)) ?_ ?_ ?_ ?_ ?_ <;> (first | with_reducible (first | assumption | exact rg_wi _ | exact h.a | exact h.b | exact h.d | exact h.i | exact h.j | exact h.n | exact h.t) | exact rg_lit (by decide) | with_reducible (first | exact rg_low _ | exact rg_high _))))⟩
theorem client_top {o : Lf} (hk : f.kind = 26) (h : LfP K e f o) (hi : o.1.done = false → 0 ≤ o.2.2.i ∧ o.2.2.i ≤ (e.c.subs.length : Int)) : BackP K e f o :=
  ⟨h, fun d => ⟨fun e' => (by rw [h.kind, hk] at e'; cases e'), fun _ => hi d, fun e' => by rw [h.kind, hk] at e'; cases e'⟩⟩
theorem follow_inv (h : FrR K f) (hk : f.kind = 26) (hi : 0 ≤ f.i ∧ f.i < (e.c.subs.length : Int)) (hc : CfgOk e.c) : BackP K e f (followM e f) := by
  have hsl := hc.sl
  have e1 : wi (f.i + 1) = f.i + 1 := wi_id (rg_lit (by omega))
  unfold followM
  rw [e1]
  have hr : Rg (f.i + 1) := rg_lit (by omega)
  split
  · exact client_top hk (by exact ⟨by dsimp only [go, fin]; (constructor <;> (try dsimp only) <;> first | with_reducible (first | assumption | exact rg_wi _ | exact h.a | exact h.b | exact h.d | exact h.i | exact h.j | exact h.n | exact h.t | exact h.l | exact h.up.ln | exact h.cap) | exact rg_lit (by decide) | with_reducible (first | exact rg_low _ | exact rg_high _)), rfl, by dsimp only [go, fin]; (first | with_reducible (first | assumption | exact rg_wi _ | exact h.a | exact h.b | exact h.d | exact h.i | exact h.j | exact h.n | exact h.t) | exact rg_lit (by decide) | with_reducible (first | exact rg_low _ | exact rg_high _)), by dsimp only [go, fin]; (first | with_reducible (first | exact EQ.of EP.refl | exact EQ.of EP.refl.ac) | (refine EQ.em (by first | with_reducible (first | exact EP.refl | exact EP.refl.ac)) ?_ ?_ ?_ ?_ ?_ <;> (first | with_reducible (first | assumption | exact rg_wi _ | exact h.a | exact h.b | exact h.d | exact h.i | exact h.j | exact h.n | exact h.t) | exact rg_lit (by decide) | with_reducible (first | exact rg_low _ | exact rg_high _))))⟩) fun d => by cases d
  · exact client_top hk (by exact ⟨by dsimp only [go, fin]; (constructor <;> (try dsimp only) <;> first | with_reducible (first | assumption | exact rg_wi _ | exact h.a | exact h.b | exact h.d | exact h.i | exact h.j | exact h.n | exact h.t | exact h.l | exact h.up.ln | exact h.cap) | exact rg_lit (by decide) | with_reducible (first | exact rg_low _ | exact rg_high _)), rfl, by dsimp only [go, fin]; (first | with_reducible (first | assumption | exact rg_wi _ | exact h.a | exact h.b | exact h.d | exact h.i | exact h.j | exact h.n | exact h.t) | exact rg_lit (by decide) | with_reducible (first | exact rg_low _ | exact rg_high _)), by dsimp only [go, fin]; (first | with_reducible (first | exact EQ.of EP.refl | exact EQ.of EP.refl.ac) | (refine EQ.em (by first | with_reducible (first | exact EP.refl | exact EP.refl.ac)) ?_ ?_ ?_ ?_ ?_ <;> (first | with_reducible (first | assumption | exact rg_wi _ | exact h.a | exact h.b | exact h.d | exact h.i | exact h.j | exact h.n | exact h.t) | exact rg_lit (by decide) | with_reducible (first | exact rg_low _ | exact rg_high _))))⟩) fun _ => by dsimp only [go]; omega
theorem clientB_inv {ch : FrV} (h : FrR K f) (he : EnvOk K e) (hv : Rg value) (hk : f.kind = 26) (hp : ParOk e.c f ch) (h12 : ch.kind = 12 → code = 3 ∨ (0 ≤ value ∧ value < (e.recs.length : Int))) : BackP K e f (clientB e f code value) := by
  have hc := he.cf
  have w1 := hc.w1
  have w2 := hc.w2
  have hw : Rg e.c.workers := rg_lit (by omega)
  obtain ⟨i1, i2, i3⟩ := hp.cl hk
  have hsub := hc.sub _ (at_in (d := dfR 4) (xs := e.c.subs) (i := f.i) ⟨i1, i2⟩)
  have hs1 : Rg (e.sub f.i).level := hsub.1
  have hi2 : f.i ≤ (e.c.subs.length : Int) := Int.le_of_lt i2
  unfold clientB
  by_cases l1 : f.line = 1
  · rw [if_pos l1]; exact client_top hk (by exact ⟨by dsimp only [go, fin]; (constructor <;> (try dsimp only) <;> first | with_reducible (first | assumption | exact rg_wi _ | exact h.a | exact h.b | exact h.d | exact h.i | exact h.j | exact h.n | exact h.t | exact h.l | exact h.up.ln | exact h.cap) | exact rg_lit (by decide) | with_reducible (first | exact rg_low _ | exact rg_high _)), rfl, by dsimp only [go, fin]; (first | with_reducible (first | assumption | exact rg_wi _ | exact h.a | exact h.b | exact h.d | exact h.i | exact h.j | exact h.n | exact h.t) | exact rg_lit (by decide) | with_reducible (first | exact rg_low _ | exact rg_high _)), by dsimp only [go, fin]; (first | with_reducible (first | exact EQ.of EP.refl | exact EQ.of EP.refl.ac) | (refine EQ.em (by first | with_reducible (first | exact EP.refl | exact EP.refl.ac)) ?_ ?_ ?_ ?_ ?_ <;> (first | with_reducible (first | assumption | exact rg_wi _ | exact h.a | exact h.b | exact h.d | exact h.i | exact h.j | exact h.n | exact h.t) | exact rg_lit (by decide) | with_reducible (first | exact rg_low _ | exact rg_high _))))⟩) fun _ => ⟨i1, hi2⟩
  rw [if_neg l1]
  by_cases l3 : f.line = 3
  · rw [if_pos l3]
    split
    · exact client_top hk (by exact ⟨by dsimp only [go, fin]; (constructor <;> (try dsimp only) <;> first | with_reducible (first | assumption | exact rg_wi _ | exact h.a | exact h.b | exact h.d | exact h.i | exact h.j | exact h.n | exact h.t | exact h.l | exact h.up.ln | exact h.cap) | exact rg_lit (by decide) | with_reducible (first | exact rg_low _ | exact rg_high _)), rfl, by dsimp only [go, fin]; (first | with_reducible (first | assumption | exact rg_wi _ | exact h.a | exact h.b | exact h.d | exact h.i | exact h.j | exact h.n | exact h.t) | exact rg_lit (by decide) | with_reducible (first | exact rg_low _ | exact rg_high _)), by dsimp only [go, fin]; (first | with_reducible (first | exact EQ.of EP.refl | exact EQ.of EP.refl.ac) | (refine EQ.em (by first | with_reducible (first | exact EP.refl | exact EP.refl.ac)) ?_ ?_ ?_ ?_ ?_ <;> (first | with_reducible (first | assumption | exact rg_wi _ | exact h.a | exact h.b | exact h.d | exact h.i | exact h.j | exact h.n | exact h.t) | exact rg_lit (by decide) | with_reducible (first | exact rg_low _ | exact rg_high _))))⟩) fun _ => ⟨i1, hi2⟩
    · exact client_top hk ⟨by dsimp only [go]; (constructor <;> (try dsimp only) <;> first | with_reducible (first | assumption | exact rg_wi _ | exact h.a | exact h.b | exact h.d | exact h.i | exact h.j | exact h.n | exact h.t | exact h.l | exact h.up.ln | exact h.cap) | exact rg_lit (by decide) | with_reducible (first | exact rg_low _ | exact rg_high _)), rfl, rg0, EQ.of (EP.refl.put fun _ => ⟨Nat.zero_le _, fun x hx => by cases hx⟩)⟩ fun _ => ⟨i1, hi2⟩
  rw [if_neg l3]
  by_cases l6 : f.line = 6
  · rw [if_pos l6]
    split
    · exact client_top hk (by exact ⟨by dsimp only [go, fin]; (constructor <;> (try dsimp only) <;> first | with_reducible (first | assumption | exact rg_wi _ | exact h.a | exact h.b | exact h.d | exact h.i | exact h.j | exact h.n | exact h.t | exact h.l | exact h.up.ln | exact h.cap) | exact rg_lit (by decide) | with_reducible (first | exact rg_low _ | exact rg_high _)), rfl, by dsimp only [go, fin]; (first | with_reducible (first | assumption | exact rg_wi _ | exact h.a | exact h.b | exact h.d | exact h.i | exact h.j | exact h.n | exact h.t) | exact rg_lit (by decide) | with_reducible (first | exact rg_low _ | exact rg_high _)), by dsimp only [go, fin]; (first | with_reducible (first | exact EQ.of EP.refl | exact EQ.of EP.refl.ac) | (refine EQ.em (by first | with_reducible (first | exact EP.refl | exact EP.refl.ac)) ?_ ?_ ?_ ?_ ?_ <;> (first | with_reducible (first | assumption | exact rg_wi _ | exact h.a | exact h.b | exact h.d | exact h.i | exact h.j | exact h.n | exact h.t) | exact rg_lit (by decide) | with_reducible (first | exact rg_low _ | exact rg_high _))))⟩) fun _ => ⟨i1, hi2⟩
    · exact client_top hk (by exact ⟨by dsimp only [go, fin]; (constructor <;> (try dsimp only) <;> first | with_reducible (first | assumption | exact rg_wi _ | exact h.a | exact h.b | exact h.d | exact h.i | exact h.j | exact h.n | exact h.t | exact h.l | exact h.up.ln | exact h.cap) | exact rg_lit (by decide) | with_reducible (first | exact rg_low _ | exact rg_high _)), rfl, by dsimp only [go, fin]; (first | with_reducible (first | assumption | exact rg_wi _ | exact h.a | exact h.b | exact h.d | exact h.i | exact h.j | exact h.n | exact h.t) | exact rg_lit (by decide) | with_reducible (first | exact rg_low _ | exact rg_high _)), by dsimp only [go, fin]; (first | with_reducible (first | exact EQ.of EP.refl | exact EQ.of EP.refl.ac) | (refine EQ.em (by first | with_reducible (first | exact EP.refl | exact EP.refl.ac)) ?_ ?_ ?_ ?_ ?_ <;> (first | with_reducible (first | assumption | exact rg_wi _ | exact h.a | exact h.b | exact h.d | exact h.i | exact h.j | exact h.n | exact h.t) | exact rg_lit (by decide) | with_reducible (first | exact rg_low _ | exact rg_high _))))⟩) fun _ => ⟨i1, hi2⟩
  rw [if_neg l6]
  split
  · split
    · exact client_top hk (by exact ⟨by dsimp only [go, fin]; (constructor <;> (try dsimp only) <;> first | with_reducible (first | assumption | exact rg_wi _ | exact h.a | exact h.b | exact h.d | exact h.i | exact h.j | exact h.n | exact h.t | exact h.l | exact h.up.ln | exact h.cap) | exact rg_lit (by decide) | with_reducible (first | exact rg_low _ | exact rg_high _)), rfl, by dsimp only [go, fin]; (first | with_reducible (first | assumption | exact rg_wi _ | exact h.a | exact h.b | exact h.d | exact h.i | exact h.j | exact h.n | exact h.t) | exact rg_lit (by decide) | with_reducible (first | exact rg_low _ | exact rg_high _)), by dsimp only [go, fin]; (first | with_reducible (first | exact EQ.of EP.refl | exact EQ.of EP.refl.ac) | (refine EQ.em (by first | with_reducible (first | exact EP.refl | exact EP.refl.ac)) ?_ ?_ ?_ ?_ ?_ <;> (first | with_reducible (first | assumption | exact rg_wi _ | exact h.a | exact h.b | exact h.d | exact h.i | exact h.j | exact h.n | exact h.t) | exact rg_lit (by decide) | with_reducible (first | exact rg_low _ | exact rg_high _))))⟩) fun _ => ⟨i1, hi2⟩
    · exact follow_inv h hk ⟨i1, i2⟩ hc
  · exact follow_inv h hk ⟨i1, i2⟩ hc
theorem run_top {o : Lf} (hk : f.kind = 24) (h : LfP K e f o) (ht : o.1.done = false → RunTop e.c o.2.2) : BackP K e f o :=
  ⟨h, fun d => ⟨fun _ => ht d, fun e' => (by rw [h.kind, hk] at e'; cases e'), fun e' => by rw [h.kind, hk] at e'; cases e'⟩⟩
theorem ins_rg (hc : CfgOk e.c) {t : Int} (h1 : PcIn e t) : Rg (e.ins t).a ∧ Rg (e.ins t).b := by
  obtain ⟨p1, p2⟩ := h1
  have hp := PcIn.prog ⟨p1, p2⟩
  have m1 : e.prog t ∈ e.c.progs := by rw [hp]; exact List.mem_of_getElem? (atL_get p1)
  have m2 : e.ins t ∈ e.prog t := List.mem_of_getElem? (atL_get (d := dfR 3) p2)
  exact ⟨(hc.ins _ m1 _ m2).1, (hc.ins _ m1 _ m2).2.1⟩
theorem runB_inv {ch : FrV} (h : FrR K f) (he : EnvOk K e) (hv : Rg value) (hk : f.kind = 24) (hp : ParOk e.c f ch) (hpc : PcP e f) : BackP K e f (runB e f code value) := by
  obtain ⟨hl, ht, h5, h3, h23⟩ := hp.run hk
  have hT := top_rg h
  have hrt : ∀ (n : Int) (g : FrV), g.l = f.l → g.line = n → n ≠ 3 → n ≠ 5 → n ≠ 23 → RunTop e.c g := fun n g e1 e2 a b d => ⟨by rw [e1]; exact hl, by rw [e2]; exact a, by rw [e2]; exact b, by rw [e2]; exact d, fun _ => by rw [e1]; exact ht⟩
  have hr : ∀ (k : Int), Rg k → RcsR K e.c e.recs → (kidR (e.rc (topL f.l)) k).kids.length ≤ K + 1 ∧ ∀ x ∈ (kidR (e.rc (topL f.l)) k).kids, Rg x := fun k hk hr => by
    have := rc_ok hr (topL f.l)
    refine ⟨by simp [kidR]; exact this.1, fun x hx => ?_⟩
    rcases List.mem_append.1 hx with hx | hx
    · exact this.2 x hx
    · rw [List.mem_singleton] at hx; subst hx; exact hk
  unfold runB
  by_cases l5 : f.line = 5
  · rw [if_pos l5]
    have hi := ins_rg he.cf (hpc hk l5)
    have hi2 := hi.2
    split
    · refine run_top hk ⟨by dsimp only [go]; (constructor <;> (try dsimp only) <;> first | with_reducible (first | assumption | exact rg_wi _ | exact h.a | exact h.b | exact h.d | exact h.i | exact h.j | exact h.n | exact h.t | exact h.l | exact h.up.ln | exact h.cap) | exact rg_lit (by decide) | with_reducible (first | exact rg_low _ | exact rg_high _)), rfl, rg0, EQ.em (EP.refl.put (hr (-1) (rg_lit (by decide)))) ?_ ?_ ?_ ?_ ?_⟩ fun _ => hrt 1 _ rfl rfl (by decide) (by decide) (by decide)
      all_goals (first | with_reducible (first | assumption | exact rg_wi _ | exact h.a | exact h.b | exact h.d | exact h.i | exact h.j | exact h.n | exact h.t) | exact rg_lit (by decide) | with_reducible (first | exact rg_low _ | exact rg_high _))
    · refine run_top hk ⟨by dsimp only [go]; (constructor <;> (try dsimp only) <;> first | with_reducible (first | assumption | exact rg_wi _ | exact h.a | exact h.b | exact h.d | exact h.i | exact h.j | exact h.n | exact h.t | exact h.l | exact h.up.ln | exact h.cap) | exact rg_lit (by decide) | with_reducible (first | exact rg_low _ | exact rg_high _)), rfl, rg0, EQ.of ((EP.refl.put (hr value hv)).put fun _ => ⟨Nat.zero_le _, fun x hx => by cases hx⟩)⟩ fun _ => hrt 6 _ rfl rfl (by decide) (by decide) (by decide)
  rw [if_neg l5]
  by_cases l6 : f.line = 6
  · rw [if_pos l6]; exact run_top hk (by exact ⟨by dsimp only [go, fin]; (constructor <;> (try dsimp only) <;> first | with_reducible (first | assumption | exact rg_wi _ | exact h.a | exact h.b | exact h.d | exact h.i | exact h.j | exact h.n | exact h.t | exact h.l | exact h.up.ln | exact h.cap) | exact rg_lit (by decide) | with_reducible (first | exact rg_low _ | exact rg_high _)), rfl, by dsimp only [go, fin]; (first | with_reducible (first | assumption | exact rg_wi _ | exact h.a | exact h.b | exact h.d | exact h.i | exact h.j | exact h.n | exact h.t) | exact rg_lit (by decide) | with_reducible (first | exact rg_low _ | exact rg_high _)), by dsimp only [go, fin]; (first | with_reducible (first | exact EQ.of EP.refl | exact EQ.of EP.refl.ac) | (refine EQ.em (by first | with_reducible (first | exact EP.refl | exact EP.refl.ac)) ?_ ?_ ?_ ?_ ?_ <;> (first | with_reducible (first | assumption | exact rg_wi _ | exact h.a | exact h.b | exact h.d | exact h.i | exact h.j | exact h.n | exact h.t) | exact rg_lit (by decide) | with_reducible (first | exact rg_low _ | exact rg_high _))))⟩) fun _ => hrt 7 _ rfl rfl (by decide) (by decide) (by decide)
  rw [if_neg l6]
  by_cases l7 : f.line = 7
  · rw [if_pos l7]
    split
    · exact run_top hk (by exact ⟨by dsimp only [go, fin]; (constructor <;> (try dsimp only) <;> first | with_reducible (first | assumption | exact rg_wi _ | exact h.a | exact h.b | exact h.d | exact h.i | exact h.j | exact h.n | exact h.t | exact h.l | exact h.up.ln | exact h.cap) | exact rg_lit (by decide) | with_reducible (first | exact rg_low _ | exact rg_high _)), rfl, by dsimp only [go, fin]; (first | with_reducible (first | assumption | exact rg_wi _ | exact h.a | exact h.b | exact h.d | exact h.i | exact h.j | exact h.n | exact h.t) | exact rg_lit (by decide) | with_reducible (first | exact rg_low _ | exact rg_high _)), by dsimp only [go, fin]; (first | with_reducible (first | exact EQ.of EP.refl | exact EQ.of EP.refl.ac) | (refine EQ.em (by first | with_reducible (first | exact EP.refl | exact EP.refl.ac)) ?_ ?_ ?_ ?_ ?_ <;> (first | with_reducible (first | assumption | exact rg_wi _ | exact h.a | exact h.b | exact h.d | exact h.i | exact h.j | exact h.n | exact h.t) | exact rg_lit (by decide) | with_reducible (first | exact rg_low _ | exact rg_high _))))⟩) fun _ => hrt 9 _ rfl rfl (by decide) (by decide) (by decide)
    · exact run_top hk (by exact ⟨by dsimp only [go, fin]; (constructor <;> (try dsimp only) <;> first | with_reducible (first | assumption | exact rg_wi _ | exact h.a | exact h.b | exact h.d | exact h.i | exact h.j | exact h.n | exact h.t | exact h.l | exact h.up.ln | exact h.cap) | exact rg_lit (by decide) | with_reducible (first | exact rg_low _ | exact rg_high _)), rfl, by dsimp only [go, fin]; (first | with_reducible (first | assumption | exact rg_wi _ | exact h.a | exact h.b | exact h.d | exact h.i | exact h.j | exact h.n | exact h.t) | exact rg_lit (by decide) | with_reducible (first | exact rg_low _ | exact rg_high _)), by dsimp only [go, fin]; (first | with_reducible (first | exact EQ.of EP.refl | exact EQ.of EP.refl.ac) | (refine EQ.em (by first | with_reducible (first | exact EP.refl | exact EP.refl.ac)) ?_ ?_ ?_ ?_ ?_ <;> (first | with_reducible (first | assumption | exact rg_wi _ | exact h.a | exact h.b | exact h.d | exact h.i | exact h.j | exact h.n | exact h.t) | exact rg_lit (by decide) | with_reducible (first | exact rg_low _ | exact rg_high _))))⟩) fun _ => hrt 8 _ rfl rfl (by decide) (by decide) (by decide)
  rw [if_neg l7]
  by_cases l8 : f.line = 8
  · rw [if_pos l8]; exact run_top hk (by exact ⟨by dsimp only [go, fin]; (constructor <;> (try dsimp only) <;> first | with_reducible (first | assumption | exact rg_wi _ | exact h.a | exact h.b | exact h.d | exact h.i | exact h.j | exact h.n | exact h.t | exact h.l | exact h.up.ln | exact h.cap) | exact rg_lit (by decide) | with_reducible (first | exact rg_low _ | exact rg_high _)), rfl, by dsimp only [go, fin]; (first | with_reducible (first | assumption | exact rg_wi _ | exact h.a | exact h.b | exact h.d | exact h.i | exact h.j | exact h.n | exact h.t) | exact rg_lit (by decide) | with_reducible (first | exact rg_low _ | exact rg_high _)), by dsimp only [go, fin]; (first | with_reducible (first | exact EQ.of EP.refl | exact EQ.of EP.refl.ac) | (refine EQ.em (by first | with_reducible (first | exact EP.refl | exact EP.refl.ac)) ?_ ?_ ?_ ?_ ?_ <;> (first | with_reducible (first | assumption | exact rg_wi _ | exact h.a | exact h.b | exact h.d | exact h.i | exact h.j | exact h.n | exact h.t) | exact rg_lit (by decide) | with_reducible (first | exact rg_low _ | exact rg_high _))))⟩) fun _ => hrt 1 _ rfl rfl (by decide) (by decide) (by decide)
  rw [if_neg l8]
  by_cases l9 : f.line = 9
  · rw [if_pos l9]
    split
    · have hln : (f.l ++ [f.n]).length ≤ K + 1 := by have := h.ln; simp; omega
      have hll : ∀ x ∈ f.l ++ [f.n], Rg x := fun x hx => by
        rcases List.mem_append.1 hx with hx | hx
        · exact h.l x hx
        · rw [List.mem_singleton] at hx; subst hx; exact h.n
      exact run_top hk (by exact ⟨by dsimp only [go, fin]; (constructor <;> (try dsimp only) <;> first | with_reducible (first | assumption | exact rg_wi _ | exact h.a | exact h.b | exact h.d | exact h.i | exact h.j | exact h.n | exact h.t | exact h.l | exact h.up.ln | exact h.cap) | exact rg_lit (by decide) | with_reducible (first | exact rg_low _ | exact rg_high _)), rfl, by dsimp only [go, fin]; (first | with_reducible (first | assumption | exact rg_wi _ | exact h.a | exact h.b | exact h.d | exact h.i | exact h.j | exact h.n | exact h.t) | exact rg_lit (by decide) | with_reducible (first | exact rg_low _ | exact rg_high _)), by dsimp only [go, fin]; (first | with_reducible (first | exact EQ.of EP.refl | exact EQ.of EP.refl.ac) | (refine EQ.em (by first | with_reducible (first | exact EP.refl | exact EP.refl.ac)) ?_ ?_ ?_ ?_ ?_ <;> (first | with_reducible (first | assumption | exact rg_wi _ | exact h.a | exact h.b | exact h.d | exact h.i | exact h.j | exact h.n | exact h.t) | exact rg_lit (by decide) | with_reducible (first | exact rg_low _ | exact rg_high _))))⟩) fun _ => ⟨by simp [go], by simp [go], by simp [go], by simp [go], fun e => absurd rfl e⟩
    · exact run_top hk (by exact ⟨by dsimp only [go, fin]; (constructor <;> (try dsimp only) <;> first | with_reducible (first | assumption | exact rg_wi _ | exact h.a | exact h.b | exact h.d | exact h.i | exact h.j | exact h.n | exact h.t | exact h.l | exact h.up.ln | exact h.cap) | exact rg_lit (by decide) | with_reducible (first | exact rg_low _ | exact rg_high _)), rfl, by dsimp only [go, fin]; (first | with_reducible (first | assumption | exact rg_wi _ | exact h.a | exact h.b | exact h.d | exact h.i | exact h.j | exact h.n | exact h.t) | exact rg_lit (by decide) | with_reducible (first | exact rg_low _ | exact rg_high _)), by dsimp only [go, fin]; (first | with_reducible (first | exact EQ.of EP.refl | exact EQ.of EP.refl.ac) | (refine EQ.em (by first | with_reducible (first | exact EP.refl | exact EP.refl.ac)) ?_ ?_ ?_ ?_ ?_ <;> (first | with_reducible (first | assumption | exact rg_wi _ | exact h.a | exact h.b | exact h.d | exact h.i | exact h.j | exact h.n | exact h.t) | exact rg_lit (by decide) | with_reducible (first | exact rg_low _ | exact rg_high _))))⟩) fun _ => hrt 1 _ rfl rfl (by decide) (by decide) (by decide)
  rw [if_neg l9]
  by_cases l14 : f.line = 14
  · rw [if_pos l14]
    have := leave_inv (e := e) h (EQ.em (e' := e) (k := 7) (w := f.a) (t := topL f.l) (o := 0) (l := f.t) EP.refl (rg_lit (by decide)) h.a hT rg0 h.t)
    exact run_top hk this.1 (this.2 hl)
  rw [if_neg l14]
  by_cases l20 : f.line = 20
  · rw [if_pos l20]
    split
    · exact run_top hk (by exact ⟨by dsimp only [go, fin]; (constructor <;> (try dsimp only) <;> first | with_reducible (first | assumption | exact rg_wi _ | exact h.a | exact h.b | exact h.d | exact h.i | exact h.j | exact h.n | exact h.t | exact h.l | exact h.up.ln | exact h.cap) | exact rg_lit (by decide) | with_reducible (first | exact rg_low _ | exact rg_high _)), rfl, by dsimp only [go, fin]; (first | with_reducible (first | assumption | exact rg_wi _ | exact h.a | exact h.b | exact h.d | exact h.i | exact h.j | exact h.n | exact h.t) | exact rg_lit (by decide) | with_reducible (first | exact rg_low _ | exact rg_high _)), by dsimp only [go, fin]; (first | with_reducible (first | exact EQ.of EP.refl | exact EQ.of EP.refl.ac) | (refine EQ.em (by first | with_reducible (first | exact EP.refl | exact EP.refl.ac)) ?_ ?_ ?_ ?_ ?_ <;> (first | with_reducible (first | assumption | exact rg_wi _ | exact h.a | exact h.b | exact h.d | exact h.i | exact h.j | exact h.n | exact h.t) | exact rg_lit (by decide) | with_reducible (first | exact rg_low _ | exact rg_high _))))⟩) fun _ => hrt 22 _ rfl rfl (by decide) (by decide) (by decide)
    · exact run_top hk (by exact ⟨by dsimp only [go, fin]; (constructor <;> (try dsimp only) <;> first | with_reducible (first | assumption | exact rg_wi _ | exact h.a | exact h.b | exact h.d | exact h.i | exact h.j | exact h.n | exact h.t | exact h.l | exact h.up.ln | exact h.cap) | exact rg_lit (by decide) | with_reducible (first | exact rg_low _ | exact rg_high _)), rfl, by dsimp only [go, fin]; (first | with_reducible (first | assumption | exact rg_wi _ | exact h.a | exact h.b | exact h.d | exact h.i | exact h.j | exact h.n | exact h.t) | exact rg_lit (by decide) | with_reducible (first | exact rg_low _ | exact rg_high _)), by dsimp only [go, fin]; (first | with_reducible (first | exact EQ.of EP.refl | exact EQ.of EP.refl.ac) | (refine EQ.em (by first | with_reducible (first | exact EP.refl | exact EP.refl.ac)) ?_ ?_ ?_ ?_ ?_ <;> (first | with_reducible (first | assumption | exact rg_wi _ | exact h.a | exact h.b | exact h.d | exact h.i | exact h.j | exact h.n | exact h.t) | exact rg_lit (by decide) | with_reducible (first | exact rg_low _ | exact rg_high _))))⟩) fun _ => hrt 21 _ rfl rfl (by decide) (by decide) (by decide)
  rw [if_neg l20]
  by_cases l21 : f.line = 21
  · rw [if_pos l21]
    have := leave_inv (e := e) h (EQ.of EP.refl)
    exact run_top hk this.1 (this.2 hl)
  rw [if_neg l21]
  by_cases l22 : f.line = 22
  · rw [if_pos l22]
    split
    · have hln : (f.l.dropLast ++ [f.n]).length ≤ K + 1 := by have := h.ln; simp; omega
      have hll : ∀ x ∈ f.l.dropLast ++ [f.n], Rg x := fun x hx => by
        rcases List.mem_append.1 hx with hx | hx
        · exact h.l x (List.mem_of_mem_take (by rw [List.dropLast_eq_take] at hx; exact hx))
        · rw [List.mem_singleton] at hx; subst hx; exact h.n
      exact run_top hk (by exact ⟨by dsimp only [go, fin]; (constructor <;> (try dsimp only) <;> first | with_reducible (first | assumption | exact rg_wi _ | exact h.a | exact h.b | exact h.d | exact h.i | exact h.j | exact h.n | exact h.t | exact h.l | exact h.up.ln | exact h.cap) | exact rg_lit (by decide) | with_reducible (first | exact rg_low _ | exact rg_high _)), rfl, by dsimp only [go, fin]; (first | with_reducible (first | assumption | exact rg_wi _ | exact h.a | exact h.b | exact h.d | exact h.i | exact h.j | exact h.n | exact h.t) | exact rg_lit (by decide) | with_reducible (first | exact rg_low _ | exact rg_high _)), by dsimp only [go, fin]; (first | with_reducible (first | exact EQ.of EP.refl | exact EQ.of EP.refl.ac) | (refine EQ.em (by first | with_reducible (first | exact EP.refl | exact EP.refl.ac)) ?_ ?_ ?_ ?_ ?_ <;> (first | with_reducible (first | assumption | exact rg_wi _ | exact h.a | exact h.b | exact h.d | exact h.i | exact h.j | exact h.n | exact h.t) | exact rg_lit (by decide) | with_reducible (first | exact rg_low _ | exact rg_high _))))⟩) fun _ => ⟨by simp [go], by simp [go], by simp [go], by simp [go], fun e => absurd rfl e⟩
    · have := leave_inv (e := e) h (EQ.of EP.refl)
      exact run_top hk this.1 (this.2 hl)
  rw [if_neg l22]
  exact run_top hk ⟨h.up, rfl, rg0, EQ.of EP.refl⟩ fun _ => ⟨hl, h3, l5, h23, fun _ => ht⟩
theorem back_inv {ch : FrV} (h : FrR K f) (he : EnvOk K e) (hcd : True) (hv : Rg value) (hp : ParOk e.c f ch) (hpc : PcP e f) (h12 : ch.kind = 12 → code = 3 ∨ (0 ≤ value ∧ value < (e.recs.length : Int))) : BackP K e f (backM e f code value) := by
  unfold backM
  by_cases k5 : f.kind = 5
  · rw [if_pos k5]
    refine BackP.of ?_ (by rw [k5]; decide) (by rw [k5]; decide) (by rw [k5]; decide)
    (repeat' split) <;> exact ⟨by dsimp only [go, fin]; (constructor <;> (try dsimp only) <;> first | with_reducible (first | assumption | exact rg_wi _ | exact h.a | exact h.b | exact h.d | exact h.i | exact h.j | exact h.n | exact h.t | exact h.l | exact h.up.ln | exact h.cap) | exact rg_lit (by decide) | with_reducible (first | exact rg_low _ | exact rg_high _)), rfl, by dsimp only [go, fin]; (first | with_reducible (first | assumption | exact rg_wi _ | exact h.a | exact h.b | exact h.d | exact h.i | exact h.j | exact h.n | exact h.t) | exact rg_lit (by decide) | with_reducible (first | exact rg_low _ | exact rg_high _)), by dsimp only [go, fin]; (first | with_reducible (first | exact EQ.of EP.refl | exact EQ.of EP.refl.ac) | (refine EQ.em (by first | with_reducible (first | exact EP.refl | exact EP.refl.ac)) ?_ ?_ ?_ ?_ ?_ <;> (first | with_reducible (first | assumption | exact rg_wi _ | exact h.a | exact h.b | exact h.d | exact h.i | exact h.j | exact h.n | exact h.t) | exact rg_lit (by decide) | with_reducible (first | exact rg_low _ | exact rg_high _))))⟩
  rw [if_neg k5]
  by_cases k6 : f.kind = 6
  · rw [if_pos k6]
    refine BackP.of ?_ (by rw [k6]; decide) (by rw [k6]; decide) (by rw [k6]; decide)
    (repeat' split) <;> exact ⟨by dsimp only [go, fin]; (constructor <;> (try dsimp only) <;> first | with_reducible (first | assumption | exact rg_wi _ | exact h.a | exact h.b | exact h.d | exact h.i | exact h.j | exact h.n | exact h.t | exact h.l | exact h.up.ln | exact h.cap) | exact rg_lit (by decide) | with_reducible (first | exact rg_low _ | exact rg_high _)), rfl, by dsimp only [go, fin]; (first | with_reducible (first | assumption | exact rg_wi _ | exact h.a | exact h.b | exact h.d | exact h.i | exact h.j | exact h.n | exact h.t) | exact rg_lit (by decide) | with_reducible (first | exact rg_low _ | exact rg_high _)), by dsimp only [go, fin]; (first | with_reducible (first | exact EQ.of EP.refl | exact EQ.of EP.refl.ac) | (refine EQ.em (by first | with_reducible (first | exact EP.refl | exact EP.refl.ac)) ?_ ?_ ?_ ?_ ?_ <;> (first | with_reducible (first | assumption | exact rg_wi _ | exact h.a | exact h.b | exact h.d | exact h.i | exact h.j | exact h.n | exact h.t) | exact rg_lit (by decide) | with_reducible (first | exact rg_low _ | exact rg_high _))))⟩
  rw [if_neg k6]
  by_cases k15 : f.kind = 15
  · rw [if_pos k15]
    exact BackP.of ⟨h.up, rfl, h.t, EQ.of EP.refl⟩ (by rw [k15]; decide) (by rw [k15]; decide) (by rw [k15]; decide)
  rw [if_neg k15]
  by_cases k17 : f.kind = 17
  · rw [if_pos k17]; exact BackP.of (walkB_inv h) (by rw [k17]; decide) (by rw [k17]; decide) (by rw [k17]; decide)
  rw [if_neg k17]
  by_cases k18 : f.kind = 18
  · rw [if_pos k18]
    refine BackP.of ?_ (by rw [k18]; decide) (by rw [k18]; decide) (by rw [k18]; decide)
    (repeat' split) <;> exact ⟨by dsimp only [go, fin]; (constructor <;> (try dsimp only) <;> first | with_reducible (first | assumption | exact rg_wi _ | exact h.a | exact h.b | exact h.d | exact h.i | exact h.j | exact h.n | exact h.t | exact h.l | exact h.up.ln | exact h.cap) | exact rg_lit (by decide) | with_reducible (first | exact rg_low _ | exact rg_high _)), rfl, by dsimp only [go, fin]; (first | with_reducible (first | assumption | exact rg_wi _ | exact h.a | exact h.b | exact h.d | exact h.i | exact h.j | exact h.n | exact h.t) | exact rg_lit (by decide) | with_reducible (first | exact rg_low _ | exact rg_high _)), by dsimp only [go, fin]; (first | with_reducible (first | exact EQ.of EP.refl | exact EQ.of EP.refl.ac) | (refine EQ.em (by first | with_reducible (first | exact EP.refl | exact EP.refl.ac)) ?_ ?_ ?_ ?_ ?_ <;> (first | with_reducible (first | assumption | exact rg_wi _ | exact h.a | exact h.b | exact h.d | exact h.i | exact h.j | exact h.n | exact h.t) | exact rg_lit (by decide) | with_reducible (first | exact rg_low _ | exact rg_high _))))⟩
  rw [if_neg k18]
  by_cases k22 : f.kind = 22
  · rw [if_pos k22]; exact BackP.of (drainB_inv h hv) (by rw [k22]; decide) (by rw [k22]; decide) (by rw [k22]; decide)
  rw [if_neg k22]
  by_cases k23 : f.kind = 23
  · rw [if_pos k23]; exact BackP.of (takeBk_inv h hv) (by rw [k23]; decide) (by rw [k23]; decide) (by rw [k23]; decide)
  rw [if_neg k23]
  by_cases k24 : f.kind = 24
  · rw [if_pos k24]; exact runB_inv h he hv k24 hp hpc
  rw [if_neg k24]
  by_cases k25 : f.kind = 25
  · rw [if_pos k25]; exact BackP.of (workerBk_inv h hv he.cf) (by rw [k25]; decide) (by rw [k25]; decide) (by rw [k25]; decide)
  rw [if_neg k25]
  by_cases k26 : f.kind = 26
  · rw [if_pos k26]; exact clientB_inv h he hv k26 hp h12
  rw [if_neg k26]
  have h0 := hp.rk
  unfold rank at h0
  exfalso
  (repeat' split at h0) <;> omega
theorem ParOk.pre {ch : FrV} (hp : ParOk e.c f ch) (h : FrR K f) (he : EnvOk K e) (hpc : PcP e f) (hK : K ≤ 900000000) (h12 : ch.kind = 12 → code = 3 ∨ (0 ≤ value ∧ value < (e.recs.length : Int))) : BackC e f code value := ⟨he.cf, he.fit hK, fun hk => by
    obtain ⟨h1, h2, h3, h4, h5⟩ := hp.run hk
    refine ⟨⟨⟨h1, by have := h.ln; omega⟩, by have := he.rcs.1; exact ⟨by omega, by omega⟩⟩, fun l5 => ⟨hpc hk l5, by have := (rc_ok he.rcs (topL f.l)).1; omega, fun hcode => (h12 (h3 l5)).resolve_left hcode⟩⟩, fun hk => by
    obtain ⟨h1, h2, h3⟩ := hp.cl hk
    exact ⟨⟨h1, h2⟩, fun l3 hcode => (h12 (h3 l3)).resolve_left hcode⟩⟩
end
/-! ### The stack -/
def Par (K : Nat) (c : Cfg) : List FrV → FrV → Prop
  | [], _ => True
  | p :: ps, ch => ParOk c p ch ∧ FrR K p ∧ Par K c ps p
def Rest (p : FrV) : Prop := ¬ (p.kind = 24 ∧ p.line = 5)
section
variable {K : Nat} {c : Cfg}
theorem ParOk.ch {p a b : FrV} (h : ParOk c p a) (e : b.kind = a.kind) : ParOk c p b := ⟨by rw [e]; exact h.rk, by rw [e]; exact h.run, by rw [e]; exact h.cl⟩
theorem Par.ch {ps : List FrV} {a b : FrV} (h : Par K c ps a) (e : b.kind = a.kind) : Par K c ps b := by
  cases ps with
  | nil => trivial
  | cons p ps => exact ⟨h.1.ch e, h.2⟩
theorem Par.le {L : Nat} : ∀ {ps : List FrV} {a : FrV}, Par K c ps a → K ≤ L → Par L c ps a
  | [], _, _, _ => trivial
  | _ :: _, _, h, hl => ⟨h.1, h.2.1.le hl, h.2.2.le hl⟩
theorem Par.len : ∀ {ps : List FrV} {a : FrV}, Par K c ps a → ps.length + rank a.kind ≤ 4
  | [], a, _ => by have := rank_le a.kind; simp; omega
  | p :: ps, a, h => by
    have h1 := h.1.rk
    have h2 := h.2.2.len
    simp; omega
/-- Nobody but the parent of an allocation waits for one. -/
theorem Par.rest : ∀ {ps : List FrV} {a : FrV}, Par K c ps a → a.kind ≠ 12 → ∀ p ∈ ps, Rest p
  | [], _, _, _, p, hp => by cases hp
  | q :: ps, a, h, ha, p, hp => by
    rcases List.mem_cons.1 hp with rfl | hp
    · exact fun e => ha ((h.1.run e.1).2.2.1 e.2)
    · refine h.2.2.rest (fun e => ?_) p hp
      have := h.1.rk
      rw [e] at this
      simp [rank] at this
theorem Rest.pc {e : EnvV} {p : FrV} (h : Rest p) : PcP e p := fun e1 e2 => absurd ⟨e1, e2⟩ h
/-- The stack while a step looks for its line. -/
structure DeepP (K : Nat) (e : EnvV) (top : FrV) (ps : List FrV) : Prop where
  fr : FrR K top
  par : Par K e.c ps top
  pc : ∀ p ∈ ps, PcP e p
theorem enterS_inv {e : EnvV} (he : EnvOk K e) (hK1 : 1 ≤ K) : ∀ (k : Nat) (top : FrV) (ps : List FrV), DeepP K e top ps → TopOk e.c top → rank top.kind < k → DeepP K e (enterS e k top ps).1 (enterS e k top ps).2 ∧ LiveOk e (enterS e k top ps).1
  | 0, _, _, _, _, h => by omega
  | k + 1, top, ps, hx, ht, hk => by
    have ho := enter_inv hx.fr he ht hK1
    rw [enterS]
    rcases hM : enterM e top with ⟨o, f'⟩
    rw [hM] at ho
    have ho1 := ho.fr
    have ho2 := ho.kind
    cases o with
    | none => exact ⟨⟨ho1, hx.par.ch ho2, hx.pc⟩, ho.no rfl⟩
    | some ch =>
      obtain ⟨h1, h2, h3, h4⟩ := ho.yes ch rfl
      refine enterS_inv he hK1 k _ _ ⟨h1, ⟨h3.ch rfl, ho1, hx.par.ch ho2⟩, fun p hp => ?_⟩ h2 ?_
      · rcases List.mem_cons.1 hp with rfl | hp
        · exact h4
        · exact hx.pc p hp
      · have h5 := h3.rk
        rw [ho2] at h5
        show rank ch.kind < k
        omega
/-- A stack that rests. -/
structure StOk (K : Nat) (c : Cfg) (t : FrV) (ps : List FrV) : Prop where
  fr : FrR K t
  top : TopOk c t
  par : Par K c ps t
  rest : ∀ p ∈ ps, Rest p
theorem StOk.le {L : Nat} {top : FrV} {ps : List FrV} (h : StOk K c top ps) (hl : K ≤ L) : StOk L c top ps := ⟨h.fr.le hl, h.top, h.par.le hl, h.rest⟩
/-- What the way back leaves. -/
structure BkP (K : Nat) (e : EnvV) (o : Option ResV × EnvV × List FrV) : Prop where
  env : EnvOk K o.2.1
  c : o.2.1.c = e.c
  now : o.2.1.now = e.now
  draw : o.2.1.draw = e.draw
  len : o.2.1.m.cells.length = e.m.cells.length
  st : o.1 = none → ∃ top ps, o.2.2 = top :: ps ∧ StOk K e.c top ps
theorem backS_inv {e0 : EnvV} : ∀ (ps : List FrV) (L : Nat) (r : ResV) (e : EnvV) (top : FrV), e.c = e0.c → e.now = e0.now → e.draw = e0.draw → e.m.cells.length = e0.m.cells.length →
    EnvOk L e → DeepP L e top ps → Rg r.value → (r.done = false → TopOk e.c top ∧ ∀ p ∈ ps, Rest p) → (top.kind = 12 → r.code = 3 ∨ (0 ≤ r.value ∧ r.value < (e.recs.length : Int))) → BkP (L + ps.length) e0 (backS r e top ps)
  | [], L, r, e, top, c1, c2, c3, c4, he, hx, hv, ht, h12 => by
    rw [backS]
    by_cases hd : r.done = true
    · rw [if_pos hd]; exact ⟨he, c1, c2, c3, c4, fun e => by cases e⟩
    · rw [if_neg hd]
      have := ht (by simpa using hd)
      exact ⟨he, c1, c2, c3, c4, fun _ => ⟨top, [], rfl, hx.fr, c1 ▸ this.1, trivial, fun p hp => by cases hp⟩⟩
  | p :: ps, L, r, e, top, c1, c2, c3, c4, he, hx, hv, ht, h12 => by
    rw [backS]
    by_cases hd : r.done = true
    · rw [if_pos hd]
      have ho := back_inv (code := r.code) hx.par.2.1 he trivial hv hx.par.1 (hx.pc p (List.mem_cons_self ..)) h12
      have hpk : p.kind ≠ 12 := fun e => by
        have := hx.par.1.rk
        rw [e] at this
        simp [rank] at this
      have hrest := hx.par.2.2.rest hpk
      have hc := ho.lf.env.c
      have hg := backS_inv (e0 := e0) ps (L + 1) (backM e p r.code r.value).1 (backM e p r.code r.value).2.1 (backM e p r.code r.value).2.2 (hc.trans c1) (ho.lf.env.now.trans c2) (ho.lf.env.draw.trans c3) (ho.lf.env.len.trans c4) (ho.lf.env.ok he)
        ⟨ho.lf.fr, by rw [hc]; exact (hx.par.2.2.le (Nat.le_succ _)).ch ho.lf.kind, fun q hq => (hrest q hq).pc⟩ ho.lf.val (fun e => ⟨by rw [hc]; exact ho.top e, hrest⟩) (fun e => absurd (ho.lf.kind.symm.trans e) hpk)
      rw [show L + (p :: ps).length = L + 1 + ps.length by simp; omega]
      exact hg
    · rw [if_neg hd]
      have := ht (by simpa using hd)
      exact ⟨he.le (Nat.le_add_right _ _), c1, c2, c3, c4, fun _ => ⟨top, p :: ps, rfl, hx.fr.le (Nat.le_add_right _ _), c1 ▸ this.1, c1 ▸ hx.par.le (Nat.le_add_right _ _), this.2⟩⟩
/-- A step keeps what holds. -/
theorem stepS_inv {e : EnvV} {top : FrV} {ps : List FrV} (hx : StOk K e.c top ps) (he : EnvOk K e) (hK1 : 1 ≤ K) : BkP (K + 5) e (stepS e top ps) := by
  unfold stepS
  obtain ⟨hd, hl⟩ := enterS_inv he hK1 8 top ps ⟨hx.fr, hx.par, fun p hp => (hx.rest p hp).pc⟩ hx.top (by have := rank_le top.kind; omega)
  generalize enterS e 8 top ps = z at hd hl
  have ho := leaf_inv hd.fr he hl
  have hlen := hd.par.len
  have hc := ho.lf.env.c
  have hpc : ∀ p ∈ z.2, PcP (leafM e z.1).2.1 p := fun p hp => by
    by_cases h12 : z.1.kind = 12
    · have h1 := (ho.new h12).2.1
      intro a b
      have := hd.pc p hp a b
      unfold PcIn EnvV.prog EnvV.rc at this ⊢
      rw [h1, hc]; exact this
    · exact (hd.par.rest h12 p hp).pc
  have hlen2 : ((leafM e z.1).2.1.recs.length : Int) = (e.recs.length : Int) := by
    have h1 := (ho.lf.env.ok he).rcs.1
    have h2 := he.rcs.1
    rw [hc] at h1
    omega
  have hb := backS_inv (e0 := e) z.2 (K + 1) (leafM e z.1).1 (leafM e z.1).2.1 (leafM e z.1).2.2 hc ho.lf.env.now ho.lf.env.draw ho.lf.env.len (ho.lf.env.ok he)
    ⟨ho.lf.fr, by rw [hc]; exact (hd.par.le (Nat.le_succ _)).ch ho.lf.kind, hpc⟩ ho.lf.val (fun d => ⟨by rw [hc]; exact ho.top d, hd.par.rest fun h12 => by have := (ho.new h12).1; rw [d] at this; cases this⟩)
    (fun e2 => by
      have := (ho.new (ho.lf.kind.symm.trans e2)).2.2
      omega)
  have hKK : K + 1 + z.2.length ≤ K + 5 := by omega
  exact ⟨hb.env.le hKK, hb.c, hb.now, hb.draw, hb.len, fun e1 => by
    obtain ⟨t, q, h1, h2⟩ := hb.st e1
    exact ⟨t, q, h1, h2.le hKK⟩⟩
end
end
section
open Go
noncomputable def enF (self3 : MaV × EnvV × Unit → Option (MaV × EnvV × Unit)) (x1 : MaV × EnvV × Unit) : Option (MaV × EnvV × Unit) :=
  if 0 ≤ wi (((x1.1.f.length : Nat) : Int) - 1) ∧ wi (((x1.1.f.length : Nat) : Int) - 1) < ((x1.1.f.length : Nat) : Int) then
   agr (
    (r8enter x1.2.1 (atK8 x1.1.f (wi (((x1.1.f.length : Nat) : Int) - 1)))).bind fun r5 =>
    if (!r5.1.2.1) = true then
     some (({ x1.1 with f := x1.1.f.set (wi (((x1.1.f.length : Nat) : Int) - 1)).toNat r5.2.2.1 } : MaV), r5.2.1, ())
    else
    if ((((x1.1.f.set (wi (((x1.1.f.length : Nat) : Int) - 1)).toNat r5.2.2.1).length + ([({ r5.1.1 with line := 1 } : FrV)] : List FrV).length : Nat)) : Int) < 100000000000 then
     self3 (({ x1.1 with f := (x1.1.f.set (wi (((x1.1.f.length : Nat) : Int) - 1)).toNat r5.2.2.1) ++ ([({ r5.1.1 with line := 1 } : FrV)]) } : MaV), r5.2.1, ())
    else none
   ) (
    (r8enter x1.2.1 (atK8 x1.1.f (wi (((x1.1.f.length : Nat) : Int) - 1)))).bind fun r4 =>
    if (!r4.1.2.1) = true then
     some (({ x1.1 with f := x1.1.f.set (wi (((x1.1.f.length : Nat) : Int) - 1)).toNat r4.2.2.1 } : MaV), r4.2.1, ())
    else
    if ((((x1.1.f.set (wi (((x1.1.f.length : Nat) : Int) - 1)).toNat r4.2.2.1).length + ([({ r4.1.1 with line := 1 } : FrV)] : List FrV).length : Nat)) : Int) < 100000000000 then
     self3 (({ x1.1 with f := (x1.1.f.set (wi (((x1.1.f.length : Nat) : Int) - 1)).toNat r4.2.2.1) ++ ([({ r4.1.1 with line := 1 } : FrV)]) } : MaV), r4.2.1, ())
    else none
   )
  else none
noncomputable def bkF (self15 : ResV × MaV × EnvV × Unit → Option ((ResV × MaV × EnvV × Unit) ⊕ ((Bool × Unit) × (MaV × EnvV × Unit)))) (x13 : ResV × MaV × EnvV × Unit) : Option ((ResV × MaV × EnvV × Unit) ⊕ ((Bool × Unit) × (MaV × EnvV × Unit))) :=
    if x13.1.done = true then
     if 0 ≤ wi (((x13.2.1.f.length : Nat) : Int) - 1) ∧ wi (((x13.2.1.f.length : Nat) : Int) - 1) ≤ ((x13.2.1.f.length : Nat) : Int) then
      if (((x13.2.1.f.take (wi (((x13.2.1.f.length : Nat) : Int) - 1) : Int).toNat).length : Nat) : Int) = 0 then
       if x13.1.value = x13.1.value then
        if x13.1.code = x13.1.code then
         if x13.1.value = x13.1.value then
          Option.map Sum.inr (
           some ((true, ()), (({ x13.1 with f := x13.2.1.f.take (wi (((x13.2.1.f.length : Nat) : Int) - 1) : Int).toNat, over := true } : MaV), x13.2.2.1, ()))
          )
         else none
        else none
       else none
      else
      if 0 ≤ wi ((((x13.2.1.f.take (wi (((x13.2.1.f.length : Nat) : Int) - 1) : Int).toNat).length : Nat) : Int) - 1) ∧ wi ((((x13.2.1.f.take (wi (((x13.2.1.f.length : Nat) : Int) - 1) : Int).toNat).length : Nat) : Int) - 1) < (((x13.2.1.f.take (wi (((x13.2.1.f.length : Nat) : Int) - 1) : Int).toNat).length : Nat) : Int) then
       (r8back x13.2.2.1 (atK8 (x13.2.1.f.take (wi (((x13.2.1.f.length : Nat) : Int) - 1) : Int).toNat) (wi ((((x13.2.1.f.take (wi (((x13.2.1.f.length : Nat) : Int) - 1) : Int).toNat).length : Nat) : Int) - 1))) x13.1.code x13.1.value).bind fun r16 =>
       self15 (r16.1.1, ({ x13.2.1 with f := (x13.2.1.f.take (wi (((x13.2.1.f.length : Nat) : Int) - 1) : Int).toNat).set (wi ((((x13.2.1.f.take (wi (((x13.2.1.f.length : Nat) : Int) - 1) : Int).toNat).length : Nat) : Int) - 1)).toNat r16.2.2.1 } : MaV), r16.2.1, ())
      else none
     else none
    else
    some (Sum.inl (x13.1, x13.2.1, x13.2.2.1, ()))
theorem step_unf (m : MaV) (e : EnvV) : r8machine_step m e = if m.over = true then some ((true, ()), (m, e, ())) else
    (lpF enF 18446744073709551616 (m, e, ())).bind fun z2 =>
      if 0 ≤ wi (((z2.1.f.length : Nat) : Int) - 1) ∧ wi (((z2.1.f.length : Nat) : Int) - 1) < ((z2.1.f.length : Nat) : Int) then
        agr ((r8leaf z2.2.1 (atK8 z2.1.f (wi (((z2.1.f.length : Nat) : Int) - 1)))).bind fun r12 =>
          (lpF bkF 18446744073709551616 (r12.1.1, ({ z2.1 with f := z2.1.f.set (wi (((z2.1.f.length : Nat) : Int) - 1)).toNat r12.2.2.1 } : MaV), r12.2.1, ())).bind fun z14 => match z14 with
            | .inr o17 => some o17
            | .inl z14 => some ((false, ()), (z14.2.1, z14.2.2.1, ())))
         ((r8leaf z2.2.1 (atK8 z2.1.f (wi (((z2.1.f.length : Nat) : Int) - 1)))).bind fun r12 =>
          (lpF bkF 18446744073709551616 (r12.1.1, ({ z2.1 with f := z2.1.f.set (wi (((z2.1.f.length : Nat) : Int) - 1)).toNat r12.2.2.1 } : MaV), r12.2.1, ())).bind fun z14 => match z14 with
            | .inr o17 => some o17
            | .inl z14 => some ((false, ()), (z14.2.1, z14.2.2.1, ())))
      else none := by kernel_rfl
theorem last_wi {n : Nat} (h : n ≤ 1000) : wi (((n + 1 : Nat) : Int) - 1) = (n : Int) := by
  rw [wi_id (rg_lit (by omega))]; omega
theorem last_at {a : List FrV} {t : FrV} : atK8 (a ++ [t]) (a.length : Int) = t := by simp [atK8, atL]; rfl
theorem last_st {a : List FrV} {t g : FrV} : (a ++ [t]).set ((a.length : Int)).toNat g = a ++ [g] := by simp
theorem last_take {a : List FrV} {t : FrV} : (a ++ [t]).take ((a.length : Int)).toNat = a := by simp
section
variable {K : Nat} {e : EnvV}
theorem enF_eq (self : MaV × EnvV × Unit → Option (MaV × EnvV × Unit)) (m : MaV) (top : FrV) (a : List FrV) (hp : EntC e top) (ha : a.length ≤ 900) :
    enF self ({ m with f := a ++ [top] }, e, ()) = match enterM e top with
      | (none, f') => some ({ m with f := a ++ [f'] }, e, ())
      | (some ch, f') => self ({ m with f := (a ++ [f']) ++ [{ ch with line := 1 }] }, e, ()) := by
  unfold enF
  have h1 : (a ++ [top]).length = a.length + 1 := by simp
  have hg : 0 ≤ (a.length : Int) ∧ (a.length : Int) < ((a.length + 1 : Nat) : Int) := by omega
  simp only [agr_self, h1, last_wi (show a.length ≤ 1000 by omega), hg, and_self, if_true, last_at, enter_eq hp, Option.bind_some, outE, last_st]
  rcases enterM e top with ⟨o, f'⟩
  cases o with
  | none => rfl
  | some ch =>
    have hq : (((a ++ [f']).length + ([({ ch with line := 1 } : FrV)] : List FrV).length : Nat) : Int) < 100000000000 := by simp; omega
    simp only [Option.isSome_some, Bool.not_true, Bool.false_eq_true, if_false, Option.getD_some, hq, if_true]
theorem enF_loop (he : EnvOk K e) (hK1 : 1 ≤ K) (hK : K ≤ 900000000) (m : MaV) : ∀ (k n : Nat) (top : FrV) (ps : List FrV), DeepP K e top ps → TopOk e.c top → rank top.kind < k → k ≤ n →
    lpF enF n ({ m with f := ps.reverse ++ [top] }, e, ()) = some ({ m with f := (enterS e k top ps).2.reverse ++ [(enterS e k top ps).1] }, e, ())
  | 0, _, _, _, _, _, h, _ => by omega
  | k + 1, 0, _, _, _, _, _, h => by omega
  | k + 1, n + 1, top, ps, hx, ht, hk, hn => by
    have hlen := hx.par.len
    have hpre : EntC e top := ⟨he.cf, he.rcs.1, fun hk => ⟨(ht.run hk).1, by have := hx.fr.ln; omega⟩, fun hk => (ht.cl hk).1⟩
    rw [lpF_succ, enF_eq _ m top ps.reverse hpre (by simp; omega), enterS]
    have ho := enter_inv hx.fr he ht hK1
    rcases hM : enterM e top with ⟨o, f'⟩
    rw [hM] at ho
    have ho1 := ho.fr
    have ho2 := ho.kind
    cases o with
    | none => rfl
    | some ch =>
      obtain ⟨h1, h2, h3, h4⟩ := ho.yes ch rfl
      have := enF_loop he hK1 hK m k n { ch with line := 1 } (f' :: ps) ⟨h1, ⟨h3.ch rfl, ho1, hx.par.ch ho2⟩, fun p hp => by
        rcases List.mem_cons.1 hp with rfl | hp
        · exact h4
        · exact hx.pc p hp⟩ h2 (by
          have h5 := h3.rk
          rw [ho2] at h5
          show rank ch.kind < k
          omega) (by omega)
      rw [List.reverse_cons] at this
      exact this
/-- What the way back answers, as the loop says it. -/
def bkO (m : MaV) (z : Option ResV × EnvV × List FrV) (r : ResV) : (ResV × MaV × EnvV × Unit) ⊕ ((Bool × Unit) × (MaV × EnvV × Unit)) := match z.1 with
  | some q => .inr ((true, ()), (⟨[], true, q.code, q.value⟩, z.2.1, ()))
  | none => .inl (r, { m with f := z.2.2.reverse }, z.2.1, ())
theorem bkF_nil (self : ResV × MaV × EnvV × Unit → Option ((ResV × MaV × EnvV × Unit) ⊕ ((Bool × Unit) × (MaV × EnvV × Unit)))) (m : MaV) (r : ResV) (top : FrV) (hd : r.done = true) : bkF self (r, { m with f := [top] }, e, ()) = some (.inr ((true, ()), (⟨[], true, r.code, r.value⟩, e, ()))) := by
  unfold bkF
  have h1 : wi (((([top] : List FrV).length : Nat) : Int) - 1) = 0 := rfl
  have hg : (0 : Int) ≤ 0 ∧ (0 : Int) ≤ ((([top] : List FrV).length : Nat) : Int) := ⟨by decide, by simp⟩
  have h2 : ((([top].take (0 : Int).toNat).length : Nat) : Int) = 0 := rfl
  simp only [hd, if_true, h1, hg, and_self, h2]
  rfl
theorem bkF_cons (self : ResV × MaV × EnvV × Unit → Option ((ResV × MaV × EnvV × Unit) ⊕ ((Bool × Unit) × (MaV × EnvV × Unit)))) (m : MaV) (r : ResV) (top p : FrV) (a : List FrV) (hd : r.done = true) (ha : a.length ≤ 900) (hp : BackC e p r.code r.value) :
    bkF self (r, { m with f := (a ++ [p]) ++ [top] }, e, ()) = self ((backM e p r.code r.value).1, { m with f := a ++ [(backM e p r.code r.value).2.2] }, (backM e p r.code r.value).2.1, ()) := by
  unfold bkF
  have h1 : ((a ++ [p]) ++ [top]).length = (a ++ [p]).length + 1 := by simp
  have h2 : (a ++ [p]).length = a.length + 1 := by simp
  have hg : 0 ≤ ((a ++ [p]).length : Int) ∧ ((a ++ [p]).length : Int) ≤ (((a ++ [p]).length + 1 : Nat) : Int) := by omega
  have hg2 : 0 ≤ (a.length : Int) ∧ (a.length : Int) < ((a.length + 1 : Nat) : Int) := by omega
  have h3 : ¬ ((((a.length + 1 : Nat)) : Int) = 0) := by omega
  simp only [hd, if_true, h1, last_wi (show (a ++ [p]).length ≤ 1000 by omega), hg, and_self, last_take]
  simp only [h2, last_wi (show a.length ≤ 1000 by omega), hg2, and_self, h3, if_true, if_false, last_at, last_st, back_eq hp, Option.bind_some, outL]
theorem bkF_loop {e0 : EnvV} (m : MaV) : ∀ (ps : List FrV) (n L : Nat) (r : ResV) (e : EnvV) (top : FrV), e.c = e0.c → ps.length < n → L + ps.length ≤ 900000000 → EnvOk L e → DeepP L e top ps → Rg r.value →
    (top.kind = 12 → r.code = 3 ∨ (0 ≤ r.value ∧ r.value < (e.recs.length : Int))) → ∃ r', lpF bkF n (r, { m with f := ps.reverse ++ [top] }, e, ()) = some (bkO m (backS r e top ps) r')
  | _, 0, _, _, _, _, _, h, _, _, _, _, _ => by omega
  | [], n + 1, L, r, e, top, c1, hn, hL, he, hx, hv, h12 => by
    refine ⟨r, ?_⟩
    rw [lpF_succ, backS]
    by_cases hd : r.done = true
    · rw [if_pos hd]
      exact bkF_nil _ m r top hd
    · rw [if_neg hd]
      unfold bkF
      rw [if_neg hd]
      rfl
  | p :: ps, n + 1, L, r, e, top, c1, hn, hL, he, hx, hv, h12 => by
    rw [lpF_succ, backS]
    by_cases hd : r.done = true
    · rw [if_pos hd]
      have hlen := hx.par.len
      have hpre := hx.par.1.pre hx.par.2.1 he (hx.pc p (List.mem_cons_self ..)) (by omega) (code := r.code) (value := r.value) h12
      rw [List.reverse_cons, bkF_cons _ m r top p ps.reverse hd (by simp at hlen ⊢; omega) hpre]
      have ho := back_inv (code := r.code) hx.par.2.1 he trivial hv hx.par.1 (hx.pc p (List.mem_cons_self ..)) h12
      have hpk : p.kind ≠ 12 := fun e => by
        have := hx.par.1.rk
        rw [e] at this
        simp [rank] at this
      have hrest := hx.par.2.2.rest hpk
      have hc := ho.lf.env.c
      exact bkF_loop (e0 := e0) m ps n (L + 1) (backM e p r.code r.value).1 (backM e p r.code r.value).2.1 (backM e p r.code r.value).2.2 (hc.trans c1) (by simp at hn; omega) (by simp at hL; omega) (ho.lf.env.ok he)
        ⟨ho.lf.fr, by rw [hc]; exact (hx.par.2.2.le (Nat.le_succ _)).ch ho.lf.kind, fun q hq => (hrest q hq).pc⟩ ho.lf.val (fun e => absurd (ho.lf.kind.symm.trans e) hpk)
    · rw [if_neg hd]
      refine ⟨r, ?_⟩
      unfold bkF
      rw [if_neg hd]
      simp only [bkO, List.reverse_cons]
/-- A machine that rests, or is over. -/
def MaOk (K : Nat) (c : Cfg) (x : MaV) : Prop := x.over = true ∨ ∃ top ps, x.f = ps.reverse ++ [top] ∧ StOk K c top ps
theorem MaOk.le {L : Nat} {c : Cfg} {x : MaV} (h : MaOk K c x) (hl : K ≤ L) : MaOk L c x := h.imp id fun ⟨t, q, h1, h2⟩ => ⟨t, q, h1, h2.le hl⟩
/-- What a step does with the environment and the machine. -/
structure StepP (K : Nat) (e : EnvV) (o : Bool × MaV × EnvV) : Prop where
  env : EnvOk K o.2.2
  c : o.2.2.c = e.c
  now : o.2.2.now = e.now
  draw : o.2.2.draw = e.draw
  len : o.2.2.m.cells.length = e.m.cells.length
  ma : MaOk K e.c o.2.1
theorem step_eq {x : MaV} (hx : MaOk K e.c x) (he : EnvOk K e) (hK1 : 1 ≤ K) (hK : K ≤ 800000000) : r8machine_step x e = some (((stepM e x).1, ()), ((stepM e x).2.1, (stepM e x).2.2, ())) ∧ StepP (K + 5) e (stepM e x) := by
  rw [step_unf]
  unfold stepM
  by_cases hov : x.over = true
  · rw [if_pos hov, if_pos hov]
    exact ⟨rfl, he.le (Nat.le_add_right _ _), rfl, rfl, rfl, rfl, .inl hov⟩
  rw [if_neg hov, if_neg hov]
  obtain ⟨top, ps, hf, hs⟩ := hx.resolve_left hov
  have hrv : x.f.reverse = top :: ps := by rw [hf]; simp
  rw [hrv]
  dsimp only
  have hb := stepS_inv hs he hK1
  have hD : DeepP K e top ps := ⟨hs.fr, hs.par, fun p hp => (hs.rest p hp).pc⟩
  have hrk : rank top.kind < 8 := by have := rank_le top.kind; omega
  have h1 := enF_loop he hK1 (by omega) x 8 18446744073709551616 top ps hD hs.top hrk (by omega)
  have hx0 : ({ x with f := ps.reverse ++ [top] } : MaV) = x := by rw [← hf]
  rw [hx0] at h1
  obtain ⟨hd, hl⟩ := enterS_inv he hK1 8 top ps hD hs.top hrk
  have ho := leaf_inv hd.fr he hl
  have hleaf := leaf_eq (hl.pre hd.fr he (by omega))
  have hlen := hd.par.len
  have hc := ho.lf.env.c
  unfold stepS at hb ⊢
  generalize enterS e 8 top ps = z at h1 hd hl ho hleaf hlen hc hb
  have hpc : ∀ p ∈ z.2, PcP (leafM e z.1).2.1 p := fun p hp => by
    by_cases h12 : z.1.kind = 12
    · have h1 := (ho.new h12).2.1
      intro a b
      have := hd.pc p hp a b
      unfold PcIn EnvV.prog EnvV.rc at this ⊢
      rw [h1, hc]; exact this
    · exact (hd.par.rest h12 p hp).pc
  have hlen2 : ((leafM e z.1).2.1.recs.length : Int) = (e.recs.length : Int) := by
    have h1 := (ho.lf.env.ok he).rcs.1
    have h2 := he.rcs.1
    rw [hc] at h1
    omega
  obtain ⟨r', h2⟩ := bkF_loop (e0 := e) x z.2 18446744073709551616 (K + 1) (leafM e z.1).1 (leafM e z.1).2.1 (leafM e z.1).2.2 hc (by omega) (by omega) (ho.lf.env.ok he)
    ⟨ho.lf.fr, by rw [hc]; exact (hd.par.le (Nat.le_succ _)).ch ho.lf.kind, hpc⟩ ho.lf.val
    (fun e2 => by
      have := (ho.new (ho.lf.kind.symm.trans e2)).2.2
      omega)
  have e1 : (z.2.reverse ++ [z.1]).length = z.2.reverse.length + 1 := by simp
  have e2 : z.2.reverse.length ≤ 1000 := by simp; omega
  have hg : 0 ≤ (z.2.reverse.length : Int) ∧ (z.2.reverse.length : Int) < ((z.2.reverse.length + 1 : Nat) : Int) := by omega
  refine ⟨?_, ?_⟩
  · rw [h1]
    simp only [Option.bind_some, agr_self, e1, last_wi e2, hg, and_self, if_true, last_at, last_st, hleaf, outL]
    rw [h2]
    generalize backS (leafM e z.1).1 (leafM e z.1).2.1 (leafM e z.1).2.2 z.2 = w
    rcases w with ⟨o, e', s⟩
    cases o <;> simp only [Option.bind_some, bkO]
  · generalize backS (leafM e z.1).1 (leafM e z.1).2.1 (leafM e z.1).2.2 z.2 = w at hb
    rcases w with ⟨o, e', s⟩
    cases o with
    | some q => exact ⟨hb.env, hb.c, hb.now, hb.draw, hb.len, .inl rfl⟩
    | none =>
      obtain ⟨t, q, h3, h4⟩ := hb.st rfl
      refine ⟨hb.env, hb.c, hb.now, hb.draw, hb.len, .inr ⟨t, q, ?_, h4⟩⟩
      show s.reverse = _
      rw [show s = t :: q from h3, List.reverse_cons]
end
end
end Go.Proofs.YtpbkelpokpglaaaGreat
