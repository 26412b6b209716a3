/- Who is at work on which deque: what a step does with the indices. Run, a worker, the client: what a step does with the indices and the injector's size. The client and the indices; numbers of the deques. The deques' indices: what holds of them behind every step. The deques' indices: the owner's pop, a thief's steal. The deques' indices: all machines together. An engine's deques: what holds between the entries of a script. What EngineIndices calls, in the evaluator's form. -/
import Derived.Test.YtclaldommncdbaaGreatIqas
import Derived.Test.YtclaldommncdbaaGreatIqap
set_option linter.all false
namespace Go.Proofs.YtclaldommncdbaaGreat
section
open Go Go.RowKit
set_option maxRecDepth 100000
variable [Tb]
inductive QOp where
  | push (s : OPushS)
  | pop (s : OPopS)
abbrev OpT := Option (Int × QOp)
abbrev ThT := Option (Int × Int × StealS)
def opP (v : Int) : OPushS → OpT
  | .l1 => none
  | .l2 b => some (v, .push (.l2 b))
  | .l3 b => some (v, .push (.l3 b))
  | .l4 b => some (v, .push (.l4 b))
def opO (v : Int) : OPopS → OpT
  | .l1 => none
  | .l2 b => some (v, .pop (.l2 b))
  | .l3 b t => some (v, .pop (.l3 b t))
  | .l4 b t => some (v, .pop (.l4 b t))
  | .l5 b t => some (v, .pop (.l5 b t))
  | .l6 b t => some (v, .pop (.l6 b t))
  | .l7 b t => some (v, .pop (.l7 b t))
  | .l8 b t => some (v, .pop (.l8 b t))
  | .l9 b t => some (v, .pop (.l9 b t))
def Rs.op {σ τ : Type} (f : σ → Option τ) : Rs σ → Option τ
  | .go s => f s
  | .fin _ _ => none
inductive Ow (c : Cfg) (w : Int) (e e' : EnvP) : OpT → OpT → Prop
  | nop (h : Nq c e e') : Ow c w e e' none none
  | drop (v : Int) (s : OPushS) (h : Nq c e e') : Ow c w e e' (some (v, .push s)) none
  | push (v x : Int) (s : OPushS) (hx : TOk c x) (hs : ajl s) (hg : ∀ a, e'.gt a = (adX (aaj (aaz c) w v) x e s).2.gt a) : Ow c w e e' (opP v s) ((adX (aaj (aaz c) w v) x e s).1.op (opP v))
  | pop (v : Int) (s : OPopS) (hs : avL s) (hg : ∀ a, e'.gt a = (ajP (aaj (aaz c) w v) e s).2.gt a) : Ow c w e e' (opO v s) ((ajP (aaj (aaz c) w v) e s).1.op (opO v))
section
variable {c : Cfg} {e e' : EnvP} {w v x : Int}
theorem Ow.em {p q : OpT} {k u t o l : Int} (h : Ow c w e e' p q) : Ow c w e (e'.em k u t o l) p q := by
  cases h with
  | nop h => exact .nop h.em
  | drop v s h => exact .drop v s h.em
  | push v x s hx hs hg => exact .push v x s hx hs hg
  | pop v s hs hg => exact .pop v s hs hg
def afo (v : Int) : LPushS → OpT
  | .push s => opP v s
  | _ => none
theorem aom (h : MI c e) (hx : TOk c x) (s : LPushS) (hs : aih s) : Ow c w e (abS w v x e s).2 (afo v s) ((abS w v x e s).1.op (afo v)) := by
  have g : ∀ s, ajl s → Ow c w e (match adX (aaj e.l w v) x e s with
      | (.go s, e') => (Rs.go (LPushS.push s), e')
      | (.fin c _, e') => (if c = 3 then .fin 3 0 else .go .set, e')).2 (opP v s) ((match adX (aaj e.l w v) x e s with
      | (.go s, e') => (Rs.go (LPushS.push s), e')
      | (.fin c _, e') => (if c = 3 then .fin 3 0 else .go .set, e')).1.op (afo v)) := fun s hs => by
    have := Ow.push (c := c) (w := w) (e := e) v x s hx hs (fun a => rfl)
    rw [h.l]
    revert this
    rcases adX (aaj (aaz c) w v) x e s with ⟨r, e'⟩
    intro this
    cases r with
    | go s => exact this
    | fin c0 v0 =>
      have e1 : (Rs.op (afo v) (if c0 = 3 then .fin 3 0 else .go .set)) = none := by split <;> rfl
      simp only
      rw [e1]
      exact this
  cases s with
  | new => exact g .l1 trivial
  | push s => exact g _ hs
  | set => exact .nop (aFj h)
def ask : LPopS → OpT
  | .l2 v s => opO v s
  | _ => none
theorem aEt (h : MI c e) (s : LPopS) (hs : avM s) : Ow c w e (agK w e s).2 (ask s) ((agK w e s).1.op ask) := by
  cases s with
  | l1 v =>
    have e1 : ((agK w e (.l1 v)).1.op ask) = none := by
      simp only [agK]; split <;> rfl
    rw [e1]
    exact .nop .lk
  | l2 v s =>
    have := Ow.pop (c := c) (w := w) (e := e) v s hs (fun a => rfl)
    simp only [agK]
    rw [h.l]
    revert this
    rcases ajP (aaj (aaz c) w v) e s with ⟨r, e'⟩
    intro this
    cases r with
    | go s => exact this
    | fin c0 v0 =>
      have e1 : (Rs.op ask (if c0 = 1 then Rs.fin 1 v0 else .go (.l3 v .l1))) = none := by split <;> rfl
      simp only
      rw [e1]
      exact this
  | l3 v s =>
    have := awV (a := w) (b := v) (q := aaj (aaz c) w v) h s
    simp only [agK]
    rw [h.l]
    revert this
    rcases agc (aaP (aaz c) w) v (aaj (aaz c) w v) e s with ⟨r, e'⟩
    intro this
    cases r with
    | go s => exact .nop this
    | fin c0 v0 => exact .nop this
def ak8 (v : Int) : WalkS → OpT
  | .push _ s => afo v s
  | _ => none
theorem aDs (h : MI c e) (s : WalkS) (hs : ao0 c v s) : Ow c w e (ae1 w v e s).2 (ak8 v s) ((ae1 w v e s).1.op (ak8 v)) := by
  have g : ∀ t s, Ow c w e (match aed w t v e s with
      | (.go s, e') => (Rs.go (WalkS.raise t s), e')
      | (.fin c _, e') => (.go (if c = 1 then .l2 t else .l4 t), e')).2 none ((match aed w t v e s with
      | (.go s, e') => (Rs.go (WalkS.raise t s), e')
      | (.fin c _, e') => (.go (if c = 1 then .l2 t else .l4 t), e')).1.op (ak8 v)) := fun t s => by
    have := aBP (w := w) (t := t) (v := v) h s
    revert this
    rcases aed w t v e s with ⟨r, e'⟩
    intro this
    cases r with
    | go s => exact .nop this
    | fin c0 v0 =>
      have e1 : ak8 v (if c0 = 1 then .l2 t else .l4 t) = none := by split <;> rfl
      show Ow c w e e' none (ak8 v (if c0 = 1 then .l2 t else .l4 t))
      rw [e1]
      exact .nop this
  cases s with
  | l1 t =>
    simp only [ae1]
    split
    · exact .nop .refl
    · exact g t _
  | raise t s => exact g t s
  | l2 t =>
    have e1 : ak8 v (if e.gt (acT e.l t) = 1 then .push t .new else .l4 t) = none := by split <;> rfl
    show Ow c w e _ none (ak8 v (if e.gt (acT e.l t) = 1 then .push t .new else .l4 t))
    rw [e1]
    exact .nop .lk
  | push t s =>
    have := aom (w := w) (v := v) h hs.1 s hs.2
    simp only [ae1]
    revert this
    rcases abS w v t e s with ⟨r, e'⟩
    intro this
    cases r with
    | go s => exact this
    | fin c0 v0 =>
      show Ow c w e (if c0 = 3 then e'.em 19 w t 0 v else e') (afo v s) none
      split
      · exact this.em
      · exact this
  | l4 t =>
    have e1 : ((ae1 w v e (.l4 t)).1.op (ak8 v)) = none := by simp only [ae1]; split <;> rfl
    rw [e1]
    exact .nop .lk
def atF : EnterS → OpT
  | .l4 v s => afo v s
  | _ => none
theorem aCM {t : Int} (h : MI c e) (ht : TOk c t) (s : EnterS) (hs : arv s) : Ow c w e (adx w t e s).2 (atF s) ((adx w t e s).1.op atF) := by
  cases s with
  | l1 =>
    simp only [adx]
    rw [h.l]
    split
    · exact .nop .refl
    · exact .nop (.pt (ann h.d))
  | l2 =>
    simp only [adx]
    rw [h.l]
    exact .nop (.pt (agn h.d))
  | l3 => exact .nop .lk
  | l4 v s =>
    have := aom (w := w) (v := v) h ht s hs
    simp only [adx]
    revert this
    rcases abS w v t e s with ⟨r, e'⟩
    intro this
    cases r with
    | go s => exact this
    | fin c0 v0 => exact this
def amd : SweepS → OpT
  | .l6 q s => afo (wi (wi q + 1)) s
  | _ => none
theorem aA9 {t : Int} (h : MI c e) (ht : TOk c t) (s : SweepS) (hs : arq c s) : Ow c w e (abe w t e s).2 (amd s) ((abe w t e s).1.op amd) := by
  cases s with
  | l1 =>
    simp only [abe]
    split
    · exact .nop .refl
    · have e1 : Rs.op amd (if e.gt (acT e.l t) = 1 then .go .l2 else .fin 0 0) = none := by split <;> rfl
      simp only
      rw [e1]
      exact .nop .lk
  | l2 =>
    have e1 : ((abe w t e .l2).1.op amd) = none := by simp only [abe]; split <;> rfl
    rw [e1]
    exact .nop .lk
  | l3 =>
    have e1 : ((abe w t e .l3).1.op amd) = none := by simp only [abe]; split <;> rfl
    rw [e1]
    exact .nop .lk
  | l4 q =>
    simp only [abe]
    rw [h.l]
    split
    · exact .nop (Nq.em (.cas (ajz h.d)))
    · exact .nop (.cas (ajz h.d))
  | l5 q =>
    simp only [abe]
    rw [h.l]
    exact .nop (.pt (ann h.d))
  | l6 q s =>
    have := aom (w := w) (v := wi (wi q + 1)) h ht s hs
    simp only [abe]
    revert this
    rcases abS w (wi (wi q + 1)) t e s with ⟨r, e'⟩
    intro this
    cases r with
    | go s => exact this
    | fin c0 v0 =>
      show Ow c w e (if c0 = 3 then e'.em 19 w t 0 _ else e') (afo _ s) none
      split
      · exact this.em
      · exact this
def asi : TakeS → OpT
  | .pop s => ask s
  | _ => none
theorem aDy (h : MI c e) (s : TakeS) (hs : avK c s) : Ow c w e (aiz w e s).2 (asi s) ((aiz w e s).1.op asi) := by
  cases s with
  | pop s =>
    have := aEt (w := w) h s hs
    simp only [aiz]
    revert this
    rcases agK w e s with ⟨r, e'⟩
    intro this
    cases r with
    | go s => exact this
    | fin c0 v0 =>
      have e1 : Rs.op asi (if c0 = 2 then .fin 2 0 else .go (.claim v0)) = none := by split <;> rfl
      simp only
      rw [e1]
      exact this
  | claim t =>
    have e1 : ((aiz w e (.claim t)).1.op asi) = none := by simp only [aiz]; split <;> rfl
    rw [e1]
    exact .nop (aks h)
def avN (c : Cfg) (d : DrainS) : Prop := match d.c with
  | .l3 s => amx c s
  | _ => True
def aqv (d : DrainS) : OpT := match d.c with
  | .l5 s => afo d.p s
  | _ => none
theorem anr {d : DrainS} : Rs.op aqv (ai8 d) = none ∧ (ai8 d).Q (avN c) fun _ _ => True := by
  unfold ai8
  split
  · exact ⟨rfl, trivial⟩
  · split <;> exact ⟨rfl, trivial⟩
theorem aCO (h : MI c e) (hz : e.gt 2 ≤ c.heap) (d : DrainS) (hd : as5 c d) (hn : avN c d) : Ow c w e (abk w e d).2 (aqv d) ((abk w e d).1.op aqv) ∧ (abk w e d).1.Q (avN c) fun _ _ => True := by
  obtain ⟨x, dir, p, last, cnt, k⟩ := d
  obtain ⟨h1, h2⟩ := hd
  cases k with
  | l1 =>
    simp only [abk]
    split
    · exact ⟨.nop .lk, trivial⟩
    · exact ⟨.nop .lk, trivial⟩
  | l2 =>
    simp only [abk]
    split
    · exact ⟨.nop (apA h), trivial⟩
    · exact ⟨.nop (apA h), trivial⟩
  | l3 s =>
    have := azq (w := w) h hz s hn
    simp only [abk]
    revert this
    rcases ac3 w e s with ⟨r, e'⟩
    intro this
    cases r with
    | go s => exact ⟨.nop this.1, this.2⟩
    | fin c0 v0 =>
      simp only
      split
      · exact ⟨.nop this.1, trivial⟩
      · exact ⟨.nop this.1, trivial⟩
  | l4 =>
    simp only [abk]
    exact ⟨.nop .lk, trivial⟩
  | l5 s =>
    have := aom (w := w) (v := p) h h2.1 s h2.2
    simp only [abk]
    revert this
    rcases abS w p x e s with ⟨r, e'⟩
    intro this
    cases r with
    | go s => exact ⟨this, trivial⟩
    | fin c0 v0 =>
      simp only
      split
      · exact ⟨this, trivial⟩
      · split
        · exact ⟨this, trivial⟩
        · exact ⟨this, trivial⟩
  | l6 =>
    simp only [abk]
    split
    · exact ⟨.nop (avo h), trivial⟩
    · rw [anr (c := c).1]
      exact ⟨.nop (avo h), anr.2⟩
  | l7 s =>
    have := arF (w := w) (v := last) h s
    simp only [abk]
    revert this
    rcases aej w last e s with ⟨r, e'⟩
    intro this
    cases r with
    | go s => exact ⟨.nop this, trivial⟩
    | fin c0 v0 =>
      simp only
      rw [anr (c := c).1]
      exact ⟨.nop this, anr.2⟩
end
end
section
open Go Go.RowKit
set_option maxRecDepth 100000
variable [Tb]
section
variable {c : Cfg} {e e' : EnvP} {w v x : Int}
def asj (r : RunS) : OpT := match r.c with
  | .s3 s => afo r.level s
  | .j5 s => ak8 r.level s
  | .f4 s => atF s
  | _ => none
def aAt (c : Cfg) (w : Int) (e : EnvP) (p : OpT) (o : Rs RunS × EnvP) : Prop := Ow c w e o.2 p (o.1.op asj)
theorem aAt.ite {p : OpT} {P : Prop} [Decidable P] {a b : Rs RunS × EnvP} (h1 : P → aAt c w e p a) (h2 : ¬ P → aAt c w e p b) : aAt c w e p (if P then a else b) := by
  split
  · exact h1 ‹_›
  · exact h2 ‹_›
theorem aos {r : RunS} {p : OpT} (h : Ow c w e e' p none) : aAt c w e p (agV r e') := by
  unfold agV aAt
  by_cases h1 : r.stack.length = 1
  · rw [if_pos h1]; exact h
  · rw [if_neg h1]; exact h
theorem aDJ {t : Int} {r : RunS} (h : MI c e) (hc : r.c = .next) : aAt c w e none (aso w e r t (e.rc t) (e.prog (e.rc t))) := by
  have hp : asj r = none := by unfold asj; rw [hc]
  have hs : ∀ {e' : EnvP}, Nq c e e' → aAt c w e none (.go r, e') := fun h => by show Ow c w e _ none (asj r); rw [hp]; exact .nop h
  unfold aso
  rw [h.l]
  refine .ite (fun _ => hs (Nq.pt (aqx h.d)).pr) fun _ => ?_
  refine .ite (fun _ => .nop (.pt (agn h.d))) fun hi => ?_
  refine .ite (fun _ => hs Nq.refl.pr) fun _ => ?_
  refine .ite (fun ho => ?_) fun _ => ?_
  · exact .ite (fun hn => .nop (arj h).pr.pr) fun hn => hs (arj h).pr.em
  · refine .ite (fun _ => hs Nq.refl.pr) fun _ => ?_
    exact .nop (Nq.pt (aqx h.d)).pr
theorem ame {s : LPushS} : afo v s = none ∨ ∃ u t, afo v s = some (u, .push t) := by
  cases s with
  | push s =>
    cases s with
    | l1 => exact .inl rfl
    | _ => exact .inr ⟨_, _, rfl⟩
  | _ => exact .inl rfl
theorem azM {r : RunS} : asj r = none ∨ ∃ u t, asj r = some (u, .push t) := by
  obtain ⟨stack, id, child, level, waiter, k⟩ := r
  cases k with
  | s3 s => exact ame
  | j5 s =>
    cases s with
    | push t s => exact ame
    | _ => exact .inl rfl
  | f4 s =>
    cases s with
    | l4 v s => exact ame
    | _ => exact .inl rfl
  | _ => exact .inl rfl
theorem aFm {r : RunS} (h : MI c e) (hr : aDi c r) : aAt c w e (asj r) (ath w e r) := by
  unfold ath
  refine .ite (fun _ => ?_) fun _ => ?_
  · rcases azM (r := r) with k | ⟨u, t, k⟩ <;> rw [k]
    · exact .nop .refl
    · exact .drop u t .refl
  generalize aaQ r.stack = t
  obtain ⟨stack, id, child, level, waiter, k⟩ := r
  cases k with
  | next => exact aDJ h rfl
  | s2 s =>
    have := awY (t := id) (v := level) h s
    simp only [afO]
    revert this
    rcases aeq id level e s with ⟨o, e'⟩
    intro this
    cases o with
    | go s => exact .nop this
    | fin c0 v0 => exact .nop this.em
  | s3 s =>
    have := aom (w := w) (v := level) h hr.1 s hr.2
    simp only [afO]
    revert this
    rcases abS w level id e s with ⟨o, e'⟩
    intro this
    cases o with
    | go s => exact this
    | fin c0 v0 =>
      simp only
      split
      · exact this
      · exact this
  | s4 s =>
    have := arF (w := w) (v := level) h s
    simp only [afO]
    revert this
    rcases aej w level e s with ⟨o, e'⟩
    intro this
    cases o with
    | go s => exact .nop this
    | fin c0 v0 => exact .nop this
  | s5 =>
    simp only [afO]
    split
    · exact .nop (aks h)
    · exact .nop (aks h)
  | j2 =>
    simp only [afO]
    rw [h.l]
    exact .nop (.pt (agn h.d))
  | j3 =>
    simp only [afO]
    rw [h.l]
    exact .ite (fun _ => .nop (Nq.em (.cas (aqz h.d)))) fun _ => .nop (.cas (aqz h.d))
  | j4 => exact .nop .lk
  | j5 s =>
    have := aDs (w := w) (v := level) h s hr
    simp only [afO]
    revert this
    rcases ae1 w level e s with ⟨o, e'⟩
    intro this
    cases o with
    | go s => exact this
    | fin c0 v0 => exact aos this.em
  | j6 =>
    simp only [afO]
    rw [h.l]
    exact .nop (.pt (agn h.d))
  | j7 =>
    simp only [afO]
    rw [h.l]
    exact .nop (Nq.em (Nq.pr (.pt (aqx h.d))))
  | f2 =>
    simp only [afO]
    rw [h.l]
    exact .ite (fun _ => aos (.nop (Nq.em (.cas (aqz h.d))))) fun _ => .nop (Nq.em (.cas (aqz h.d)))
  | f3 =>
    simp only [afO]
    exact .ite (fun hn => .nop .lk) fun _ => aos (.nop .lk)
  | f4 s =>
    have := aCM (w := w) h hr.1 s hr.2
    simp only [afO]
    revert this
    rcases adx w waiter e s with ⟨o, e'⟩
    intro this
    cases o with
    | go s => exact this
    | fin c0 v0 =>
      simp only
      split
      · exact this
      · exact this
  | f5 v s =>
    have := arF (w := w) (v := v) h s
    simp only [afO]
    revert this
    rcases aej w v e s with ⟨o, e'⟩
    intro this
    cases o with
    | go s => exact .nop this
    | fin c0 v0 => exact aos (.nop this)
  | f6 =>
    simp only [afO]
    exact .ite (fun _ => .nop (aks h)) fun _ => aos (.nop (aks h))
def thS (v l : Int) : StealS → ThT
  | .l1 => none
  | .l2 t => some (v, l, .l2 t)
  | .l3 t => some (v, l, .l3 t)
  | .l4 t u => some (v, l, .l4 t u)
def ash (k : WorkS) : OpT := match k.c with
  | .t1 _ s => amd s
  | .t2 s => asi s
  | .t3 s => aqv s
  | .t7 s => asj s
  | _ => none
def arH (k : WorkS) : ThT := match k.c with
  | .t5 s => thS k.victim k.level s
  | _ => none
def ayE (c : Cfg) (k : WorkS) : Prop := match k.c with
  | .t3 s => avN c s
  | _ => True
inductive Tw (c : Cfg) (w : Int) (e e' : EnvP) : OpT → ThT → OpT → ThT → Prop
  | own (p q : OpT) (h : Ow c w e e' p q) : Tw c w e e' p none q none
  | thief (v l : Int) (s : StealS) (hs : ars c s) (hg : ∀ a, e'.gt a = (aec (aaj (aaz c) v l) e s).2.gt a) : Tw c w e e' none (thS v l s) none ((aec (aaj (aaz c) v l) e s).1.op (thS v l))
def arp (c : Cfg) (w : Int) (e : EnvP) (p : OpT) (t : ThT) (o : WorkS × EnvP) : Prop := Tw c w e o.2 p t (ash o.1) (arH o.1) ∧ ayE c o.1
theorem arp.ite {p : OpT} {t : ThT} {P : Prop} [Decidable P] {a b : WorkS × EnvP} (h1 : P → arp c w e p t a) (h2 : ¬ P → arp c w e p t b) : arp c w e p t (if P then a else b) := by
  split
  · exact h1 ‹_›
  · exact h2 ‹_›
theorem arp.ite1 {p : OpT} {t : ThT} {P : Prop} [Decidable P] {a b : WorkS} {e' : EnvP} (h1 : P → arp c w e p t (a, e')) (h2 : ¬ P → arp c w e p t (b, e')) : arp c w e p t (if P then a else b, e') := by
  split
  · exact h1 ‹_›
  · exact h2 ‹_›
theorem aAZ {k : WorkS} (hk : ayE c k) : ayE c { k with c := abT w e k } ∧ ash { k with c := abT w e k } = ash k ∧ arH { k with c := abT w e k } = arH k := by
  obtain ⟨a, b, d, x, g⟩ := k
  cases g with
  | top =>
    unfold abT
    simp only
    split
    · exact ⟨trivial, rfl, rfl⟩
    · exact ⟨trivial, rfl, rfl⟩
  | _ => exact ⟨hk, rfl, rfl⟩
theorem aDp {k : WorkS} (h : MI c e) (hz : e.gt 2 ≤ c.heap) (hk : awf c k) (hn : ayE c k) : arp c w e (ash k) (arH k) (acS w e k) := by
  have hG := awl (w := w) h hk
  have hB := aAZ (w := w) (e := e) hn
  unfold acS
  revert hB hG
  generalize abT w e k = kc
  intro ⟨h1, _⟩ ⟨g1, g2, g3⟩
  rw [← g2, ← g3]
  cases kc with
  | top => exact ⟨by rw [g2, g3, ← g2, ← g3]; exact .own _ _ (.nop .refl), hn⟩
  | t1 t s =>
    have := aA9 (w := w) h h1.1 s h1.2
    simp only
    revert this
    rcases abe w t e s with ⟨o, e'⟩
    intro this
    cases o with
    | go s => exact ⟨.own _ _ this, trivial⟩
    | fin c0 v0 => exact ⟨.own _ _ this, trivial⟩
  | t2 s =>
    have := aDy (w := w) h s h1
    simp only
    revert this
    rcases aiz w e s with ⟨o, e'⟩
    intro this
    cases o with
    | go s => exact ⟨.own _ _ this, trivial⟩
    | fin c0 v0 => exact .ite1 (fun hc => ⟨.own _ _ this, trivial⟩) fun _ => ⟨.own _ _ this, trivial⟩
  | t3 s =>
    have := aCO (w := w) h hz s h1 g1
    simp only
    revert this
    rcases abk w e s with ⟨o, e'⟩
    intro this
    cases o with
    | go s => exact ⟨.own _ _ this.1, this.2⟩
    | fin c0 v0 =>
      refine .ite1 (fun hc => ⟨.own _ _ this.1, trivial⟩) fun _ => .ite1 (fun _ => ⟨.own _ _ this.1, trivial⟩) fun _ => ?_
      unfold axE
      split
      · exact ⟨.own _ _ this.1, trivial⟩
      · exact ⟨.own _ _ this.1, trivial⟩
  | t4 s =>
    have := aBW (c := c) (w := w) (e := e) s
    simp only
    revert this
    rcases aj1 w e s with ⟨o, e'⟩
    intro this
    cases o with
    | go s => exact ⟨.own _ _ (.nop this), trivial⟩
    | fin c0 v0 => exact .ite1 (fun hc => ⟨.own _ _ (.nop this), trivial⟩) fun _ => ⟨.own _ _ (.nop this), trivial⟩
  | t5 s =>
    have := Tw.thief (c := c) (w := w) (e := e) k.victim k.level s h1 (fun a => rfl)
    simp only
    rw [h.l]
    revert this
    rcases aec (aaj (aaz c) k.victim k.level) e s with ⟨o, e'⟩
    intro this
    cases o with
    | go s => exact ⟨this, trivial⟩
    | fin c0 v0 =>
      have this : Tw c w e e' none (thS k.victim k.level s) none none := this
      have t2 : Tw c w e (e'.em 14 w v0 k.victim k.level) none (thS k.victim k.level s) none none := by
        generalize thS k.victim k.level s = p at this
        have e1 : ∀ {p q : ThT}, Tw c w e e' none p none q → Tw c w e (e'.em 14 w v0 k.victim k.level) none p none q := fun h => by
          cases h with
          | own _ _ h => exact .own _ _ h.em
          | thief v l s hs hg => exact .thief v l s hs hg
        exact e1 this
      refine .ite (fun hc => ⟨t2, trivial⟩) fun _ => .ite (fun _ => ⟨this, trivial⟩) fun _ => ⟨this, trivial⟩
  | t6 =>
    exact .ite1 (fun _ => ⟨.own _ _ (.nop (aks h)), trivial⟩) fun _ => ⟨.own _ _ (.nop (aks h)), trivial⟩
  | t7 s =>
    have := aFm (w := w) h h1
    simp only
    revert this
    rcases ath w e s with ⟨o, e'⟩
    intro this
    cases o with
    | go s => exact ⟨.own _ _ this, trivial⟩
    | fin c0 v0 => exact ⟨.own _ _ this, trivial⟩
  | t8 s =>
    have := aBq (w := w) h s
    simp only
    revert this
    rcases aga w e s with ⟨o, e'⟩
    intro this
    cases o with
    | go s => exact ⟨.own _ _ (.nop this), trivial⟩
    | fin c0 v0 => exact ⟨.own _ _ (.nop this), trivial⟩
  | t9 s =>
    have := awV (a := k.victim) (b := k.level) (q := aaj (aaz c) k.victim k.level) h s
    simp only
    rw [h.l]
    revert this
    rcases agc (aaP (aaz c) k.victim) k.level (aaj (aaz c) k.victim k.level) e s with ⟨o, e'⟩
    intro this
    cases o with
    | go s => exact ⟨.own _ _ (.nop this), trivial⟩
    | fin c0 v0 => exact ⟨.own _ _ (.nop this), trivial⟩
end
end
section
open Go Go.RowKit
set_option maxRecDepth 100000
variable [Tb]
section
variable {c : Cfg} {e e' : EnvP} {w v x : Int}
def aC2 (c : Cfg) (k : ClieS) : Prop := match k.c with
  | .a6 s => ao3 c s
  | _ => True
def awg (c : Cfg) (e : EnvP) (o : Bool × ClieS × EnvP) : Prop := Nq c e o.2.2 ∧ aC2 c o.2.1
theorem awg.ite {P : Prop} [Decidable P] {a b : Bool × ClieS × EnvP} (h1 : P → awg c e a) (h2 : ¬ P → awg c e b) : awg c e (if P then a else b) := by
  split
  · exact h1 ‹_›
  · exact h2 ‹_›
theorem aEN {k : ClieS} {me : Int} (h : MI c e) (hz : e.gt 2 ≤ c.heap) (hn : aC2 c k) : awg c e (asQ c.subs me e k) := by
  unfold asQ
  refine .ite (fun _ => ⟨.refl, hn⟩) fun _ => ?_
  obtain ⟨i, id, acc, g⟩ := k
  show awg c e (acO c.subs me e ⟨i, id, acc, g⟩ (abY c.subs i))
  cases g with
  | n1 =>
    simp only [acO]
    by_cases hh : e.hit 1 0 = true
    · rw [if_pos hh]; exact ⟨apA h, trivial⟩
    · rw [if_neg hh]; exact ⟨apA h, trivial⟩
  | a1 =>
    simp only [acO]
    by_cases hh : e.hit 1 0 = true
    · rw [if_pos hh]; exact ⟨apA h, trivial⟩
    · rw [if_neg hh]; exact ⟨apA h, trivial⟩
  | n2 =>
    simp only [acO]
    exact .ite (fun _ => ⟨Nq.em .lk, trivial⟩) fun _ => ⟨.lk, trivial⟩
  | n3 =>
    simp only [acO]
    exact .ite (fun _ => ⟨(arj h).pr, trivial⟩) fun _ => ⟨(arj h).em, trivial⟩
  | n4 =>
    simp only [acO]
    rw [h.l]
    exact ⟨.pt (ajz h.d), trivial⟩
  | n5 =>
    simp only [acO]
    rw [h.l]
    exact ⟨.pt (ann h.d), trivial⟩
  | n6 =>
    have := avi (d := (abY c.subs i).deadline) (t := id) h hz .l1 trivial
    simp only [acO]
    revert this
    rcases acF (abY c.subs i).deadline id e .l1 with ⟨o, e'⟩
    intro this
    cases o with
    | go s => exact this
    | fin c0 v0 => exact .ite (fun _ => ⟨this.1.em, trivial⟩) fun _ => ⟨this.1, trivial⟩
  | a6 s =>
    have := avi (d := (abY c.subs i).deadline) (t := id) h hz s hn
    simp only [acO]
    revert this
    rcases acF (abY c.subs i).deadline id e s with ⟨o, e'⟩
    intro this
    cases o with
    | go s => exact this
    | fin c0 v0 => exact .ite (fun _ => ⟨this.1.em, trivial⟩) fun _ => ⟨this.1, trivial⟩
  | n7 =>
    simp only [acO]
    rw [h.l]
    exact ⟨.pt (agn h.d), trivial⟩
  | n8 =>
    simp only [acO]
    exact .ite (fun _ => ⟨avo h, trivial⟩) fun _ => ⟨avo h, trivial⟩
  | n9 =>
    have := arF (w := me) (v := (abY c.subs i).level) h (.l1 0)
    simp only [acO]
    revert this
    rcases aej me (abY c.subs i).level e (.l1 0) with ⟨o, e'⟩
    intro this
    cases o with
    | go s => exact ⟨this, trivial⟩
    | fin c0 v0 => exact ⟨this, trivial⟩
  | a9 t =>
    have := arF (w := me) (v := (abY c.subs i).level) h t
    simp only [acO]
    revert this
    rcases aej me (abY c.subs i).level e t with ⟨o, e'⟩
    intro this
    cases o with
    | go s => exact ⟨this, trivial⟩
    | fin c0 v0 => exact ⟨this, trivial⟩
end
theorem aFe {x : Int} (h : -1000000000000 ≤ x ∧ x ≤ 1000000000000) : wi (wu x) = x := by
  show IntKind.i64.wrap (IntKind.u64.wrap x) = x
  rw [aum]
  simp [IntKind.wrap, IntKind.signed, IntKind.bits]
  split <;> omega
theorem auu {b t : Int} (hb : 0 ≤ b ∧ b ≤ 1000000000) (ht : 0 ≤ t ∧ t ≤ 1000000000) : szP b t = b - t := aFe (by omega)
def Vq (c : Cfg) (w v : Int) : Prop := (0 ≤ w ∧ w < c.workers) ∧ 0 ≤ v ∧ v < c.levels
theorem arn {c : Cfg} (h : DecOk c) {w v w' v' i j : Int} (h1 : Vq c w v) (h2 : Vq c w' v') (hi : i = 0 ∨ i = 1) (hj : j = 0 ∨ j = 1)
    (he : (aaz c).queues + (w * c.levels + v) * (2 + c.deque) + i = (aaz c).queues + (w' * c.levels + v') * (2 + c.deque) + j) : w = w' ∧ v = v' ∧ i = j := by
  have hl := h.l
  have hq := h.q
  obtain ⟨⟨a1, a2⟩, a3, a4⟩ := h1
  obtain ⟨⟨b1, b2⟩, b3, b4⟩ := h2
  have key : w * c.levels + v = w' * c.levels + v' ∧ i = j := by
    revert he
    generalize w * c.levels + v = k
    generalize w' * c.levels + v' = k'
    intro he
    have : c.deque = 1 ∨ c.deque = 2 ∨ c.deque = 3 ∨ c.deque = 4 := by omega
    rcases this with e | e | e | e <;> rw [e] at he <;> omega
  refine ⟨?_, ?_, key.2⟩
  · have k := key.1
    have : c.levels = 1 ∨ c.levels = 2 ∨ c.levels = 3 ∨ c.levels = 4 := by omega
    rcases this with e | e | e | e <;> rw [e] at k a4 b4 <;> omega
  · have k := key.1
    have : c.levels = 1 ∨ c.levels = 2 ∨ c.levels = 3 ∨ c.levels = 4 := by omega
    rcases this with e | e | e | e <;> rw [e] at k a4 b4 <;> omega
end
section
open Go Go.RowKit
set_option maxRecDepth 100000
variable [Tb]
def aeM (p : OpT) (v : Int) : Option QOp := match p with
  | some (u, o) => if u = v then some o else none
  | none => none
def alK (o : Option QOp) (B : Int) : Int := match o with
  | some (.pop (.l4 _ _)) => B + 1
  | some (.pop (.l6 _ _)) => B + 1
  | some (.pop (.l7 _ _)) => B + 1
  | some (.pop (.l9 _ _)) => B + 1
  | _ => B
def OpF (dq T B : Int) (o : Option QOp) : Prop := match o with
  | some (.push (.l2 b)) => b = B
  | some (.push (.l3 b)) => b = B ∧ B < T + dq
  | some (.push (.l4 b)) => b = B ∧ B < T + dq
  | some (.pop (.l2 b)) => b = B
  | some (.pop (.l3 b t)) => b = B ∧ 0 ≤ t ∧ t ≤ T ∧ t < b
  | some (.pop (.l4 b _)) => b = B + 1
  | some (.pop (.l6 b t)) => b = B + 1 ∧ t = B
  | some (.pop (.l7 b _)) => b = B + 1
  | some (.pop (.l9 b _)) => b = B + 1
  | _ => True
structure QIo (dq K T B : Int) (o : Option QOp) : Prop where
  t : 0 ≤ T ∧ T ≤ K
  b : 0 ≤ B ∧ alK o B ≤ K
  tb : T ≤ alK o B
  bt : alK o B ≤ T + dq
  f : OpF dq T B o
def ThF (T Be : Int) : StealS → Prop
  | .l1 => True
  | .l2 t => 0 ≤ t ∧ t ≤ T
  | .l3 t => 0 ≤ t ∧ t ≤ T ∧ (t = T → t < Be)
  | .l4 t _ => 0 ≤ t ∧ t ≤ T ∧ (t = T → t < Be)
theorem ayr {o : Option QOp} {B : Int} : B ≤ alK o B ∧ alK o B ≤ B + 1 := by
  unfold alK
  split <;> omega
theorem QIo.up {dq K L T B : Int} {o : Option QOp} (h : QIo dq K T B o) (hl : K ≤ L) : QIo dq L T B o := ⟨⟨h.t.1, by have := h.t.2; omega⟩, ⟨h.b.1, by have := h.b.2; omega⟩, h.tb, h.bt, h.f⟩
theorem aa9 {v : Int} {o : QOp} : aeM (some (v, o)) v = some o := by simp [aeM]
theorem ThF.top {T Be Be' : Int} {s : StealS} (h : ThF T Be s) : ThF (T + 1) Be' s := by
  cases s with
  | l1 => trivial
  | l2 t => have h : 0 ≤ t ∧ t ≤ T := h; show 0 ≤ t ∧ t ≤ T + 1; omega
  | l3 t => have h : 0 ≤ t ∧ t ≤ T ∧ _ := h; show 0 ≤ t ∧ t ≤ T + 1 ∧ (t = T + 1 → _); exact ⟨h.1, by omega, fun k => by omega⟩
  | l4 t u => have h : 0 ≤ t ∧ t ≤ T ∧ _ := h; show 0 ≤ t ∧ t ≤ T + 1 ∧ (t = T + 1 → _); exact ⟨h.1, by omega, fun k => by omega⟩
theorem ThF.be {T Be Be' : Int} {s : StealS} (h : ThF T Be s) (hb : T < Be → T < Be') : ThF T Be' s := by
  cases s with
  | l1 => trivial
  | l2 t => exact h
  | l3 t => exact ⟨h.1, h.2.1, fun k => by have := h.2.2 k; rw [k] at this ⊢; exact hb this⟩
  | l4 t u => exact ⟨h.1, h.2.1, fun k => by have := h.2.2 k; rw [k] at this ⊢; exact hb this⟩
section
variable {c : Cfg} {e e' : EnvP} {w v x : Int} {K : Int}
theorem azr (h : DecOk c) (hv : Vq c w v) : ∃ a, (aaj (aaz c) w v).top = a ∧ (aaj (aaz c) w v).bottom = a + 1 ∧ 0 ≤ a ∧ a + 1 < aba c ∧ (aaj (aaz c) w v).cap = c.deque := by
  have e0 := agA h
  have h4 := h.h
  have h5 := h.t
  have h6 := h.q
  rcases agF h w v with ⟨k, _⟩ | ⟨_, ⟨e1, e2⟩, e⟩
  · exact absurd hv k
  · have e3 : (w * c.levels + v + 1) * (2 + c.deque) ≤ c.workers * c.levels * (2 + c.deque) := Int.mul_le_mul_of_nonneg_right (by omega) (by omega)
    have e4 : (w * c.levels + v + 1) * (2 + c.deque) = (w * c.levels + v) * (2 + c.deque) + (2 + c.deque) := by rw [Int.add_mul, Int.one_mul]
    have e5 : 0 ≤ (w * c.levels + v) * (2 + c.deque) := Int.mul_nonneg e1 (by omega)
    rw [e]
    refine ⟨_, rfl, rfl, ?_, ?_, rfl⟩
    · show 0 ≤ (aaz c).queues + (w * c.levels + v) * (2 + c.deque); omega
    · show (aaz c).queues + (w * c.levels + v) * (2 + c.deque) + 1 < aba c
      unfold aba; omega
abbrev Tq (c : Cfg) (e : EnvP) (w v : Int) : Int := e.gt (aaj (aaz c) w v).top
abbrev Bq (c : Cfg) (e : EnvP) (w v : Int) : Int := e.gt (aaj (aaz c) w v).bottom
theorem auO (h : DecOk c) (hn : (e.m.cells.length : Int) = aba c) (hv : Vq c w v) {k u : Int} : Tq c (e.pt k (aaj (aaz c) w v).bottom u) w v = Tq c e w v ∧ Bq c (e.pt k (aaj (aaz c) w v).bottom u) w v = u := by
  obtain ⟨a, e1, e2, e3, e4, _⟩ := azr h hv
  unfold Tq Bq
  rw [e1, e2]
  constructor
  · rw [ahx, if_neg (by omega)]
  · rw [ahx, if_pos (by omega)]
theorem ayl (h : DecOk c) (hn : (e.m.cells.length : Int) = aba c) (hv : Vq c w v) {t u : Int} : Bq c (e.cas (aaj (aaz c) w v).top t u) w v = Bq c e w v ∧ Tq c (e.cas (aaj (aaz c) w v).top t u) w v = (if Tq c e w v = t then u else Tq c e w v) ∧ (e.hit (aaj (aaz c) w v).top t = true ↔ Tq c e w v = t) := by
  obtain ⟨a, e1, e2, e3, e4, _⟩ := azr h hv
  have hh : e.hit (aaj (aaz c) w v).top t = true ↔ Tq c e w v = t := by
    constructor
    · exact fun k => (avk k).1
    · intro k
      have hr : 0 ≤ a ∧ a < (e.m.cells.length : Int) := by omega
      have k : e.m.gt (aaj (aaz c) w v).top = t := k
      rw [e1] at k ⊢
      unfold MemV.gt at k
      rw [if_pos hr] at k
      show decide _ = true
      rw [decide_eq_true ⟨hr, k⟩]
  refine ⟨?_, ?_, hh⟩
  · unfold Bq
    rw [ais, if_neg]
    intro k
    have := k.2
    rw [e1, e2] at this
    omega
  · unfold Tq
    rw [ais]
    by_cases k : e.gt (aaj (aaz c) w v).top = t
    · rw [if_pos ⟨hh.2 k, rfl⟩, if_pos k]
    · rw [if_neg (fun q => k (hh.1 q.1)), if_neg k]
theorem awS (h : MI c e) (hv : Vq c w v) {b k u : Int} (hb : 0 ≤ b) {w' v' : Int} : Tq c (e.pt k (aeD (aaj (aaz c) w' v') b) u) w v = Tq c e w v ∧ Bq c (e.pt k (aeD (aaj (aaz c) w' v') b) u) w v = Bq c e w v := by
  have hN : Nq c e (e.pt k (aeD (aaj (aaz c) w' v') b) u) := .pt (axw h.d w' v' hb)
  have e1 : ckC c (aaj (aaz c) w v).top = 4 ∧ ckC c (aaj (aaz c) w v).bottom = 4 := by
    have h3 := h.d.q
    rcases agF h.d w v with ⟨k, _⟩ | ⟨_, e1, e⟩
    · exact absurd hv k
    · rw [e]
      have c0 := aoM h.d e1 (j := 0) (by omega)
      have c1 := aoM h.d e1 (j := 1) (by omega)
      rw [Int.add_zero, if_pos (by omega)] at c0
      rw [if_pos (by omega)] at c1
      exact ⟨c0, c1⟩
  exact ⟨hN.ix _ e1.1, hN.ix _ e1.2⟩
theorem aBS (h : MI c e) (hn : (e.m.cells.length : Int) = aba c) (hv : Vq c w v) (hK : 0 ≤ K ∧ K ≤ 1000000) (s : OPushS) (hs : ajl s) (hq : QIo c.deque K (Tq c e w v) (Bq c e w v) (aeM (opP v s) v)) :
    let r := adX (aaj (aaz c) w v) x e s
    QIo c.deque (K + 1) (Tq c r.2 w v) (Bq c r.2 w v) (aeM (r.1.op (opP v)) v) ∧ ∀ st, ThF (Tq c e w v) (alK (aeM (opP v s) v) (Bq c e w v)) st → ThF (Tq c r.2 w v) (alK (aeM (r.1.op (opP v)) v) (Bq c r.2 w v)) st := by
  have hd := h.d.q
  obtain ⟨a, _, _, _, _, hcap⟩ := azr h.d hv
  obtain ⟨q1, q2, q3, q4, q5⟩ := hq
  have lT : ∀ a, Tq c (e.lk a) w v = Tq c e w v := fun a => alr
  have lB : ∀ a, Bq c (e.lk a) w v = Bq c e w v := fun a => alr
  cases s with
  | l1 =>
    intro r
    have e1 : aeM (r.1.op (opP v)) v = some (.push (.l2 (Bq c e w v))) := aa9
    have e2 : r.2 = e.lk (aaj (aaz c) w v).bottom := rfl
    rw [e1, e2, lT, lB]
    exact ⟨⟨⟨q1.1, by omega⟩, ⟨q2.1, by have k : Bq c e w v ≤ K := q2.2; show Bq c e w v ≤ K + 1; omega⟩, q3, q4, rfl⟩, fun st k => k⟩
  | l2 b =>
    intro r
    have eo : aeM (opP v (.l2 b)) v = some (.push (.l2 b)) := aa9
    rw [eo] at q2 q3 q4 q5 ⊢
    have hb : b = Bq c e w v := q5
    have q2b : Bq c e w v ≤ K := q2.2
    have e2 : r.2 = e.lk (aaj (aaz c) w v).top := rfl
    have es : szP b (Tq c e w v) = b - Tq c e w v := auu (by omega) (by omega)
    have e1 : r.1 = if c.deque ≤ b - Tq c e w v then Rs.fin 3 0 else Rs.go (OPushS.l3 b) := by
      show (if (aaj (aaz c) w v).cap ≤ szP b (Tq c e w v) then Rs.fin 3 0 else Rs.go (OPushS.l3 b)) = _
      rw [hcap, es]
    rw [e2, lT, lB, e1]
    by_cases hc : c.deque ≤ b - Tq c e w v
    · rw [if_pos hc]
      exact ⟨⟨⟨q1.1, by omega⟩, ⟨q2.1, by show Bq c e w v ≤ K + 1; omega⟩, q3, q4, trivial⟩, fun st k => k⟩
    · rw [if_neg hc]
      have e3 : aeM (Rs.op (opP v) (Rs.go (OPushS.l3 b))) v = some (.push (.l3 b)) := aa9
      rw [e3]
      exact ⟨⟨⟨q1.1, by omega⟩, ⟨q2.1, by show Bq c e w v ≤ K + 1; omega⟩, q3, q4, hb, by omega⟩, fun st k => k⟩
  | l3 b =>
    intro r
    have eo : aeM (opP v (.l3 b)) v = some (.push (.l3 b)) := aa9
    rw [eo] at q2 q3 q4 q5 ⊢
    have q2b : Bq c e w v ≤ K := q2.2
    have e2 : r.2 = e.pt 2 (aeD (aaj (aaz c) w v) b) (wu x) := rfl
    have e3 : aeM (r.1.op (opP v)) v = some (.push (.l4 b)) := aa9
    have hr := awS h hv hs (k := 2) (u := wu x) (w' := w) (v' := v)
    rw [e2, e3, hr.1, hr.2]
    exact ⟨⟨⟨q1.1, by omega⟩, ⟨q2.1, by show Bq c e w v ≤ K + 1; omega⟩, q3, q4, q5⟩, fun st k => k⟩
  | l4 b =>
    intro r
    have eo : aeM (opP v (.l4 b)) v = some (.push (.l4 b)) := aa9
    rw [eo] at q2 q3 q4 q5 ⊢
    have q2b : Bq c e w v ≤ K := q2.2
    have q3 : Tq c e w v ≤ Bq c e w v := q3
    have hb : b = Bq c e w v ∧ Bq c e w v < Tq c e w v + c.deque := q5
    have e2 : r.2 = e.pt 2 (aaj (aaz c) w v).bottom (wu (b + 1)) := rfl
    have e3 : aeM (r.1.op (opP v)) v = none := rfl
    have hr := auO h.d hn hv (k := 2) (u := wu (b + 1)) (e := e)
    rw [e2, e3, hr.1, hr.2, aeF (by omega)]
    refine ⟨⟨⟨q1.1, by omega⟩, ⟨by omega, by show b + 1 ≤ K + 1; omega⟩, by show _ ≤ b + 1; omega, by show b + 1 ≤ _; omega, trivial⟩, fun st k => ?_⟩
    refine ThF.be k fun k => ?_
    have k : Tq c e w v < Bq c e w v := k
    show Tq c e w v < b + 1
    omega
end
end
section
open Go Go.RowKit
set_option maxRecDepth 100000
variable [Tb]
section
variable {c : Cfg} {e e' : EnvP} {w v x : Int} {K : Int}
theorem aDV (h : MI c e) (hn : (e.m.cells.length : Int) = aba c) (hv : Vq c w v) (hK : 0 ≤ K ∧ K ≤ 1000000) (s : OPopS) (hq : QIo c.deque K (Tq c e w v) (Bq c e w v) (aeM (opO v s) v)) :
    let r := ajP (aaj (aaz c) w v) e s
    QIo c.deque (K + 1) (Tq c r.2 w v) (Bq c r.2 w v) (aeM (r.1.op (opO v)) v) ∧ ∀ st, ThF (Tq c e w v) (alK (aeM (opO v s) v) (Bq c e w v)) st → ThF (Tq c r.2 w v) (alK (aeM (r.1.op (opO v)) v) (Bq c r.2 w v)) st := by
  have hd := h.d.q
  obtain ⟨q1, q2, q3, q4, q5⟩ := hq
  have lT : ∀ a, Tq c (e.lk a) w v = Tq c e w v := fun a => alr
  have lB : ∀ a, Bq c (e.lk a) w v = Bq c e w v := fun a => alr
  cases s with
  | l1 =>
    intro r
    have e1 : aeM (r.1.op (opO v)) v = some (.pop (.l2 (Bq c e w v))) := aa9
    have e2 : r.2 = e.lk (aaj (aaz c) w v).bottom := rfl
    rw [e1, e2, lT, lB]
    exact ⟨⟨⟨q1.1, by omega⟩, ⟨q2.1, by have k : Bq c e w v ≤ K := q2.2; show Bq c e w v ≤ K + 1; omega⟩, q3, q4, rfl⟩, fun st k => k⟩
  | l2 b =>
    intro r
    have eo : aeM (opO v (.l2 b)) v = some (.pop (.l2 b)) := aa9
    rw [eo] at q2 q3 q4 q5 ⊢
    have hb : b = Bq c e w v := q5
    have q2b : Bq c e w v ≤ K := q2.2
    have e2 : r.2 = e.lk (aaj (aaz c) w v).top := rfl
    have es : szP b (Tq c e w v) = b - Tq c e w v := auu (by omega) (by omega)
    have e1 : r.1 = if b - Tq c e w v ≤ 0 then Rs.fin 2 0 else Rs.go (OPopS.l3 b (Tq c e w v)) := by
      show (if szP b (Tq c e w v) ≤ 0 then Rs.fin 2 0 else Rs.go (OPopS.l3 b (Tq c e w v))) = _
      rw [es]
    rw [e2, lT, lB, e1]
    by_cases hc : b - Tq c e w v ≤ 0
    · rw [if_pos hc]
      exact ⟨⟨⟨q1.1, by omega⟩, ⟨q2.1, by show Bq c e w v ≤ K + 1; omega⟩, q3, q4, trivial⟩, fun st k => k⟩
    · rw [if_neg hc]
      have e3 : aeM (Rs.op (opO v) (Rs.go (OPopS.l3 b (Tq c e w v)))) v = some (.pop (.l3 b (Tq c e w v))) := aa9
      rw [e3]
      exact ⟨⟨⟨q1.1, by omega⟩, ⟨q2.1, by show Bq c e w v ≤ K + 1; omega⟩, q3, q4, hb, q1.1, Int.le_refl _, by omega⟩, fun st k => k⟩
  | l3 b t =>
    intro r
    have eo : aeM (opO v (.l3 b t)) v = some (.pop (.l3 b t)) := aa9
    rw [eo] at q2 q3 q4 q5 ⊢
    have q2b : Bq c e w v ≤ K := q2.2
    have q3 : Tq c e w v ≤ Bq c e w v := q3
    have q4 : Bq c e w v ≤ Tq c e w v + c.deque := q4
    have hb : b = Bq c e w v ∧ 0 ≤ t ∧ t ≤ Tq c e w v ∧ t < b := q5
    have e2 : r.2 = e.pt 2 (aaj (aaz c) w v).bottom (wu (b - 1)) := rfl
    have e3 : aeM (r.1.op (opO v)) v = some (.pop (.l4 b t)) := aa9
    have hr := auO h.d hn hv (k := 2) (u := wu (b - 1)) (e := e)
    rw [e2, e3, hr.1, hr.2, aeF (x := b - 1) (by omega)]
    have eb : alK (some (.pop (.l4 b t))) (b - 1) = Bq c e w v := by show b - 1 + 1 = _; omega
    rw [eb]
    exact ⟨⟨⟨q1.1, by omega⟩, ⟨by omega, by rw [eb]; omega⟩, by rw [eb]; exact q3, by rw [eb]; exact q4, by show b = b - 1 + 1; omega⟩, fun st k => k⟩
  | l4 b t =>
    intro r
    have eo : aeM (opO v (.l4 b t)) v = some (.pop (.l4 b t)) := aa9
    rw [eo] at q2 q3 q4 q5 ⊢
    have q2b : Bq c e w v + 1 ≤ K := q2.2
    have q3 : Tq c e w v ≤ Bq c e w v + 1 := q3
    have q4 : Bq c e w v + 1 ≤ Tq c e w v + c.deque := q4
    have hb : b = Bq c e w v + 1 := q5
    have e2 : r.2 = e.lk (aaj (aaz c) w v).top := rfl
    have eu : wu (b - 1) = Bq c e w v := by rw [aeF (x := b - 1) (by omega)]; omega
    have es : szP (wu (b - 1)) (Tq c e w v) = Bq c e w v - Tq c e w v := by rw [eu]; exact auu (by omega) (by omega)
    have e1 : r.1 = if 0 < Bq c e w v - Tq c e w v then Rs.go (OPopS.l5 b (Tq c e w v)) else if Bq c e w v - Tq c e w v = 0 then Rs.go (OPopS.l6 b (Tq c e w v)) else Rs.go (OPopS.l9 b (Tq c e w v)) := by
      show (if 0 < szP (wu (b - 1)) (Tq c e w v) then Rs.go (OPopS.l5 b (Tq c e w v)) else if szP (wu (b - 1)) (Tq c e w v) = 0 then Rs.go (OPopS.l6 b (Tq c e w v)) else Rs.go (OPopS.l9 b (Tq c e w v))) = _
      rw [es]
    rw [e2, lT, lB, e1]
    by_cases h0 : 0 < Bq c e w v - Tq c e w v
    · rw [if_pos h0]
      have e3 : aeM (Rs.op (opO v) (Rs.go (OPopS.l5 b (Tq c e w v)))) v = some (.pop (.l5 b (Tq c e w v))) := aa9
      rw [e3]
      exact ⟨⟨⟨q1.1, by omega⟩, ⟨q2.1, by show Bq c e w v ≤ K + 1; omega⟩, by show Tq c e w v ≤ Bq c e w v; omega, by show Bq c e w v ≤ _; omega, trivial⟩, fun st k => k.be fun _ => by show Tq c e w v < Bq c e w v; omega⟩
    rw [if_neg h0]
    by_cases h1 : Bq c e w v - Tq c e w v = 0
    · rw [if_pos h1]
      have e3 : aeM (Rs.op (opO v) (Rs.go (OPopS.l6 b (Tq c e w v)))) v = some (.pop (.l6 b (Tq c e w v))) := aa9
      rw [e3]
      exact ⟨⟨⟨q1.1, by omega⟩, ⟨q2.1, by show Bq c e w v + 1 ≤ K + 1; omega⟩, q3, q4, hb, by omega⟩, fun st k => k⟩
    · rw [if_neg h1]
      have e3 : aeM (Rs.op (opO v) (Rs.go (OPopS.l9 b (Tq c e w v)))) v = some (.pop (.l9 b (Tq c e w v))) := aa9
      rw [e3]
      exact ⟨⟨⟨q1.1, by omega⟩, ⟨q2.1, by show Bq c e w v + 1 ≤ K + 1; omega⟩, q3, q4, hb⟩, fun st k => k⟩
  | l5 b t =>
    intro r
    have eo : aeM (opO v (.l5 b t)) v = some (.pop (.l5 b t)) := aa9
    rw [eo] at q2 q3 q4 q5 ⊢
    have q2b : Bq c e w v ≤ K := q2.2
    have e2 : r.2 = e.lk (aeD (aaj (aaz c) w v) (wu (b - 1))) := rfl
    have e3 : aeM (r.1.op (opO v)) v = none := rfl
    rw [e2, e3, lT, lB]
    exact ⟨⟨⟨q1.1, by omega⟩, ⟨q2.1, by show Bq c e w v ≤ K + 1; omega⟩, q3, q4, trivial⟩, fun st k => k⟩
  | l6 b t =>
    intro r
    have eo : aeM (opO v (.l6 b t)) v = some (.pop (.l6 b t)) := aa9
    rw [eo] at q2 q3 q4 q5 ⊢
    have q2b : Bq c e w v + 1 ≤ K := q2.2
    have q3 : Tq c e w v ≤ Bq c e w v + 1 := q3
    have q4 : Bq c e w v + 1 ≤ Tq c e w v + c.deque := q4
    have hb : b = Bq c e w v + 1 ∧ t = Bq c e w v := q5
    have hc := ayl h.d hn hv (t := t) (u := wu (t + 1)) (e := e)
    have e2 : r.2 = e.cas (aaj (aaz c) w v).top t (wu (t + 1)) := rfl
    have e1 : r.1 = if e.hit (aaj (aaz c) w v).top t = true then Rs.go (OPopS.l7 b t) else Rs.go (OPopS.l9 b t) := rfl
    rw [e2, hc.1, hc.2.1, e1]
    by_cases ht : Tq c e w v = t
    · rw [if_pos (hc.2.2.2 ht), if_pos ht, aeF (x := t + 1) (by omega)]
      have e3 : aeM (Rs.op (opO v) (Rs.go (OPopS.l7 b t))) v = some (.pop (.l7 b t)) := aa9
      rw [e3]
      refine ⟨⟨by omega, ⟨q2.1, by show Bq c e w v + 1 ≤ K + 1; omega⟩, by show t + 1 ≤ Bq c e w v + 1; omega, by show Bq c e w v + 1 ≤ t + 1 + _; omega, hb.1⟩, fun st k => ?_⟩
      rw [ht] at k
      exact k.top
    · rw [if_neg (fun q => ht (hc.2.2.1 q)), if_neg ht]
      have e3 : aeM (Rs.op (opO v) (Rs.go (OPopS.l9 b t))) v = some (.pop (.l9 b t)) := aa9
      rw [e3]
      exact ⟨⟨⟨q1.1, by omega⟩, ⟨q2.1, by show Bq c e w v + 1 ≤ K + 1; omega⟩, q3, q4, hb.1⟩, fun st k => k⟩
  | l7 b t =>
    intro r
    have eo : aeM (opO v (.l7 b t)) v = some (.pop (.l7 b t)) := aa9
    rw [eo] at q2 q3 q4 q5 ⊢
    have q2b : Bq c e w v + 1 ≤ K := q2.2
    have q3 : Tq c e w v ≤ Bq c e w v + 1 := q3
    have q4 : Bq c e w v + 1 ≤ Tq c e w v + c.deque := q4
    have hb : b = Bq c e w v + 1 := q5
    have e2 : r.2 = e.pt 2 (aaj (aaz c) w v).bottom b := rfl
    have e3 : aeM (r.1.op (opO v)) v = some (.pop (.l8 b t)) := aa9
    have hr := auO h.d hn hv (k := 2) (u := b) (e := e)
    rw [e2, e3, hr.1, hr.2]
    have eb : alK (some (.pop (.l7 b t))) (Bq c e w v) = b := by show Bq c e w v + 1 = b; omega
    rw [eb]
    exact ⟨⟨⟨q1.1, by omega⟩, ⟨by omega, by show b ≤ K + 1; omega⟩, by show Tq c e w v ≤ b; omega, by show b ≤ _; omega, trivial⟩, fun st k => k⟩
  | l8 b t =>
    intro r
    have eo : aeM (opO v (.l8 b t)) v = some (.pop (.l8 b t)) := aa9
    rw [eo] at q2 q3 q4 q5 ⊢
    have q2b : Bq c e w v ≤ K := q2.2
    have e2 : r.2 = e.lk (aeD (aaj (aaz c) w v) (wu (b - 1))) := rfl
    have e3 : aeM (r.1.op (opO v)) v = none := rfl
    rw [e2, e3, lT, lB]
    exact ⟨⟨⟨q1.1, by omega⟩, ⟨q2.1, by show Bq c e w v ≤ K + 1; omega⟩, q3, q4, trivial⟩, fun st k => k⟩
  | l9 b t =>
    intro r
    have eo : aeM (opO v (.l9 b t)) v = some (.pop (.l9 b t)) := aa9
    rw [eo] at q2 q3 q4 q5 ⊢
    have q2b : Bq c e w v + 1 ≤ K := q2.2
    have q3 : Tq c e w v ≤ Bq c e w v + 1 := q3
    have q4 : Bq c e w v + 1 ≤ Tq c e w v + c.deque := q4
    have hb : b = Bq c e w v + 1 := q5
    have e2 : r.2 = e.pt 2 (aaj (aaz c) w v).bottom b := rfl
    have e3 : aeM (r.1.op (opO v)) v = none := rfl
    have hr := auO h.d hn hv (k := 2) (u := b) (e := e)
    rw [e2, e3, hr.1, hr.2]
    have eb : alK (some (.pop (.l9 b t))) (Bq c e w v) = b := by show Bq c e w v + 1 = b; omega
    rw [eb]
    exact ⟨⟨⟨q1.1, by omega⟩, ⟨by omega, by show b ≤ K + 1; omega⟩, by show Tq c e w v ≤ b; omega, by show b ≤ _; omega, trivial⟩, fun st k => k⟩
theorem OpF.top {dq T B : Int} {o : Option QOp} (h : OpF dq T B o) : OpF dq (T + 1) B o := by
  rcases o with _ | s
  · trivial
  cases s with
  | push s =>
    cases s with
    | l1 => trivial
    | l2 b => exact h
    | l3 b => have h : b = B ∧ B < T + dq := h; show b = B ∧ B < T + 1 + dq; omega
    | l4 b => have h : b = B ∧ B < T + dq := h; show b = B ∧ B < T + 1 + dq; omega
  | pop s =>
    cases s with
    | l3 b t => have h : b = B ∧ 0 ≤ t ∧ t ≤ T ∧ t < b := h; show b = B ∧ 0 ≤ t ∧ t ≤ T + 1 ∧ t < b; omega
    | _ => exact h
theorem aza (h : MI c e) (hn : (e.m.cells.length : Int) = aba c) (hv : Vq c w v) (hK : 0 ≤ K ∧ K ≤ 1000000) (s : StealS) (o : Option QOp) (hq : QIo c.deque K (Tq c e w v) (Bq c e w v) o) (ht : ∀ s', thS w v s = some (w, v, s') → ThF (Tq c e w v) (alK o (Bq c e w v)) s') :
    let r := aec (aaj (aaz c) w v) e s
    QIo c.deque (K + 1) (Tq c r.2 w v) (Bq c r.2 w v) o ∧ (∀ st, ThF (Tq c e w v) (alK o (Bq c e w v)) st → ThF (Tq c r.2 w v) (alK o (Bq c r.2 w v)) st) ∧ ∀ s', r.1.op (thS w v) = some (w, v, s') → ThF (Tq c r.2 w v) (alK o (Bq c r.2 w v)) s' := by
  have hd := h.d.q
  have lT : ∀ a, Tq c (e.lk a) w v = Tq c e w v := fun a => alr
  have lB : ∀ a, Bq c (e.lk a) w v = Bq c e w v := fun a => alr
  have hbe := ayr (o := o) (B := Bq c e w v)
  have q1 := hq.t
  have q2 := hq.b
  have q3 := hq.tb
  have q4 := hq.bt
  have up := hq.up (show K ≤ K + 1 by omega)
  cases s with
  | l1 =>
    intro r
    have e2 : r.2 = e.lk (aaj (aaz c) w v).top := rfl
    rw [e2, lT, lB]
    refine ⟨up, fun st k => k, fun s' k => ?_⟩
    have k : some (w, v, StealS.l2 (Tq c e w v)) = some (w, v, s') := k
    cases k
    exact ⟨q1.1, Int.le_refl _⟩
  | l2 t =>
    intro r
    have ht : 0 ≤ t ∧ t ≤ Tq c e w v := ht (.l2 t) rfl
    have es : szP (Bq c e w v) t = Bq c e w v - t := auu (by omega) (by omega)
    have e2 : r.2 = e.lk (aaj (aaz c) w v).bottom := rfl
    have e1 : r.1 = if Bq c e w v - t ≤ 0 then Rs.fin 2 0 else Rs.go (StealS.l3 t) := by
      show (if szP (Bq c e w v) t ≤ 0 then Rs.fin 2 0 else Rs.go (StealS.l3 t)) = _
      rw [es]
    rw [e2, lT, lB, e1]
    refine ⟨up, fun st k => k, fun s' k => ?_⟩
    by_cases hc : Bq c e w v - t ≤ 0
    · rw [if_pos hc] at k; cases k
    · rw [if_neg hc] at k
      have k : some (w, v, StealS.l3 t) = some (w, v, s') := k
      cases k
      exact ⟨ht.1, ht.2, fun _ => by omega⟩
  | l3 t =>
    intro r
    have ht := ht (.l3 t) rfl
    have e2 : r.2 = e.lk (aeD (aaj (aaz c) w v) t) := rfl
    rw [e2, lT, lB]
    refine ⟨up, fun st k => k, fun s' k => ?_⟩
    have k : some (w, v, StealS.l4 t (e.gt (aeD (aaj (aaz c) w v) t))) = some (w, v, s') := k
    cases k
    exact ht
  | l4 t u =>
    intro r
    have ht : 0 ≤ t ∧ t ≤ Tq c e w v ∧ (t = Tq c e w v → t < alK o (Bq c e w v)) := ht (.l4 t u) rfl
    have hc := ayl h.d hn hv (t := t) (u := wu (t + 1)) (e := e)
    have e2 : r.2 = e.cas (aaj (aaz c) w v).top t (wu (t + 1)) := rfl
    have e1 : r.1 = if e.hit (aaj (aaz c) w v).top t = true then Rs.fin 1 (wi u) else Rs.fin 4 0 := rfl
    have en : r.1.op (thS w v) = none := by rw [e1]; split <;> rfl
    rw [en, e2, hc.1, hc.2.1]
    by_cases hh : Tq c e w v = t
    · have k := ht.2.2 hh.symm
      rw [if_pos hh, aeF (x := t + 1) (by omega)]
      rw [hh] at q1 q3 q4
      have hf := hq.f
      rw [hh] at hf
      refine ⟨⟨by omega, ⟨q2.1, by omega⟩, by omega, by omega, hf.top⟩, fun st k => ?_, fun s' k => by cases k⟩
      rw [hh] at k
      exact k.top
    · rw [if_neg hh]
      exact ⟨up, fun st k => k, fun s' k => by cases k⟩
end
end
section
open Go Go.RowKit
set_option maxRecDepth 100000
variable [Tb]
section
variable {c : Cfg} {e e' : EnvP} {w v u : Int}
theorem aAG {s : OPushS} (h : u ≠ v) : aeM (opP v s) u = none := by
  cases s with
  | l1 => rfl
  | _ => exact if_neg (fun k => h k.symm)
theorem aAH {s : OPopS} (h : u ≠ v) : aeM (opO v s) u = none := by
  cases s with
  | l1 => rfl
  | _ => exact if_neg (fun k => h k.symm)
theorem aDS (h : DecOk c) (w v : Int) : (aaj (aaz c) w v).top ≠ 2 ∧ (aaj (aaz c) w v).bottom ≠ 2 ∧ (aaj (aaz c) w v).top ≠ (aaj (aaz c) w v).bottom + 7 := by
  have h3 := h.h
  have h4 := h.q
  have e0 := agA h
  rcases ahP h w v with e | ⟨k, h1, h2, e⟩ <;> rw [e]
  · exact ⟨by show (-1 : Int) ≠ 2; omega, by show (-1 : Int) ≠ 2; omega, by show (-1 : Int) ≠ -1 + 7; omega⟩
  · have e3 : 0 ≤ k * (2 + c.deque) := Int.mul_nonneg h1 (by omega)
    refine ⟨?_, ?_, ?_⟩
    · show (aaz c).queues + k * (2 + c.deque) ≠ 2; omega
    · show (aaz c).queues + k * (2 + c.deque) + 1 ≠ 2; omega
    · show (aaz c).queues + k * (2 + c.deque) ≠ (aaz c).queues + k * (2 + c.deque) + 1 + 7; omega
theorem aqs (h : DecOk c) {j : Int} (hj : Vq c j u) (hne : ¬ (j = w ∧ u = v)) {a b : Int} (ha : a = (aaj (aaz c) w v).top ∨ a = (aaj (aaz c) w v).bottom) (hb : b = (aaj (aaz c) j u).top ∨ b = (aaj (aaz c) j u).bottom) : ¬ (b = a ∧ 0 ≤ a) := by
  rcases agF h j u with ⟨k, _⟩ | ⟨_, _, ej⟩
  · exact absurd hj k
  rcases agF h w v with ⟨_, ew⟩ | ⟨hw, _, ew⟩
  · rw [ew] at ha
    have ha : a = -1 ∨ a = -1 := ha
    omega
  · rw [ew] at ha
    rw [ej] at hb
    intro ⟨hba, _⟩
    have ha : a = (aaz c).queues + (w * c.levels + v) * (2 + c.deque) ∨ a = (aaz c).queues + (w * c.levels + v) * (2 + c.deque) + 1 := ha
    have hb : b = (aaz c).queues + (j * c.levels + u) * (2 + c.deque) ∨ b = (aaz c).queues + (j * c.levels + u) * (2 + c.deque) + 1 := hb
    rcases ha with ha | ha <;> rcases hb with hb | hb
    · have := arn h hj hw (i := 0) (j := 0) (.inl rfl) (.inl rfl) (by omega); exact hne ⟨this.1, this.2.1⟩
    · have := arn h hj hw (i := 1) (j := 0) (.inr rfl) (.inl rfl) (by omega); exact hne ⟨this.1, this.2.1⟩
    · have := arn h hj hw (i := 0) (j := 1) (.inl rfl) (.inr rfl) (by omega); exact hne ⟨this.1, this.2.1⟩
    · have := arn h hj hw (i := 1) (j := 1) (.inr rfl) (.inr rfl) (by omega); exact hne ⟨this.1, this.2.1⟩
structure Oth (c : Cfg) (w v : Int) (e f : EnvP) : Prop where
  q : ∀ j u, Vq c j u → ¬ (j = w ∧ u = v) → Tq c f j u = Tq c e j u ∧ Bq c f j u = Bq c e j u
  z : f.gt 2 = e.gt 2
theorem Oth.lk {a : Int} : Oth c w v e (e.lk a) := ⟨fun _ _ _ _ => ⟨alr, alr⟩, alr⟩
theorem Oth.bot (h : DecOk c) {k x : Int} : Oth c w v e (e.pt k (aaj (aaz c) w v).bottom x) := by
  refine ⟨fun j u hj hne => ⟨?_, ?_⟩, ?_⟩
  · unfold Tq
    rw [ahx, if_neg (fun k => aqs h hj hne (.inr rfl) (.inl rfl) ⟨k.1, k.2.1⟩)]
  · unfold Bq
    rw [ahx, if_neg (fun k => aqs h hj hne (.inr rfl) (.inr rfl) ⟨k.1, k.2.1⟩)]
  · rw [ahx, if_neg (fun k => (aDS h w v).2.1 k.1.symm)]
theorem Oth.top (h : DecOk c) {o x : Int} : Oth c w v e (e.cas (aaj (aaz c) w v).top o x) := by
  refine ⟨fun j u hj hne => ⟨?_, ?_⟩, ?_⟩
  · unfold Tq
    rw [ais, if_neg (fun k => aqs h hj hne (.inl rfl) (.inl rfl) ⟨k.2, (avk k.1).2⟩)]
  · unfold Bq
    rw [ais, if_neg (fun k => aqs h hj hne (.inl rfl) (.inr rfl) ⟨k.2, (avk k.1).2⟩)]
  · rw [ais, if_neg (fun k => (aDS h w v).1 k.2.symm)]
theorem Oth.ring (h : MI c e) {k x b : Int} (hb : 0 ≤ b) : Oth c w v e (e.pt k (aeD (aaj (aaz c) w v) b) x) := by
  refine ⟨fun j u hj _ => awS h hj hb, ?_⟩
  rw [ahx, if_neg (fun k => (axw h.d w v hb).2 k.1.symm)]
theorem azt {x : Int} (h : MI c e) (s : OPushS) (hs : ajl s) : Oth c w v e (adX (aaj (aaz c) w v) x e s).2 := by
  cases s with
  | l1 => exact .lk
  | l2 b => exact .lk
  | l3 b => exact .ring h hs
  | l4 b => exact .bot h.d
theorem aBX (h : MI c e) (s : OPopS) : Oth c w v e (ajP (aaj (aaz c) w v) e s).2 := by
  cases s with
  | l3 b t => exact .bot h.d
  | l6 b t => exact .top h.d
  | l7 b t => exact .bot h.d
  | l9 b t => exact .bot h.d
  | _ => exact .lk
theorem awx (h : MI c e) (s : StealS) : Oth c w v e (aec (aaj (aaz c) w v) e s).2 := by
  cases s with
  | l4 b t => exact .top h.d
  | _ => exact .lk
structure QG (c : Cfg) (K : Nat) (e : EnvP) (own : Nat → OpT) (th : Nat → ThT) : Prop where
  q : ∀ (j : Nat) v, Vq c j v → QIo c.deque K (Tq c e j v) (Bq c e j v) (aeM (own j) v)
  t : ∀ i (j : Nat) v s, Vq c j v → th i = some ((j : Int), v, s) → ThF (Tq c e j v) (alK (aeM (own j) v) (Bq c e j v)) s
  z : e.gt 2 ≤ c.heap
variable {K : Nat} {own own' : Nat → OpT} {th th' : Nat → ThT}
theorem QG.up {L : Nat} (g : QG c K e own th) (h : K ≤ L) : QG c L e own th := ⟨fun j v hv => (g.q j v hv).up (by omega), g.t, g.z⟩
theorem QG.ex (g : QG c K e own th) {k : ClkV} : QG c K { e with k := k } own th := ⟨g.q, g.t, g.z⟩
theorem aAy (h : DecOk c) (hv : Vq c w v) : ckC c (aaj (aaz c) w v).top = 4 ∧ ckC c (aaj (aaz c) w v).bottom = 4 := by
  have h3 := h.q
  rcases agF h w v with ⟨k, _⟩ | ⟨_, e1, e⟩
  · exact absurd hv k
  · rw [e]
    have c0 := aoM h e1 (j := 0) (by omega)
    have c1 := aoM h e1 (j := 1) (by omega)
    rw [Int.add_zero, if_pos (by omega)] at c0
    rw [if_pos (by omega)] at c1
    exact ⟨c0, c1⟩
theorem QG.nq (g : QG c K e own th) (hd : DecOk c) (n : Nq c e e') (ho : ∀ j, own' j = own j) (ht : ∀ j x, th' j = some x → th j = some x) : QG c K e' own' th' := by
  refine ⟨fun j v hv => ?_, fun i j v s hv hs => ?_, n.sz g.z⟩
  · have k := aAy hd hv
    unfold Tq Bq
    rw [n.ix _ k.1, n.ix _ k.2, ho]
    exact g.q j v hv
  · have k := aAy hd hv
    unfold Tq Bq
    rw [n.ix _ k.1, n.ix _ k.2, ho]
    exact g.t i j v s hv (ht i _ hs)
theorem QG.own_step (g : QG c K e own th) {i : Nat} {p p' : OpT} {f : EnvP} (hp : own i = p) (ho : ∀ j, own' j = if j = i then p' else own j) (hg : ∀ a, e'.gt a = f.gt a) (hth : Oth c i v e f)
    (htr : Vq c i v → QIo c.deque K (Tq c e i v) (Bq c e i v) (aeM p v) → QIo c.deque ((K : Int) + 1) (Tq c f i v) (Bq c f i v) (aeM p' v) ∧ ∀ st, ThF (Tq c e i v) (alK (aeM p v) (Bq c e i v)) st → ThF (Tq c f i v) (alK (aeM p' v) (Bq c f i v)) st)
    (hne : ∀ u, u ≠ v → aeM p u = none ∧ aeM p' u = none) : QG c (K + 1) e' own' th := by
  have hT : ∀ j u, Tq c e' j u = Tq c f j u := fun j u => hg _
  have hB : ∀ j u, Bq c e' j u = Bq c f j u := fun j u => hg _
  have key : ∀ (j : Nat) u, Vq c j u → QIo c.deque ((K : Int) + 1) (Tq c f j u) (Bq c f j u) (aeM (own' j) u) ∧ ∀ st, ThF (Tq c e j u) (alK (aeM (own j) u) (Bq c e j u)) st → ThF (Tq c f j u) (alK (aeM (own' j) u) (Bq c f j u)) st := fun j u hv => by
    by_cases hji : j = i
    · subst hji
      rw [ho, if_pos rfl, hp]
      by_cases hu : u = v
      · rw [hu] at hv ⊢
        exact htr hv (by rw [← hp]; exact g.q j v hv)
      · have k := hth.q j u hv (fun k => hu k.2)
        have n := hne u hu
        rw [k.1, k.2, n.2, n.1]
        have k := g.q j u hv
        rw [hp, n.1] at k
        exact ⟨k.up (by omega), fun st h => h⟩
    · have k := hth.q j u hv (fun k => hji (by have := k.1; omega))
      rw [ho, if_neg hji, k.1, k.2]
      exact ⟨(g.q j u hv).up (by omega), fun st h => h⟩
  refine ⟨fun j u hv => ?_, fun i2 j u s hv hs => ?_, ?_⟩
  · rw [hT, hB]
    exact (key j u hv).1
  · rw [hT, hB]
    exact (key j u hv).2 s (g.t i2 j u s hv hs)
  · rw [hg, hth.z]; exact g.z
theorem QG.step (g : QG c K e own th) (h : MI c e) (hn : (e.m.cells.length : Int) = aba c) (hK : K ≤ 1000000) {i : Nat} {p p' : OpT} {t t' : ThT} (hp : own i = p) (hti : th i = t) (q : Tw c i e e' p t p' t')
    (ho : ∀ j, own' j = if j = i then p' else own j) (ht : ∀ j, th' j = if j = i then t' else th j) : QG c (K + 1) e' own' th' := by
  cases q with
  | own p p' q =>
    have et : ∀ j, th' j = th j := fun j => by
      rw [ht]
      split
      · rename_i k; rw [k, hti]
      · rfl
    have fin : QG c (K + 1) e' own' th → QG c (K + 1) e' own' th' := fun k => ⟨k.q, fun i j v s hv hs => k.t i j v s hv (by rw [← et]; exact hs), k.z⟩
    refine fin ?_
    cases q with
    | nop n =>
      refine (g.nq h.d n (fun j => ?_) fun j x k => k).up (by omega)
      rw [ho]
      split
      · rename_i k; rw [k, hp]
      · rfl
    | drop v s n =>
      have g1 : QG c K e' own th := g.nq h.d n (fun j => rfl) fun j x k => k
      have key : ∀ (j : Nat) u, Vq c j u → QIo c.deque K (Tq c e' j u) (Bq c e' j u) (aeM (own' j) u) ∧ ∀ st, ThF (Tq c e' j u) (alK (aeM (own j) u) (Bq c e' j u)) st → ThF (Tq c e' j u) (alK (aeM (own' j) u) (Bq c e' j u)) st := fun j u hv => by
        rw [ho]
        split
        · rename_i k
          subst k
          have q := g1.q j u hv
          rw [hp] at q ⊢
          have eb : alK (aeM (some (v, .push s)) u) (Bq c e' j u) = Bq c e' j u := by
            unfold aeM
            simp only
            split
            · cases s <;> rfl
            · rfl
          obtain ⟨q1, q2, q3, q4, q5⟩ := q
          rw [eb] at q2 q3 q4 ⊢
          exact ⟨⟨q1, q2, q3, q4, trivial⟩, fun st k => k⟩
        · exact ⟨g1.q j u hv, fun st k => k⟩
      refine QG.up ⟨fun j u hv => (key j u hv).1, fun i2 j u s hv hs => (key j u hv).2 s (g1.t i2 j u s hv hs), g1.z⟩ (by omega)
    | push v x s hx hs hg => exact g.own_step hp ho hg (azt h s hs) (fun hv hq => aBS h hn hv (by omega) s hs hq) fun u hu => ⟨aAG hu, by rcases (adX (aaj (aaz c) i v) x e s).1 with s | _; exact aAG hu; rfl⟩
    | pop v s hs hg => exact g.own_step hp ho hg (aBX h s) (fun hv hq => aDV h hn hv (by omega) s hq) fun u hu => ⟨aAH hu, by rcases (ajP (aaj (aaz c) i v) e s).1 with s | _; exact aAH hu; rfl⟩
  | thief w v s hs hg =>
    have eo : ∀ j, own' j = own j := fun j => by
      rw [ho]
      split
      · rename_i k; rw [k, hp]
      · rfl
    have hT : ∀ j u, Tq c e' j u = Tq c (aec (aaj (aaz c) w v) e s).2 j u := fun j u => hg _
    have hB : ∀ j u, Bq c e' j u = Bq c (aec (aaj (aaz c) w v) e s).2 j u := fun j u => hg _
    have oth := awx (w := w) (v := v) h s
    have tr : ∀ (j : Nat), (j : Int) = w → Vq c j v → _ := fun j hj hv => aza (w := (j : Int)) h hn hv (K := (K : Int)) (by omega) s (aeM (own j) v) (g.q j v hv) (fun s' k => g.t i j v s' hv (by rw [hti, ← hj]; exact k))
    have key : ∀ (j : Nat) u, Vq c j u → QIo c.deque ((K : Int) + 1) (Tq c (aec (aaj (aaz c) w v) e s).2 j u) (Bq c (aec (aaj (aaz c) w v) e s).2 j u) (aeM (own j) u) ∧ ∀ st, ThF (Tq c e j u) (alK (aeM (own j) u) (Bq c e j u)) st → ThF (Tq c (aec (aaj (aaz c) w v) e s).2 j u) (alK (aeM (own j) u) (Bq c (aec (aaj (aaz c) w v) e s).2 j u)) st := fun j u hv => by
      by_cases hju : (j : Int) = w ∧ u = v
      · obtain ⟨h1, h2⟩ := hju
        rw [h2] at hv ⊢
        have k := tr j h1 hv
        rw [h1] at k ⊢
        exact ⟨k.1, k.2.1⟩
      · have k := oth.q j u hv hju
        rw [k.1, k.2]
        exact ⟨(g.q j u hv).up (by omega), fun st h => h⟩
    refine ⟨fun j u hv => ?_, fun i2 j u s' hv hs' => ?_, ?_⟩
    · rw [hT, hB, eo]
      exact (key j u hv).1
    · rw [hT, hB, eo]
      rw [ht] at hs'
      split at hs'
      · have hju : (j : Int) = w ∧ u = v := by
          revert hs'
          rcases (aec (aaj (aaz c) w v) e s).1 with s2 | ⟨_, _⟩
          · intro hs'
            cases s2 <;> simp [Rs.op, thS] at hs'
            all_goals exact ⟨hs'.1.symm, hs'.2.1.symm⟩
          · intro hs'; cases hs'
        obtain ⟨h1, h2⟩ := hju
        rw [h2] at hv hs' ⊢
        have k := tr j h1 hv
        rw [h1] at k hs' ⊢
        exact k.2.2 s' hs'
      · exact (key j u hv).2 s' (g.t i2 j u s' hv hs')
    · rw [hg, oth.z]; exact g.z
end
theorem aDR {c : Cfg} (h : DecOk c) : QG c 0 (apf c) (fun _ => none) fun _ => none := by
  have h1 := h.q
  have h2 := h.h
  refine ⟨fun j v hv => ?_, fun i j v s hv hs => (by cases hs), (by rw [avl]; omega)⟩
  have e1 : Tq c (apf c) j v = 0 := avl
  have e2 : Bq c (apf c) j v = 0 := avl
  rw [e1, e2]
  exact ⟨by omega, ⟨by omega, Int.le_refl 0⟩, Int.le_refl 0, by show (0 : Int) ≤ 0 + c.deque; omega, trivial⟩
end
section
open Go Go.RowKit
set_option maxRecDepth 100000
variable [Tb]
structure DN (c : Cfg) (N : Nat) (e : EnvP) (os : List OpT) (ts : List ThT) : Prop where
  ei : EI c (1 + 3 * N) e
  m : MI c e
  n : (e.m.cells.length : Int) = aba c
  g : QG c N e (fun j => os.getD j none) fun j => ts.getD j none
def WN (c : Cfg) (N : Nat) (j : Int) (w : WorkerV MV) (p : OpT) (t : ThT) : Prop := ∃ k, w = ahK (aaz c) j k ∧ aiw (1 + 3 * N) (mnC c) k ∧ awf c k ∧ ayE c k ∧ ash k = p ∧ arH k = t
def CN (c : Cfg) (l : ClientV MV) : Prop := ∃ k, l = apg c.subs c.workers k ∧ aC3 c k ∧ aC2 c k
section
variable {c : Cfg} {N : Nat} {e : EnvP} {w : WorkerV MV} {l : ClientV MV} {os : List OpT} {ts : List ThT} {p : OpT} {t : ThT}
theorem als {α : Type} {ps : List (Option α)} {m : Nat} {p' : Option α} (h : m < ps.length) (j : Nat) : (ps.set m p').getD j none = if j = m then p' else ps.getD j none := by
  rw [List.getD_eq_getElem?_getD, List.getD_eq_getElem?_getD]
  by_cases hj : j = m
  · rw [if_pos hj, hj, List.getElem?_set_self h]; rfl
  · rw [if_neg hj, List.getElem?_set_ne (fun h => hj h.symm)]
theorem WN.next {j : Int} (hw : WN c N j w p t) : WN c (N + 1) j w p t := by
  obtain ⟨k, h1, h2, h3⟩ := hw
  exact ⟨k, h1, h2.up (by omega), h3⟩
theorem DN.next (h : DN c N e os ts) : DN c (N + 1) e os ts := ⟨h.ei.up (by omega), h.m, h.n, h.g.up (by omega)⟩
theorem DN.clk {k : ClkV} (h : DN c N e os ts) : DN c N { e with k := k } os ts := ⟨h.ei.clk, h.m.ex, h.n, h.g.ex⟩
theorem aA0 (h : DN c N e os ts) (hN : N ≤ 100000) {j : Nat} (ho : j < os.length) (ht : j < ts.length) (hp : os.getD j none = p) (hq : ts.getD j none = t) (hw : WN c N j w p t) :
    aaV (aam w e) fun o => ∃ p' t', DN c (N + 1) o.2.2.1 (os.set j p') (ts.set j t') ∧ WN c (N + 1) j o.2.1 p' t' := by
  obtain ⟨k, rfl, hk, hg, hn, rfl, rfl⟩ := hw
  rw [← h.ei.many] at hk
  have h1 := ayS (w := (j : Int)) h.ei.ok (by omega) k hk
  have h2 := aAY (w := (j : Int)) h.ei.ok k
  have h3 := aAX (w := (j : Int)) h.ei.ok k hk (by omega)
  have h4 := aDo (w := (j : Int)) h.m h.n hg
  have h5 := aDp (w := (j : Int)) h.m h.g.z hg hn
  rw [h.ei.many] at h3
  rw [h.ei.l] at h1
  have s := h.ei.stp (by omega) h2
  have en : 1 + 3 * N + 3 = 1 + 3 * (N + 1) := by omega
  rw [en] at s
  exact ⟨_, h1, _, _, ⟨s, h4.1.i, by rw [(axs h2.m h.ei.ct (by omega)).2]; exact h.n, h.g.step h.m h.n (by omega) hp hq h5.1 (fun i => als ho i) fun i => als ht i⟩, _, rfl, h3.up (by omega), h4.2, h5.2, rfl, rfl⟩
theorem aCV (h : DN c N e os ts) (hN : N ≤ 100000) (hc : CN c l) : aaV (aau l e) fun o => DN c (N + 1) o.2.2.1 os ts ∧ CN c o.2.1 := by
  obtain ⟨k, rfl, hk, hn⟩ := hc
  have h1 := aAn (subs := c.subs) (me := c.workers) h.ei.ok (by omega) k hk.1
  have h2 := aCY (subs := c.subs) (me := c.workers) h.ei.ok k
  have h4 := aEM (me := c.workers) h.m h.n hk
  have h5 := aEN (me := c.workers) h.m h.g.z hn
  have s := h.ei.stp (by omega) h2
  have en : 1 + 3 * N + 3 = 1 + 3 * (N + 1) := by omega
  rw [en] at s
  exact ⟨_, h1, ⟨s, h4.1.i, by rw [(axs h2.m h.ei.ct (by omega)).2]; exact h.n, (h.g.nq h.m.d h5.1 (fun _ => rfl) fun _ _ k => k).up (by omega)⟩, _, rfl, h4.2, h5.2⟩
theorem aDq {j : Int} : WN c 0 j (ahK (aaz c) j ⟨0, 0, 0, 0, .top⟩) none none := ⟨_, rfl, trivial, trivial, trivial, rfl, rfl⟩
theorem aEL : CN c (apg c.subs c.workers ⟨0, 0, false, .n1⟩) := ⟨_, rfl, ⟨Int.le_refl 0, trivial⟩, trivial⟩
theorem aEH (h : DecOk c) {n : Nat} : DN c 0 (apf c) (List.replicate n none) (List.replicate n none) := by
  have g : ∀ {α : Type} {n j : Nat}, (List.replicate n (none : Option α)).getD j none = none := fun {α n j} => by
    rw [List.getD_eq_getElem?_getD, List.getElem?_replicate]
    split <;> rfl
  refine ⟨aEG h, aEq h, ?_, ?_⟩
  · show ((List.replicate (aba c).toNat (0 : Int)).length : Int) = _
    have := agA h
    have h4 := h.h
    have h5 := h.t
    rw [List.length_replicate]
    have : 0 ≤ aba c := by unfold aba; omega
    omega
  · have e1 : (fun j => (List.replicate n (none : OpT)).getD j none) = fun _ => none := funext fun j => g
    have e2 : (fun j => (List.replicate n (none : ThT)).getD j none) = fun _ => none := funext fun j => g
    rw [e1, e2]
    exact aDR h
theorem auy {j : Int} (hw : WN c N j w p t) : aaV (aal w) fun o => (o.1.1 = 0 ∨ o.1.1 = 3 → p = none) ∧ o.2.1 = w := by
  obtain ⟨k, rfl, _, _, _, rfl, _⟩ := hw
  obtain ⟨a, b, d, x, g⟩ := k
  unfold aal
  cases g with
  | top => exact .some_ ⟨fun _ => rfl, rfl⟩
  | t8 s =>
    rw [if_neg (by show ¬ (8 : Int) = 0; omega), if_neg (by show ¬ (8 : Int) = 7; omega), if_pos rfl]
    unfold al7
    rw [bnd]
    refine aaV.ite (fun _ => .some_ ⟨fun _ => rfl, rfl⟩) fun _ => .some_ ⟨fun _ => rfl, rfl⟩
  | t1 t s => exact .some_ ⟨fun h => absurd h (by show ¬ ((1 : Int) = 0 ∨ (1 : Int) = 3); omega), rfl⟩
  | t2 s => exact .some_ ⟨fun h => absurd h (by show ¬ ((1 : Int) = 0 ∨ (1 : Int) = 3); omega), rfl⟩
  | t3 s => exact .some_ ⟨fun h => absurd h (by show ¬ ((1 : Int) = 0 ∨ (1 : Int) = 3); omega), rfl⟩
  | t4 s => exact .some_ ⟨fun _ => rfl, rfl⟩
  | t5 s => exact .some_ ⟨fun _ => rfl, rfl⟩
  | t6 => exact .some_ ⟨fun _ => rfl, rfl⟩
  | t7 s => exact .some_ ⟨fun h => absurd h (by show ¬ ((2 : Int) = 0 ∨ (2 : Int) = 3); omega), rfl⟩
  | t9 s => exact .some_ ⟨fun _ => rfl, rfl⟩
theorem DN.deque (h : DN c N e os ts) {j : Nat} {v : Int} (hv : Vq c j v) : (0 ≤ Tq c e j v ∧ Tq c e j v ≤ N) ∧ (0 ≤ Bq c e j v ∧ Bq c e j v ≤ N) ∧ Bq c e j v ≤ Tq c e j v + c.deque ∧ (os.getD j none = none → Tq c e j v ≤ Bq c e j v) := by
  have q := h.g.q j v hv
  have b := ayr (o := aeM (os.getD j none) v) (B := Bq c e j v)
  obtain ⟨q1, q2, q3, q4, q5⟩ := q
  refine ⟨q1, ⟨q2.1, by omega⟩, by omega, fun k => ?_⟩
  rw [k] at q3
  exact q3
end
end
section
open Go Go.RowKit
set_option maxRecDepth 100000
variable [Tb]
noncomputable def anh (b : List Int) : Option ((List EntV × Unit) × (Unit)) :=
 (lpF (σ := List EntV × Int × Unit) (β := List EntV × Int × Unit) (fun self3 x1 =>
  if (wi (x1.2.1 + 1)) < ((b.length : Nat) : Int) then
   if ((x1.1.length : Nat) : Int) < 65536 then
   if 0 ≤ x1.2.1 ∧ x1.2.1 < ((b.length : Nat) : Int) then
   if 0 ≤ wi (x1.2.1 + 1) ∧ wi (x1.2.1 + 1) < ((b.length : Nat) : Int) then
   if (aiE b (wi (x1.2.1 + 1))) = (aiE b (wi (x1.2.1 + 1))) then
   if (aiE b x1.2.1) = (aiE b x1.2.1) then
   if (Int.tmod (wi (aiE b x1.2.1)) 4) = 1 then
   if (((x1.1.length + ([(⟨(Int.tmod (wi (aiE b x1.2.1)) 4), 0⟩ : EntV)] : List EntV).length : Nat)) : Int) < 1000000000000 then
   self3 (x1.1 ++ ([(⟨(Int.tmod (wi (aiE b x1.2.1)) 4), 0⟩ : EntV)]), wi (x1.2.1 + 2), ())
   else none
   else
   if (Int.tmod (wi (aiE b x1.2.1)) 4) = 3 then
   if (((x1.1.length + ([(⟨(Int.tmod (wi (aiE b x1.2.1)) 4), 0⟩ : EntV)] : List EntV).length : Nat)) : Int) < 1000000000000 then
   self3 (x1.1 ++ ([(⟨(Int.tmod (wi (aiE b x1.2.1)) 4), 0⟩ : EntV)]), wi (x1.2.1 + 2), ())
   else none
   else
   if (((x1.1.length + ([(⟨(Int.tmod (wi (aiE b x1.2.1)) 4), wi (aiE b (wi (x1.2.1 + 1)))⟩ : EntV)] : List EntV).length : Nat)) : Int) < 1000000000000 then
   self3 (x1.1 ++ ([(⟨(Int.tmod (wi (aiE b x1.2.1)) 4), wi (aiE b (wi (x1.2.1 + 1)))⟩ : EntV)]), wi (x1.2.1 + 2), ())
   else none
   else none
   else none
   else none
   else none
   else
   some (x1.1, x1.2.1, ())
  else
  some (x1.1, x1.2.1, ())
 ) 18446744073709551616 ([], 0, ())).bind fun z2 =>
 some ((z2.1, ()), (()))
noncomputable abbrev app : Con SR1 := ⟨20, [.sh (.ro 17)], [.sh (.row 5)], fun x => anh x.1⟩
theorem atl : CO Tryz.prog app := aaq aap Tryz.func20 [] trivial [] trivial (fun _ => []) [(3, .loop [.rg 3 (.row 5), .rg 4 sI_] 18446744073709551616 0)] fun x => by kernel_rfl
noncomputable def akl (b : List Int) (n : Int) : Option ((List EntV × Unit) × (Unit)) :=
 (anh b).bind fun r1 =>
 if n < ((r1.1.1.length : Nat) : Int) then
  if 0 ≤ n ∧ n ≤ ((r1.1.1.length : Nat) : Int) then
   some ((r1.1.1.take (n : Int).toNat, ()), (()))
  else none
 else
 some ((r1.1.1, ()), (()))
noncomputable abbrev ai5 : Con SR1 := ⟨7, [.sh (.ro 17), .sh sI_], [.sh (.row 5)], fun x => akl x.1 x.2.1⟩
theorem ajB : CO Tryz.prog ai5 := aaq aap Tryz.func7 [app] ⟨atl, trivial⟩ [] trivial (fun _ => []) [] fun x => by kernel_rfl
noncomputable def ad2 (y0 : Int) : Option ((EntV × Unit) × (Unit)) :=
 some (((⟨0, y0⟩ : EntV), ()), (()))
noncomputable abbrev aex : Con SR1 := ⟨21, [.sh sI_], [.val 5], fun x => ad2 x.1⟩
theorem af7 : CO Tryz.prog aex := aaq aap Tryz.func21 [] trivial [] trivial (fun _ => []) [] fun x => by kernel_rfl
noncomputable def abp (y0 : Cfg) : Option ((List EntV × Unit) × (Unit)) :=
 (lpF (σ := List EntV × Int × Unit) (β := List EntV × Int × Unit) (fun self3 x1 =>
  if x1.2.1 < (wi (40 * ((y0.subs.length : Nat) : Int))) then
   (ad2 y0.workers).bind fun r4 =>
   if (((x1.1.length + ([r4.1.1] : List EntV).length : Nat)) : Int) < 1000000000000 then
   self3 (x1.1 ++ ([r4.1.1]), wi (x1.2.1 + 1), ())
   else none
  else
  some (x1.1, x1.2.1, ())
 ) 18446744073709551616 ([], 0, ())).bind fun z2 =>
 some ((z2.1, ()), (()))
noncomputable abbrev ab2 : Con SR1 := ⟨8, [.val 13], [.sh (.row 5)], fun x => abp x.1⟩
theorem acM : CO Tryz.prog ab2 := aaq aap Tryz.func8 [aex] ⟨af7, trivial⟩ [] trivial (fun _ => []) [(3, .loop [.rg 3 (.row 5), .rg 4 sI_] 18446744073709551616 0)] fun x => by kernel_rfl
noncomputable def acm (y0 : Cfg) : Option ((Int × Unit) × (Unit)) :=
 some ((wi ((wi ((wi (4 + y0.heap)) + y0.classes)) + (wi (2 * y0.workers))), ()), (()))
noncomputable abbrev adF : Con SR1 := ⟨27, [.val 13], [.sh sI_], fun x => acm x.1⟩
theorem aeN : CO Tryz.prog adF := aaq aap Tryz.func27 [] trivial [] trivial (fun _ => []) [] fun x => by kernel_rfl
noncomputable def aa8 (y0 : Cfg) : Option ((Int × Unit) × (Unit)) :=
 (acm y0).bind fun r1 =>
 if y0.tasks = y0.tasks then
  if y0.deque = y0.deque then
   if y0.levels = y0.levels then
   if y0.workers = y0.workers then
   some ((wi ((wi (r1.1.1 + (wi ((wi (y0.workers * y0.levels)) * (wi (2 + y0.deque)))))) + (wi (5 * y0.tasks))), ()), (()))
   else none
   else none
  else none
 else none
noncomputable abbrev ab0 : Con SR1 := ⟨12, [.val 13], [.sh sI_], fun x => aa8 x.1⟩
theorem acK : CO Tryz.prog ab0 := aaq aap Tryz.func12 [adF] ⟨aeN, trivial⟩ [] trivial (fun _ => []) [] fun x => by kernel_rfl
noncomputable def adm (y0 : Cfg) (y1 : Int) (y2 : Int) : Option ((QV × Unit) × (Unit)) :=
 if y1 < 0 then
  some (((⟨(-1), (-1), (-1), 0⟩ : QV), ()), (()))
 else
 if y0.workers ≤ y1 then
  some (((⟨(-1), (-1), (-1), 0⟩ : QV), ()), (()))
 else
 if y2 < 0 then
  some (((⟨(-1), (-1), (-1), 0⟩ : QV), ()), (()))
 else
 if y0.levels ≤ y2 then
  some (((⟨(-1), (-1), (-1), 0⟩ : QV), ()), (()))
 else
 (acm y0).bind fun r1 =>
 if y0.deque = y0.deque then
  if y0.levels = y0.levels then
   some (((⟨wi (r1.1.1 + (wi ((wi ((wi (y1 * y0.levels)) + y2)) * (wi (2 + y0.deque))))), wi ((wi (r1.1.1 + (wi ((wi ((wi (y1 * y0.levels)) + y2)) * (wi (2 + y0.deque)))))) + 1), wi ((wi (r1.1.1 + (wi ((wi ((wi (y1 * y0.levels)) + y2)) * (wi (2 + y0.deque)))))) + 2), y0.deque⟩ : QV), ()), (()))
  else none
 else none
noncomputable abbrev abZ : Con SR1 := ⟨14, [.val 13, .sh sI_, .sh sI_], [.val 14], fun x => adm x.1 x.2.1 x.2.2.1⟩
theorem acJ : CO Tryz.prog abZ := aaq aap Tryz.func14 [adF] ⟨aeN, trivial⟩ [] trivial (fun _ => []) [] fun x => by kernel_rfl
noncomputable def aaF  : Option ((Bool × Unit) × (Unit)) :=
 (af5 ([])).bind fun r1 =>
 (ad7 r1.1.1).bind fun r2 =>
 if r2.1.2.1 ≠ 0 then
  if r2.1.2.1 ≠ 0 then
   some ((false, ()), (()))
  else
  some ((false, ()), (()))
 else
 (afX r1.1.1).bind fun r3 =>
 if r1.1.1.workers = ((1 : Nat) : Int) then
  (adb 0).bind fun r4 =>
  (lpF (σ := Int × EnvP × (WorkerV MV) × (ClientV MV) × (Int × List Int × Int × Int × Int × Int × Unit) × Unit) (β := (Int × EnvP × (WorkerV MV) × (ClientV MV) × (Int × List Int × Int × Int × Int × Int × Unit) × Unit) ⊕ ((Bool × Unit) × (Unit))) (fun self7 x5 =>
   if x5.1 < 7 then
   (aal x5.2.2.1).bind fun r8 =>
   if (decide (r8.1.1 = 3)) ≠ (decide (x5.1 = 6)) then
   Option.map Sum.inr (
   some ((false, ()), (()))
   )
   else
   (ad2 0).bind fun r9 =>
   (abc x5.2.1.m).bind fun r10 =>
   ((
   if r9.1.1.kind = 0 then
   (acU r9.1.1 2).bind fun r11 =>
   if r11.1.1 = ((1 : Nat) : Int) then
   (aau x5.2.2.2.1 ({ x5.2.1 with m := r10.2.1 } : EnvP)).bind fun r12 =>
   some (r12.2.2.1, r8.2.1, r12.2.1, (x5.2.2.2.2.1.1, x5.2.2.2.2.1.2.1, x5.2.2.2.2.1.2.2.1, x5.2.2.2.2.1.2.2.2.1, x5.2.2.2.2.1.2.2.2.2.1, x5.2.2.2.2.1.2.2.2.2.2.1, ()), ())
   else
   if r11.1.1 = ((0 : Nat) : Int) then
   (aam r8.2.1 ({ x5.2.1 with m := r10.2.1 } : EnvP)).bind fun r13 =>
   some (r13.2.2.1, r13.2.1, x5.2.2.2.1, (x5.2.2.2.2.1.1, x5.2.2.2.2.1.2.1, x5.2.2.2.2.1.2.2.1, x5.2.2.2.2.1.2.2.2.1, x5.2.2.2.2.1.2.2.2.2.1, x5.2.2.2.2.1.2.2.2.2.2.1, ()), ())
   else
   none
   else
   if r9.1.1.kind = 1 then
   (adE x5.2.1.k).bind fun r14 =>
   some (({ x5.2.1 with m := r10.2.1, k := r14.2.1 } : EnvP), r8.2.1, x5.2.2.2.1, (x5.2.2.2.2.1.1, x5.2.2.2.2.1.2.1, x5.2.2.2.2.1.2.2.1, x5.2.2.2.2.1.2.2.2.1, x5.2.2.2.2.1.2.2.2.2.1, x5.2.2.2.2.1.2.2.2.2.2.1, ()), ())
   else
   if r9.1.1.kind = 2 then
   (ad9 x5.2.1.k r9.1.1.value).bind fun r15 =>
   some (({ x5.2.1 with m := r10.2.1, k := r15.2.1 } : EnvP), r8.2.1, x5.2.2.2.1, (x5.2.2.2.2.1.1, x5.2.2.2.2.1.2.1, x5.2.2.2.2.1.2.2.1, x5.2.2.2.2.1.2.2.2.1, x5.2.2.2.2.1.2.2.2.2.1, x5.2.2.2.2.1.2.2.2.2.2.1, ()), ())
   else
   some (({ x5.2.1 with m := r10.2.1 } : EnvP), r8.2.1, x5.2.2.2.1, (x5.2.2.2.2.1.1, x5.2.2.2.2.1.2.1, x5.2.2.2.2.1.2.2.1, x5.2.2.2.2.1.2.2.2.1, x5.2.2.2.2.1.2.2.2.2.1, x5.2.2.2.2.1.2.2.2.2.2.1, ()), ())
   ) : Option (EnvP × (WorkerV MV) × (ClientV MV) × (Int × List Int × Int × Int × Int × Int × Unit) × Unit)).bind fun z16 =>
   (abc z16.1.m).bind fun r17 =>
   if r10.1.1 < r17.1.1 then
   (aeu r17.2.1).bind fun r18 =>
   (lpF (σ := EnvP × (Int × List Int × Int × Int × Int × Int × Unit) × Unit) (β := EnvP × (Int × List Int × Int × Int × Int × Int × Unit) × Unit) (fun self21 x19 =>
   if ((x19.2.1.2.1.length : Nat) : Int) < ((x19.1.evs.length : Nat) : Int) then
   if (((x19.2.1.2.1.length + ([x19.2.1.1] : List Int).length : Nat)) : Int) < 1000000000000 then
   self21 (x19.1, (x19.2.1.1, x19.2.1.2.1 ++ ([x19.2.1.1]), x19.2.1.2.2.1, x19.2.1.2.2.2.1, x19.2.1.2.2.2.2.1, x19.2.1.2.2.2.2.2.1, ()), ())
   else none
   else
   some (x19.1, (x19.2.1.1, x19.2.1.2.1, x19.2.1.2.2.1, x19.2.1.2.2.2.1, x19.2.1.2.2.2.2.1, x19.2.1.2.2.2.2.2.1, ()), ())
   ) 18446744073709551616 (({ z16.1 with m := r18.2.1 } : EnvP), (z16.2.2.2.1.1, z16.2.2.2.1.2.1, r18.1.1.kind, r18.1.1.cell, r18.1.1.old, r18.1.1.new, ()), ())).bind fun z20 =>
   self7 (wi (x5.1 + 1), z20.1, z16.2.1, z16.2.2.1, (wi (z20.2.1.1 + 1), z20.2.1.2.1, z20.2.1.2.2.1, z20.2.1.2.2.2.1, z20.2.1.2.2.2.2.1, z20.2.1.2.2.2.2.2.1, ()), ())
   else
   (lpF (σ := EnvP × (Int × List Int × Int × Int × Int × Int × Unit) × Unit) (β := EnvP × (Int × List Int × Int × Int × Int × Int × Unit) × Unit) (fun self24 x22 =>
   if ((x22.2.1.2.1.length : Nat) : Int) < ((x22.1.evs.length : Nat) : Int) then
   if (((x22.2.1.2.1.length + ([x22.2.1.1] : List Int).length : Nat)) : Int) < 1000000000000 then
   self24 (x22.1, (x22.2.1.1, x22.2.1.2.1 ++ ([x22.2.1.1]), x22.2.1.2.2.1, x22.2.1.2.2.2.1, x22.2.1.2.2.2.2.1, x22.2.1.2.2.2.2.2.1, ()), ())
   else none
   else
   some (x22.1, (x22.2.1.1, x22.2.1.2.1, x22.2.1.2.2.1, x22.2.1.2.2.2.1, x22.2.1.2.2.2.2.1, x22.2.1.2.2.2.2.2.1, ()), ())
   ) 18446744073709551616 (({ z16.1 with m := r17.2.1 } : EnvP), (z16.2.2.2.1.1, z16.2.2.2.1.2.1, 0, 0, 0, 0, ()), ())).bind fun z23 =>
   self7 (wi (x5.1 + 1), z23.1, z16.2.1, z16.2.2.1, (wi (z23.2.1.1 + 1), z23.2.1.2.1, z23.2.1.2.2.1, z23.2.1.2.2.2.1, z23.2.1.2.2.2.2.1, z23.2.1.2.2.2.2.2.1, ()), ())
   else
   some (Sum.inl (x5.1, x5.2.1, x5.2.2.1, x5.2.2.2.1, (x5.2.2.2.2.1.1, x5.2.2.2.2.1.2.1, x5.2.2.2.2.1.2.2.1, x5.2.2.2.2.1.2.2.2.1, x5.2.2.2.2.1.2.2.2.2.1, x5.2.2.2.2.1.2.2.2.2.2.1, ()), ()))
  ) 18446744073709551616 (0, r2.1.1, r4.1.1, r3.1.1, (0, [], 0, 0, 0, 0, ()), ())).bind fun z6 => match z6 with
  | .inr o25 => some o25
  | .inl z6 =>
  (aaB z6.2.2.2.1).bind fun r26 =>
  if r26.1.1 ≠ 4 then
   some ((false, ()), (()))
  else
  (aal z6.2.2.1).bind fun r27 =>
  if r27.1.1 = 2 then
   some ((false, ()), (()))
  else
  if z6.2.1.l.workers = z6.2.1.l.workers then
   if z6.2.1.l.levels = z6.2.1.l.levels then
   if z6.2.1.l.classes = z6.2.1.l.classes then
   if z6.2.1.l.tasks = z6.2.1.l.tasks then
   if z6.2.1.l.deque = z6.2.1.l.deque then
   if z6.2.1.l.heap = z6.2.1.l.heap then
   if z6.2.1.l.sleepers = z6.2.1.l.sleepers then
   if z6.2.1.l.epochs = z6.2.1.l.epochs then
   if z6.2.1.l.bitmaps = z6.2.1.l.bitmaps then
   if z6.2.1.l.queues = z6.2.1.l.queues then
   if z6.2.1.l.table = z6.2.1.l.table then
   (lpF (σ := Int × MemV × Unit) (β := (Int × MemV × Unit) ⊕ ((Bool × Unit) × (Unit))) (fun self30 x28 =>
   if x28.1 < z6.2.1.c.tasks then
   (azC z6.2.1.l).bind fun r31 =>
   if r31.1.1 < 0 then
   if (wu (x28.1)) < 0 then
   (adV z6.2.1.l x28.1).bind fun r32 =>
   if r32.1.1 < 0 then
   Option.map Sum.inr (
   some ((false, ()), (()))
   )
   else
   if ((x28.2.1.cells.length : Nat) : Int) ≤ r32.1.1 then
   Option.map Sum.inr (
   some ((false, ()), (()))
   )
   else
   if 0 ≤ r32.1.1 ∧ r32.1.1 < ((x28.2.1.cells.length : Nat) : Int) then
   if (aeo x28.2.1.cells r32.1.1) ≠ 4 then
   Option.map Sum.inr (
   some ((false, ()), (()))
   )
   else
   self30 (wi (x28.1 + 1), x28.2.1, ())
   else none
   else
   some (Sum.inl (x28.1, x28.2.1, ()))
   else
   if ((x28.2.1.cells.length : Nat) : Int) ≤ r31.1.1 then
   if (wu (x28.1)) < 0 then
   (adV z6.2.1.l x28.1).bind fun r33 =>
   if r33.1.1 < 0 then
   Option.map Sum.inr (
   some ((false, ()), (()))
   )
   else
   if ((x28.2.1.cells.length : Nat) : Int) ≤ r33.1.1 then
   Option.map Sum.inr (
   some ((false, ()), (()))
   )
   else
   if 0 ≤ r33.1.1 ∧ r33.1.1 < ((x28.2.1.cells.length : Nat) : Int) then
   if (aeo x28.2.1.cells r33.1.1) ≠ 4 then
   Option.map Sum.inr (
   some ((false, ()), (()))
   )
   else
   self30 (wi (x28.1 + 1), x28.2.1, ())
   else none
   else
   some (Sum.inl (x28.1, x28.2.1, ()))
   else
   if 0 ≤ r31.1.1 ∧ r31.1.1 < ((x28.2.1.cells.length : Nat) : Int) then
   if (wu (x28.1)) < (aeo x28.2.1.cells r31.1.1) then
   (adV z6.2.1.l x28.1).bind fun r34 =>
   if r34.1.1 < 0 then
   Option.map Sum.inr (
   some ((false, ()), (()))
   )
   else
   if ((x28.2.1.cells.length : Nat) : Int) ≤ r34.1.1 then
   Option.map Sum.inr (
   some ((false, ()), (()))
   )
   else
   if 0 ≤ r34.1.1 ∧ r34.1.1 < ((x28.2.1.cells.length : Nat) : Int) then
   if (aeo x28.2.1.cells r34.1.1) ≠ 4 then
   Option.map Sum.inr (
   some ((false, ()), (()))
   )
   else
   self30 (wi (x28.1 + 1), x28.2.1, ())
   else none
   else
   some (Sum.inl (x28.1, x28.2.1, ()))
   else none
   else
   some (Sum.inl (x28.1, x28.2.1, ()))
   ) 18446744073709551616 (0, z6.2.1.m, ())).bind fun z29 => match z29 with
   | .inr o35 => some o35
   | .inl z29 =>
   (aal r27.2.1).bind fun r36 =>
   if r36.1.1 ≠ 0 then
   if r36.1.1 ≠ 3 then
   some ((false, ()), (()))
   else
   (aaB r26.2.1).bind fun r37 =>
   if r37.1.1 = 0 then
   (aaB r37.2.1).bind fun r38 =>
   if r38.1.1 = 4 then
   some ((decide (z6.2.2.2.2.1.1 = 7), ()), (()))
   else
   some ((false, ()), (()))
   else
   if r37.1.1 = 4 then
   (aaB r37.2.1).bind fun r39 =>
   if r39.1.1 = 4 then
   some ((decide (z6.2.2.2.2.1.1 = 7), ()), (()))
   else
   some ((false, ()), (()))
   else
   some ((false, ()), (()))
   else
   (aaB r26.2.1).bind fun r40 =>
   if r40.1.1 = 0 then
   (aaB r40.2.1).bind fun r41 =>
   if r41.1.1 = 4 then
   some ((decide (z6.2.2.2.2.1.1 = 7), ()), (()))
   else
   some ((false, ()), (()))
   else
   if r40.1.1 = 4 then
   (aaB r40.2.1).bind fun r42 =>
   if r42.1.1 = 4 then
   some ((decide (z6.2.2.2.2.1.1 = 7), ()), (()))
   else
   some ((false, ()), (()))
   else
   some ((false, ()), (()))
   else none
   else none
   else none
   else none
   else none
   else none
   else none
   else none
   else none
   else none
  else none
 else
 none
noncomputable abbrev ab1 : Con SR1 := ⟨10, [], [.sh .b], fun x => aaF ⟩
noncomputable def aiy : List (Nat × Func) := [(22, Tryz.f22), (41, Tryz.f41), (13, Tryz.f13), (23, Tryz.f23), (15, Tryz.f15), (31, Tryz.f31), (50, Tryz.f50), (30, Tryz.f30), (32, Tryz.f32), (24, Tryz.f24), (25, Tryz.f25)]
theorem acL : CO Tryz.prog ab1 := aaq aap Tryz.func10 [ahv, aeI, afs, afi, abI, aex, abQ, adc, ach, ab7, acQ, adj, acd, abJ, atr, afF] ⟨ahu, aeW, afW, afL, ab3, af7, acn, adu, acH, acy, adi, ady, acB, ab6, auW, aeT, trivial⟩ aiy ⟨Tryz.func22, Tryz.func41, Tryz.func13, Tryz.func23, Tryz.func15, Tryz.func31, Tryz.func50, Tryz.func30, Tryz.func32, Tryz.func24, Tryz.func25, trivial⟩ (fun f => (get [(22, [(6, .spl 22 [1] 2)]), (41, [(2, .unroll 2)]), (23, [(9, .cut [.ob 12 27, .ob 26 31, .ob 14 30, .cx 15 [.inr (.ptr 12 0), .inr (.sl 28), .inr (.ptr 14 0), .inr (.sl 54), .inl sI_, .inl (.row 1), .inl sI_, .inl sI_, .inl sU_, .inl sU_]] [9, 10, 60]), (12, .loop [.ob 12 27, .cx 15 [.inr (.ptr 12 0), .inr (.sl 28), .inr (.ptr 14 0), .inr (.sl 54), .inl sI_, .inl (.row 1), .inl sI_, .inl sI_, .inl sU_, .inl sU_]] 18446744073709551616 1)]), (15, [(6, .loopR [.rg 6 sI_, .ob 91 9] 18446744073709551616 0)]), (50, [(2, .unroll 2)]), (24, [(2, .unroll 2)])] f).getD []) [(5, .loopR [.rg 3 sI_, .ob 12 27, .ob 26 31, .ob 14 30, .cx 15 [.inr (.ptr 12 0), .inr (.sl 28), .inr (.ptr 14 0), .inr (.sl 54), .inl sI_, .inl (.row 1), .inl sI_, .inl sI_, .inl sU_, .inl sU_]] 18446744073709551616 0)] fun x => by kernel_rfl
end
end Go.Proofs.YtclaldommncdbaaGreat
