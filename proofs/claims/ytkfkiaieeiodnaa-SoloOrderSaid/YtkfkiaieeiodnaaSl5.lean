/- Loops; slices of the call's own; regions with a quiet head. No program occurs here. -/
import Derived.Test.YtkfkiaieeiodnaaSl4
import Derived.Deep.LoopGhost
import Derived.StillTail
import Derived.Test.YtkfkiaieeiodnaaReg
namespace Go.Proofs.Ytkfkiaieeiodnaa
open Go Go.RowKit

section
variable {r : Option Nat} {P : Program} {Q : Exit → Act → World → Prop} {n B : Nat} {W : World} {R R' R0 : RList} {L L' M : List SProp} {v u : Value} {x y z : Operand} {o : Oper} {ops : Array Oper}
  {d : Option Tmp} {ty : TypeId} {ps : String} {af : Array Edge} {g : Option (Nat × Bool)} {T T' : TypeId}
/-- What the registers hold is said anew, and less of it. -/
inductive Less : RList → RList → Prop where
  | nil {R : RList} : Less R []
  | cons {R R' : RList} {t : Nat} {v u : Value} (h : (t, v) ∈ R) (e : v = u) (k : Less R R') : Less R ((t, u) :: R')
theorem Less.regs {R R' : RList} (h : Less R R') {a : Act} (r : Regs n a R) : Regs n a R' := by
  induction h with
  | nil => exact ⟨r.size, r.defers, fun p hp => by cases hp⟩
  | cons hm e _ ih =>
    have r' := ih
    refine ⟨r.size, r.defers, fun p hp => ?_⟩
    rcases List.mem_cons.1 hp with h1 | h1
    · subst h1; subst e; exact r.has _ hm
    · exact r'.has p h1
/-- The assertions are said anew. -/
def Ent (L L' : List SProp) : Prop := ∀ h, star L h → star L' h
theorem Ent.sat {w : World} (h : Ent L L') (s : Sat B w L) : Sat B w L' := s.imp h
theorem Ent.refl : Ent L L := fun _ h => h
theorem Ent.trans {L1 L2 L3 : List SProp} (h : Ent L1 L2) (k : Ent L2 L3) : Ent L1 L3 := fun x s => k x (h x s)
theorem Ent.perm (p : L.Perm L') : Ent L L' := fun _ => star_perm p
theorem Ent.drop {A : SProp} : Ent (A :: L) L := fun h s => by
  obtain ⟨k1, k2, a, e, _, hL⟩ := s
  have : star ([] ++ L) h := star_append.2 ⟨k1, k2, a, e, trivial, hL⟩
  exact this
theorem Ent.cons {A A' : SProp} (f : ∀ h, A h → A' h) (h : Ent L L') : Ent (A :: L) (A' :: L') := fun x s => star_tail h (star_head f s)
theorem Ent.eq (e : L = L') : Ent L L' := e ▸ Ent.refl
theorem Ent.picks {N : List SProp} (h : Picks L N M) : Ent L (N ++ M) := Ent.perm h.perm
/-- What is asked is there in this order; the rest is forgotten but for the last. -/
theorem rt_ent {l : List Oper} (e : Ent L L') (h : RT r P ops Q n B W l R L') : RT r P ops Q n B W l R L := fun a w s => h a w ⟨s.regs, s.below, s.lo, e.sat s.sat⟩
theorem ct_ent {c : Code} (e : Ent L L') (h : CT r P Q n B W c R L') : CT r P Q n B W c R L := fun a w s => h a w ⟨s.regs, s.below, s.lo, e.sat s.sat⟩
theorem et_ent {e' : Exit} (e : Ent L L') (h : ET Q n B W e' R L') : ET Q n B W e' R L := fun a w s => h a w ⟨s.regs, s.below, s.lo, e.sat s.sat⟩
theorem rt_less {l : List Oper} (e : Less R R') (h : RT r P ops Q n B W l R' L) : RT r P ops Q n B W l R L := fun a w s => h a w ⟨e.regs s.regs, s.below, s.lo, s.sat⟩
theorem ct_less {c : Code} (e : Less R R') (h : CT r P Q n B W c R' L) : CT r P Q n B W c R L := fun a w s => h a w ⟨e.regs s.regs, s.below, s.lo, s.sat⟩
theorem et_less {e' : Exit} (e : Less R R') (h : ET Q n B W e' R' L) : ET Q n B W e' R L := fun a w s => h a w ⟨e.regs s.regs, s.below, s.lo, s.sat⟩
/-- A fact that the world's cells show, from the assertions. -/
theorem ct_fact {c : Code} {p : Prop} (h : ∀ w, Cls B W L w → p) (k : p → CT r P Q n B W c R L) : CT r P Q n B W c R L := fun a w s => k (h w s.cls) a w s
theorem rt_fact {l : List Oper} {p : Prop} (h : ∀ w, Cls B W L w → p) (k : p → RT r P ops Q n B W l R L) : RT r P ops Q n B W l R L := fun a w s => k (h w s.cls) a w s
/-- An assertion with an unknown in it is opened. -/
def exS {X : Type} (A : X → SProp) : SProp := fun h => ∃ x, A x h
def pure_ (p : Prop) : SProp := fun _ => p
theorem sat_ex {X : Type} {A : X → SProp} {w : World} (h : Sat B w (exS A :: L)) : ∃ x, Sat B w (A x :: L) := by
  obtain ⟨h, H, k1, k2, a, e, ⟨x, hA⟩, hL⟩ := h
  exact ⟨x, h, H, k1, k2, a, e, hA, hL⟩
theorem rt_ex {X : Type} {A : X → SProp} {l : List Oper} (p : Pick L (exS A) M) (k : ∀ x, RT r P ops Q n B W l R (A x :: M)) : RT r P ops Q n B W l R L := fun a w s => by
  obtain ⟨x, hx⟩ := sat_ex (s.sat.perm p.perm)
  exact k x a w ⟨s.regs, s.below, s.lo, hx⟩
theorem ct_ex {X : Type} {A : X → SProp} {c : Code} (p : Pick L (exS A) M) (k : ∀ x, CT r P Q n B W c R (A x :: M)) : CT r P Q n B W c R L := fun a w s => by
  obtain ⟨x, hx⟩ := sat_ex (s.sat.perm p.perm)
  exact k x a w ⟨s.regs, s.below, s.lo, hx⟩

/-- What a round of a loop hands on. -/
def Again (n B : Nat) (W : World) {X : Type} (m : X → Nat) (Inv : X → Prop) (Rx : X → RList) (Lx : X → List SProp) (k : Nat) (a : Act) (w : World) : Prop :=
  ∃ x, Inv x ∧ m x < k ∧ Sta n B W (Rx x) (Lx x) a w
theorem wpIn_loop_ghost {F : Fence} {k : Nat} {a : Act} {w : World} {c : Code} (I : Nat → Act → World → Prop) (n₀ : Nat) (h₀ : I n₀ a w)
    (round : ∀ m a w, I m a w → c.wpIn F k P (Exit.then (fun a' w' => ∃ m', m' < m ∧ I m' a' w') Q) a w) : (Code.loop c).wpIn F k P Q a w := by
  refine wpIn_loop (fun a w => ∃ m, I m a w) (fun a w => leastOf (fun m => I m a w)) ⟨n₀, h₀⟩ ?_
  intro a w hI
  refine wpIn_mono (round _ a w (leastOf_spec hI).1) ?_
  intro e a' w' hq
  cases e with
  | normal =>
    obtain ⟨m', hlt, hI'⟩ := hq
    exact show (∃ m, I m a' w') ∧ leastOf (fun m => I m a' w') < leastOf (fun m => I m a w) from ⟨⟨m', hI'⟩, Nat.lt_of_le_of_lt ((leastOf_spec ⟨m', hI'⟩).2 m' hI') hlt⟩
  | exit id => exact hq
  | goto l => exact hq
  | ret => exact hq
  | panic ch => exact hq
  | outgrown => exact hq
theorem ct_loop {X : Type} (m : X → Nat) (Inv : X → Prop) (Rx : X → RList) (Lx : X → List SProp) (x0 : X) (h0 : Inv x0) (hR : Less R (Rx x0)) (hL : Ent L (Lx x0)) {c : Code}
    (body : ∀ x, Inv x → CT r P (Exit.then (Again n B W m Inv Rx Lx (m x)) Q) n B W c (Rx x) (Lx x)) : CT r P Q n B W (.loop c) R L := fun a w s => by
  refine wpIn_loop_ghost (fun k a w => ∃ x, Inv x ∧ m x = k ∧ Sta n B W (Rx x) (Lx x) a w) (m x0) ⟨x0, h0, rfl, hR.regs s.regs, s.below, s.lo, hL.sat s.sat⟩ ?_
  rintro k a w ⟨x, hi, rfl, hs⟩
  refine wpIn_mono (body x hi a w hs) ?_
  intro e a' w' hq
  cases e with
  | normal =>
    obtain ⟨x', h1, h2, h3⟩ := hq
    exact ⟨m x', h2, x', h1, rfl, h3⟩
  | exit id => exact hq
  | goto l => exact hq
  | ret => exact hq
  | panic ch => exact hq
  | outgrown => exact hq
theorem et_again {X : Type} {m : X → Nat} {Inv : X → Prop} {Rx : X → RList} {Lx : X → List SProp} {k : Nat} (x' : X) (h1 : Inv x') (h2 : m x' < k) (hR : Less R (Rx x')) (hL : Ent L (Lx x')) : ET (Exit.then (Again n B W m Inv Rx Lx k) Q) n B W .normal R L := fun _ _ s =>
  ⟨x', h1, h2, hR.regs s.regs, s.below, s.lo, hL.sat s.sat⟩
/-- The ways through a piece of code meet again: behind it, what is asked is one of these states. -/
theorem ct_cut {X : Type} (Inv : X → Prop) (Rx : X → RList) (Lx : X → List SProp) {c : Code} {N : Act → World → Prop}
    (h : CT r P (Exit.then (fun a w => ∃ x, Inv x ∧ Sta n B W (Rx x) (Lx x) a w) Q) n B W c R L) (k : ∀ x, Inv x → ∀ a w, Sta n B W (Rx x) (Lx x) a w → N a w) : CT r P (Exit.then N Q) n B W c R L := fun a w s =>
  wpIn_mono (h a w s) fun e a' w' hq => by
    cases e with
    | normal => obtain ⟨x, hi, hs⟩ := hq; exact k x hi a' w' hs
    | exit id => exact hq
    | goto l => exact hq
    | ret => exact hq
    | panic ch => exact hq
    | outgrown => exact hq
theorem et_cut {X : Type} {Inv : X → Prop} {Rx : X → RList} {Lx : X → List SProp} (x' : X) (h1 : Inv x') (hR : Less R (Rx x')) (hL : Ent L (Lx x')) : ET (Exit.then (fun a w => ∃ x, Inv x ∧ Sta n B W (Rx x) (Lx x) a w) Q) n B W .normal R L := fun _ _ s =>
  ⟨x', h1, hR.regs s.regs, s.below, s.lo, hL.sat s.sat⟩

/-- A region that draws its order: a quiet head, then a chain. -/
theorem wpAnyIn_of_seq {md : Region.Mode} : ∀ (l : List Oper) (k : Nat) (listed : Array Bool) (a : Act) (w : World), (∀ j, l[j]? = ops[k + j]?) →
    Region.seqB md ops l.length k listed = true → wpListIn (rf r) 0 P ops Q l a w → wpAnyIn (rf r) 0 P md ops Q l.length listed a w
  | [], _, _, _, _, _, hB, h => ⟨by simpa [Region.seqB] using hB, h⟩
  | o :: l, k, listed, a, w, hl, hB, h => by
    have h0 : ops[k]? = some o := by simpa using (hl 0).symm
    simp only [List.length_cons, Region.seqB, Bool.and_eq_true, decide_eq_true_eq] at hB
    refine ⟨fun h1 => (by rw [hB.1] at h1; cases h1), fun i hi => ?_⟩
    rw [hB.1] at hi
    have hik : i = k := by simpa using hi
    subst hik
    have hw : wpOpIn (rf r) 0 P ops Q i (wpListIn (rf r) 0 P ops Q l) a w := by unfold wpOpIn; simp only [h0]; exact h
    exact wpOpIn_mono (fun a' w' h' => wpAnyIn_of_seq l (i + 1) _ a' w' (fun j => by have := hl (j + 1); simpa [Nat.add_assoc, Nat.add_comm 1 j] using this) hB.2 h') hw
theorem anyIn_of_headQ {md : Region.Mode} {C : World → Prop} {k q : Nat} {N : Array Bool → Act → Prop} (hL : ∀ listed a w, C w → N listed a → wpAnyIn (rf r) 0 P md ops Q q listed a w) :
    ∀ (f : Nat) (listed : Array Bool) (a : Act) (w : World), C w → headQ P md ops C k N f listed a → wpAnyIn (rf r) 0 P md ops Q (f + q) listed a w
  | 0, listed, a, w, hw, h => by rw [Nat.zero_add]; exact hL _ _ _ hw h
  | f + 1, listed, a, w, hw, h => by
    rw [show f + 1 + q = (f + q) + 1 by omega]
    exact ⟨fun h0 => absurd h0 h.1, fun i hi => wpOpIn_quiet hw (fun a' w' hw' h' => anyIn_of_headQ hL f _ a' w' hw' h') (h.2 i hi).2⟩
theorem wpIn_region_tail {C : World → Prop} {id : Nat} {a : Act} {w : World} {l : List Oper} (k : Nat) (hm : P.follows .mixedOrders = true) (hB : Region.lexTailB .any l.toArray k = true)
    (hC : C { w with drawn := w.drawn + 1 }) (h : wpQuiet P l.toArray C (fun a' => ∀ w', C w' → wpListIn (rf r) 0 P l.toArray Q (l.drop k) a' w') (l.take k) a) : (Code.region id l.toArray true).wpIn (rf r) 0 P Q a w := by
  simp only [Region.lexTailB, Bool.and_eq_true, decide_eq_true_eq] at hB
  obtain ⟨⟨⟨⟨hsel, hn⟩, hs⟩, hc⟩, hlex⟩ := hB
  have hn' : k < l.length := by simpa using hn
  have htl : (l.take k).length = k := by simp; omega
  have hdl : (l.drop k).length = l.toArray.size - k := by simp
  have inv0 : HeadInv .any l.toArray k (Array.replicate l.toArray.size false) :=
    ⟨by simp, fun j oj _ hl => (by rw [getD_replicate_false] at hl; cases hl), fun t _ ht => getD_in (by simpa using ht) (getD_replicate_false _ _)⟩
  have H := headQ_lex (md := .any) (g := l.toArray.size - k) hsel hs hc hn (l.take k) 0 _ a (fun j hj => by
    have hj' : j < k := by rw [htl] at hj; exact hj
    simp [hj']) (by simpa using htl) inv0 (by rw [htl]; exact hlex) h
  refine wpIn_region_any hm ?_
  have := anyIn_of_headQ (r := r) (Q := Q) (q := l.toArray.size - k) (fun listed a' w' hw' hL => by
    have := wpAnyIn_of_seq (md := .any) (r := r) (Q := Q) (l.drop k) k listed a' w' (fun j => by simp [List.getElem?_drop]) (by rw [hdl]; exact hL.1) (hL.2 w' hw')
    rwa [hdl] at this) _ _ _ w.drew hC H
  rw [htl, show k + (l.toArray.size - k) = l.toArray.size by omega] at this
  exact this
theorem ct_tail {id : Nat} {l : List Oper} (k : Nat) (hm : P.follows .mixedOrders = true) (hB : Region.lexTailB .any l.toArray k = true)
    (h : QT P l.toArray n B W (fun R' => RT r P l.toArray Q n B W (l.drop k) R' L) (l.take k) R L) : CT r P Q n B W (.region id l.toArray true) R L := fun a w s =>
  wpIn_region_tail (C := Cls B W L) k hm hB (cls_drew s.cls) (h _ (fun _ hK a' r w' hw' => hK a' w' (hw'.st r)) a s.regs)
theorem qt_case {K : RList → Prop} {l : List Oper} {d : Nat} {p : Prop} [Decidable p] (hm : Turn R (d, Value.bool (decide p)) (d, Value.bool true) R') (hm' : Turn R (d, Value.bool (decide p)) (d, Value.bool false) R0)
    (h1 : p → QT P ops n B W K l R' L) (h2 : ¬p → QT P ops n B W K l R0 L) : QT P ops n B W K l R L := fun N hN a r => by
  obtain ⟨m1, e1, f1⟩ := hm.perm
  obtain ⟨m2, e2, f2⟩ := hm'.perm
  by_cases hp : p
  · refine h1 hp N hN a (r.sub' ?_)
    intro q hq
    rcases List.mem_cons.1 (f1.mem_iff.1 hq) with e | e
    · exact ⟨_, e1.mem_iff.2 (List.mem_cons_self ..), by subst e; rfl, by subst e; simp [hp]⟩
    · exact ⟨_, e1.mem_iff.2 (List.mem_cons_of_mem _ e), rfl, rfl⟩
  · refine h2 hp N hN a (r.sub' ?_)
    intro q hq
    rcases List.mem_cons.1 (f2.mem_iff.1 hq) with e | e
    · exact ⟨_, e2.mem_iff.2 (List.mem_cons_self ..), by subst e; rfl, by subst e; simp [hp]⟩
    · exact ⟨_, e2.mem_iff.2 (List.mem_cons_of_mem _ e), rfl, rfl⟩
theorem turn_bool {d : Nat} {b c : Bool} {a : Act} (hm : Turn R (d, Value.bool b) (d, Value.bool c) R') (e : b = c) (r : Regs n a R) : Regs n a R' := by
  subst e
  obtain ⟨m, e1, f1⟩ := hm.perm
  exact r.sub fun p hp => e1.mem_iff.2 (f1.mem_iff.1 hp)
/-- .. for a truth that is no decision. -/
theorem rt_caseb {l : List Oper} {d : Nat} {b : Bool} (hm : Turn R (d, Value.bool b) (d, Value.bool true) R') (hm' : Turn R (d, Value.bool b) (d, Value.bool false) R0)
    (h1 : b = true → RT r P ops Q n B W l R' L) (h2 : b = false → RT r P ops Q n B W l R0 L) : RT r P ops Q n B W l R L := fun a w s => by
  cases hb : b with
  | true => exact h1 hb a w ⟨turn_bool hm hb s.regs, s.below, s.lo, s.sat⟩
  | false => exact h2 hb a w ⟨turn_bool hm' hb s.regs, s.below, s.lo, s.sat⟩
theorem qt_caseb {K : RList → Prop} {l : List Oper} {d : Nat} {b : Bool} (hm : Turn R (d, Value.bool b) (d, Value.bool true) R') (hm' : Turn R (d, Value.bool b) (d, Value.bool false) R0)
    (h1 : b = true → QT P ops n B W K l R' L) (h2 : b = false → QT P ops n B W K l R0 L) : QT P ops n B W K l R L := fun N hN a r => by
  cases hb : b with
  | true => exact h1 hb N hN a (turn_bool hm hb r)
  | false => exact h2 hb N hN a (turn_bool hm' hb r)

/-! ### Aggregates -/
inductive EvalPs (R : RList) : List (Nat × Operand) → List (Nat × Value) → Prop where
  | nil : EvalPs R [] []
  | cons {i : Nat} {x : Operand} {v : Value} {xs : List (Nat × Operand)} {vs : List (Nat × Value)} (h : EvalR R x v) (t : EvalPs R xs vs) : EvalPs R ((i, x) :: xs) ((i, v) :: vs)
theorem EvalPs.eval {a : Act} {xs : List (Nat × Operand)} {vs : List (Nat × Value)} (h : EvalPs R xs vs) (r : Regs n a R) : (xs.map fun (i, x) => (i, a.eval x)) = vs := by
  induction h with
  | nil => rfl
  | cons h _ ih => rw [List.map_cons, ih]; simp only [h.eval r]
def buildV (P : Program) (T : TypeId) (vs : List (Nat × Value)) : Option Value :=
  match P.underlying T, zeroOf P T with
  | some (.struct fs), some z =>
    (Instr.fill (fun i => (fs[i]?).map fun f => (f.offset, P.cellsOf f.type)) z.cells vs).map .agg
  | some (.array _ E), some z => (Instr.fill (fun i => some (i * P.cellsOf E, P.cellsOf E)) z.cells vs).map .agg
  | _, _ => none
end
end Go.Proofs.Ytkfkiaieeiodnaa
