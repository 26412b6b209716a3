/- What a call has made and hands back, held to be read: no program occurs here. -/
import Derived.Test.YtkfkiaieeiodnaaSl10
namespace Go.Proofs.Ytkfkiaieeiodnaa
open Go Go.RowKit

/-- u reads as w does from block n on. -/
def Reads (n : Nat) (w u : World) : Prop := ∀ b o v, n ≤ b → w.cell? ⟨b, o, none⟩ = some v → u.cell? ⟨b, o, none⟩ = some v
theorem Reads.refl (n : Nat) (w : World) : Reads n w w := fun _ _ _ _ h => h
def agrees (w : World) (h : Hp) : Prop := ∀ b o x, h b o = some x → itemOk w b o x
def heldS (Φ : World → Prop) : SProp := fun h => ∀ w, agrees w h → Φ w
section
variable {P : Program} {n B : Nat} {W : World} {R R' : RList} {L L' M : List SProp} {v u : Value} {x y z : Operand} {w w' : World} {Φ : World → Prop}
  {d : Option Tmp} {ty : TypeId} {ps : String} {af : Array Edge} {g : Option (Nat × Bool)} {T T' : TypeId}
theorem Sat.held (s : Sat B w (heldS Φ :: L)) : Φ w := by
  obtain ⟨h, H, k1, k2, a, e, hA, hL⟩ := s
  exact hA w fun b o x hx => (H b o x (by rw [e]; unfold join; rw [hx])).2
theorem sat_held (s : Sat B w L) (h : heldS Φ ∈ L) : Φ w := by
  obtain ⟨l', p⟩ := Pick.of_mem h
  exact (s.perm p.perm).held
theorem Sat.addNew {w0 : World} (s : Sat B w0 L) (hB : B ≤ w0.heap.size) (hb : Below w0.heap.size w0 w') (hΦ : ∀ u, Reads w0.heap.size w' u → Φ u) : Sat B w' (heldS Φ :: L) := by
  obtain ⟨h, H, hL⟩ := s
  have hfar : ∀ b o, w0.heap.size ≤ b → h b o = none := fun b o hle => by
    cases e : h b o with
    | none => rfl
    | some x => exact absurd (H _ _ _ e).2.lt (by omega)
  refine ⟨join (fun b o => if w0.heap.size ≤ b then (w'.cell? ⟨b, o, none⟩).map .look else none) h, ?_, _, h, ?_, rfl, ?_, hL⟩
  · intro b o x hx
    unfold join at hx
    by_cases hc : w0.heap.size ≤ b
    · simp only [if_pos hc, hfar b o hc] at hx
      cases hv : w'.cell? ⟨b, o, none⟩ with
      | none => rw [hv] at hx; cases hx
      | some v =>
        rw [hv] at hx
        obtain rfl := Option.some.inj hx
        exact ⟨Nat.le_trans hB hc, hv⟩
    · simp only [if_neg hc] at hx
      have h2 := H b o x hx
      exact ⟨h2.1, h2.2.same (hb.block _ h2.2.lt)⟩
  · intro b o
    by_cases hc : w0.heap.size ≤ b
    · exact .inr (hfar b o hc)
    · left; simp [hc]
  · intro u hu
    refine hΦ u fun b o v hle hv => ?_
    have := hu b o (.look v) (by simp [hle, hv])
    exact this
/-- A call that hands back what it has made, to be read. -/
theorem ot_callH {f : FuncId} {xs : List Operand} {ts : Array TypeId} {vs : List Value} {X : Type} {v : X → Value} {Φ : X → World → Prop} (hc : callB P f = true) (hxs : EvalRs R xs vs)
    (h : ∀ w, Cls B W L w → Calls P f vs.toArray w fun e w' => (∃ x, e = .returned (v x) ∧ ∀ u, Reads w.heap.size w' u → Φ x u) ∧ Below w.heap.size w w') : OT P n B W ⟨d, .call ⟨.value (.func f), xs.toArray, ts⟩, ty, ps, af, g⟩ R L v (fun x => heldS (Φ x) :: L) := fun a w s => by
  rw [op_call (fst := #[]) (cap := #[]) (EvalR.func.eval s.regs) hc (by simpa using hxs.eval s.regs)]
  show Calls P f _ w _
  have e : (#[] ++ vs.toArray ++ #[] : Array Value) = vs.toArray := by simp
  rw [e]
  refine (h w s.cls).mono fun e w' ⟨⟨x, he, hΦ⟩, hb⟩ => ⟨x, he, s.below.trans (hb.mono s.lo), Nat.le_trans s.lo hb.size, s.sat.addNew s.lo hb hΦ⟩
/-- A contract of a function that hands back what it has made, from its body. -/
def FnH (P : Program) (f : FuncId) (args : Array Value) (B : Nat) (W : World) (L : List SProp) {X : Type} (v : X → Value) (Φ : X → World → Prop) : Prop := Fn_ P f args B W L v (fun x => [heldS (Φ x)])
theorem oq_fact {o : Oper} {p : Prop} (h : ∀ w, Cls B W L w → p) (k : p → OQ P n B W o R L v) : OQ P n B W o R L v := fun a w s => k (h w s.cls) a w s
end
end Go.Proofs.Ytkfkiaieeiodnaa
