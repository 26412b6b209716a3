/- A law on regions that draw their order: an invariant that every operation of the first part keeps, in whatever order; then a chain. No program occurs here. -/
import Derived.Test.YtpbkelpokpglaaaGreatReg
set_option linter.all false
namespace Go.Proofs.YtpbkelpokpglaaaGreat
open Go Go.RowKit
section
variable {P : Program}
/-- Every binding edge of an operation of the first part goes back. -/
def depsB (md : Region.Mode) (ops : Array Oper) (n : Nat) : Bool :=
  (List.range n).all fun k => match ops[k]? with
    | some o => o.after.all fun e => !Region.binds md e || decide (e.on < k)
    | none => false
def openCount (n : Nat) (listed : Array Bool) : Nat := ((List.range n).filter fun i => !listed.getD i false).length
theorem openCount_set {n i : Nat} {listed : Array Bool} (hi : i < n) (hs : i < listed.size) (hun : listed.getD i false = false) : openCount n (listed.setIfInBounds i true) + 1 = openCount n listed := by
  unfold openCount
  have key : ∀ l : List Nat, l.Nodup → i ∈ l → (l.filter fun j => !(listed.setIfInBounds i true).getD j false).length + 1 = (l.filter fun j => !listed.getD j false).length := by
    intro l
    induction l with
    | nil => intro _ h; cases h
    | cons x l ih =>
      intro hnd hm
      obtain ⟨hx, hnd'⟩ := List.nodup_cons.1 hnd
      by_cases e : x = i
      · subst e
        have e1 : (listed.setIfInBounds x true).getD x false = true := by simp [hs]
        have e2 : (l.filter fun j => !(listed.setIfInBounds x true).getD j false) = l.filter fun j => !listed.getD j false := by
          apply List.filter_congr
          intro j hj
          have : x ≠ j := fun e => hx (e ▸ hj)
          rw [getD_set_ne false this]
        rw [List.filter_cons, List.filter_cons, e1, hun, e2]
        simp
      · have hm' : i ∈ l := by
          rcases List.mem_cons.1 hm with h | h
          · exact absurd h.symm e
          · exact h
        have := ih hnd' hm'
        rw [List.filter_cons, List.filter_cons, getD_set_ne false (Ne.symm e)]
        cases listed.getD x false
        · simp only [Bool.not_false, if_true, List.length_cons]; omega
        · simpa using this
  exact key _ List.nodup_range (List.mem_range.2 hi)
theorem openCount_pos {n i : Nat} {listed : Array Bool} (hi : i < n) (hun : listed.getD i false = false) : 0 < openCount n listed := by
  unfold openCount
  exact List.length_pos_iff.2 (List.ne_nil_of_mem (List.mem_filter.2 ⟨List.mem_range.2 hi, by simp [hun]⟩))
theorem openCount_zero {n : Nat} {listed : Array Bool} (h : openCount n listed = 0) {i : Nat} (hi : i < n) : listed.getD i false = true := by
  cases hl : listed.getD i false with
  | true => rfl
  | false => have := openCount_pos hi hl; omega
theorem openCount_start (n m : Nat) : openCount n (Array.replicate m false) = n := by
  unfold openCount
  rw [List.filter_eq_self.2 (fun j _ => by rw [getD_replicate_false]; rfl), List.length_range]
/-- The same for all operations: nothing is left for a chain. -/
def allB (ops : Array Oper) : Bool := depsB .any ops ops.size
def ClosedQ (ops : Array Oper) (listed : Array Bool) : Prop := ∀ j oj, ops[j]? = some oj → listed.getD j false = true → ∀ e ∈ oj.after, Region.binds .any e = true → listed.getD e.on false = true
theorem least_ready_all {ops : Array Oper} {listed : Array Bool} (hd : allB ops = true) (hs : listed.size = ops.size) {i : Nat} (hi : i < ops.size) (hun : listed.getD i false = false) :
    ∃ j, j < ops.size ∧ j ∈ Region.ready .any ops listed := by
  induction i using Nat.strongRecOn with
  | _ i ih =>
    by_cases hex : ∃ k, k < i ∧ listed.getD k false = false
    · obtain ⟨k, hk, hku⟩ := hex
      exact ih k hk (by omega) hku
    · refine ⟨i, hi, mem_ready.2 ⟨getD_in (by omega) hun, ?_⟩⟩
      have h1 := List.all_eq_true.1 hd i (List.mem_range.2 hi)
      cases ho : ops[i]? with
      | none => rw [ho] at h1; cases h1
      | some o =>
        rw [ho] at h1
        refine ⟨o, rfl, fun e he hb => ?_⟩
        have h2 := Array.all_eq_true'.1 h1 e he
        simp only [hb, Bool.not_true, Bool.false_or, decide_eq_true_eq] at h2
        cases hl : listed.getD e.on false with
        | true => rfl
        | false => exact absurd ⟨e.on, h2, hl⟩ hex
theorem any_of_all {ops : Array Oper} {Q : Exit → Act → World → Prop} {I : Array Bool → Act → World → Prop} (hB : allB ops = true)
    (hstep : ∀ i o, ops[i]? = some o → ∀ (listed : Array Bool) a w, listed.getD i false = false → ClosedQ ops listed → (∀ e ∈ o.after, Region.binds .any e = true → listed.getD e.on false = true) → (∀ j, listed.getD j false = true → (listed.setIfInBounds i true).getD j false = true) →
      (∀ j, j ≠ i → (listed.setIfInBounds i true).getD j false = listed.getD j false) → (listed.setIfInBounds i true).getD i false = true → I listed a w → wpOp P ops Q i (fun a' w' => I (listed.setIfInBounds i true) a' w') a w)
    (hend : ∀ (listed : Array Bool) a w, (∀ i, i < ops.size → listed.getD i false = true) → I listed a w → Q .normal a w) :
    ∀ (f : Nat) (listed : Array Bool) (a : Act) (w : World), listed.size = ops.size → ClosedQ ops listed → openCount ops.size listed = f → I listed a w → wpAny P .any ops Q f listed a w := by
  intro f
  induction f with
  | zero =>
    intro listed a w hs hcl ho hI
    refine ⟨?_, hend listed a w (fun i hi => openCount_zero ho hi) hI⟩
    rw [List.eq_nil_iff_forall_not_mem]
    intro j hj
    obtain ⟨hun, o, hoj, _⟩ := mem_ready.1 hj
    have hlt : j < ops.size := (Array.getElem?_eq_some_iff.1 hoj).1
    have := openCount_zero ho hlt
    rw [getD_both hun] at this
    cases this
  | succ f ih =>
    intro listed a w hs hcl ho hI
    have hex : ∃ i, i < ops.size ∧ listed.getD i false = false := by
      refine Classical.byContradiction fun hne => ?_
      have : openCount ops.size listed = 0 := by
        unfold openCount
        rw [List.length_eq_zero_iff, List.filter_eq_nil_iff]
        intro j hj
        cases hl : listed.getD j false with
        | true => simp
        | false => exact absurd ⟨j, List.mem_range.1 hj, hl⟩ hne
      omega
    obtain ⟨i0, hi0, hu0⟩ := hex
    obtain ⟨j0, hj0, hr0⟩ := least_ready_all hB hs hi0 hu0
    refine ⟨fun h0 => (by rw [h0] at hr0; cases hr0), fun i hi => ?_⟩
    obtain ⟨hun, o, hoi, hall⟩ := mem_ready.1 hi
    have hlt : i < ops.size := (Array.getElem?_eq_some_iff.1 hoi).1
    have hu := getD_both hun
    have hset : (listed.setIfInBounds i true).getD i false = true := by simp [show i < listed.size from by omega]
    refine wpOp_mono (fun a' w' h' => ih _ a' w' (by simp [hs]) ?_ ?_ h') (hstep i o hoi listed a w hu hcl hall (fun j hj => getD_set_true hj) (fun j hj => getD_set_ne false (Ne.symm hj)) hset hI)
    · intro j oj hj hl e he hb
      by_cases hij : i = j
      · subst hij
        have : oj = o := Option.some.inj (hj.symm.trans hoi)
        subst this
        exact getD_set_true (hall e he hb)
      · rw [getD_set_ne false hij] at hl
        exact getD_set_true (hcl j oj hj hl e he hb)
    · have := openCount_set hlt (by omega) hu
      omega
theorem wp_region_all {id : Nat} {Q : Exit → Act → World → Prop} {a : Act} {w : World} {l : List Oper} (I : Array Bool → Act → World → Prop) (hm : P.follows .mixedOrders = true) (hB : allB l.toArray = true)
    (h0 : I (Array.replicate l.toArray.size false) a w.drew)
    (hstep : ∀ i o, l.toArray[i]? = some o → ∀ (listed : Array Bool) a w, listed.getD i false = false → ClosedQ l.toArray listed → (∀ e ∈ o.after, Region.binds .any e = true → listed.getD e.on false = true) → (∀ j, listed.getD j false = true → (listed.setIfInBounds i true).getD j false = true) →
      (∀ j, j ≠ i → (listed.setIfInBounds i true).getD j false = listed.getD j false) → (listed.setIfInBounds i true).getD i false = true → I listed a w → wpOp P l.toArray Q i (fun a' w' => I (listed.setIfInBounds i true) a' w') a w)
    (hend : ∀ (listed : Array Bool) a w, (∀ i, i < l.toArray.size → listed.getD i false = true) → I listed a w → Q .normal a w) : (Code.region id l.toArray true).wp P Q a w := by
  refine wp_region_any hm ?_
  exact any_of_all hB hstep hend _ _ a w.drew (by simp) (fun j oj _ hl => (by rw [getD_replicate_false] at hl; cases hl)) (openCount_start _ _) h0
end
end Go.Proofs.YtpbkelpokpglaaaGreat
