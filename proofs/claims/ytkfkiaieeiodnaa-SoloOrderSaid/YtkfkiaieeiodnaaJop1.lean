/- From the readings of the arguments to our words. -/
import Derived.Test.YtkfkiaieeiodnaaSo24
import Derived.OpenShut
import Derived.ProofKit
import Derived.Deep.Slices
import Derived.Deep.Fields
import Derived.ChangeSame
namespace Go.Proofs.Ytkfkiaieeiodnaa
open Go.ChangeShapes Go.WideShapes Go.RowKit Go.Deep

theorem spot_none {w : World} {a : Addr} {v : Value} (h : w.cell? a = some v) : a = ⟨a.block, a.off, none⟩ ∧ a.block < w.heap.size := by
  unfold World.cell? at h
  split at h
  · rename_i hb
    split at h
    · cases h
    · rename_i hs
      refine ⟨?_, ?_⟩
      · cases a with
        | mk b o s => cases s with
          | none => rfl
          | some k => simp at hs
      · rcases Nat.lt_or_ge a.block w.heap.size with h1 | h1
        · exact h1
        · rw [Array.getElem?_eq_none h1] at hb; cases hb
  · cases h
theorem add_spot (b o n : Nat) : (⟨b, o, none⟩ : Addr).add n = ⟨b, o + n, none⟩ := by
  unfold Addr.add; split
  · rename_i h; simp [h]
  · rfl

theorem filterMap_some {α : Type} (Y : Nat → Option α) : ∀ len, (∀ i, i < len → ∃ z, Y i = some z) → ((List.range len).filterMap Y).length = len ∧ ∀ i, i < len → ((List.range len).filterMap Y)[i]? = Y i
  | 0, _ => by simp
  | k + 1, h => by
    obtain ⟨z, hz⟩ := h k (by omega)
    have hk := filterMap_some Y k (fun i hi => h i (by omega))
    have e1 : List.filterMap Y [k] = [z] := by simp [hz]
    rw [List.range_succ, List.filterMap_append, e1]
    refine ⟨by simp [hk.1], fun i hi => ?_⟩
    rcases Nat.lt_or_ge i k with h1 | h1
    · rw [List.getElem?_append_left (by rw [hk.1]; exact h1)]; exact hk.2 i h1
    · have e : i = k := by omega
      subst e
      rw [List.getElem?_append_right (by rw [hk.1]; omega), hk.1, hz]; simp
section
variable {H : Type} {enc : TypeId × Value → H} {P : Program} {w : World} {base : Nat} {spare : Nat → Bool} {held : Bool}
theorem sl_open {α : Type} {en : α → List Value} {sz : Nat} {Q : α → Prop} {t e : TypeId} {fuel : Nat} {cs : List Value} {x : DataW H × List MemPlace} (ht : P.underlying t = some (.slice e)) (hC : P.cellsOf e = sz) (hsz : 0 < sz)
    (hel : ∀ n cs' d, DataW.trod enc P w base spare held n e cs' = some d → cs'.length = sz → ∃ y : α, Q y ∧ cs' = en y) (h : DataW.trod enc P w base spare held fuel t cs = some x) :
    ∃ A cap xs, cs = [.slice A xs.length cap] ∧ Sl en sz w w.heap.size A xs ∧ (∀ y ∈ xs, Q y) ∧ xs.length ≤ cap := by
  rcases open_slice ht h with ⟨h0, _⟩ | ⟨a, len, cap, m, n, D, Pl, hcs, hb, hl, hm, hmm, hx, hi⟩
  · exact ⟨none, 0, [], h0, Sl.nil, by simp, by simp⟩
  · have hm0 : len ≤ m := by rw [hmm]; split <;> omega
    have hY : ∀ i, ∃ y : Option α, i < len → ∃ z, y = some z ∧ Q z ∧ ∀ j u, (en z)[j]? = some u → w.cell? (a.add (i * sz + j)) = some u := by
      intro i
      by_cases hil : i < len
      · obtain ⟨cs', hc, ht'⟩ := hi i (by omega)
        rw [hC] at hc
        obtain ⟨_, hcl, hat⟩ := World.cells?_some hc
        obtain ⟨y, hq, rfl⟩ := hel n cs' _ ht' hcl
        refine ⟨some y, fun _ => ⟨y, rfl, hq, fun j u hu => ?_⟩⟩
        have hj : j < sz := by
          rcases Nat.lt_or_ge j sz with h1 | h1
          · exact h1
          · rw [List.getElem?_eq_none (by omega)] at hu; cases hu
        rw [← Go.Deep.add_add, hat j hj, hu]
      · exact ⟨none, fun h => absurd h hil⟩
    obtain ⟨Y, hY⟩ := Classical.axiomOfChoice hY
    have hlen := filterMap_some Y len (fun i hi => (hY i hi).imp fun z h => h.1)
    refine ⟨some a, cap, (List.range len).filterMap Y, by rw [hcs, hlen.1], ⟨by rw [hlen.1]; simp only [maxLen] at hm; omega, fun hne => ?_⟩, fun y hy => ?_, by rw [hlen.1]; exact hl⟩
    · have hpos : 0 < len := by
        rw [← hlen.1]; exact List.length_pos_iff.2 hne
      obtain ⟨cs', hc, _⟩ := hi 0 (by omega)
      rw [hC] at hc
      obtain ⟨_, hcl, hat⟩ := World.cells?_some hc
      have h00 := hat 0 hsz
      rw [List.getElem?_eq_getElem (by omega)] at h00
      have hs := spot_none h00
      have ea : (a.add (0 * sz)).add 0 = a := by simp [Addr.add]
      rw [ea] at hs
      refine ⟨a.block, a.off, by rw [← hs.1], hs.2, fun i z hz j u hu => ?_⟩
      have hil : i < len := by
        rcases Nat.lt_or_ge i len with h1 | h1
        · exact h1
        · rw [List.getElem?_eq_none (by rw [hlen.1]; exact h1)] at hz; cases hz
      obtain ⟨z', hz', _, hcell⟩ := hY i hil
      rw [hlen.2 i hil, hz'] at hz
      injection hz with hz
      subst hz
      have := hcell j u hu
      rw [hs.1, add_spot] at this
      rw [Nat.add_assoc]
      exact this
    · obtain ⟨i, hi1, hi2⟩ := List.mem_filterMap.1 hy
      obtain ⟨z, hz, hq, _⟩ := hY i (List.mem_range.1 hi1)
      rw [hz] at hi2
      injection hi2 with hi2
      rw [← hi2]; exact hq
end
end Go.Proofs.Ytkfkiaieeiodnaa
