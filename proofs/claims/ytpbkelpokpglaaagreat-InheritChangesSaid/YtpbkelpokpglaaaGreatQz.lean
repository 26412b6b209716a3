/- From the readings of the arguments to our words. From the readings of the arguments to our words: bytes, ints. -/
import Derived.Test.YtpbkelpokpglaaaGreatQx
import Derived.OpenShut
import Derived.ProofKit
import Derived.Deep.Slices
import Derived.Deep.Fields
import Derived.ChangeSame
set_option linter.all false
namespace Go.Proofs.YtpbkelpokpglaaaGreat
section
open Go.ChangeShapes Go.WideShapes Go.RowKit Go.Deep
theorem spot_none {w : World} {a : Addr} {v : Value} (h : w.cell? a = some v) : a = ⟨a.block, a.off, none⟩ ∧ a.block < w.heap.size := by
  unfold World.cell? at h
  split at h
  · rename_i hb
    split at h
    · cases h
    · rename_i hs
      refine ⟨?_, ?_⟩
      · cases a with
        | mk b o s => cases s with
          | none => rfl
          | some k => simp at hs
      · rcases Nat.lt_or_ge a.block w.heap.size with h1 | h1
        · exact h1
        · rw [Array.getElem?_eq_none h1] at hb; cases hb
  · cases h
theorem add_spot (b o n : Nat) : (⟨b, o, none⟩ : Addr).add n = ⟨b, o + n, none⟩ := by
  unfold Addr.add; split
  · rename_i h; simp [h]
  · rfl
theorem filterMap_some {α : Type} (Y : Nat → Option α) : ∀ len, (∀ i, i < len → ∃ z, Y i = some z) → ((List.range len).filterMap Y).length = len ∧ ∀ i, i < len → ((List.range len).filterMap Y)[i]? = Y i
  | 0, _ => by simp
  | k + 1, h => by
    obtain ⟨z, hz⟩ := h k (by omega)
    have hk := filterMap_some Y k (fun i hi => h i (by omega))
    have e1 : List.filterMap Y [k] = [z] := by simp [hz]
    rw [List.range_succ, List.filterMap_append, e1]
    refine ⟨by simp [hk.1], fun i hi => ?_⟩
    rcases Nat.lt_or_ge i k with h1 | h1
    · rw [List.getElem?_append_left (by rw [hk.1]; exact h1)]; exact hk.2 i h1
    · have e : i = k := by omega
      subst e
      rw [List.getElem?_append_right (by rw [hk.1]; omega), hk.1, hz]; simp
section
variable {H : Type} {enc : TypeId × Value → H} {P : Program} {w : World} {base : Nat} {spare : Nat → Bool} {held : Bool}
theorem sl_open {α : Type} {en : α → List Value} {sz : Nat} {Q : α → Prop} {t e : TypeId} {fuel : Nat} {cs : List Value} {x : DataW H × List MemPlace} (ht : P.underlying t = some (.slice e)) (hC : P.cellsOf e = sz) (hsz : 0 < sz)
    (hel : ∀ n cs' d, DataW.trod enc P w base spare held n e cs' = some d → cs'.length = sz → ∃ y : α, Q y ∧ cs' = en y) (h : DataW.trod enc P w base spare held fuel t cs = some x) :
    ∃ A cap xs, cs = [.slice A xs.length cap] ∧ Sl en sz w w.heap.size A xs ∧ (∀ y ∈ xs, Q y) ∧ xs.length ≤ cap := by
  rcases open_slice ht h with ⟨h0, _⟩ | ⟨a, len, cap, m, n, D, Pl, hcs, hb, hl, hm, hmm, hx, hi⟩
  · exact ⟨none, 0, [], h0, Sl.nil, by simp, Nat.le_refl _⟩
  · have hm0 : len ≤ m := by rw [hmm]; split <;> omega
    have hY : ∀ i, ∃ y : Option α, i < len → ∃ z, y = some z ∧ Q z ∧ ∀ j u, (en z)[j]? = some u → w.cell? (a.add (i * sz + j)) = some u := by
      intro i
      by_cases hil : i < len
      · obtain ⟨cs', hc, ht'⟩ := hi i (by omega)
        rw [hC] at hc
        obtain ⟨_, hcl, hat⟩ := World.cells?_some hc
        obtain ⟨y, hq, rfl⟩ := hel n cs' _ ht' hcl
        refine ⟨some y, fun _ => ⟨y, rfl, hq, fun j u hu => ?_⟩⟩
        have hj : j < sz := by
          rcases Nat.lt_or_ge j sz with h1 | h1
          · exact h1
          · rw [List.getElem?_eq_none (by omega)] at hu; cases hu
        rw [← Go.Deep.add_add, hat j hj, hu]
      · exact ⟨none, fun h => absurd h hil⟩
    obtain ⟨Y, hY⟩ := Classical.axiomOfChoice hY
    have hlen := filterMap_some Y len (fun i hi => (hY i hi).imp fun z h => h.1)
    refine ⟨some a, cap, (List.range len).filterMap Y, by rw [hcs, hlen.1], ⟨by rw [hlen.1]; simp only [maxLen] at hm; omega, fun hne => ?_⟩, fun y hy => ?_, by rw [hlen.1]; exact hl⟩
    · have hpos : 0 < len := by
        rw [← hlen.1]; exact List.length_pos_iff.2 hne
      obtain ⟨cs', hc, _⟩ := hi 0 (by omega)
      rw [hC] at hc
      obtain ⟨_, hcl, hat⟩ := World.cells?_some hc
      have h00 := hat 0 hsz
      rw [List.getElem?_eq_getElem (by omega)] at h00
      have hs := spot_none h00
      have ea : (a.add (0 * sz)).add 0 = a := by simp [Addr.add]
      rw [ea] at hs
      refine ⟨a.block, a.off, by rw [← hs.1], hs.2, fun i z hz j u hu => ?_⟩
      have hil : i < len := by
        rcases Nat.lt_or_ge i len with h1 | h1
        · exact h1
        · rw [List.getElem?_eq_none (by rw [hlen.1]; exact h1)] at hz; cases hz
      obtain ⟨z', hz', _, hcell⟩ := hY i hil
      rw [hlen.2 i hil, hz'] at hz
      injection hz with hz
      subst hz
      have := hcell j u hu
      rw [hs.1, add_spot] at this
      rw [Nat.add_assoc]
      exact this
    · obtain ⟨i, hi1, hi2⟩ := List.mem_filterMap.1 hy
      obtain ⟨z, hz, hq, _⟩ := hY i (List.mem_range.1 hi1)
      rw [hz] at hi2
      injection hi2 with hi2
      rw [← hi2]; exact hq
end
end
section
open Go.ChangeShapes Go.WideShapes Go.RowKit Go.Deep
set_option maxRecDepth 100000
theorem cellsInt : Tryz.prog.cellsOf 3 = 1 := by kernel_rfl
theorem cellsByte : Tryz.prog.cellsOf 5 = 1 := by kernel_rfl
theorem wf_int {z : Int} (h : (Lit.int .i64 z).wf = true) : -9223372036854775808 ≤ z ∧ z ≤ 9223372036854775807 := by
  simp [Lit.wf, IntKind.min, IntKind.max, IntKind.bits, IntKind.signed] at h
  omega
section
variable {H : Type} {enc : TypeId × Value → H} {w : World} {base : Nat} {spare : Nat → Bool} {held : Bool}
theorem int_elem (n : Nat) (cs : List Value) (d : DataW H × List MemPlace) (h : DataW.trod enc Tryz.prog w base spare held n 3 cs = some d) (_ : cs.length = 1) : ∃ y : Int, (-9223372036854775808 ≤ y ∧ y ≤ 9223372036854775807) ∧ cs = encF SR1.kt 1 y := by
  obtain ⟨z, hz, _, hw⟩ := DataW.trod_int Tryz.underlying3 h
  exact ⟨z, wf_int hw, hz⟩
theorem byte_elem (n : Nat) (cs : List Value) (d : DataW H × List MemPlace) (h : DataW.trod enc Tryz.prog w base spare held n 5 cs = some d) (_ : cs.length = 1) : ∃ y : Int, (0 ≤ y ∧ y ≤ 255) ∧ cs = encF SR1.kt 17 y := by
  obtain ⟨z, hz, _, hw⟩ := DataW.trod_int Tryz.underlying5 h
  simp [Lit.wf, IntKind.min, IntKind.max, IntKind.bits, IntKind.signed] at hw
  exact ⟨z, by omega, hz⟩
theorem slice_val {t e : TypeId} {r : Reach} {b0 : Nat} {v : Value} {A : Option Addr} {n cap : Nat} (ht : Tryz.prog.underlying t = some (.slice e)) (hv : Value.okWide Tryz.prog w r b0 t v) (h1 : v.cells.toList = [.slice A n cap]) : v = .slice A n cap := by
  obtain ⟨a, len, c, rfl⟩ := okWide_slice ht hv
  simp [Value.cells] at h1
  rw [h1.1, h1.2.1, h1.2.2]
theorem ro_in {c : Nat} {l : List (SR1.T c)} {v : Value} {A : Option Addr} {cap : Nat} {L : List SProp} (hz : 0 < SR1.kt.sz c) (henc : ∀ x, (encF SR1.kt c x).length = SR1.kt.sz c) (hv : v = .slice A l.length cap) (hS : Sl (encF SR1.kt c) (SR1.kt.sz c) w w.heap.size A l) (hc : l.length ≤ cap) (s : Sat w.heap.size w L) : Sat w.heap.size w (pcS SR1.kt (.ro c l) v :: L) :=
  sat_head (fun h hr => ⟨0, A, cap, hv, hr⟩) (sat_in hz henc hS hc s)
theorem bytes_in {v : Value} {d : DataW H} {p : List MemPlace} {r : Reach} {b0 : Nat} (hv : Value.okWide Tryz.prog w r b0 22 v) (h : DataW.Trod enc Tryz.prog w base spare held 22 v d p) : ∃ l : List Int, (∀ x ∈ l, 0 ≤ x ∧ x ≤ 255) ∧ ∀ {L}, Sat w.heap.size w L → Sat w.heap.size w (pcS SR1.kt (.ro 17 l) v :: L) := by
  obtain ⟨fuel, hf⟩ := h
  obtain ⟨A, cap, xs, h1, h2, h3, h4⟩ := sl_open Tryz.underlying22 cellsByte (by decide) byte_elem hf
  exact ⟨xs, h3, fun s => ro_in (c := 17) (by decide) (fun _ => rfl) (slice_val Tryz.underlying22 hv h1) h2 h4 s⟩
theorem ints_in {v : Value} {d : DataW H} {p : List MemPlace} {r : Reach} {b0 : Nat} (hv : Value.okWide Tryz.prog w r b0 23 v) (h : DataW.Trod enc Tryz.prog w base spare held 23 v d p) : ∃ l : List Int, (∀ x ∈ l, -9223372036854775808 ≤ x ∧ x ≤ 9223372036854775807) ∧ ∀ {L}, Sat w.heap.size w L → Sat w.heap.size w (pcS SR1.kt (.ro 1 l) v :: L) := by
  obtain ⟨fuel, hf⟩ := h
  obtain ⟨A, cap, xs, h1, h2, h3, h4⟩ := sl_open Tryz.underlying23 cellsInt (by decide) int_elem hf
  exact ⟨xs, h3, fun s => ro_in (c := 1) (by decide) (fun _ => rfl) (slice_val Tryz.underlying23 hv h1) h2 h4 s⟩
end
/-- A law that answers true, from its contract. -/
theorem law_calls {f : FuncId} {ps : List Pk} {spec : TupP SR1 ps → Option (TupR SR1 [.sh .b] × TupO SR1 ps)} {P : Program} (h : ConOk SR1 P f ps [.sh .b] spec) {x : TupP SR1 ps} {o : TupO SR1 ps} (hx : spec x = some ((true, ()), o)) {vs : List Value} {w : World} (s : Sat w.heap.size w (PreS SR1 ps x vs ++ [fun _ => True])) :
    Calls P f vs.toArray w fun e w' => e = .returned (.bool true) ∧ Below w.heap.size w w' :=
  (h x _ hx w.heap.size w vs (fun _ => True) w ⟨Below.refl _ _, Nat.le_refl _, s⟩).mono fun e w' ⟨us, he, hb, _, s'⟩ => by
    rcases us with _ | ⟨u, _ | ⟨u2, us⟩⟩
    · exact sat_false s'
    · have s2 : Sat w.heap.size w' (pureS (u = .bool true) :: _) := sat_head (pc_cases (f := .b true) (fun _ h => h) fun _ _ h => h) s'
      obtain ⟨_, _, _, _, _, _, h1, _⟩ := s2
      subst h1
      exact ⟨he, hb⟩
    · exact sat_false s'.drop
end
end Go.Proofs.YtpbkelpokpglaaaGreat
