/- From the readings of the arguments to our words: the program's own types. -/
import Derived.Test.YtkfkiaieeiodnaaJop1
namespace Go.Proofs.Ytkfkiaieeiodnaa
open Go.ChangeShapes Go.WideShapes Go.RowKit Go.Deep

def IntOk (z : Int) : Prop := -9223372036854775808 ≤ z ∧ z ≤ 9223372036854775807
theorem cellsInt : Try.prog.cellsOf 3 = 1 := by kernel_rfl
theorem cellsByte : Try.prog.cellsOf 5 = 1 := by kernel_rfl
theorem cellsIns : Try.prog.cellsOf 90 = 3 := by kernel_rfl
theorem cellsSub : Try.prog.cellsOf 92 = 3 := by kernel_rfl
theorem cellsWord : Try.prog.cellsOf 33 = 1 := by kernel_rfl
theorem cellsRow : Try.prog.cellsOf 42 = 1 := by kernel_rfl
theorem wf_int {z : Int} (h : (Lit.int .i64 z).wf = true) : IntOk z := by
  simp [Lit.wf, IntKind.min, IntKind.max, IntKind.bits, IntKind.signed] at h
  unfold IntOk; omega
section
variable {H : Type} {enc : TypeId × Value → H} {w : World} {base : Nat} {spare : Nat → Bool} {held : Bool}
theorem int_field {n o : Nat} {cs : List Value} {d : DataW H × List MemPlace} (h : DataW.trod enc Try.prog w base spare held n 3 ((cs.drop o).take (Try.prog.cellsOf 3)) = some d) : ∃ z : Int, IntOk z ∧ cs[o]? = some (.int .i64 z) := by
  obtain ⟨z, hz, _, hw⟩ := DataW.trod_int Try.underlying3 h
  rw [cellsInt] at hz
  refine ⟨z, wf_int hw, ?_⟩
  have := congrArg (fun l : List Value => l[0]?) hz
  simpa using this
theorem int_elem (n : Nat) (cs : List Value) (d : DataW H × List MemPlace) (h : DataW.trod enc Try.prog w base spare held n 3 cs = some d) (_ : cs.length = 1) : ∃ y : Int, IntOk y ∧ cs = encInt y := by
  obtain ⟨z, hz, _, hw⟩ := DataW.trod_int Try.underlying3 h
  exact ⟨z, wf_int hw, hz⟩
theorem byte_elem (n : Nat) (cs : List Value) (d : DataW H × List MemPlace) (h : DataW.trod enc Try.prog w base spare held n 5 cs = some d) (_ : cs.length = 1) : ∃ y : Nat, y ≤ 255 ∧ cs = encByte y := by
  obtain ⟨z, hz, _, hw⟩ := DataW.trod_int Try.underlying5 h
  simp [Lit.wf, IntKind.min, IntKind.max, IntKind.bits, IntKind.signed] at hw
  exact ⟨z.toNat, by omega, by rw [hz, encByte, show ((z.toNat : Nat) : Int) = z from by omega]⟩
theorem three {cs : List Value} {a b c : Value} (hl : cs.length = 3) (h0 : cs[0]? = some a) (h1 : cs[1]? = some b) (h2 : cs[2]? = some c) : cs = [a, b, c] := by
  match cs, hl with
  | [x, y, z], _ => simp at h0 h1 h2; subst h0 h1 h2; rfl
theorem ins_elem (n : Nat) (cs : List Value) (d : DataW H × List MemPlace) (h : DataW.trod enc Try.prog w base spare held n 90 cs = some d) (hl : cs.length = 3) : ∃ y : Ins, (IntOk y.op ∧ IntOk y.a ∧ IntOk y.b) ∧ cs = y.enc := by
  obtain ⟨xs, m, _, _, _, hx, hf⟩ := DataW.trod_struct Try.underlying90 h
  match xs, hx with
  | [x0, x1, x2], _ =>
    obtain ⟨a, ha, ea⟩ := int_field (hf 0 _ rfl)
    obtain ⟨b, hb, eb⟩ := int_field (hf 1 _ rfl)
    obtain ⟨c, hc, ec⟩ := int_field (hf 2 _ rfl)
    exact ⟨⟨a, b, c⟩, ⟨ha, hb, hc⟩, three hl ea eb ec⟩
theorem sub_elem (n : Nat) (cs : List Value) (d : DataW H × List MemPlace) (h : DataW.trod enc Try.prog w base spare held n 92 cs = some d) (hl : cs.length = 3) : ∃ y : Sub, (IntOk y.prog ∧ IntOk y.level ∧ IntOk y.deadline) ∧ cs = y.enc := by
  obtain ⟨xs, m, _, _, _, hx, hf⟩ := DataW.trod_struct Try.underlying92 h
  match xs, hx with
  | [x0, x1, x2], _ =>
    obtain ⟨a, ha, ea⟩ := int_field (hf 0 _ rfl)
    obtain ⟨b, hb, eb⟩ := int_field (hf 1 _ rfl)
    obtain ⟨c, hc, ec⟩ := int_field (hf 2 _ rfl)
    exact ⟨⟨a, b, c⟩, ⟨ha, hb, hc⟩, three hl ea eb ec⟩
theorem word_elem (n : Nat) (cs : List Value) (d : DataW H × List MemPlace) (h : DataW.trod enc Try.prog w base spare held n 33 cs = some d) (_ : cs.length = 1) : ∃ y : Int, (0 ≤ y ∧ y ≤ 18446744073709551615) ∧ cs = encU y := by
  obtain ⟨z, hz, _, hw⟩ := DataW.trod_int Try.underlying33 h
  simp [Lit.wf, IntKind.min, IntKind.max, IntKind.bits, IntKind.signed] at hw
  exact ⟨z, by omega, hz⟩
set_option maxRecDepth 100000 in
theorem int_open {v : Value} {d : DataW H} {p : List MemPlace} {r : Reach} {b0 : Nat} (hv : Value.okWide Try.prog w r b0 3 v) (h : DataW.Trod enc Try.prog w base spare held 3 v d p) : ∃ z, v = .int .i64 z ∧ IntOk z := by
  obtain ⟨n, rfl⟩ := okWide_int Try.underlying3 hv
  obtain ⟨fuel, hf⟩ := h
  obtain ⟨z, hz, _, hw⟩ := DataW.trod_int Try.underlying3 hf
  simp [Value.cells] at hz
  subst hz
  exact ⟨_, rfl, wf_int hw⟩
set_option maxRecDepth 100000 in
theorem byte_open {v : Value} {d : DataW H} {p : List MemPlace} {r : Reach} {b0 : Nat} (hv : Value.okWide Try.prog w r b0 5 v) (h : DataW.Trod enc Try.prog w base spare held 5 v d p) : ∃ z : Nat, v = .int .u8 (z : Int) ∧ z ≤ 255 := by
  obtain ⟨n, rfl⟩ := okWide_int Try.underlying5 hv
  obtain ⟨fuel, hf⟩ := h
  obtain ⟨z, hz, _, hw⟩ := DataW.trod_int Try.underlying5 hf
  simp [Value.cells] at hz
  subst hz
  simp [Lit.wf, IntKind.min, IntKind.max, IntKind.bits, IntKind.signed] at hw
  exact ⟨n.toNat, by rw [show ((n.toNat : Nat) : Int) = n from by omega], by omega⟩
end
end Go.Proofs.Ytkfkiaieeiodnaa
