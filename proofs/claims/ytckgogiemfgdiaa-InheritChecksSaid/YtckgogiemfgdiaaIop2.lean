/- From the readings of the arguments to our words: the program's own types. -/
import Derived.Test.YtckgogiemfgdiaaIop1
namespace Go.Proofs.Ytckgogiemfgdiaa
open Go.ChangeShapes Go.WideShapes Go.RowKit Go.Deep

def IntOk (z : Int) : Prop := -9223372036854775808 ≤ z ∧ z ≤ 9223372036854775807
theorem cellsInt : Try.prog.cellsOf 3 = 1 := by kernel_rfl
theorem cellsByte : Try.prog.cellsOf 5 = 1 := by kernel_rfl
theorem cellsIns : Try.prog.cellsOf 67 = 3 := by kernel_rfl
theorem cellsSub : Try.prog.cellsOf 69 = 3 := by kernel_rfl
theorem cellsEv : Try.prog.cellsOf 40 = 5 := by kernel_rfl
theorem cellsRow : Try.prog.cellsOf 37 = 1 := by kernel_rfl
theorem wf_int {z : Int} (h : (Lit.int .i64 z).wf = true) : IntOk z := by
  simp [Lit.wf, IntKind.min, IntKind.max, IntKind.bits, IntKind.signed] at h
  unfold IntOk; omega
section
variable {H : Type} {enc : TypeId × Value → H} {w : World} {base : Nat} {spare : Nat → Bool} {held : Bool}
theorem int_field {n o : Nat} {cs : List Value} {d : DataW H × List MemPlace} (h : DataW.trod enc Try.prog w base spare held n 3 ((cs.drop o).take (Try.prog.cellsOf 3)) = some d) : ∃ z : Int, IntOk z ∧ cs[o]? = some (.int .i64 z) := by
  obtain ⟨z, hz, _, hw⟩ := DataW.trod_int Try.underlying3 h
  rw [cellsInt] at hz
  refine ⟨z, wf_int hw, ?_⟩
  have := congrArg (fun l : List Value => l[0]?) hz
  simpa using this
theorem int_elem (n : Nat) (cs : List Value) (d : DataW H × List MemPlace) (h : DataW.trod enc Try.prog w base spare held n 3 cs = some d) (_ : cs.length = 1) : ∃ y : Int, IntOk y ∧ cs = encInt y := by
  obtain ⟨z, hz, _, hw⟩ := DataW.trod_int Try.underlying3 h
  exact ⟨z, wf_int hw, hz⟩
theorem byte_elem (n : Nat) (cs : List Value) (d : DataW H × List MemPlace) (h : DataW.trod enc Try.prog w base spare held n 5 cs = some d) (_ : cs.length = 1) : ∃ y : Nat, y ≤ 255 ∧ cs = encByte y := by
  obtain ⟨z, hz, _, hw⟩ := DataW.trod_int Try.underlying5 h
  simp [Lit.wf, IntKind.min, IntKind.max, IntKind.bits, IntKind.signed] at hw
  exact ⟨z.toNat, by omega, by rw [hz, encByte, show ((z.toNat : Nat) : Int) = z from by omega]⟩
theorem three {cs : List Value} {a b c : Value} (hl : cs.length = 3) (h0 : cs[0]? = some a) (h1 : cs[1]? = some b) (h2 : cs[2]? = some c) : cs = [a, b, c] := by
  match cs, hl with
  | [x, y, z], _ => simp at h0 h1 h2; subst h0 h1 h2; rfl
theorem five {cs : List Value} {a b c d e : Value} (hl : cs.length = 5) (h0 : cs[0]? = some a) (h1 : cs[1]? = some b) (h2 : cs[2]? = some c) (h3 : cs[3]? = some d) (h4 : cs[4]? = some e) : cs = [a, b, c, d, e] := by
  match cs, hl with
  | [x, y, z, u, v], _ => simp at h0 h1 h2 h3 h4; subst h0 h1 h2 h3 h4; rfl
theorem ins_elem (n : Nat) (cs : List Value) (d : DataW H × List MemPlace) (h : DataW.trod enc Try.prog w base spare held n 67 cs = some d) (hl : cs.length = 3) : ∃ y : Ins, (IntOk y.op ∧ IntOk y.a ∧ IntOk y.b) ∧ cs = y.enc := by
  obtain ⟨xs, m, _, _, _, hx, hf⟩ := DataW.trod_struct Try.underlying67 h
  match xs, hx with
  | [x0, x1, x2], _ =>
    obtain ⟨a, ha, ea⟩ := int_field (hf 0 _ rfl)
    obtain ⟨b, hb, eb⟩ := int_field (hf 1 _ rfl)
    obtain ⟨c, hc, ec⟩ := int_field (hf 2 _ rfl)
    exact ⟨⟨a, b, c⟩, ⟨ha, hb, hc⟩, three hl ea eb ec⟩
theorem sub_elem (n : Nat) (cs : List Value) (d : DataW H × List MemPlace) (h : DataW.trod enc Try.prog w base spare held n 69 cs = some d) (hl : cs.length = 3) : ∃ y : Sub, (IntOk y.prog ∧ IntOk y.level ∧ IntOk y.deadline) ∧ cs = y.enc := by
  obtain ⟨xs, m, _, _, _, hx, hf⟩ := DataW.trod_struct Try.underlying69 h
  match xs, hx with
  | [x0, x1, x2], _ =>
    obtain ⟨a, ha, ea⟩ := int_field (hf 0 _ rfl)
    obtain ⟨b, hb, eb⟩ := int_field (hf 1 _ rfl)
    obtain ⟨c, hc, ec⟩ := int_field (hf 2 _ rfl)
    exact ⟨⟨a, b, c⟩, ⟨ha, hb, hc⟩, three hl ea eb ec⟩
theorem ev_elem (n : Nat) (cs : List Value) (d : DataW H × List MemPlace) (h : DataW.trod enc Try.prog w base spare held n 40 cs = some d) (hl : cs.length = 5) : ∃ y : Ev, EvOk y ∧ cs = y.enc := by
  obtain ⟨ys, m', _, _, _, hy, hg⟩ := DataW.trod_struct Try.underlying40 h
  match ys, hy with
  | [y0, y1, y2, y3, y4], _ =>
    obtain ⟨b0, hb0, e0⟩ := int_field (hg 0 _ rfl)
    obtain ⟨b1, hb1, e1⟩ := int_field (hg 1 _ rfl)
    obtain ⟨b2, hb2, e2⟩ := int_field (hg 2 _ rfl)
    obtain ⟨b3, hb3, e3⟩ := int_field (hg 3 _ rfl)
    obtain ⟨b4, hb4, e4⟩ := int_field (hg 4 _ rfl)
    exact ⟨⟨b0, b1, b2, b3, b4⟩, ⟨hb0, hb1, hb2, hb3, hb4⟩, five hl e0 e1 e2 e3 e4⟩
end
end Go.Proofs.Ytckgogiemfgdiaa
