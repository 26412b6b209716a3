/-
  No cell of these rows narrows 'for every input' (looked for: loops, veiled, ifaces, maps, wideKeys, modest, calm, conditions, laid).
  DERIVED. THE GIVEN ROWS OF THIS SEAT. 3 by the template 'for every input the law returns true; each argument reads behind the call as it read before'; 0 by the template 'total and deterministic' (their statements: YtnfblhckpmofcaaGreatTotals.lean).
  GIVEN WITH THE SEED: the statements are not yours to turn. If you find one false, say at which input.
  Laid BY PROGRAM, IN A SANDBOX (cutbox-rows.mjs): the forced cells as the released guide's own fill.sh prints them over the translation 97dc2cedf94de434… (all of the seat's roots in one cut). By AI agents, Wed Nov 11 2026. No macro, syntax, notation, axiom, sorry.
-/
import Derived.Test.YtnfblhckpmofcaaGreatChecked
import GoSem.Claim
import GoSem.ClaimJoined
import GoSem.ClaimMapViews
import Derived.JoinedTies
import Derived.KernelRfl
namespace Go.Proofs.YtnfblhckpmofcaaGreat
/- THE CELL 'sum', in the pinned program and in every row, IS THE sha256 OF THE DUMP (.gsa) THAT YtnfblhckpmofcaaGreatProg.lean LOADS. Nothing in Lean hashes anything: it is a label: what it is worth is what the hold of that sum in a sandbox is worth. -/
noncomputable def Tryz.pinned : Pinned := { name := "ytnfblhckpmofcaagreat", sum := "97dc2cedf94de434e0977de38521e2431cf23d93ab8586691a3736ae61c04994", checked := Tryz.checked }
namespace Rows
def none {H : Type} : Left H := { results := [], args := [] }

/-- 'worksteallaw31.BoundFormula': WHATEVER THE INPUT: true; the input reads as it did. -/
def boundFormulaSpec : ChangeSpec := { name := "boundFormula", fn := fun _ => fun
  | [d1, d2] => { results := [.lit (.bool true)], args := [d1, d2] }
  | _ => none }
def boundFormulaRow : OpenClaim := { program := "ytnfblhckpmofcaagreat", sum := "97dc2cedf94de434e0977de38521e2431cf23d93ab8586691a3736ae61c04994", func := "worksteal/worksteallaw31.BoundFormula", spec := "boundFormula", unfollowed := true, recurses := true, apart := false }
def BoundFormulaSaid : Prop := boundFormulaRow.holds Tryz.pinned (OpenSpec.ofChange boundFormulaSpec)

/-- ITS FALSE NEIGHBOUR: 'it returns false'. Refute it at one input. -/
def boundFormulaWrong : ChangeSpec := { name := "boundFormula", fn := fun _ => fun
  | [d1, d2] => { results := [.lit (.bool false)], args := [d1, d2] }
  | _ => none }
def BoundFormulaWrongFalsely : Prop := boundFormulaRow.holds Tryz.pinned (OpenSpec.ofChange boundFormulaWrong)

/-- 'worksteallaw31.BoundGrows': WHATEVER THE INPUT: true; the input reads as it did. -/
def boundGrowsSpec : ChangeSpec := { name := "boundGrows", fn := fun _ => fun
  | [d1, d2, d3] => { results := [.lit (.bool true)], args := [d1, d2, d3] }
  | _ => none }
def boundGrowsRow : OpenClaim := { program := "ytnfblhckpmofcaagreat", sum := "97dc2cedf94de434e0977de38521e2431cf23d93ab8586691a3736ae61c04994", func := "worksteal/worksteallaw31.BoundGrows", spec := "boundGrows", unfollowed := true, recurses := true, apart := false }
def BoundGrowsSaid : Prop := boundGrowsRow.holds Tryz.pinned (OpenSpec.ofChange boundGrowsSpec)

/-- ITS FALSE NEIGHBOUR: 'it returns false'. Refute it at one input. -/
def boundGrowsWrong : ChangeSpec := { name := "boundGrows", fn := fun _ => fun
  | [d1, d2, d3] => { results := [.lit (.bool false)], args := [d1, d2, d3] }
  | _ => none }
def BoundGrowsWrongFalsely : Prop := boundGrowsRow.holds Tryz.pinned (OpenSpec.ofChange boundGrowsWrong)

/-- 'worksteallaw31.BoundOf': WHATEVER THE INPUT: true; the input reads as it did. -/
def boundOfSpec : ChangeSpec := { name := "boundOf", fn := fun _ => fun
  | [d1, d2] => { results := [.lit (.bool true)], args := [d1, d2] }
  | _ => none }
def boundOfRow : OpenClaim := { program := "ytnfblhckpmofcaagreat", sum := "97dc2cedf94de434e0977de38521e2431cf23d93ab8586691a3736ae61c04994", func := "worksteal/worksteallaw31.BoundOf", spec := "boundOf", unfollowed := true, recurses := true, apart := false }
def BoundOfSaid : Prop := boundOfRow.holds Tryz.pinned (OpenSpec.ofChange boundOfSpec)

/-- ITS FALSE NEIGHBOUR: 'it returns false'. Refute it at one input. -/
def boundOfWrong : ChangeSpec := { name := "boundOf", fn := fun _ => fun
  | [d1, d2] => { results := [.lit (.bool false)], args := [d1, d2] }
  | _ => none }
def BoundOfWrongFalsely : Prop := boundOfRow.holds Tryz.pinned (OpenSpec.ofChange boundOfWrong)

/- THE SECOND FORM. 'bulk': how many values and letters a reading holds, each counted each time it is reached (what is shared counts as often as it is met; a slice's spare places count too). A statement '..UptoSaid' is the law's where the arguments, and the package variables that the reading takes, are together of bulk at most 1048576: NARROWER than '..Said'. Prove '..Said' where nothing that the law and all that it calls make is longer than what came in: it says more and counts as full. Else prove '..UptoSaid'. A law counts once. -/
mutual
def uptoBulk {H : Type} : DataW H → Nat
  | .lit (.string bytes) => bytes.length + 1
  | .lit _ => 1
  | .nil => 1
  | .ptr d => uptoBulk d + 1
  | .slice elems spare => uptoBulkAll elems + uptoBulkAll spare + 1
  | .agg parts => uptoBulkAll parts + 1
  | .iface _ d => uptoBulk d + 1
  | .map entries => uptoBulkEntries entries + 1
  | .held _ => 1
def uptoBulkAll {H : Type} : List (DataW H) → Nat
  | [] => 0
  | d :: r => uptoBulk d + uptoBulkAll r
def uptoBulkEntries {H : Type} : List (Lit × DataW H) → Nat
  | [] => 0
  | x :: r => uptoBulkEntry x + uptoBulkEntries r
def uptoBulkEntry {H : Type} : Lit × DataW H → Nat
  | (.string bytes, d) => bytes.length + uptoBulk d + 1
  | (_, d) => uptoBulk d + 1
 end
def uptoSmall : (H : Type) → List (DataW H) → Bool := fun _ ds => decide (uptoBulkAll ds ≤ 1048576)
def OpenSpec.upto (s : _root_.Go.ChangeSpec) : _root_.Go.OpenSpec := { _root_.Go.OpenSpec.ofChange s with cond := some uptoSmall }

/-- 'worksteallaw31.BoundFormula', WHERE WHAT IT READS IS OF BULK AT MOST 1048576: true; the input reads as it did. -/
def boundFormulaUptoRow : OpenClaim := { program := "ytnfblhckpmofcaagreat", sum := "97dc2cedf94de434e0977de38521e2431cf23d93ab8586691a3736ae61c04994", func := "worksteal/worksteallaw31.BoundFormula", spec := "boundFormula", unfollowed := true, recurses := true, apart := false, narrowed := true }
def BoundFormulaUptoSaid : Prop := boundFormulaUptoRow.holds Tryz.pinned (OpenSpec.upto boundFormulaSpec)

/-- 'worksteallaw31.BoundGrows', WHERE WHAT IT READS IS OF BULK AT MOST 1048576: true; the input reads as it did. -/
def boundGrowsUptoRow : OpenClaim := { program := "ytnfblhckpmofcaagreat", sum := "97dc2cedf94de434e0977de38521e2431cf23d93ab8586691a3736ae61c04994", func := "worksteal/worksteallaw31.BoundGrows", spec := "boundGrows", unfollowed := true, recurses := true, apart := false, narrowed := true }
def BoundGrowsUptoSaid : Prop := boundGrowsUptoRow.holds Tryz.pinned (OpenSpec.upto boundGrowsSpec)

/-- 'worksteallaw31.BoundOf', WHERE WHAT IT READS IS OF BULK AT MOST 1048576: true; the input reads as it did. -/
def boundOfUptoRow : OpenClaim := { program := "ytnfblhckpmofcaagreat", sum := "97dc2cedf94de434e0977de38521e2431cf23d93ab8586691a3736ae61c04994", func := "worksteal/worksteallaw31.BoundOf", spec := "boundOf", unfollowed := true, recurses := true, apart := false, narrowed := true }
def BoundOfUptoSaid : Prop := boundOfUptoRow.holds Tryz.pinned (OpenSpec.upto boundOfSpec)

end Rows
end Go.Proofs.YtnfblhckpmofcaaGreat
