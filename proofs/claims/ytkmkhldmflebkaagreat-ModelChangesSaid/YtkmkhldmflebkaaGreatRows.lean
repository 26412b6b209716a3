/-
  No cell of these rows narrows 'for every input' (looked for: loops, veiled, ifaces, maps, wideKeys, modest, calm, conditions, laid).
  DERIVED. THE GIVEN ROWS OF THIS SEAT. 4 by the template 'for every input the law returns true; each argument reads behind the call as it read before'; 0 by the template 'total and deterministic' (their statements: YtkmkhldmflebkaaGreatTotals.lean).
  GIVEN WITH THE SEED: the statements are not yours to turn. If you find one false, say at which input.
  Laid BY PROGRAM, IN A SANDBOX (cutbox-rows.mjs): the forced cells as the released guide's own fill.sh prints them over the translation 1041482f7f1cb180… (all of the seat's roots in one cut). By AI agents, Wed Nov 11 2026. No macro, syntax, notation, axiom, sorry.
-/
import Derived.Test.YtkmkhldmflebkaaGreatChecked
import GoSem.Claim
import GoSem.ClaimJoined
import GoSem.ClaimMapViews
import Derived.JoinedTies
import Derived.KernelRfl
namespace Go.Proofs.YtkmkhldmflebkaaGreat
/- THE CELL 'sum', in the pinned program and in every row, IS THE sha256 OF THE DUMP (.gsa) THAT YtkmkhldmflebkaaGreatProg.lean LOADS. Nothing in Lean hashes anything: it is a label: what it is worth is what the hold of that sum in a sandbox is worth. -/
noncomputable def Tryz.pinned : Pinned := { name := "ytkmkhldmflebkaagreat", sum := "1041482f7f1cb18015a883175dc51ab99da3fc4c6127349e7760170effbfa5d7", checked := Tryz.checked }
namespace Rows
def none {H : Type} : Left H := { results := [], args := [] }

/-- 'worksteallaw29.ModelScripts': WHATEVER THE INPUT: true; the input reads as it did. -/
def modelScriptsSpec : ChangeSpec := { name := "modelScripts", fn := fun _ => fun
  | [d1, d2, d3] => { results := [.lit (.bool true)], args := [d1, d2, d3] }
  | _ => none }
def modelScriptsRow : OpenClaim := { program := "ytkmkhldmflebkaagreat", sum := "1041482f7f1cb18015a883175dc51ab99da3fc4c6127349e7760170effbfa5d7", func := "worksteal/worksteallaw29.ModelScripts", spec := "modelScripts", inPlace := ["slices.overlaps[worksteal/queue.Key]"], unfollowed := true, recurses := true, apart := false }
def ModelScriptsSaid : Prop := modelScriptsRow.holds Tryz.pinned (OpenSpec.ofChange modelScriptsSpec)

/-- ITS FALSE NEIGHBOUR: 'it returns false'. Refute it at one input. -/
def modelScriptsWrong : ChangeSpec := { name := "modelScripts", fn := fun _ => fun
  | [d1, d2, d3] => { results := [.lit (.bool false)], args := [d1, d2, d3] }
  | _ => none }
def ModelScriptsWrongFalsely : Prop := modelScriptsRow.holds Tryz.pinned (OpenSpec.ofChange modelScriptsWrong)

/-- 'worksteallaw29.ModelChanges': WHATEVER THE INPUT: true; the input reads as it did. -/
def modelChangesSpec : ChangeSpec := { name := "modelChanges", fn := fun _ => fun
  | [d1, d2, d3, d4] => { results := [.lit (.bool true)], args := [d1, d2, d3, d4] }
  | _ => none }
def modelChangesRow : OpenClaim := { program := "ytkmkhldmflebkaagreat", sum := "1041482f7f1cb18015a883175dc51ab99da3fc4c6127349e7760170effbfa5d7", func := "worksteal/worksteallaw29.ModelChanges", spec := "modelChanges", inPlace := ["slices.overlaps[worksteal/queue.Key]"], unfollowed := true, recurses := true, apart := false }
def ModelChangesSaid : Prop := modelChangesRow.holds Tryz.pinned (OpenSpec.ofChange modelChangesSpec)

/-- ITS FALSE NEIGHBOUR: 'it returns false'. Refute it at one input. -/
def modelChangesWrong : ChangeSpec := { name := "modelChanges", fn := fun _ => fun
  | [d1, d2, d3, d4] => { results := [.lit (.bool false)], args := [d1, d2, d3, d4] }
  | _ => none }
def ModelChangesWrongFalsely : Prop := modelChangesRow.holds Tryz.pinned (OpenSpec.ofChange modelChangesWrong)

/-- 'worksteallaw29.ModelOnce': WHATEVER THE INPUT: true; the input reads as it did. -/
def modelOnceSpec : ChangeSpec := { name := "modelOnce", fn := fun _ => fun
  | [d1, d2, d3, d4] => { results := [.lit (.bool true)], args := [d1, d2, d3, d4] }
  | _ => none }
def modelOnceRow : OpenClaim := { program := "ytkmkhldmflebkaagreat", sum := "1041482f7f1cb18015a883175dc51ab99da3fc4c6127349e7760170effbfa5d7", func := "worksteal/worksteallaw29.ModelOnce", spec := "modelOnce", inPlace := ["slices.overlaps[worksteal/queue.Key]"], unfollowed := true, recurses := true, apart := false }
def ModelOnceSaid : Prop := modelOnceRow.holds Tryz.pinned (OpenSpec.ofChange modelOnceSpec)

/-- ITS FALSE NEIGHBOUR: 'it returns false'. Refute it at one input. -/
def modelOnceWrong : ChangeSpec := { name := "modelOnce", fn := fun _ => fun
  | [d1, d2, d3, d4] => { results := [.lit (.bool false)], args := [d1, d2, d3, d4] }
  | _ => none }
def ModelOnceWrongFalsely : Prop := modelOnceRow.holds Tryz.pinned (OpenSpec.ofChange modelOnceWrong)

/-- 'worksteallaw29.ModelPrefix': WHATEVER THE INPUT: true; the input reads as it did. -/
def modelPrefixSpec : ChangeSpec := { name := "modelPrefix", fn := fun _ => fun
  | [d1, d2, d3, d4] => { results := [.lit (.bool true)], args := [d1, d2, d3, d4] }
  | _ => none }
def modelPrefixRow : OpenClaim := { program := "ytkmkhldmflebkaagreat", sum := "1041482f7f1cb18015a883175dc51ab99da3fc4c6127349e7760170effbfa5d7", func := "worksteal/worksteallaw29.ModelPrefix", spec := "modelPrefix", inPlace := ["slices.overlaps[worksteal/queue.Key]"], unfollowed := true, recurses := true, apart := false }
def ModelPrefixSaid : Prop := modelPrefixRow.holds Tryz.pinned (OpenSpec.ofChange modelPrefixSpec)

/-- ITS FALSE NEIGHBOUR: 'it returns false'. Refute it at one input. -/
def modelPrefixWrong : ChangeSpec := { name := "modelPrefix", fn := fun _ => fun
  | [d1, d2, d3, d4] => { results := [.lit (.bool false)], args := [d1, d2, d3, d4] }
  | _ => none }
def ModelPrefixWrongFalsely : Prop := modelPrefixRow.holds Tryz.pinned (OpenSpec.ofChange modelPrefixWrong)

/- THE SECOND FORM. 'bulk': how many values and letters a reading holds, each counted each time it is reached (what is shared counts as often as it is met; a slice's spare places count too). A statement '..UptoSaid' is the law's where the arguments, and the package variables that the reading takes, are together of bulk at most 1048576: NARROWER than '..Said'. Prove '..Said' where nothing that the law and all that it calls make is longer than what came in: it says more and counts as full. Else prove '..UptoSaid'. A law counts once. -/
mutual
def uptoBulk {H : Type} : DataW H → Nat
  | .lit (.string bytes) => bytes.length + 1
  | .lit _ => 1
  | .nil => 1
  | .ptr d => uptoBulk d + 1
  | .slice elems spare => uptoBulkAll elems + uptoBulkAll spare + 1
  | .agg parts => uptoBulkAll parts + 1
  | .iface _ d => uptoBulk d + 1
  | .map entries => uptoBulkEntries entries + 1
  | .held _ => 1
def uptoBulkAll {H : Type} : List (DataW H) → Nat
  | [] => 0
  | d :: r => uptoBulk d + uptoBulkAll r
def uptoBulkEntries {H : Type} : List (Lit × DataW H) → Nat
  | [] => 0
  | x :: r => uptoBulkEntry x + uptoBulkEntries r
def uptoBulkEntry {H : Type} : Lit × DataW H → Nat
  | (.string bytes, d) => bytes.length + uptoBulk d + 1
  | (_, d) => uptoBulk d + 1
 end
def uptoSmall : (H : Type) → List (DataW H) → Bool := fun _ ds => decide (uptoBulkAll ds ≤ 1048576)
def OpenSpec.upto (s : _root_.Go.ChangeSpec) : _root_.Go.OpenSpec := { _root_.Go.OpenSpec.ofChange s with cond := some uptoSmall }

/-- 'worksteallaw29.ModelScripts', WHERE WHAT IT READS IS OF BULK AT MOST 1048576: true; the input reads as it did. -/
def modelScriptsUptoRow : OpenClaim := { program := "ytkmkhldmflebkaagreat", sum := "1041482f7f1cb18015a883175dc51ab99da3fc4c6127349e7760170effbfa5d7", func := "worksteal/worksteallaw29.ModelScripts", spec := "modelScripts", inPlace := ["slices.overlaps[worksteal/queue.Key]"], unfollowed := true, recurses := true, apart := false, narrowed := true }
def ModelScriptsUptoSaid : Prop := modelScriptsUptoRow.holds Tryz.pinned (OpenSpec.upto modelScriptsSpec)

/-- 'worksteallaw29.ModelChanges', WHERE WHAT IT READS IS OF BULK AT MOST 1048576: true; the input reads as it did. -/
def modelChangesUptoRow : OpenClaim := { program := "ytkmkhldmflebkaagreat", sum := "1041482f7f1cb18015a883175dc51ab99da3fc4c6127349e7760170effbfa5d7", func := "worksteal/worksteallaw29.ModelChanges", spec := "modelChanges", inPlace := ["slices.overlaps[worksteal/queue.Key]"], unfollowed := true, recurses := true, apart := false, narrowed := true }
def ModelChangesUptoSaid : Prop := modelChangesUptoRow.holds Tryz.pinned (OpenSpec.upto modelChangesSpec)

/-- 'worksteallaw29.ModelOnce', WHERE WHAT IT READS IS OF BULK AT MOST 1048576: true; the input reads as it did. -/
def modelOnceUptoRow : OpenClaim := { program := "ytkmkhldmflebkaagreat", sum := "1041482f7f1cb18015a883175dc51ab99da3fc4c6127349e7760170effbfa5d7", func := "worksteal/worksteallaw29.ModelOnce", spec := "modelOnce", inPlace := ["slices.overlaps[worksteal/queue.Key]"], unfollowed := true, recurses := true, apart := false, narrowed := true }
def ModelOnceUptoSaid : Prop := modelOnceUptoRow.holds Tryz.pinned (OpenSpec.upto modelOnceSpec)

/-- 'worksteallaw29.ModelPrefix', WHERE WHAT IT READS IS OF BULK AT MOST 1048576: true; the input reads as it did. -/
def modelPrefixUptoRow : OpenClaim := { program := "ytkmkhldmflebkaagreat", sum := "1041482f7f1cb18015a883175dc51ab99da3fc4c6127349e7760170effbfa5d7", func := "worksteal/worksteallaw29.ModelPrefix", spec := "modelPrefix", inPlace := ["slices.overlaps[worksteal/queue.Key]"], unfollowed := true, recurses := true, apart := false, narrowed := true }
def ModelPrefixUptoSaid : Prop := modelPrefixUptoRow.holds Tryz.pinned (OpenSpec.upto modelPrefixSpec)

end Rows
end Go.Proofs.YtkmkhldmflebkaaGreat
