/-
  No cell of these rows narrows 'for every input' (looked for: loops, veiled, ifaces, maps, wideKeys, modest, calm, conditions, laid).
  DERIVED. THE GIVEN ROWS OF THIS SEAT. 3 by the template 'for every input the law returns true; each argument reads behind the call as it read before'; 0 by the template 'total and deterministic' (their statements: YteapeojalliebaaGreatTotals.lean).
  GIVEN WITH THE SEED: the statements are not yours to turn. If you find one false, say at which input.
  Laid BY PROGRAM, IN A SANDBOX (cutbox-rows.mjs): the forced cells as the released guide's own fill.sh prints them over the translation d15c1ac42102fea4… (all of the seat's roots in one cut). By AI agents, Wed Nov 11 2026. No macro, syntax, notation, axiom, sorry.
-/
import Derived.Test.YteapeojalliebaaGreatChecked
import GoSem.Claim
import GoSem.ClaimJoined
import GoSem.ClaimMapViews
import Derived.JoinedTies
import Derived.KernelRfl
namespace Go.Proofs.YteapeojalliebaaGreat
/- THE CELL 'sum', in the pinned program and in every row, IS THE sha256 OF THE DUMP (.gsa) THAT YteapeojalliebaaGreatProg.lean LOADS. Nothing in Lean hashes anything: it is a label: what it is worth is what the hold of that sum in a sandbox is worth. -/
noncomputable def Tryz.pinned : Pinned := { name := "yteapeojalliebaagreat", sum := "d15c1ac42102fea457c7147fd34f2d1f141798f0b3616e047aeed3dfd05a42d3", checked := Tryz.checked }
namespace Rows
def none {H : Type} : Left H := { results := [], args := [] }

/-- 'worksteallaw30.InheritEngine': WHATEVER THE INPUT: true; the input reads as it did. -/
def inheritEngineSpec : ChangeSpec := { name := "inheritEngine", fn := fun _ => fun
  | [d1, d2, d3, d4] => { results := [.lit (.bool true)], args := [d1, d2, d3, d4] }
  | _ => none }
def inheritEngineRow : OpenClaim := { program := "yteapeojalliebaagreat", sum := "d15c1ac42102fea457c7147fd34f2d1f141798f0b3616e047aeed3dfd05a42d3", func := "worksteal/worksteallaw30.InheritEngine", spec := "inheritEngine", unfollowed := true, recurses := true, apart := false }
def InheritEngineSaid : Prop := inheritEngineRow.holds Tryz.pinned (OpenSpec.ofChange inheritEngineSpec)

/-- ITS FALSE NEIGHBOUR: 'it returns false'. Refute it at one input. -/
def inheritEngineWrong : ChangeSpec := { name := "inheritEngine", fn := fun _ => fun
  | [d1, d2, d3, d4] => { results := [.lit (.bool false)], args := [d1, d2, d3, d4] }
  | _ => none }
def InheritEngineWrongFalsely : Prop := inheritEngineRow.holds Tryz.pinned (OpenSpec.ofChange inheritEngineWrong)

/-- 'worksteallaw30.InheritDeclared': WHATEVER THE INPUT: true; the input reads as it did. -/
def inheritDeclaredSpec : ChangeSpec := { name := "inheritDeclared", fn := fun _ => fun
  | [d1, d2, d3] => { results := [.lit (.bool true)], args := [d1, d2, d3] }
  | _ => none }
def inheritDeclaredRow : OpenClaim := { program := "yteapeojalliebaagreat", sum := "d15c1ac42102fea457c7147fd34f2d1f141798f0b3616e047aeed3dfd05a42d3", func := "worksteal/worksteallaw30.InheritDeclared", spec := "inheritDeclared", unfollowed := true, recurses := true, apart := false }
def InheritDeclaredSaid : Prop := inheritDeclaredRow.holds Tryz.pinned (OpenSpec.ofChange inheritDeclaredSpec)

/-- ITS FALSE NEIGHBOUR: 'it returns false'. Refute it at one input. -/
def inheritDeclaredWrong : ChangeSpec := { name := "inheritDeclared", fn := fun _ => fun
  | [d1, d2, d3] => { results := [.lit (.bool false)], args := [d1, d2, d3] }
  | _ => none }
def InheritDeclaredWrongFalsely : Prop := inheritDeclaredRow.holds Tryz.pinned (OpenSpec.ofChange inheritDeclaredWrong)

/-- 'worksteallaw35.MeasureEngine': WHATEVER THE INPUT: true; the input reads as it did. -/
def measureEngineSpec : ChangeSpec := { name := "measureEngine", fn := fun _ => fun
  | [d1, d2, d3] => { results := [.lit (.bool true)], args := [d1, d2, d3] }
  | _ => none }
def measureEngineRow : OpenClaim := { program := "yteapeojalliebaagreat", sum := "d15c1ac42102fea457c7147fd34f2d1f141798f0b3616e047aeed3dfd05a42d3", func := "worksteal/worksteallaw35.MeasureEngine", spec := "measureEngine", unfollowed := true, recurses := true, apart := false }
def MeasureEngineSaid : Prop := measureEngineRow.holds Tryz.pinned (OpenSpec.ofChange measureEngineSpec)

/-- ITS FALSE NEIGHBOUR: 'it returns false'. Refute it at one input. -/
def measureEngineWrong : ChangeSpec := { name := "measureEngine", fn := fun _ => fun
  | [d1, d2, d3] => { results := [.lit (.bool false)], args := [d1, d2, d3] }
  | _ => none }
def MeasureEngineWrongFalsely : Prop := measureEngineRow.holds Tryz.pinned (OpenSpec.ofChange measureEngineWrong)

/- THE SECOND FORM. 'bulk': how many values and letters a reading holds, each counted each time it is reached (what is shared counts as often as it is met; a slice's spare places count too). A statement '..UptoSaid' is the law's where the arguments, and the package variables that the reading takes, are together of bulk at most 1048576: NARROWER than '..Said'. Prove '..Said' where nothing that the law and all that it calls make is longer than what came in: it says more and counts as full. Else prove '..UptoSaid'. A law counts once. -/
mutual
def uptoBulk {H : Type} : DataW H → Nat
  | .lit (.string bytes) => bytes.length + 1
  | .lit _ => 1
  | .nil => 1
  | .ptr d => uptoBulk d + 1
  | .slice elems spare => uptoBulkAll elems + uptoBulkAll spare + 1
  | .agg parts => uptoBulkAll parts + 1
  | .iface _ d => uptoBulk d + 1
  | .map entries => uptoBulkEntries entries + 1
  | .held _ => 1
def uptoBulkAll {H : Type} : List (DataW H) → Nat
  | [] => 0
  | d :: r => uptoBulk d + uptoBulkAll r
def uptoBulkEntries {H : Type} : List (Lit × DataW H) → Nat
  | [] => 0
  | x :: r => uptoBulkEntry x + uptoBulkEntries r
def uptoBulkEntry {H : Type} : Lit × DataW H → Nat
  | (.string bytes, d) => bytes.length + uptoBulk d + 1
  | (_, d) => uptoBulk d + 1
 end
def uptoSmall : (H : Type) → List (DataW H) → Bool := fun _ ds => decide (uptoBulkAll ds ≤ 1048576)
def OpenSpec.upto (s : _root_.Go.ChangeSpec) : _root_.Go.OpenSpec := { _root_.Go.OpenSpec.ofChange s with cond := some uptoSmall }

/-- 'worksteallaw30.InheritEngine', WHERE WHAT IT READS IS OF BULK AT MOST 1048576: true; the input reads as it did. -/
def inheritEngineUptoRow : OpenClaim := { program := "yteapeojalliebaagreat", sum := "d15c1ac42102fea457c7147fd34f2d1f141798f0b3616e047aeed3dfd05a42d3", func := "worksteal/worksteallaw30.InheritEngine", spec := "inheritEngine", unfollowed := true, recurses := true, apart := false, narrowed := true }
def InheritEngineUptoSaid : Prop := inheritEngineUptoRow.holds Tryz.pinned (OpenSpec.upto inheritEngineSpec)

/-- 'worksteallaw30.InheritDeclared', WHERE WHAT IT READS IS OF BULK AT MOST 1048576: true; the input reads as it did. -/
def inheritDeclaredUptoRow : OpenClaim := { program := "yteapeojalliebaagreat", sum := "d15c1ac42102fea457c7147fd34f2d1f141798f0b3616e047aeed3dfd05a42d3", func := "worksteal/worksteallaw30.InheritDeclared", spec := "inheritDeclared", unfollowed := true, recurses := true, apart := false, narrowed := true }
def InheritDeclaredUptoSaid : Prop := inheritDeclaredUptoRow.holds Tryz.pinned (OpenSpec.upto inheritDeclaredSpec)

/-- 'worksteallaw35.MeasureEngine', WHERE WHAT IT READS IS OF BULK AT MOST 1048576: true; the input reads as it did. -/
def measureEngineUptoRow : OpenClaim := { program := "yteapeojalliebaagreat", sum := "d15c1ac42102fea457c7147fd34f2d1f141798f0b3616e047aeed3dfd05a42d3", func := "worksteal/worksteallaw35.MeasureEngine", spec := "measureEngine", unfollowed := true, recurses := true, apart := false, narrowed := true }
def MeasureEngineUptoSaid : Prop := measureEngineUptoRow.holds Tryz.pinned (OpenSpec.upto measureEngineSpec)

end Rows
end Go.Proofs.YteapeojalliebaaGreat
