/-
  No cell of these rows narrows 'for every input' (looked for: loops, veiled, ifaces, maps, wideKeys, modest, calm, conditions, laid).
  DERIVED. THE GIVEN ROWS OF THIS SEAT. 3 by the template 'for every input the law returns true; each argument reads behind the call as it read before'; 0 by the template 'total and deterministic' (their statements: YtkfkiaieeiodnaaTotals.lean).
  GIVEN WITH THE SEED: the statements are not yours to turn. If you find one false, say at which input.
  Laid BY PROGRAM, IN A SANDBOX (cutbox-rows.mjs): the forced cells as the released guide's own fill.sh prints them over the translation 3a07f13ee31305c1… (all of the seat's roots in one cut). By AI agents, Wed Nov 11 2026. No macro, syntax, notation, axiom, sorry.
-/
import Derived.Test.YtkfkiaieeiodnaaChecked
import GoSem.Claim
import GoSem.ClaimJoined
import GoSem.ClaimMapViews
import Derived.JoinedTies
import Derived.KernelRfl
namespace Go.Proofs.Ytkfkiaieeiodnaa
/- THE CELL 'sum', in the pinned program and in every row, IS THE sha256 OF THE DUMP (.gsa) THAT YtkfkiaieeiodnaaProg.lean LOADS. Nothing in Lean hashes anything: it is a label: what it is worth is what the hold of that sum in a sandbox is worth. -/
noncomputable def Try.pinned : Pinned := { name := "ytkfkiaieeiodnaa", sum := "3a07f13ee31305c1ea16e309140729ad27be4508ebcdbc3668bfdba6d6ccb0f3", checked := Try.checked }
namespace Rows
def none {H : Type} : Left H := { results := [], args := [] }

/-- 'worksteallaw32.SoloAny': WHATEVER THE INPUT: true; the input reads as it did. -/
def soloAnySpec : ChangeSpec := { name := "soloAny", fn := fun _ => fun
  | [d1, d2, d3, d4, d5] => { results := [.lit (.bool true)], args := [d1, d2, d3, d4, d5] }
  | _ => none }
def soloAnyRow : OpenClaim := { program := "ytkfkiaieeiodnaa", sum := "3a07f13ee31305c1ea16e309140729ad27be4508ebcdbc3668bfdba6d6ccb0f3", func := "worksteal/worksteallaw32.SoloAny", spec := "soloAny", unfollowed := true, recurses := true, apart := false }
def SoloAnySaid : Prop := soloAnyRow.holds Try.pinned (OpenSpec.ofChange soloAnySpec)

/-- ITS FALSE NEIGHBOUR: 'it returns false'. Refute it at one input. -/
def soloAnyWrong : ChangeSpec := { name := "soloAny", fn := fun _ => fun
  | [d1, d2, d3, d4, d5] => { results := [.lit (.bool false)], args := [d1, d2, d3, d4, d5] }
  | _ => none }
def SoloAnyWrongFalsely : Prop := soloAnyRow.holds Try.pinned (OpenSpec.ofChange soloAnyWrong)

/-- 'worksteallaw32.SoloDesks': WHATEVER THE INPUT: true; the input reads as it did. -/
def soloDesksSpec : ChangeSpec := { name := "soloDesks", fn := fun _ => fun
  | [d1, d2, d3, d4, d5, d6, d7] => { results := [.lit (.bool true)], args := [d1, d2, d3, d4, d5, d6, d7] }
  | _ => none }
def soloDesksRow : OpenClaim := { program := "ytkfkiaieeiodnaa", sum := "3a07f13ee31305c1ea16e309140729ad27be4508ebcdbc3668bfdba6d6ccb0f3", func := "worksteal/worksteallaw32.SoloDesks", spec := "soloDesks", unfollowed := true, recurses := true, apart := false }
def SoloDesksSaid : Prop := soloDesksRow.holds Try.pinned (OpenSpec.ofChange soloDesksSpec)

/-- ITS FALSE NEIGHBOUR: 'it returns false'. Refute it at one input. -/
def soloDesksWrong : ChangeSpec := { name := "soloDesks", fn := fun _ => fun
  | [d1, d2, d3, d4, d5, d6, d7] => { results := [.lit (.bool false)], args := [d1, d2, d3, d4, d5, d6, d7] }
  | _ => none }
def SoloDesksWrongFalsely : Prop := soloDesksRow.holds Try.pinned (OpenSpec.ofChange soloDesksWrong)

/-- 'worksteallaw32.SoloOrder': WHATEVER THE INPUT: true; the input reads as it did. -/
def soloOrderSpec : ChangeSpec := { name := "soloOrder", fn := fun _ => fun
  | [d1, d2] => { results := [.lit (.bool true)], args := [d1, d2] }
  | _ => none }
def soloOrderRow : OpenClaim := { program := "ytkfkiaieeiodnaa", sum := "3a07f13ee31305c1ea16e309140729ad27be4508ebcdbc3668bfdba6d6ccb0f3", func := "worksteal/worksteallaw32.SoloOrder", spec := "soloOrder", unfollowed := true, recurses := true, apart := false }
def SoloOrderSaid : Prop := soloOrderRow.holds Try.pinned (OpenSpec.ofChange soloOrderSpec)

/-- ITS FALSE NEIGHBOUR: 'it returns false'. Refute it at one input. -/
def soloOrderWrong : ChangeSpec := { name := "soloOrder", fn := fun _ => fun
  | [d1, d2] => { results := [.lit (.bool false)], args := [d1, d2] }
  | _ => none }
def SoloOrderWrongFalsely : Prop := soloOrderRow.holds Try.pinned (OpenSpec.ofChange soloOrderWrong)

/- THE SECOND FORM. 'bulk': how many values and letters a reading holds, each counted each time it is reached (what is shared counts as often as it is met; a slice's spare places count too). A statement '..UptoSaid' is the law's where the arguments, and the package variables that the reading takes, are together of bulk at most 1048576: NARROWER than '..Said'. Prove '..Said' where nothing that the law and all that it calls make is longer than what came in: it says more and counts as full. Else prove '..UptoSaid'. A law counts once. -/
mutual
def uptoBulk {H : Type} : DataW H → Nat
  | .lit (.string bytes) => bytes.length + 1
  | .lit _ => 1
  | .nil => 1
  | .ptr d => uptoBulk d + 1
  | .slice elems spare => uptoBulkAll elems + uptoBulkAll spare + 1
  | .agg parts => uptoBulkAll parts + 1
  | .iface _ d => uptoBulk d + 1
  | .map entries => uptoBulkEntries entries + 1
  | .held _ => 1
def uptoBulkAll {H : Type} : List (DataW H) → Nat
  | [] => 0
  | d :: r => uptoBulk d + uptoBulkAll r
def uptoBulkEntries {H : Type} : List (Lit × DataW H) → Nat
  | [] => 0
  | x :: r => uptoBulkEntry x + uptoBulkEntries r
def uptoBulkEntry {H : Type} : Lit × DataW H → Nat
  | (.string bytes, d) => bytes.length + uptoBulk d + 1
  | (_, d) => uptoBulk d + 1
 end
def uptoSmall : (H : Type) → List (DataW H) → Bool := fun _ ds => decide (uptoBulkAll ds ≤ 1048576)
def OpenSpec.upto (s : _root_.Go.ChangeSpec) : _root_.Go.OpenSpec := { _root_.Go.OpenSpec.ofChange s with cond := some uptoSmall }

/-- 'worksteallaw32.SoloAny', WHERE WHAT IT READS IS OF BULK AT MOST 1048576: true; the input reads as it did. -/
def soloAnyUptoRow : OpenClaim := { program := "ytkfkiaieeiodnaa", sum := "3a07f13ee31305c1ea16e309140729ad27be4508ebcdbc3668bfdba6d6ccb0f3", func := "worksteal/worksteallaw32.SoloAny", spec := "soloAny", unfollowed := true, recurses := true, apart := false, narrowed := true }
def SoloAnyUptoSaid : Prop := soloAnyUptoRow.holds Try.pinned (OpenSpec.upto soloAnySpec)

/-- 'worksteallaw32.SoloDesks', WHERE WHAT IT READS IS OF BULK AT MOST 1048576: true; the input reads as it did. -/
def soloDesksUptoRow : OpenClaim := { program := "ytkfkiaieeiodnaa", sum := "3a07f13ee31305c1ea16e309140729ad27be4508ebcdbc3668bfdba6d6ccb0f3", func := "worksteal/worksteallaw32.SoloDesks", spec := "soloDesks", unfollowed := true, recurses := true, apart := false, narrowed := true }
def SoloDesksUptoSaid : Prop := soloDesksUptoRow.holds Try.pinned (OpenSpec.upto soloDesksSpec)

/-- 'worksteallaw32.SoloOrder', WHERE WHAT IT READS IS OF BULK AT MOST 1048576: true; the input reads as it did. -/
def soloOrderUptoRow : OpenClaim := { program := "ytkfkiaieeiodnaa", sum := "3a07f13ee31305c1ea16e309140729ad27be4508ebcdbc3668bfdba6d6ccb0f3", func := "worksteal/worksteallaw32.SoloOrder", spec := "soloOrder", unfollowed := true, recurses := true, apart := false, narrowed := true }
def SoloOrderUptoSaid : Prop := soloOrderUptoRow.holds Try.pinned (OpenSpec.upto soloOrderSpec)

end Rows
end Go.Proofs.Ytkfkiaieeiodnaa
