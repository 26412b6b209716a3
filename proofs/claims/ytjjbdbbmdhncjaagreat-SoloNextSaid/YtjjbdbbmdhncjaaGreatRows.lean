/-
  No cell of these rows narrows 'for every input' (looked for: loops, veiled, ifaces, maps, wideKeys, modest, calm, conditions, laid).
  DERIVED. THE GIVEN ROWS OF THIS SEAT. 2 by the template 'for every input the law returns true; each argument reads behind the call as it read before'; 0 by the template 'total and deterministic' (their statements: YtjjbdbbmdhncjaaGreatTotals.lean).
  GIVEN WITH THE SEED: the statements are not yours to turn. If you find one false, say at which input.
  Laid BY PROGRAM, IN A SANDBOX (cutbox-rows.mjs): the forced cells as the released guide's own fill.sh prints them over the translation ac1c2b91331c562e… (all of the seat's roots in one cut). By AI agents, Wed Nov 11 2026. No macro, syntax, notation, axiom, sorry.
-/
import Derived.Test.YtjjbdbbmdhncjaaGreatChecked
import GoSem.Claim
import GoSem.ClaimJoined
import GoSem.ClaimMapViews
import Derived.JoinedTies
import Derived.KernelRfl
namespace Go.Proofs.YtjjbdbbmdhncjaaGreat
/- THE CELL 'sum', in the pinned program and in every row, IS THE sha256 OF THE DUMP (.gsa) THAT YtjjbdbbmdhncjaaGreatProg.lean LOADS. Nothing in Lean hashes anything: it is a label: what it is worth is what the hold of that sum in a sandbox is worth. -/
noncomputable def Tryz.pinned : Pinned := { name := "ytjjbdbbmdhncjaagreat", sum := "ac1c2b91331c562ed5c222034124c604edec0691d23629a8e937d74f1aaff9f4", checked := Tryz.checked }
namespace Rows
def none {H : Type} : Left H := { results := [], args := [] }

/-- 'worksteallaw32.SoloNext': WHATEVER THE INPUT: true; the input reads as it did. -/
def soloNextSpec : ChangeSpec := { name := "soloNext", fn := fun _ => fun
  | [d1, d2, d3, d4, d5, d6, d7, d8] => { results := [.lit (.bool true)], args := [d1, d2, d3, d4, d5, d6, d7, d8] }
  | _ => none }
def soloNextRow : OpenClaim := { program := "ytjjbdbbmdhncjaagreat", sum := "ac1c2b91331c562ed5c222034124c604edec0691d23629a8e937d74f1aaff9f4", func := "worksteal/worksteallaw32.SoloNext", spec := "soloNext", unfollowed := true, recurses := true, apart := false }
def SoloNextSaid : Prop := soloNextRow.holds Tryz.pinned (OpenSpec.ofChange soloNextSpec)

/-- ITS FALSE NEIGHBOUR: 'it returns false'. Refute it at one input. -/
def soloNextWrong : ChangeSpec := { name := "soloNext", fn := fun _ => fun
  | [d1, d2, d3, d4, d5, d6, d7, d8] => { results := [.lit (.bool false)], args := [d1, d2, d3, d4, d5, d6, d7, d8] }
  | _ => none }
def SoloNextWrongFalsely : Prop := soloNextRow.holds Tryz.pinned (OpenSpec.ofChange soloNextWrong)

/-- 'worksteallaw26.WorkerCopies': WHATEVER THE INPUT: true; the input reads as it did. -/
def workerCopiesSpec : ChangeSpec := { name := "workerCopies", fn := fun _ => fun
  | [d1, d2, d3, d4, d5] => { results := [.lit (.bool true)], args := [d1, d2, d3, d4, d5] }
  | _ => none }
def workerCopiesRow : OpenClaim := { program := "ytjjbdbbmdhncjaagreat", sum := "ac1c2b91331c562ed5c222034124c604edec0691d23629a8e937d74f1aaff9f4", func := "worksteal/worksteallaw26.WorkerCopies", spec := "workerCopies", unfollowed := true, recurses := true, apart := false }
def WorkerCopiesSaid : Prop := workerCopiesRow.holds Tryz.pinned (OpenSpec.ofChange workerCopiesSpec)

/-- ITS FALSE NEIGHBOUR: 'it returns false'. Refute it at one input. -/
def workerCopiesWrong : ChangeSpec := { name := "workerCopies", fn := fun _ => fun
  | [d1, d2, d3, d4, d5] => { results := [.lit (.bool false)], args := [d1, d2, d3, d4, d5] }
  | _ => none }
def WorkerCopiesWrongFalsely : Prop := workerCopiesRow.holds Tryz.pinned (OpenSpec.ofChange workerCopiesWrong)

/- THE SECOND FORM. 'bulk': how many values and letters a reading holds, each counted each time it is reached (what is shared counts as often as it is met; a slice's spare places count too). A statement '..UptoSaid' is the law's where the arguments, and the package variables that the reading takes, are together of bulk at most 1048576: NARROWER than '..Said'. Prove '..Said' where nothing that the law and all that it calls make is longer than what came in: it says more and counts as full. Else prove '..UptoSaid'. A law counts once. -/
mutual
def uptoBulk {H : Type} : DataW H → Nat
  | .lit (.string bytes) => bytes.length + 1
  | .lit _ => 1
  | .nil => 1
  | .ptr d => uptoBulk d + 1
  | .slice elems spare => uptoBulkAll elems + uptoBulkAll spare + 1
  | .agg parts => uptoBulkAll parts + 1
  | .iface _ d => uptoBulk d + 1
  | .map entries => uptoBulkEntries entries + 1
  | .held _ => 1
def uptoBulkAll {H : Type} : List (DataW H) → Nat
  | [] => 0
  | d :: r => uptoBulk d + uptoBulkAll r
def uptoBulkEntries {H : Type} : List (Lit × DataW H) → Nat
  | [] => 0
  | x :: r => uptoBulkEntry x + uptoBulkEntries r
def uptoBulkEntry {H : Type} : Lit × DataW H → Nat
  | (.string bytes, d) => bytes.length + uptoBulk d + 1
  | (_, d) => uptoBulk d + 1
 end
def uptoSmall : (H : Type) → List (DataW H) → Bool := fun _ ds => decide (uptoBulkAll ds ≤ 1048576)
def OpenSpec.upto (s : _root_.Go.ChangeSpec) : _root_.Go.OpenSpec := { _root_.Go.OpenSpec.ofChange s with cond := some uptoSmall }

/-- 'worksteallaw32.SoloNext', WHERE WHAT IT READS IS OF BULK AT MOST 1048576: true; the input reads as it did. -/
def soloNextUptoRow : OpenClaim := { program := "ytjjbdbbmdhncjaagreat", sum := "ac1c2b91331c562ed5c222034124c604edec0691d23629a8e937d74f1aaff9f4", func := "worksteal/worksteallaw32.SoloNext", spec := "soloNext", unfollowed := true, recurses := true, apart := false, narrowed := true }
def SoloNextUptoSaid : Prop := soloNextUptoRow.holds Tryz.pinned (OpenSpec.upto soloNextSpec)

/-- 'worksteallaw26.WorkerCopies', WHERE WHAT IT READS IS OF BULK AT MOST 1048576: true; the input reads as it did. -/
def workerCopiesUptoRow : OpenClaim := { program := "ytjjbdbbmdhncjaagreat", sum := "ac1c2b91331c562ed5c222034124c604edec0691d23629a8e937d74f1aaff9f4", func := "worksteal/worksteallaw26.WorkerCopies", spec := "workerCopies", unfollowed := true, recurses := true, apart := false, narrowed := true }
def WorkerCopiesUptoSaid : Prop := workerCopiesUptoRow.holds Tryz.pinned (OpenSpec.upto workerCopiesSpec)

end Rows
end Go.Proofs.YtjjbdbbmdhncjaaGreat
