/-
  No cell of these rows narrows 'for every input' (looked for: loops, veiled, ifaces, maps, wideKeys, modest, calm, conditions, laid).
  DERIVED. THE GIVEN ROWS OF THIS SEAT. 3 by the template 'for every input the law returns true; each argument reads behind the call as it read before'; 0 by the template 'total and deterministic' (their statements: YtlcelajkhklkbaaGreatTotals.lean).
  GIVEN WITH THE SEED: the statements are not yours to turn. If you find one false, say at which input.
  Laid BY PROGRAM, IN A SANDBOX (cutbox-rows.mjs): the forced cells as the released guide's own fill.sh prints them over the translation a8338390a4dff27d… (all of the seat's roots in one cut). By AI agents, Wed Nov 11 2026. No macro, syntax, notation, axiom, sorry.
-/
import Derived.Test.YtlcelajkhklkbaaGreatChecked
import GoSem.Claim
import GoSem.ClaimJoined
import GoSem.ClaimMapViews
import Derived.JoinedTies
import Derived.KernelRfl
namespace Go.Proofs.YtlcelajkhklkbaaGreat
/- THE CELL 'sum', in the pinned program and in every row, IS THE sha256 OF THE DUMP (.gsa) THAT YtlcelajkhklkbaaGreatProg.lean LOADS. Nothing in Lean hashes anything: it is a label: what it is worth is what the hold of that sum in a sandbox is worth. -/
noncomputable def Tryz.pinned : Pinned := { name := "ytlcelajkhklkbaagreat", sum := "a8338390a4dff27d82e2c963a37573aff3c55efb13366c2c400847334cf4089c", checked := Tryz.checked }
namespace Rows
def none {H : Type} : Left H := { results := [], args := [] }

/-- 'worksteallaw25.RunnerRaces': WHATEVER THE INPUT: true; the input reads as it did. -/
def runnerRacesSpec : ChangeSpec := { name := "runnerRaces", fn := fun _ => fun
  | [d1, d2] => { results := [.lit (.bool true)], args := [d1, d2] }
  | _ => none }
def runnerRacesRow : OpenClaim := { program := "ytlcelajkhklkbaagreat", sum := "a8338390a4dff27d82e2c963a37573aff3c55efb13366c2c400847334cf4089c", func := "worksteal/worksteallaw25.RunnerRaces", spec := "runnerRaces", unfollowed := true, recurses := true, apart := false }
def RunnerRacesSaid : Prop := runnerRacesRow.holds Tryz.pinned (OpenSpec.ofChange runnerRacesSpec)

/-- ITS FALSE NEIGHBOUR: 'it returns false'. Refute it at one input. -/
def runnerRacesWrong : ChangeSpec := { name := "runnerRaces", fn := fun _ => fun
  | [d1, d2] => { results := [.lit (.bool false)], args := [d1, d2] }
  | _ => none }
def RunnerRacesWrongFalsely : Prop := runnerRacesRow.holds Tryz.pinned (OpenSpec.ofChange runnerRacesWrong)

/-- 'worksteallaw25.RunnerAlone': WHATEVER THE INPUT: true; the input reads as it did. -/
def runnerAloneSpec : ChangeSpec := { name := "runnerAlone", fn := fun _ => fun
  | [d1, d2, d3] => { results := [.lit (.bool true)], args := [d1, d2, d3] }
  | _ => none }
def runnerAloneRow : OpenClaim := { program := "ytlcelajkhklkbaagreat", sum := "a8338390a4dff27d82e2c963a37573aff3c55efb13366c2c400847334cf4089c", func := "worksteal/worksteallaw25.RunnerAlone", spec := "runnerAlone", unfollowed := true, recurses := true, apart := false }
def RunnerAloneSaid : Prop := runnerAloneRow.holds Tryz.pinned (OpenSpec.ofChange runnerAloneSpec)

/-- ITS FALSE NEIGHBOUR: 'it returns false'. Refute it at one input. -/
def runnerAloneWrong : ChangeSpec := { name := "runnerAlone", fn := fun _ => fun
  | [d1, d2, d3] => { results := [.lit (.bool false)], args := [d1, d2, d3] }
  | _ => none }
def RunnerAloneWrongFalsely : Prop := runnerAloneRow.holds Tryz.pinned (OpenSpec.ofChange runnerAloneWrong)

/-- 'worksteallaw26.WorkerRuns': WHATEVER THE INPUT: true; the input reads as it did. -/
def workerRunsSpec : ChangeSpec := { name := "workerRuns", fn := fun _ => fun
  | [d] => { results := [.lit (.bool true)], args := [d] }
  | _ => none }
def workerRunsRow : OpenClaim := { program := "ytlcelajkhklkbaagreat", sum := "a8338390a4dff27d82e2c963a37573aff3c55efb13366c2c400847334cf4089c", func := "worksteal/worksteallaw26.WorkerRuns", spec := "workerRuns", unfollowed := true, recurses := true, apart := false }
def WorkerRunsSaid : Prop := workerRunsRow.holds Tryz.pinned (OpenSpec.ofChange workerRunsSpec)

/-- ITS FALSE NEIGHBOUR: 'it returns false'. Refute it at one input. -/
def workerRunsWrong : ChangeSpec := { name := "workerRuns", fn := fun _ => fun
  | [d] => { results := [.lit (.bool false)], args := [d] }
  | _ => none }
def WorkerRunsWrongFalsely : Prop := workerRunsRow.holds Tryz.pinned (OpenSpec.ofChange workerRunsWrong)

/- THE SECOND FORM. 'bulk': how many values and letters a reading holds, each counted each time it is reached (what is shared counts as often as it is met; a slice's spare places count too). A statement '..UptoSaid' is the law's where the arguments, and the package variables that the reading takes, are together of bulk at most 1048576: NARROWER than '..Said'. Prove '..Said' where nothing that the law and all that it calls make is longer than what came in: it says more and counts as full. Else prove '..UptoSaid'. A law counts once. -/
mutual
def uptoBulk {H : Type} : DataW H → Nat
  | .lit (.string bytes) => bytes.length + 1
  | .lit _ => 1
  | .nil => 1
  | .ptr d => uptoBulk d + 1
  | .slice elems spare => uptoBulkAll elems + uptoBulkAll spare + 1
  | .agg parts => uptoBulkAll parts + 1
  | .iface _ d => uptoBulk d + 1
  | .map entries => uptoBulkEntries entries + 1
  | .held _ => 1
def uptoBulkAll {H : Type} : List (DataW H) → Nat
  | [] => 0
  | d :: r => uptoBulk d + uptoBulkAll r
def uptoBulkEntries {H : Type} : List (Lit × DataW H) → Nat
  | [] => 0
  | x :: r => uptoBulkEntry x + uptoBulkEntries r
def uptoBulkEntry {H : Type} : Lit × DataW H → Nat
  | (.string bytes, d) => bytes.length + uptoBulk d + 1
  | (_, d) => uptoBulk d + 1
 end
def uptoSmall : (H : Type) → List (DataW H) → Bool := fun _ ds => decide (uptoBulkAll ds ≤ 1048576)
def OpenSpec.upto (s : _root_.Go.ChangeSpec) : _root_.Go.OpenSpec := { _root_.Go.OpenSpec.ofChange s with cond := some uptoSmall }

/-- 'worksteallaw25.RunnerRaces', WHERE WHAT IT READS IS OF BULK AT MOST 1048576: true; the input reads as it did. -/
def runnerRacesUptoRow : OpenClaim := { program := "ytlcelajkhklkbaagreat", sum := "a8338390a4dff27d82e2c963a37573aff3c55efb13366c2c400847334cf4089c", func := "worksteal/worksteallaw25.RunnerRaces", spec := "runnerRaces", unfollowed := true, recurses := true, apart := false, narrowed := true }
def RunnerRacesUptoSaid : Prop := runnerRacesUptoRow.holds Tryz.pinned (OpenSpec.upto runnerRacesSpec)

/-- 'worksteallaw25.RunnerAlone', WHERE WHAT IT READS IS OF BULK AT MOST 1048576: true; the input reads as it did. -/
def runnerAloneUptoRow : OpenClaim := { program := "ytlcelajkhklkbaagreat", sum := "a8338390a4dff27d82e2c963a37573aff3c55efb13366c2c400847334cf4089c", func := "worksteal/worksteallaw25.RunnerAlone", spec := "runnerAlone", unfollowed := true, recurses := true, apart := false, narrowed := true }
def RunnerAloneUptoSaid : Prop := runnerAloneUptoRow.holds Tryz.pinned (OpenSpec.upto runnerAloneSpec)

/-- 'worksteallaw26.WorkerRuns', WHERE WHAT IT READS IS OF BULK AT MOST 1048576: true; the input reads as it did. -/
def workerRunsUptoRow : OpenClaim := { program := "ytlcelajkhklkbaagreat", sum := "a8338390a4dff27d82e2c963a37573aff3c55efb13366c2c400847334cf4089c", func := "worksteal/worksteallaw26.WorkerRuns", spec := "workerRuns", unfollowed := true, recurses := true, apart := false, narrowed := true }
def WorkerRunsUptoSaid : Prop := workerRunsUptoRow.holds Tryz.pinned (OpenSpec.upto workerRunsSpec)

end Rows
end Go.Proofs.YtlcelajkhklkbaaGreat
