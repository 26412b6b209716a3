/-
  No cell of these rows narrows 'for every input' (looked for: loops, veiled, ifaces, maps, wideKeys, modest, calm, conditions, laid).
  DERIVED. THE GIVEN ROWS OF THIS SEAT. 8 by the template 'for every input the law returns true; each argument reads behind the call as it read before'; 0 by the template 'total and deterministic' (their statements: YtgiagoeoifgliaaGreatTotals.lean).
  GIVEN WITH THE SEED: the statements are not yours to turn. If you find one false, say at which input.
  Laid BY PROGRAM, IN A SANDBOX (cutbox-rows.mjs): the forced cells as the released guide's own fill.sh prints them over the translation 5f97539af3a76a2e… (all of the seat's roots in one cut). By AI agents, Wed Nov 11 2026. No macro, syntax, notation, axiom, sorry.
-/
import Derived.Test.YtgiagoeoifgliaaGreatChecked
import GoSem.Claim
import GoSem.ClaimJoined
import GoSem.ClaimMapViews
import Derived.JoinedTies
import Derived.KernelRfl
namespace Go.Proofs.YtgiagoeoifgliaaGreat
/- THE CELL 'sum', in the pinned program and in every row, IS THE sha256 OF THE DUMP (.gsa) THAT YtgiagoeoifgliaaGreatProg.lean LOADS. Nothing in Lean hashes anything: it is a label: what it is worth is what the hold of that sum in a sandbox is worth. -/
noncomputable def Tryz.pinned : Pinned := { name := "ytgiagoeoifgliaagreat", sum := "5f97539af3a76a2eaefc2abd09c01d470a2575fd6691c2dfc8848fd664aed644", checked := Tryz.checked }
namespace Rows
def none {H : Type} : Left H := { results := [], args := [] }

/-- 'worksteallaw25.RunnerFull': WHATEVER THE INPUT: true; the input reads as it did. -/
def runnerFullSpec : ChangeSpec := { name := "runnerFull", fn := fun _ => fun
  | [d] => { results := [.lit (.bool true)], args := [d] }
  | _ => none }
def runnerFullRow : OpenClaim := { program := "ytgiagoeoifgliaagreat", sum := "5f97539af3a76a2eaefc2abd09c01d470a2575fd6691c2dfc8848fd664aed644", func := "worksteal/worksteallaw25.RunnerFull", spec := "runnerFull", unfollowed := true, recurses := true, apart := false }
def RunnerFullSaid : Prop := runnerFullRow.holds Tryz.pinned (OpenSpec.ofChange runnerFullSpec)

/-- ITS FALSE NEIGHBOUR: 'it returns false'. Refute it at one input. -/
def runnerFullWrong : ChangeSpec := { name := "runnerFull", fn := fun _ => fun
  | [d] => { results := [.lit (.bool false)], args := [d] }
  | _ => none }
def RunnerFullWrongFalsely : Prop := runnerFullRow.holds Tryz.pinned (OpenSpec.ofChange runnerFullWrong)

/-- 'workstealtop.ScriptsTravel': WHATEVER THE INPUT: true; the input reads as it did. -/
def scriptsTravelSpec : ChangeSpec := { name := "scriptsTravel", fn := fun _ => fun
  | [d1, d2] => { results := [.lit (.bool true)], args := [d1, d2] }
  | _ => none }
def scriptsTravelRow : OpenClaim := { program := "ytgiagoeoifgliaagreat", sum := "5f97539af3a76a2eaefc2abd09c01d470a2575fd6691c2dfc8848fd664aed644", func := "worksteal/workstealtop.ScriptsTravel", spec := "scriptsTravel", unfollowed := true, recurses := true, apart := false }
def ScriptsTravelSaid : Prop := scriptsTravelRow.holds Tryz.pinned (OpenSpec.ofChange scriptsTravelSpec)

/-- ITS FALSE NEIGHBOUR: 'it returns false'. Refute it at one input. -/
def scriptsTravelWrong : ChangeSpec := { name := "scriptsTravel", fn := fun _ => fun
  | [d1, d2] => { results := [.lit (.bool false)], args := [d1, d2] }
  | _ => none }
def ScriptsTravelWrongFalsely : Prop := scriptsTravelRow.holds Tryz.pinned (OpenSpec.ofChange scriptsTravelWrong)

/-- 'worksteallaw25.RunnerComputes': WHATEVER THE INPUT: true; the input reads as it did. -/
def runnerComputesSpec : ChangeSpec := { name := "runnerComputes", fn := fun _ => fun
  | [d] => { results := [.lit (.bool true)], args := [d] }
  | _ => none }
def runnerComputesRow : OpenClaim := { program := "ytgiagoeoifgliaagreat", sum := "5f97539af3a76a2eaefc2abd09c01d470a2575fd6691c2dfc8848fd664aed644", func := "worksteal/worksteallaw25.RunnerComputes", spec := "runnerComputes", unfollowed := true, recurses := true, apart := false }
def RunnerComputesSaid : Prop := runnerComputesRow.holds Tryz.pinned (OpenSpec.ofChange runnerComputesSpec)

/-- ITS FALSE NEIGHBOUR: 'it returns false'. Refute it at one input. -/
def runnerComputesWrong : ChangeSpec := { name := "runnerComputes", fn := fun _ => fun
  | [d] => { results := [.lit (.bool false)], args := [d] }
  | _ => none }
def RunnerComputesWrongFalsely : Prop := runnerComputesRow.holds Tryz.pinned (OpenSpec.ofChange runnerComputesWrong)

/-- 'worksteallaw26.WorkerIdle': WHATEVER THE INPUT: true; the input reads as it did. -/
def workerIdleSpec : ChangeSpec := { name := "workerIdle", fn := fun _ => fun
  | [d1, d2, d3, d4] => { results := [.lit (.bool true)], args := [d1, d2, d3, d4] }
  | _ => none }
def workerIdleRow : OpenClaim := { program := "ytgiagoeoifgliaagreat", sum := "5f97539af3a76a2eaefc2abd09c01d470a2575fd6691c2dfc8848fd664aed644", func := "worksteal/worksteallaw26.WorkerIdle", spec := "workerIdle", unfollowed := true, recurses := true, apart := false }
def WorkerIdleSaid : Prop := workerIdleRow.holds Tryz.pinned (OpenSpec.ofChange workerIdleSpec)

/-- ITS FALSE NEIGHBOUR: 'it returns false'. Refute it at one input. -/
def workerIdleWrong : ChangeSpec := { name := "workerIdle", fn := fun _ => fun
  | [d1, d2, d3, d4] => { results := [.lit (.bool false)], args := [d1, d2, d3, d4] }
  | _ => none }
def WorkerIdleWrongFalsely : Prop := workerIdleRow.holds Tryz.pinned (OpenSpec.ofChange workerIdleWrong)

/-- 'worksteallaw33.CommuteIndependent': WHATEVER THE INPUT: true; the input reads as it did. -/
def commuteIndependentSpec : ChangeSpec := { name := "commuteIndependent", fn := fun _ => fun
  | [d1, d2, d3] => { results := [.lit (.bool true)], args := [d1, d2, d3] }
  | _ => none }
def commuteIndependentRow : OpenClaim := { program := "ytgiagoeoifgliaagreat", sum := "5f97539af3a76a2eaefc2abd09c01d470a2575fd6691c2dfc8848fd664aed644", func := "worksteal/worksteallaw33.CommuteIndependent", spec := "commuteIndependent", unfollowed := true, recurses := true, apart := false }
def CommuteIndependentSaid : Prop := commuteIndependentRow.holds Tryz.pinned (OpenSpec.ofChange commuteIndependentSpec)

/-- ITS FALSE NEIGHBOUR: 'it returns false'. Refute it at one input. -/
def commuteIndependentWrong : ChangeSpec := { name := "commuteIndependent", fn := fun _ => fun
  | [d1, d2, d3] => { results := [.lit (.bool false)], args := [d1, d2, d3] }
  | _ => none }
def CommuteIndependentWrongFalsely : Prop := commuteIndependentRow.holds Tryz.pinned (OpenSpec.ofChange commuteIndependentWrong)

/-- 'worksteallaw28.EngineOnce': WHATEVER THE INPUT: true; the input reads as it did. -/
def engineOnceSpec : ChangeSpec := { name := "engineOnce", fn := fun _ => fun
  | [d1, d2] => { results := [.lit (.bool true)], args := [d1, d2] }
  | _ => none }
def engineOnceRow : OpenClaim := { program := "ytgiagoeoifgliaagreat", sum := "5f97539af3a76a2eaefc2abd09c01d470a2575fd6691c2dfc8848fd664aed644", func := "worksteal/worksteallaw28.EngineOnce", spec := "engineOnce", unfollowed := true, recurses := true, apart := false }
def EngineOnceSaid : Prop := engineOnceRow.holds Tryz.pinned (OpenSpec.ofChange engineOnceSpec)

/-- ITS FALSE NEIGHBOUR: 'it returns false'. Refute it at one input. -/
def engineOnceWrong : ChangeSpec := { name := "engineOnce", fn := fun _ => fun
  | [d1, d2] => { results := [.lit (.bool false)], args := [d1, d2] }
  | _ => none }
def EngineOnceWrongFalsely : Prop := engineOnceRow.holds Tryz.pinned (OpenSpec.ofChange engineOnceWrong)

/-- 'worksteallaw28.EngineRepeats': WHATEVER THE INPUT: true; the input reads as it did. -/
def engineRepeatsSpec : ChangeSpec := { name := "engineRepeats", fn := fun _ => fun
  | [d1, d2, d3] => { results := [.lit (.bool true)], args := [d1, d2, d3] }
  | _ => none }
def engineRepeatsRow : OpenClaim := { program := "ytgiagoeoifgliaagreat", sum := "5f97539af3a76a2eaefc2abd09c01d470a2575fd6691c2dfc8848fd664aed644", func := "worksteal/worksteallaw28.EngineRepeats", spec := "engineRepeats", unfollowed := true, recurses := true, apart := false }
def EngineRepeatsSaid : Prop := engineRepeatsRow.holds Tryz.pinned (OpenSpec.ofChange engineRepeatsSpec)

/-- ITS FALSE NEIGHBOUR: 'it returns false'. Refute it at one input. -/
def engineRepeatsWrong : ChangeSpec := { name := "engineRepeats", fn := fun _ => fun
  | [d1, d2, d3] => { results := [.lit (.bool false)], args := [d1, d2, d3] }
  | _ => none }
def EngineRepeatsWrongFalsely : Prop := engineRepeatsRow.holds Tryz.pinned (OpenSpec.ofChange engineRepeatsWrong)

/-- 'worksteallaw31.BoundRounds': WHATEVER THE INPUT: true; the input reads as it did. -/
def boundRoundsSpec : ChangeSpec := { name := "boundRounds", fn := fun _ => fun
  | [d1, d2] => { results := [.lit (.bool true)], args := [d1, d2] }
  | _ => none }
def boundRoundsRow : OpenClaim := { program := "ytgiagoeoifgliaagreat", sum := "5f97539af3a76a2eaefc2abd09c01d470a2575fd6691c2dfc8848fd664aed644", func := "worksteal/worksteallaw31.BoundRounds", spec := "boundRounds", unfollowed := true, recurses := true, apart := false }
def BoundRoundsSaid : Prop := boundRoundsRow.holds Tryz.pinned (OpenSpec.ofChange boundRoundsSpec)

/-- ITS FALSE NEIGHBOUR: 'it returns false'. Refute it at one input. -/
def boundRoundsWrong : ChangeSpec := { name := "boundRounds", fn := fun _ => fun
  | [d1, d2] => { results := [.lit (.bool false)], args := [d1, d2] }
  | _ => none }
def BoundRoundsWrongFalsely : Prop := boundRoundsRow.holds Tryz.pinned (OpenSpec.ofChange boundRoundsWrong)

/- THE SECOND FORM. 'bulk': how many values and letters a reading holds, each counted each time it is reached (what is shared counts as often as it is met; a slice's spare places count too). A statement '..UptoSaid' is the law's where the arguments, and the package variables that the reading takes, are together of bulk at most 1048576: NARROWER than '..Said'. Prove '..Said' where nothing that the law and all that it calls make is longer than what came in: it says more and counts as full. Else prove '..UptoSaid'. A law counts once. -/
mutual
def uptoBulk {H : Type} : DataW H → Nat
  | .lit (.string bytes) => bytes.length + 1
  | .lit _ => 1
  | .nil => 1
  | .ptr d => uptoBulk d + 1
  | .slice elems spare => uptoBulkAll elems + uptoBulkAll spare + 1
  | .agg parts => uptoBulkAll parts + 1
  | .iface _ d => uptoBulk d + 1
  | .map entries => uptoBulkEntries entries + 1
  | .held _ => 1
def uptoBulkAll {H : Type} : List (DataW H) → Nat
  | [] => 0
  | d :: r => uptoBulk d + uptoBulkAll r
def uptoBulkEntries {H : Type} : List (Lit × DataW H) → Nat
  | [] => 0
  | x :: r => uptoBulkEntry x + uptoBulkEntries r
def uptoBulkEntry {H : Type} : Lit × DataW H → Nat
  | (.string bytes, d) => bytes.length + uptoBulk d + 1
  | (_, d) => uptoBulk d + 1
 end
def uptoSmall : (H : Type) → List (DataW H) → Bool := fun _ ds => decide (uptoBulkAll ds ≤ 1048576)
def OpenSpec.upto (s : _root_.Go.ChangeSpec) : _root_.Go.OpenSpec := { _root_.Go.OpenSpec.ofChange s with cond := some uptoSmall }

/-- 'worksteallaw25.RunnerFull', WHERE WHAT IT READS IS OF BULK AT MOST 1048576: true; the input reads as it did. -/
def runnerFullUptoRow : OpenClaim := { program := "ytgiagoeoifgliaagreat", sum := "5f97539af3a76a2eaefc2abd09c01d470a2575fd6691c2dfc8848fd664aed644", func := "worksteal/worksteallaw25.RunnerFull", spec := "runnerFull", unfollowed := true, recurses := true, apart := false, narrowed := true }
def RunnerFullUptoSaid : Prop := runnerFullUptoRow.holds Tryz.pinned (OpenSpec.upto runnerFullSpec)

/-- 'workstealtop.ScriptsTravel', WHERE WHAT IT READS IS OF BULK AT MOST 1048576: true; the input reads as it did. -/
def scriptsTravelUptoRow : OpenClaim := { program := "ytgiagoeoifgliaagreat", sum := "5f97539af3a76a2eaefc2abd09c01d470a2575fd6691c2dfc8848fd664aed644", func := "worksteal/workstealtop.ScriptsTravel", spec := "scriptsTravel", unfollowed := true, recurses := true, apart := false, narrowed := true }
def ScriptsTravelUptoSaid : Prop := scriptsTravelUptoRow.holds Tryz.pinned (OpenSpec.upto scriptsTravelSpec)

/-- 'worksteallaw25.RunnerComputes', WHERE WHAT IT READS IS OF BULK AT MOST 1048576: true; the input reads as it did. -/
def runnerComputesUptoRow : OpenClaim := { program := "ytgiagoeoifgliaagreat", sum := "5f97539af3a76a2eaefc2abd09c01d470a2575fd6691c2dfc8848fd664aed644", func := "worksteal/worksteallaw25.RunnerComputes", spec := "runnerComputes", unfollowed := true, recurses := true, apart := false, narrowed := true }
def RunnerComputesUptoSaid : Prop := runnerComputesUptoRow.holds Tryz.pinned (OpenSpec.upto runnerComputesSpec)

/-- 'worksteallaw26.WorkerIdle', WHERE WHAT IT READS IS OF BULK AT MOST 1048576: true; the input reads as it did. -/
def workerIdleUptoRow : OpenClaim := { program := "ytgiagoeoifgliaagreat", sum := "5f97539af3a76a2eaefc2abd09c01d470a2575fd6691c2dfc8848fd664aed644", func := "worksteal/worksteallaw26.WorkerIdle", spec := "workerIdle", unfollowed := true, recurses := true, apart := false, narrowed := true }
def WorkerIdleUptoSaid : Prop := workerIdleUptoRow.holds Tryz.pinned (OpenSpec.upto workerIdleSpec)

/-- 'worksteallaw33.CommuteIndependent', WHERE WHAT IT READS IS OF BULK AT MOST 1048576: true; the input reads as it did. -/
def commuteIndependentUptoRow : OpenClaim := { program := "ytgiagoeoifgliaagreat", sum := "5f97539af3a76a2eaefc2abd09c01d470a2575fd6691c2dfc8848fd664aed644", func := "worksteal/worksteallaw33.CommuteIndependent", spec := "commuteIndependent", unfollowed := true, recurses := true, apart := false, narrowed := true }
def CommuteIndependentUptoSaid : Prop := commuteIndependentUptoRow.holds Tryz.pinned (OpenSpec.upto commuteIndependentSpec)

/-- 'worksteallaw28.EngineOnce', WHERE WHAT IT READS IS OF BULK AT MOST 1048576: true; the input reads as it did. -/
def engineOnceUptoRow : OpenClaim := { program := "ytgiagoeoifgliaagreat", sum := "5f97539af3a76a2eaefc2abd09c01d470a2575fd6691c2dfc8848fd664aed644", func := "worksteal/worksteallaw28.EngineOnce", spec := "engineOnce", unfollowed := true, recurses := true, apart := false, narrowed := true }
def EngineOnceUptoSaid : Prop := engineOnceUptoRow.holds Tryz.pinned (OpenSpec.upto engineOnceSpec)

/-- 'worksteallaw28.EngineRepeats', WHERE WHAT IT READS IS OF BULK AT MOST 1048576: true; the input reads as it did. -/
def engineRepeatsUptoRow : OpenClaim := { program := "ytgiagoeoifgliaagreat", sum := "5f97539af3a76a2eaefc2abd09c01d470a2575fd6691c2dfc8848fd664aed644", func := "worksteal/worksteallaw28.EngineRepeats", spec := "engineRepeats", unfollowed := true, recurses := true, apart := false, narrowed := true }
def EngineRepeatsUptoSaid : Prop := engineRepeatsUptoRow.holds Tryz.pinned (OpenSpec.upto engineRepeatsSpec)

/-- 'worksteallaw31.BoundRounds', WHERE WHAT IT READS IS OF BULK AT MOST 1048576: true; the input reads as it did. -/
def boundRoundsUptoRow : OpenClaim := { program := "ytgiagoeoifgliaagreat", sum := "5f97539af3a76a2eaefc2abd09c01d470a2575fd6691c2dfc8848fd664aed644", func := "worksteal/worksteallaw31.BoundRounds", spec := "boundRounds", unfollowed := true, recurses := true, apart := false, narrowed := true }
def BoundRoundsUptoSaid : Prop := boundRoundsUptoRow.holds Tryz.pinned (OpenSpec.upto boundRoundsSpec)

end Rows
end Go.Proofs.YtgiagoeoifgliaaGreat
