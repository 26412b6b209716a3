/-
  No cell of these rows narrows 'for every input' (looked for: loops, veiled, ifaces, maps, wideKeys, modest, calm, conditions, laid).
  DERIVED. THE GIVEN ROWS OF THIS SEAT. 3 by the template 'for every input the law returns true; each argument reads behind the call as it read before'; 0 by the template 'total and deterministic' (their statements: YtgiagoeoifgliaaTotals.lean).
  GIVEN WITH THE SEED: the statements are not yours to turn. If you find one false, say at which input.
  Laid BY PROGRAM, IN A SANDBOX (cutbox-rows.mjs): the forced cells as the released guide's own fill.sh prints them over the translation 5c5cb33ae3922869… (all of the seat's roots in one cut). By AI agents, Wed Nov 11 2026. No macro, syntax, notation, axiom, sorry.
-/
import Derived.Test.YtgiagoeoifgliaaChecked
import GoSem.Claim
import GoSem.ClaimJoined
import GoSem.ClaimMapViews
import Derived.JoinedTies
import Derived.KernelRfl
namespace Go.Proofs.Ytgiagoeoifgliaa
/- THE CELL 'sum', in the pinned program and in every row, IS THE sha256 OF THE DUMP (.gsa) THAT YtgiagoeoifgliaaProg.lean LOADS. Nothing in Lean hashes anything: it is a label: what it is worth is what the hold of that sum in a sandbox is worth. -/
noncomputable def Try.pinned : Pinned := { name := "ytgiagoeoifgliaa", sum := "5c5cb33ae3922869a3f4db8dba80c6da5ae02db71766343ace3c028ee09df15a", checked := Try.checked }
namespace Rows
def none {H : Type} : Left H := { results := [], args := [] }

/-- 'worksteallaw27.ClientWaits': WHATEVER THE INPUT: true; the input reads as it did. -/
def clientWaitsSpec : ChangeSpec := { name := "clientWaits", fn := fun _ => fun
  | [d1, d2, d3] => { results := [.lit (.bool true)], args := [d1, d2, d3] }
  | _ => none }
def clientWaitsRow : OpenClaim := { program := "ytgiagoeoifgliaa", sum := "5c5cb33ae3922869a3f4db8dba80c6da5ae02db71766343ace3c028ee09df15a", func := "worksteal/worksteallaw27.ClientWaits", spec := "clientWaits", unfollowed := true, recurses := true, apart := false }
def ClientWaitsSaid : Prop := clientWaitsRow.holds Try.pinned (OpenSpec.ofChange clientWaitsSpec)

/-- ITS FALSE NEIGHBOUR: 'it returns false'. Refute it at one input. -/
def clientWaitsWrong : ChangeSpec := { name := "clientWaits", fn := fun _ => fun
  | [d1, d2, d3] => { results := [.lit (.bool false)], args := [d1, d2, d3] }
  | _ => none }
def ClientWaitsWrongFalsely : Prop := clientWaitsRow.holds Try.pinned (OpenSpec.ofChange clientWaitsWrong)

/-- 'worksteallaw27.ClientAdmits': WHATEVER THE INPUT: true; the input reads as it did. -/
def clientAdmitsSpec : ChangeSpec := { name := "clientAdmits", fn := fun _ => fun
  | [d1, d2, d3] => { results := [.lit (.bool true)], args := [d1, d2, d3] }
  | _ => none }
def clientAdmitsRow : OpenClaim := { program := "ytgiagoeoifgliaa", sum := "5c5cb33ae3922869a3f4db8dba80c6da5ae02db71766343ace3c028ee09df15a", func := "worksteal/worksteallaw27.ClientAdmits", spec := "clientAdmits", unfollowed := true, recurses := true, apart := false }
def ClientAdmitsSaid : Prop := clientAdmitsRow.holds Try.pinned (OpenSpec.ofChange clientAdmitsSpec)

/-- ITS FALSE NEIGHBOUR: 'it returns false'. Refute it at one input. -/
def clientAdmitsWrong : ChangeSpec := { name := "clientAdmits", fn := fun _ => fun
  | [d1, d2, d3] => { results := [.lit (.bool false)], args := [d1, d2, d3] }
  | _ => none }
def ClientAdmitsWrongFalsely : Prop := clientAdmitsRow.holds Try.pinned (OpenSpec.ofChange clientAdmitsWrong)

/-- 'worksteallaw27.ClientCopies': WHATEVER THE INPUT: true; the input reads as it did. -/
def clientCopiesSpec : ChangeSpec := { name := "clientCopies", fn := fun _ => fun
  | [d1, d2] => { results := [.lit (.bool true)], args := [d1, d2] }
  | _ => none }
def clientCopiesRow : OpenClaim := { program := "ytgiagoeoifgliaa", sum := "5c5cb33ae3922869a3f4db8dba80c6da5ae02db71766343ace3c028ee09df15a", func := "worksteal/worksteallaw27.ClientCopies", spec := "clientCopies", unfollowed := true, recurses := true, apart := false }
def ClientCopiesSaid : Prop := clientCopiesRow.holds Try.pinned (OpenSpec.ofChange clientCopiesSpec)

/-- ITS FALSE NEIGHBOUR: 'it returns false'. Refute it at one input. -/
def clientCopiesWrong : ChangeSpec := { name := "clientCopies", fn := fun _ => fun
  | [d1, d2] => { results := [.lit (.bool false)], args := [d1, d2] }
  | _ => none }
def ClientCopiesWrongFalsely : Prop := clientCopiesRow.holds Try.pinned (OpenSpec.ofChange clientCopiesWrong)

/- THE SECOND FORM. 'bulk': how many values and letters a reading holds, each counted each time it is reached (what is shared counts as often as it is met; a slice's spare places count too). A statement '..UptoSaid' is the law's where the arguments, and the package variables that the reading takes, are together of bulk at most 1048576: NARROWER than '..Said'. Prove '..Said' where nothing that the law and all that it calls make is longer than what came in: it says more and counts as full. Else prove '..UptoSaid'. A law counts once. -/
mutual
def uptoBulk {H : Type} : DataW H → Nat
  | .lit (.string bytes) => bytes.length + 1
  | .lit _ => 1
  | .nil => 1
  | .ptr d => uptoBulk d + 1
  | .slice elems spare => uptoBulkAll elems + uptoBulkAll spare + 1
  | .agg parts => uptoBulkAll parts + 1
  | .iface _ d => uptoBulk d + 1
  | .map entries => uptoBulkEntries entries + 1
  | .held _ => 1
def uptoBulkAll {H : Type} : List (DataW H) → Nat
  | [] => 0
  | d :: r => uptoBulk d + uptoBulkAll r
def uptoBulkEntries {H : Type} : List (Lit × DataW H) → Nat
  | [] => 0
  | x :: r => uptoBulkEntry x + uptoBulkEntries r
def uptoBulkEntry {H : Type} : Lit × DataW H → Nat
  | (.string bytes, d) => bytes.length + uptoBulk d + 1
  | (_, d) => uptoBulk d + 1
 end
def uptoSmall : (H : Type) → List (DataW H) → Bool := fun _ ds => decide (uptoBulkAll ds ≤ 1048576)
def OpenSpec.upto (s : _root_.Go.ChangeSpec) : _root_.Go.OpenSpec := { _root_.Go.OpenSpec.ofChange s with cond := some uptoSmall }

/-- 'worksteallaw27.ClientWaits', WHERE WHAT IT READS IS OF BULK AT MOST 1048576: true; the input reads as it did. -/
def clientWaitsUptoRow : OpenClaim := { program := "ytgiagoeoifgliaa", sum := "5c5cb33ae3922869a3f4db8dba80c6da5ae02db71766343ace3c028ee09df15a", func := "worksteal/worksteallaw27.ClientWaits", spec := "clientWaits", unfollowed := true, recurses := true, apart := false, narrowed := true }
def ClientWaitsUptoSaid : Prop := clientWaitsUptoRow.holds Try.pinned (OpenSpec.upto clientWaitsSpec)

/-- 'worksteallaw27.ClientAdmits', WHERE WHAT IT READS IS OF BULK AT MOST 1048576: true; the input reads as it did. -/
def clientAdmitsUptoRow : OpenClaim := { program := "ytgiagoeoifgliaa", sum := "5c5cb33ae3922869a3f4db8dba80c6da5ae02db71766343ace3c028ee09df15a", func := "worksteal/worksteallaw27.ClientAdmits", spec := "clientAdmits", unfollowed := true, recurses := true, apart := false, narrowed := true }
def ClientAdmitsUptoSaid : Prop := clientAdmitsUptoRow.holds Try.pinned (OpenSpec.upto clientAdmitsSpec)

/-- 'worksteallaw27.ClientCopies', WHERE WHAT IT READS IS OF BULK AT MOST 1048576: true; the input reads as it did. -/
def clientCopiesUptoRow : OpenClaim := { program := "ytgiagoeoifgliaa", sum := "5c5cb33ae3922869a3f4db8dba80c6da5ae02db71766343ace3c028ee09df15a", func := "worksteal/worksteallaw27.ClientCopies", spec := "clientCopies", unfollowed := true, recurses := true, apart := false, narrowed := true }
def ClientCopiesUptoSaid : Prop := clientCopiesUptoRow.holds Try.pinned (OpenSpec.upto clientCopiesSpec)

end Rows
end Go.Proofs.Ytgiagoeoifgliaa
