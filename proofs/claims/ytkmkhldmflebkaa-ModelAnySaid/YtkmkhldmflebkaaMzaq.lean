/- The law ModelAny in the evaluator's form. The program's model: which events are in their ranges. The reference's model: which events fit. The program's model: what its small functions answer. The program's model: what each kind of event does. The program's model: what each kind of event does (tops, walks, the queue). The reference's model: what its small functions answer. The program's queue. -/
import Derived.Test.YtkmkhldmflebkaaMzan
import Derived.Test.YtkmkhldmflebkaaMzap
import Derived.Test.YtkmkhldmflebkaaMzak
set_option linter.all false
namespace Go.Proofs.Ytkmkhldmflebkaa
section
open Go Go.RowKit
set_option maxRecDepth 100000
variable [Tb]
noncomputable def abw  : Option ((Cfg × Unit) × (Unit)) :=
 (aiI ([])).bind fun r1 =>
 some ((({ r1.1.1 with subs := [(⟨0, 0, 0⟩ : Sub)] } : Cfg), ()), (()))
noncomputable abbrev adJ : Con SR1 := ⟨13, [], [.val 13], fun x => abw ⟩
theorem afv : CO Try.prog adJ := abC abx Try.func13 [ahA] ⟨ah6, trivial⟩ [] trivial (fun _ => []) [] fun x => by kernel_rfl
noncomputable def acj  : Option ((Bool × Unit) × (Unit)) :=
 (abw).bind fun r1 =>
 (acH r1.1.1 ([(⟨1, 1, 0, 0, 0⟩ : Ev), (⟨13, 0, 0, 0, 0⟩ : Ev), (⟨5, 0, 0, 0, 0⟩ : Ev), (⟨10, 0, 0, 0, 0⟩ : Ev)])).bind fun r2 =>
 ((
  if 0 ≤ (0 : Int) ∧ (0 : Int) < ((([(⟨1, 1, 0, 0, 0⟩ : Ev), (⟨13, 0, 0, 0, 0⟩ : Ev), (⟨5, 0, 0, 0, 0⟩ : Ev), (⟨10, 0, 0, 0, 0⟩ : Ev)] : List Ev).length : Nat) : Int) then
   if 0 ≤ (1 : Int) ∧ (1 : Int) < ((([(⟨1, 1, 0, 0, 0⟩ : Ev), (⟨13, 0, 0, 0, 0⟩ : Ev), (⟨5, 0, 0, 0, 0⟩ : Ev), (⟨10, 0, 0, 0, 0⟩ : Ev)] : List Ev).length : Nat) : Int) then
   if 0 ≤ (2 : Int) ∧ (2 : Int) < ((([(⟨1, 1, 0, 0, 0⟩ : Ev), (⟨13, 0, 0, 0, 0⟩ : Ev), (⟨5, 0, 0, 0, 0⟩ : Ev), (⟨10, 0, 0, 0, 0⟩ : Ev)] : List Ev).length : Nat) : Int) then
   if 0 ≤ (2 : Int) ∧ (2 : Int) < ((([(⟨1, 1, 0, 0, 0⟩ : Ev), (⟨13, 0, 0, 0, 0⟩ : Ev), (⟨5, 0, 0, 0, 0⟩ : Ev), (⟨10, 0, 0, 0, 0⟩ : Ev)] : List Ev).length : Nat) : Int) then
   agr (
   (abw).bind fun r5 =>
   if ((abr ([(⟨1, 1, 0, 0, 0⟩ : Ev), (⟨13, 0, 0, 0, 0⟩ : Ev), (⟨5, 0, 0, 0, 0⟩ : Ev), (⟨10, 0, 0, 0, 0⟩ : Ev)]) 2).kind) = ((abr ([(⟨1, 1, 0, 0, 0⟩ : Ev), (⟨13, 0, 0, 0, 0⟩ : Ev), (⟨5, 0, 0, 0, 0⟩ : Ev), (⟨10, 0, 0, 0, 0⟩ : Ev)]) 2).kind) then
   if ((abr ([(⟨1, 1, 0, 0, 0⟩ : Ev), (⟨13, 0, 0, 0, 0⟩ : Ev), (⟨5, 0, 0, 0, 0⟩ : Ev), (⟨10, 0, 0, 0, 0⟩ : Ev)]) 2).worker) = ((abr ([(⟨1, 1, 0, 0, 0⟩ : Ev), (⟨13, 0, 0, 0, 0⟩ : Ev), (⟨5, 0, 0, 0, 0⟩ : Ev), (⟨10, 0, 0, 0, 0⟩ : Ev)]) 2).worker) then
   if ((abr ([(⟨1, 1, 0, 0, 0⟩ : Ev), (⟨13, 0, 0, 0, 0⟩ : Ev), (⟨5, 0, 0, 0, 0⟩ : Ev), (⟨10, 0, 0, 0, 0⟩ : Ev)]) 2).task) = ((abr ([(⟨1, 1, 0, 0, 0⟩ : Ev), (⟨13, 0, 0, 0, 0⟩ : Ev), (⟨5, 0, 0, 0, 0⟩ : Ev), (⟨10, 0, 0, 0, 0⟩ : Ev)]) 2).task) then
   if ((abr ([(⟨1, 1, 0, 0, 0⟩ : Ev), (⟨13, 0, 0, 0, 0⟩ : Ev), (⟨5, 0, 0, 0, 0⟩ : Ev), (⟨10, 0, 0, 0, 0⟩ : Ev)]) 2).other) = ((abr ([(⟨1, 1, 0, 0, 0⟩ : Ev), (⟨13, 0, 0, 0, 0⟩ : Ev), (⟨5, 0, 0, 0, 0⟩ : Ev), (⟨10, 0, 0, 0, 0⟩ : Ev)]) 2).other) then
   if ((abr ([(⟨1, 1, 0, 0, 0⟩ : Ev), (⟨13, 0, 0, 0, 0⟩ : Ev), (⟨5, 0, 0, 0, 0⟩ : Ev), (⟨10, 0, 0, 0, 0⟩ : Ev)]) 2).level) = ((abr ([(⟨1, 1, 0, 0, 0⟩ : Ev), (⟨13, 0, 0, 0, 0⟩ : Ev), (⟨5, 0, 0, 0, 0⟩ : Ev), (⟨10, 0, 0, 0, 0⟩ : Ev)]) 2).level) then
   if ((abr ([(⟨1, 1, 0, 0, 0⟩ : Ev), (⟨13, 0, 0, 0, 0⟩ : Ev), (⟨5, 0, 0, 0, 0⟩ : Ev), (⟨10, 0, 0, 0, 0⟩ : Ev)]) 2).kind) = ((abr ([(⟨1, 1, 0, 0, 0⟩ : Ev), (⟨13, 0, 0, 0, 0⟩ : Ev), (⟨5, 0, 0, 0, 0⟩ : Ev), (⟨10, 0, 0, 0, 0⟩ : Ev)]) 2).kind) then
   if ((abr ([(⟨1, 1, 0, 0, 0⟩ : Ev), (⟨13, 0, 0, 0, 0⟩ : Ev), (⟨5, 0, 0, 0, 0⟩ : Ev), (⟨10, 0, 0, 0, 0⟩ : Ev)]) 2).worker) = ((abr ([(⟨1, 1, 0, 0, 0⟩ : Ev), (⟨13, 0, 0, 0, 0⟩ : Ev), (⟨5, 0, 0, 0, 0⟩ : Ev), (⟨10, 0, 0, 0, 0⟩ : Ev)]) 2).worker) then
   if ((abr ([(⟨1, 1, 0, 0, 0⟩ : Ev), (⟨13, 0, 0, 0, 0⟩ : Ev), (⟨5, 0, 0, 0, 0⟩ : Ev), (⟨10, 0, 0, 0, 0⟩ : Ev)]) 2).task) = ((abr ([(⟨1, 1, 0, 0, 0⟩ : Ev), (⟨13, 0, 0, 0, 0⟩ : Ev), (⟨5, 0, 0, 0, 0⟩ : Ev), (⟨10, 0, 0, 0, 0⟩ : Ev)]) 2).task) then
   if ((abr ([(⟨1, 1, 0, 0, 0⟩ : Ev), (⟨13, 0, 0, 0, 0⟩ : Ev), (⟨5, 0, 0, 0, 0⟩ : Ev), (⟨10, 0, 0, 0, 0⟩ : Ev)]) 2).other) = ((abr ([(⟨1, 1, 0, 0, 0⟩ : Ev), (⟨13, 0, 0, 0, 0⟩ : Ev), (⟨5, 0, 0, 0, 0⟩ : Ev), (⟨10, 0, 0, 0, 0⟩ : Ev)]) 2).other) then
   if ((abr ([(⟨1, 1, 0, 0, 0⟩ : Ev), (⟨13, 0, 0, 0, 0⟩ : Ev), (⟨5, 0, 0, 0, 0⟩ : Ev), (⟨10, 0, 0, 0, 0⟩ : Ev)]) 2).level) = ((abr ([(⟨1, 1, 0, 0, 0⟩ : Ev), (⟨13, 0, 0, 0, 0⟩ : Ev), (⟨5, 0, 0, 0, 0⟩ : Ev), (⟨10, 0, 0, 0, 0⟩ : Ev)]) 2).level) then
   if ((abr ([(⟨1, 1, 0, 0, 0⟩ : Ev), (⟨13, 0, 0, 0, 0⟩ : Ev), (⟨5, 0, 0, 0, 0⟩ : Ev), (⟨10, 0, 0, 0, 0⟩ : Ev)]) 1).kind) = ((abr ([(⟨1, 1, 0, 0, 0⟩ : Ev), (⟨13, 0, 0, 0, 0⟩ : Ev), (⟨5, 0, 0, 0, 0⟩ : Ev), (⟨10, 0, 0, 0, 0⟩ : Ev)]) 1).kind) then
   if ((abr ([(⟨1, 1, 0, 0, 0⟩ : Ev), (⟨13, 0, 0, 0, 0⟩ : Ev), (⟨5, 0, 0, 0, 0⟩ : Ev), (⟨10, 0, 0, 0, 0⟩ : Ev)]) 1).worker) = ((abr ([(⟨1, 1, 0, 0, 0⟩ : Ev), (⟨13, 0, 0, 0, 0⟩ : Ev), (⟨5, 0, 0, 0, 0⟩ : Ev), (⟨10, 0, 0, 0, 0⟩ : Ev)]) 1).worker) then
   if ((abr ([(⟨1, 1, 0, 0, 0⟩ : Ev), (⟨13, 0, 0, 0, 0⟩ : Ev), (⟨5, 0, 0, 0, 0⟩ : Ev), (⟨10, 0, 0, 0, 0⟩ : Ev)]) 1).task) = ((abr ([(⟨1, 1, 0, 0, 0⟩ : Ev), (⟨13, 0, 0, 0, 0⟩ : Ev), (⟨5, 0, 0, 0, 0⟩ : Ev), (⟨10, 0, 0, 0, 0⟩ : Ev)]) 1).task) then
   if ((abr ([(⟨1, 1, 0, 0, 0⟩ : Ev), (⟨13, 0, 0, 0, 0⟩ : Ev), (⟨5, 0, 0, 0, 0⟩ : Ev), (⟨10, 0, 0, 0, 0⟩ : Ev)]) 1).other) = ((abr ([(⟨1, 1, 0, 0, 0⟩ : Ev), (⟨13, 0, 0, 0, 0⟩ : Ev), (⟨5, 0, 0, 0, 0⟩ : Ev), (⟨10, 0, 0, 0, 0⟩ : Ev)]) 1).other) then
   if ((abr ([(⟨1, 1, 0, 0, 0⟩ : Ev), (⟨13, 0, 0, 0, 0⟩ : Ev), (⟨5, 0, 0, 0, 0⟩ : Ev), (⟨10, 0, 0, 0, 0⟩ : Ev)]) 1).level) = ((abr ([(⟨1, 1, 0, 0, 0⟩ : Ev), (⟨13, 0, 0, 0, 0⟩ : Ev), (⟨5, 0, 0, 0, 0⟩ : Ev), (⟨10, 0, 0, 0, 0⟩ : Ev)]) 1).level) then
   if ((abr ([(⟨1, 1, 0, 0, 0⟩ : Ev), (⟨13, 0, 0, 0, 0⟩ : Ev), (⟨5, 0, 0, 0, 0⟩ : Ev), (⟨10, 0, 0, 0, 0⟩ : Ev)]) 0).kind) = ((abr ([(⟨1, 1, 0, 0, 0⟩ : Ev), (⟨13, 0, 0, 0, 0⟩ : Ev), (⟨5, 0, 0, 0, 0⟩ : Ev), (⟨10, 0, 0, 0, 0⟩ : Ev)]) 0).kind) then
   if ((abr ([(⟨1, 1, 0, 0, 0⟩ : Ev), (⟨13, 0, 0, 0, 0⟩ : Ev), (⟨5, 0, 0, 0, 0⟩ : Ev), (⟨10, 0, 0, 0, 0⟩ : Ev)]) 0).worker) = ((abr ([(⟨1, 1, 0, 0, 0⟩ : Ev), (⟨13, 0, 0, 0, 0⟩ : Ev), (⟨5, 0, 0, 0, 0⟩ : Ev), (⟨10, 0, 0, 0, 0⟩ : Ev)]) 0).worker) then
   if ((abr ([(⟨1, 1, 0, 0, 0⟩ : Ev), (⟨13, 0, 0, 0, 0⟩ : Ev), (⟨5, 0, 0, 0, 0⟩ : Ev), (⟨10, 0, 0, 0, 0⟩ : Ev)]) 0).task) = ((abr ([(⟨1, 1, 0, 0, 0⟩ : Ev), (⟨13, 0, 0, 0, 0⟩ : Ev), (⟨5, 0, 0, 0, 0⟩ : Ev), (⟨10, 0, 0, 0, 0⟩ : Ev)]) 0).task) then
   if ((abr ([(⟨1, 1, 0, 0, 0⟩ : Ev), (⟨13, 0, 0, 0, 0⟩ : Ev), (⟨5, 0, 0, 0, 0⟩ : Ev), (⟨10, 0, 0, 0, 0⟩ : Ev)]) 0).other) = ((abr ([(⟨1, 1, 0, 0, 0⟩ : Ev), (⟨13, 0, 0, 0, 0⟩ : Ev), (⟨5, 0, 0, 0, 0⟩ : Ev), (⟨10, 0, 0, 0, 0⟩ : Ev)]) 0).other) then
   if ((abr ([(⟨1, 1, 0, 0, 0⟩ : Ev), (⟨13, 0, 0, 0, 0⟩ : Ev), (⟨5, 0, 0, 0, 0⟩ : Ev), (⟨10, 0, 0, 0, 0⟩ : Ev)]) 0).level) = ((abr ([(⟨1, 1, 0, 0, 0⟩ : Ev), (⟨13, 0, 0, 0, 0⟩ : Ev), (⟨5, 0, 0, 0, 0⟩ : Ev), (⟨10, 0, 0, 0, 0⟩ : Ev)]) 0).level) then
   (acH r5.1.1 ([abr ([(⟨1, 1, 0, 0, 0⟩ : Ev), (⟨13, 0, 0, 0, 0⟩ : Ev), (⟨5, 0, 0, 0, 0⟩ : Ev), (⟨10, 0, 0, 0, 0⟩ : Ev)]) 0, abr ([(⟨1, 1, 0, 0, 0⟩ : Ev), (⟨13, 0, 0, 0, 0⟩ : Ev), (⟨5, 0, 0, 0, 0⟩ : Ev), (⟨10, 0, 0, 0, 0⟩ : Ev)]) 1, abr ([(⟨1, 1, 0, 0, 0⟩ : Ev), (⟨13, 0, 0, 0, 0⟩ : Ev), (⟨5, 0, 0, 0, 0⟩ : Ev), (⟨10, 0, 0, 0, 0⟩ : Ev)]) 2, abr ([(⟨1, 1, 0, 0, 0⟩ : Ev), (⟨13, 0, 0, 0, 0⟩ : Ev), (⟨5, 0, 0, 0, 0⟩ : Ev), (⟨10, 0, 0, 0, 0⟩ : Ev)]) 2])).bind fun r6 =>
   some (r6.1.1, r6.1.2.1, ())
   else none
   else none
   else none
   else none
   else none
   else none
   else none
   else none
   else none
   else none
   else none
   else none
   else none
   else none
   else none
   else none
   else none
   else none
   else none
   else none
   ) (
   (abw).bind fun r3 =>
   if ((abr ([(⟨1, 1, 0, 0, 0⟩ : Ev), (⟨13, 0, 0, 0, 0⟩ : Ev), (⟨5, 0, 0, 0, 0⟩ : Ev), (⟨10, 0, 0, 0, 0⟩ : Ev)]) 2).kind) = ((abr ([(⟨1, 1, 0, 0, 0⟩ : Ev), (⟨13, 0, 0, 0, 0⟩ : Ev), (⟨5, 0, 0, 0, 0⟩ : Ev), (⟨10, 0, 0, 0, 0⟩ : Ev)]) 2).kind) then
   if ((abr ([(⟨1, 1, 0, 0, 0⟩ : Ev), (⟨13, 0, 0, 0, 0⟩ : Ev), (⟨5, 0, 0, 0, 0⟩ : Ev), (⟨10, 0, 0, 0, 0⟩ : Ev)]) 2).worker) = ((abr ([(⟨1, 1, 0, 0, 0⟩ : Ev), (⟨13, 0, 0, 0, 0⟩ : Ev), (⟨5, 0, 0, 0, 0⟩ : Ev), (⟨10, 0, 0, 0, 0⟩ : Ev)]) 2).worker) then
   if ((abr ([(⟨1, 1, 0, 0, 0⟩ : Ev), (⟨13, 0, 0, 0, 0⟩ : Ev), (⟨5, 0, 0, 0, 0⟩ : Ev), (⟨10, 0, 0, 0, 0⟩ : Ev)]) 2).task) = ((abr ([(⟨1, 1, 0, 0, 0⟩ : Ev), (⟨13, 0, 0, 0, 0⟩ : Ev), (⟨5, 0, 0, 0, 0⟩ : Ev), (⟨10, 0, 0, 0, 0⟩ : Ev)]) 2).task) then
   if ((abr ([(⟨1, 1, 0, 0, 0⟩ : Ev), (⟨13, 0, 0, 0, 0⟩ : Ev), (⟨5, 0, 0, 0, 0⟩ : Ev), (⟨10, 0, 0, 0, 0⟩ : Ev)]) 2).other) = ((abr ([(⟨1, 1, 0, 0, 0⟩ : Ev), (⟨13, 0, 0, 0, 0⟩ : Ev), (⟨5, 0, 0, 0, 0⟩ : Ev), (⟨10, 0, 0, 0, 0⟩ : Ev)]) 2).other) then
   if ((abr ([(⟨1, 1, 0, 0, 0⟩ : Ev), (⟨13, 0, 0, 0, 0⟩ : Ev), (⟨5, 0, 0, 0, 0⟩ : Ev), (⟨10, 0, 0, 0, 0⟩ : Ev)]) 2).level) = ((abr ([(⟨1, 1, 0, 0, 0⟩ : Ev), (⟨13, 0, 0, 0, 0⟩ : Ev), (⟨5, 0, 0, 0, 0⟩ : Ev), (⟨10, 0, 0, 0, 0⟩ : Ev)]) 2).level) then
   if ((abr ([(⟨1, 1, 0, 0, 0⟩ : Ev), (⟨13, 0, 0, 0, 0⟩ : Ev), (⟨5, 0, 0, 0, 0⟩ : Ev), (⟨10, 0, 0, 0, 0⟩ : Ev)]) 2).kind) = ((abr ([(⟨1, 1, 0, 0, 0⟩ : Ev), (⟨13, 0, 0, 0, 0⟩ : Ev), (⟨5, 0, 0, 0, 0⟩ : Ev), (⟨10, 0, 0, 0, 0⟩ : Ev)]) 2).kind) then
   if ((abr ([(⟨1, 1, 0, 0, 0⟩ : Ev), (⟨13, 0, 0, 0, 0⟩ : Ev), (⟨5, 0, 0, 0, 0⟩ : Ev), (⟨10, 0, 0, 0, 0⟩ : Ev)]) 2).worker) = ((abr ([(⟨1, 1, 0, 0, 0⟩ : Ev), (⟨13, 0, 0, 0, 0⟩ : Ev), (⟨5, 0, 0, 0, 0⟩ : Ev), (⟨10, 0, 0, 0, 0⟩ : Ev)]) 2).worker) then
   if ((abr ([(⟨1, 1, 0, 0, 0⟩ : Ev), (⟨13, 0, 0, 0, 0⟩ : Ev), (⟨5, 0, 0, 0, 0⟩ : Ev), (⟨10, 0, 0, 0, 0⟩ : Ev)]) 2).task) = ((abr ([(⟨1, 1, 0, 0, 0⟩ : Ev), (⟨13, 0, 0, 0, 0⟩ : Ev), (⟨5, 0, 0, 0, 0⟩ : Ev), (⟨10, 0, 0, 0, 0⟩ : Ev)]) 2).task) then
   if ((abr ([(⟨1, 1, 0, 0, 0⟩ : Ev), (⟨13, 0, 0, 0, 0⟩ : Ev), (⟨5, 0, 0, 0, 0⟩ : Ev), (⟨10, 0, 0, 0, 0⟩ : Ev)]) 2).other) = ((abr ([(⟨1, 1, 0, 0, 0⟩ : Ev), (⟨13, 0, 0, 0, 0⟩ : Ev), (⟨5, 0, 0, 0, 0⟩ : Ev), (⟨10, 0, 0, 0, 0⟩ : Ev)]) 2).other) then
   if ((abr ([(⟨1, 1, 0, 0, 0⟩ : Ev), (⟨13, 0, 0, 0, 0⟩ : Ev), (⟨5, 0, 0, 0, 0⟩ : Ev), (⟨10, 0, 0, 0, 0⟩ : Ev)]) 2).level) = ((abr ([(⟨1, 1, 0, 0, 0⟩ : Ev), (⟨13, 0, 0, 0, 0⟩ : Ev), (⟨5, 0, 0, 0, 0⟩ : Ev), (⟨10, 0, 0, 0, 0⟩ : Ev)]) 2).level) then
   if ((abr ([(⟨1, 1, 0, 0, 0⟩ : Ev), (⟨13, 0, 0, 0, 0⟩ : Ev), (⟨5, 0, 0, 0, 0⟩ : Ev), (⟨10, 0, 0, 0, 0⟩ : Ev)]) 1).kind) = ((abr ([(⟨1, 1, 0, 0, 0⟩ : Ev), (⟨13, 0, 0, 0, 0⟩ : Ev), (⟨5, 0, 0, 0, 0⟩ : Ev), (⟨10, 0, 0, 0, 0⟩ : Ev)]) 1).kind) then
   if ((abr ([(⟨1, 1, 0, 0, 0⟩ : Ev), (⟨13, 0, 0, 0, 0⟩ : Ev), (⟨5, 0, 0, 0, 0⟩ : Ev), (⟨10, 0, 0, 0, 0⟩ : Ev)]) 1).worker) = ((abr ([(⟨1, 1, 0, 0, 0⟩ : Ev), (⟨13, 0, 0, 0, 0⟩ : Ev), (⟨5, 0, 0, 0, 0⟩ : Ev), (⟨10, 0, 0, 0, 0⟩ : Ev)]) 1).worker) then
   if ((abr ([(⟨1, 1, 0, 0, 0⟩ : Ev), (⟨13, 0, 0, 0, 0⟩ : Ev), (⟨5, 0, 0, 0, 0⟩ : Ev), (⟨10, 0, 0, 0, 0⟩ : Ev)]) 1).task) = ((abr ([(⟨1, 1, 0, 0, 0⟩ : Ev), (⟨13, 0, 0, 0, 0⟩ : Ev), (⟨5, 0, 0, 0, 0⟩ : Ev), (⟨10, 0, 0, 0, 0⟩ : Ev)]) 1).task) then
   if ((abr ([(⟨1, 1, 0, 0, 0⟩ : Ev), (⟨13, 0, 0, 0, 0⟩ : Ev), (⟨5, 0, 0, 0, 0⟩ : Ev), (⟨10, 0, 0, 0, 0⟩ : Ev)]) 1).other) = ((abr ([(⟨1, 1, 0, 0, 0⟩ : Ev), (⟨13, 0, 0, 0, 0⟩ : Ev), (⟨5, 0, 0, 0, 0⟩ : Ev), (⟨10, 0, 0, 0, 0⟩ : Ev)]) 1).other) then
   if ((abr ([(⟨1, 1, 0, 0, 0⟩ : Ev), (⟨13, 0, 0, 0, 0⟩ : Ev), (⟨5, 0, 0, 0, 0⟩ : Ev), (⟨10, 0, 0, 0, 0⟩ : Ev)]) 1).level) = ((abr ([(⟨1, 1, 0, 0, 0⟩ : Ev), (⟨13, 0, 0, 0, 0⟩ : Ev), (⟨5, 0, 0, 0, 0⟩ : Ev), (⟨10, 0, 0, 0, 0⟩ : Ev)]) 1).level) then
   if ((abr ([(⟨1, 1, 0, 0, 0⟩ : Ev), (⟨13, 0, 0, 0, 0⟩ : Ev), (⟨5, 0, 0, 0, 0⟩ : Ev), (⟨10, 0, 0, 0, 0⟩ : Ev)]) 0).kind) = ((abr ([(⟨1, 1, 0, 0, 0⟩ : Ev), (⟨13, 0, 0, 0, 0⟩ : Ev), (⟨5, 0, 0, 0, 0⟩ : Ev), (⟨10, 0, 0, 0, 0⟩ : Ev)]) 0).kind) then
   if ((abr ([(⟨1, 1, 0, 0, 0⟩ : Ev), (⟨13, 0, 0, 0, 0⟩ : Ev), (⟨5, 0, 0, 0, 0⟩ : Ev), (⟨10, 0, 0, 0, 0⟩ : Ev)]) 0).worker) = ((abr ([(⟨1, 1, 0, 0, 0⟩ : Ev), (⟨13, 0, 0, 0, 0⟩ : Ev), (⟨5, 0, 0, 0, 0⟩ : Ev), (⟨10, 0, 0, 0, 0⟩ : Ev)]) 0).worker) then
   if ((abr ([(⟨1, 1, 0, 0, 0⟩ : Ev), (⟨13, 0, 0, 0, 0⟩ : Ev), (⟨5, 0, 0, 0, 0⟩ : Ev), (⟨10, 0, 0, 0, 0⟩ : Ev)]) 0).task) = ((abr ([(⟨1, 1, 0, 0, 0⟩ : Ev), (⟨13, 0, 0, 0, 0⟩ : Ev), (⟨5, 0, 0, 0, 0⟩ : Ev), (⟨10, 0, 0, 0, 0⟩ : Ev)]) 0).task) then
   if ((abr ([(⟨1, 1, 0, 0, 0⟩ : Ev), (⟨13, 0, 0, 0, 0⟩ : Ev), (⟨5, 0, 0, 0, 0⟩ : Ev), (⟨10, 0, 0, 0, 0⟩ : Ev)]) 0).other) = ((abr ([(⟨1, 1, 0, 0, 0⟩ : Ev), (⟨13, 0, 0, 0, 0⟩ : Ev), (⟨5, 0, 0, 0, 0⟩ : Ev), (⟨10, 0, 0, 0, 0⟩ : Ev)]) 0).other) then
   if ((abr ([(⟨1, 1, 0, 0, 0⟩ : Ev), (⟨13, 0, 0, 0, 0⟩ : Ev), (⟨5, 0, 0, 0, 0⟩ : Ev), (⟨10, 0, 0, 0, 0⟩ : Ev)]) 0).level) = ((abr ([(⟨1, 1, 0, 0, 0⟩ : Ev), (⟨13, 0, 0, 0, 0⟩ : Ev), (⟨5, 0, 0, 0, 0⟩ : Ev), (⟨10, 0, 0, 0, 0⟩ : Ev)]) 0).level) then
   (acH r3.1.1 ([abr ([(⟨1, 1, 0, 0, 0⟩ : Ev), (⟨13, 0, 0, 0, 0⟩ : Ev), (⟨5, 0, 0, 0, 0⟩ : Ev), (⟨10, 0, 0, 0, 0⟩ : Ev)]) 0, abr ([(⟨1, 1, 0, 0, 0⟩ : Ev), (⟨13, 0, 0, 0, 0⟩ : Ev), (⟨5, 0, 0, 0, 0⟩ : Ev), (⟨10, 0, 0, 0, 0⟩ : Ev)]) 1, abr ([(⟨1, 1, 0, 0, 0⟩ : Ev), (⟨13, 0, 0, 0, 0⟩ : Ev), (⟨5, 0, 0, 0, 0⟩ : Ev), (⟨10, 0, 0, 0, 0⟩ : Ev)]) 2, abr ([(⟨1, 1, 0, 0, 0⟩ : Ev), (⟨13, 0, 0, 0, 0⟩ : Ev), (⟨5, 0, 0, 0, 0⟩ : Ev), (⟨10, 0, 0, 0, 0⟩ : Ev)]) 2])).bind fun r4 =>
   some (r4.1.1, r4.1.2.1, ())
   else none
   else none
   else none
   else none
   else none
   else none
   else none
   else none
   else none
   else none
   else none
   else none
   else none
   else none
   else none
   else none
   else none
   else none
   else none
   else none
   )
   else none
   else none
   else none
  else none
 ) : Option (Int × Int × Unit)).bind fun z7 =>
 if r2.1.1 = 4 then
  if r2.1.2.1 = 0 then
   if z7.1 = 3 then
   some ((decide (z7.2.1 = 6), ()), (()))
   else
   some ((false, ()), (()))
  else
  some ((false, ()), (()))
 else
 some ((false, ()), (()))
noncomputable abbrev acM : Con SR1 := ⟨8, [], [.sh .b], fun x => acj ⟩
theorem aed : CO Try.prog acM := abC abx Try.func8 [adJ, ae9] ⟨afv, agb, trivial⟩ [] trivial (fun _ => []) [(4, .cut [.rg 4 sI_, .rg 5 sI_] [0, 10, 11])] fun x => by kernel_rfl
noncomputable def abz  : Option ((Bool × Unit) × (Unit)) :=
 (abw).bind fun r1 =>
 (acH r1.1.1 ([(⟨1, 1, 0, 0, 0⟩ : Ev), (⟨13, 0, 0, 0, 0⟩ : Ev), (⟨5, 0, 0, 0, 0⟩ : Ev), (⟨10, 0, 0, 0, 0⟩ : Ev)])).bind fun r2 =>
 if 0 ≤ (0 : Int) ∧ (0 : Int) < ((([(⟨1, 1, 0, 0, 0⟩ : Ev), (⟨13, 0, 0, 0, 0⟩ : Ev), (⟨5, 0, 0, 0, 0⟩ : Ev), (⟨10, 0, 0, 0, 0⟩ : Ev)] : List Ev).length : Nat) : Int) then
  if 0 ≤ (1 : Int) ∧ (1 : Int) < ((([(⟨1, 1, 0, 0, 0⟩ : Ev), (⟨13, 0, 0, 0, 0⟩ : Ev), (⟨5, 0, 0, 0, 0⟩ : Ev), (⟨10, 0, 0, 0, 0⟩ : Ev)] : List Ev).length : Nat) : Int) then
   if 0 ≤ (2 : Int) ∧ (2 : Int) < ((([(⟨1, 1, 0, 0, 0⟩ : Ev), (⟨13, 0, 0, 0, 0⟩ : Ev), (⟨5, 0, 0, 0, 0⟩ : Ev), (⟨10, 0, 0, 0, 0⟩ : Ev)] : List Ev).length : Nat) : Int) then
   if 0 ≤ (2 : Int) ∧ (2 : Int) < ((([(⟨1, 1, 0, 0, 0⟩ : Ev), (⟨13, 0, 0, 0, 0⟩ : Ev), (⟨5, 0, 0, 0, 0⟩ : Ev), (⟨10, 0, 0, 0, 0⟩ : Ev)] : List Ev).length : Nat) : Int) then
   (abw).bind fun r3 =>
   (acH r3.1.1 ([abr ([(⟨1, 1, 0, 0, 0⟩ : Ev), (⟨13, 0, 0, 0, 0⟩ : Ev), (⟨5, 0, 0, 0, 0⟩ : Ev), (⟨10, 0, 0, 0, 0⟩ : Ev)]) 0, abr ([(⟨1, 1, 0, 0, 0⟩ : Ev), (⟨13, 0, 0, 0, 0⟩ : Ev), (⟨5, 0, 0, 0, 0⟩ : Ev), (⟨10, 0, 0, 0, 0⟩ : Ev)]) 1, abr ([(⟨1, 1, 0, 0, 0⟩ : Ev), (⟨13, 0, 0, 0, 0⟩ : Ev), (⟨5, 0, 0, 0, 0⟩ : Ev), (⟨10, 0, 0, 0, 0⟩ : Ev)]) 2, abr ([(⟨1, 1, 0, 0, 0⟩ : Ev), (⟨13, 0, 0, 0, 0⟩ : Ev), (⟨5, 0, 0, 0, 0⟩ : Ev), (⟨10, 0, 0, 0, 0⟩ : Ev)]) 2])).bind fun r4 =>
   if r2.1.1 = 4 then
   if r2.1.2.1 = 0 then
   if r4.1.1 = 3 then
   some ((decide (r4.1.2.1 = 6), ()), (()))
   else
   some ((false, ()), (()))
   else
   some ((false, ()), (()))
   else
   some ((false, ()), (()))
   else none
   else none
  else none
 else none
noncomputable abbrev acY : Con SR1 := ⟨8, [], [.sh .b], fun x => abz ⟩
theorem aeS  : acj  = abz  := by
  unfold acj abz
  simp only [if_true, aeK, acS]
  try rfl
theorem aeR : CO Try.prog acY := ako aed fun x out hx => (show acM.spec x = some out from (aeS ).trans hx)
noncomputable def abi (y0 : Cfg) (y1 : List Ev) : Option ((Bool × Unit) × (Unit)) :=
 (acH y0 y1).bind fun r1 =>
 (acm y0 y1).bind fun r2 =>
 (aaY y0 y1).bind fun r3 =>
 if r1.1.1 ≠ r3.1.2.1 then
  some ((false, ()), (()))
 else
 if r1.1.2.1 ≠ r3.1.2.2.1 then
  some ((false, ()), (()))
 else
 if r2.1.2.1 ≠ r3.1.2.1 then
  some ((false, ()), (()))
 else
 if r2.1.2.2.1 ≠ r3.1.2.2.1 then
  some ((false, ()), (()))
 else
 if ((r2.1.1.length : Nat) : Int) ≠ ((r3.1.1.length : Nat) : Int) then
  some ((false, ()), (()))
 else
 (lpF (σ := Int × Unit) (β := (Int × Unit) ⊕ ((Bool × Unit) × (Unit))) (fun self6 x4 =>
  if x4.1 < ((r2.1.1.length : Nat) : Int) then
   if 0 ≤ x4.1 ∧ x4.1 < ((r2.1.1.length : Nat) : Int) then
   if 0 ≤ x4.1 ∧ x4.1 < ((r3.1.1.length : Nat) : Int) then
   if ¬ (((alK r2.1.1 x4.1).phase) = ((alL r3.1.1 x4.1).phase) ∧ ((alK r2.1.1 x4.1).level) = ((alL r3.1.1 x4.1).level) ∧ ((alK r2.1.1 x4.1).parent) = ((alL r3.1.1 x4.1).parent) ∧ ((alK r2.1.1 x4.1).worker) = ((alL r3.1.1 x4.1).worker) ∧ ((alK r2.1.1 x4.1).other) = ((alL r3.1.1 x4.1).other) ∧ True) then
   Option.map Sum.inr (
   some ((false, ()), (()))
   )
   else
   self6 (wi (x4.1 + 1), ())
   else none
   else none
  else
  some (Sum.inl (x4.1, ()))
 ) 18446744073709551616 (0, ())).bind fun z5 => match z5 with
 | .inr o7 => some o7
 | .inl z5 =>
 some ((true, ()), (()))
noncomputable abbrev acZ : Con SR1 := ⟨9, [.val 13, .sh (.ro 2)], [.sh .b], fun x => abi x.1 x.2.1⟩
theorem aeT : CO Try.prog acZ := abC abx Try.func9 [ae9, aev, acR] ⟨agb, afN, aep, trivial⟩ [] trivial (fun _ => []) [(7, .loopR [.rg 13 sI_] 18446744073709551616 0)] fun x => by kernel_rfl
noncomputable def ab6 (y0 : Cfg) (y1 : List Ev) (y2 : List Int) (y3 : List Int) : Option ((Bool × Unit) × (Unit)) :=
 (abZ y0).bind fun r1 =>
 if (!r1.1.1) = true then
  some ((true, ()), (()))
 else
 if 200 < ((y1.length : Nat) : Int) then
  some ((true, ()), (()))
 else
 (ak6 y2 ([y3])).bind fun r2 =>
 if (!r2.1.1) = true then
  some ((true, ()), (()))
 else
 (aiI y2).bind fun r3 =>
 (lpF (σ := List Ev × Int × Unit) (β := List Ev × Int × Unit) (fun self6 x4 =>
  if (wi (x4.2.1 + 1)) < ((y3.length : Nat) : Int) then
   (aaU y3 x4.2.1 19).bind fun r7 =>
   if r3.1.1.workers = r3.1.1.workers then
   (aaU y3 (wi (x4.2.1 + 1)) (wi (r3.1.1.workers + 1))).bind fun r8 =>
   (aaU y3 (wi (x4.2.1 + 1)) 3).bind fun r9 =>
   (aaU y3 x4.2.1 3).bind fun r10 =>
   (aaU y3 (wi (x4.2.1 + 1)) 2).bind fun r11 =>
   if (((x4.1.length + ([(⟨wi (1 + r7.1.1), r8.1.1, r9.1.1, r10.1.1, r11.1.1⟩ : Ev)] : List Ev).length : Nat)) : Int) < 1000000000000 then
   self6 (x4.1 ++ ([(⟨wi (1 + r7.1.1), r8.1.1, r9.1.1, r10.1.1, r11.1.1⟩ : Ev)]), wi (x4.2.1 + 2), ())
   else none
   else none
  else
  some (x4.1, x4.2.1, ())
 ) 18446744073709551616 ([], 0, ())).bind fun z5 =>
 (abz).bind fun r12 =>
 if r12.1.1 = true then
  (abi y0 y1).bind fun r13 =>
  if r13.1.1 = true then
   (abi r3.1.1 y1).bind fun r14 =>
   if r14.1.1 = true then
   (abi r3.1.1 z5.1).bind fun r15 =>
   some ((r15.1.1, ()), (()))
   else
   some ((false, ()), (()))
  else
  some ((false, ()), (()))
 else
 some ((false, ()), (()))
noncomputable abbrev aec : Con SR1 := ⟨3, [.val 13, .sh (.ro 2), .sh (.ro 17), .sh (.ro 1)], [.sh .b], fun x => ab6 x.1 x.2.1 x.2.2.1 x.2.2.2.1⟩
theorem ad5 : CO Try.prog aec := abC abx Try.func3 [acX, ak5, ahA, ac0, acY, acZ] ⟨aeQ, amJ, ah6, aeU, aeR, aeT, trivial⟩ [] trivial (fun _ => []) [(6, .loop [.rg 10 (.row 2), .rg 11 sI_] 18446744073709551616 0)] fun x => by kernel_rfl
end
section
open Go Go.RowKit
set_option maxRecDepth 1000000
theorem aar {α β : Type} (a : α) (f : α → Option β) : (some a).bind f = f a := rfl
variable [Tb]
section
variable {s : SyP} {k w t o l : Int}
def rgP (c : Cfg) (k w t o l : Int) : Prop :=
  (if k = 2 ∨ k = 16 ∨ k = 17 ∨ k = 18 then t = 0 else 0 ≤ t ∧ t < c.tasks) ∧
  (if k = 1 ∨ k = 3 ∨ k = 7 ∨ k = 11 ∨ k = 12 ∨ k = 14 ∨ k = 19 then 0 ≤ l ∧ l < c.levels else if k = 2 then True else l = 0) ∧
  (if k = 3 ∨ k = 6 ∨ k = 8 then 0 ≤ o ∧ o < c.tasks else if k = 14 ∨ k = 18 then 0 ≤ o ∧ o < c.workers else if k = 1 ∨ k = 2 ∨ k = 17 then True else o = 0) ∧
  (if k = 1 ∨ k = 2 then w = c.workers else if k = 18 then 0 ≤ w ∧ w ≤ c.workers else 0 ≤ w ∧ w < c.workers)
theorem amc (h : k < 1) : aai s ⟨k, w, t, o, l⟩ = some ((false, ()), (s, ())) := by
  unfold aai
  exact if_pos h
theorem ame (h : 19 < k) : aai s ⟨k, w, t, o, l⟩ = some ((false, ()), (s, ())) := by
  unfold aai
  exact (if_neg (show ¬ k < 1 by omega)).trans (if_pos (show ((19 : Nat) : Int) < k by omega))
set_option maxHeartbeats 4000000 in
theorem amd (h1 : 1 ≤ k) (h2 : k ≤ 19) : ∃ b, aai s ⟨k, w, t, o, l⟩ = some ((b, ()), (s, ())) ∧ (b = true ↔ rgP s.c k w t o l) := by
  obtain ⟨n, hn⟩ : ∃ n : Nat, n < 19 ∧ k = (n : Int) + 1 := ⟨(k - 1).toNat, by omega, by omega⟩
  obtain ⟨hn, rfl⟩ := hn
  unfold aai rgP
  rcases n with _ | _ | _ | _ | _ | _ | _ | _ | _ | _ | _ | _ | _ | _ | _ | _ | _ | _ | _ | n
  all_goals first | exact absurd hn (by omega) | skip
  all_goals clear h1 h2 hn
  all_goals simp (config := { decide := true }) only [if_true, if_false, aar]
  all_goals repeat' split
  all_goals (try simp only [aar, if_true, if_false, decide_eq_true_eq, Bool.false_eq_true])
  all_goals repeat' split
  all_goals (try simp only [aar, if_true, if_false, decide_eq_true_eq, Bool.false_eq_true])
  all_goals repeat' split
  all_goals (refine ⟨_, rfl, ?_⟩; simp only [decide_eq_true_eq, Bool.false_eq_true, true_and, and_true, true_iff, false_iff] at *; omega)
end
end
section
open Go Go.RowKit
set_option maxRecDepth 1000000
variable [Tb]
section
variable {s : SaV} {k w t o l : Int}
def rgR (c : Cfg) (k w t o l : Int) : Prop :=
  (if k = 2 ∨ k = 16 ∨ k = 17 ∨ k = 18 then t = 0 else 0 ≤ t ∧ t < c.tasks) ∧
  (if k = 1 ∨ k = 3 ∨ k = 7 ∨ k = 11 ∨ k = 12 ∨ k = 14 ∨ k = 19 then 0 ≤ l ∧ l < c.levels else if k = 2 then True else l = 0) ∧
  (if k = 3 ∨ k = 6 ∨ k = 8 then 0 ≤ o ∧ o < c.tasks else if k = 1 ∨ k = 2 ∨ k = 17 ∨ k = 14 ∨ k = 18 then True else o = 0) ∧
  (if k = 1 ∨ k = 2 then w = c.workers ∨ (0 ≤ w ∧ w < c.workers) else if k = 18 then 0 ≤ w ∧ w ≤ c.workers else 0 ≤ w ∧ w < c.workers)
theorem aqq (h : k < 1) : aaf s ⟨k, w, t, o, l⟩ = some ((false, ()), (s, ())) := by
  unfold aaf
  exact if_pos h
theorem aqs (h : 19 < k) : aaf s ⟨k, w, t, o, l⟩ = some ((false, ()), (s, ())) := by
  unfold aaf
  exact (if_neg (show ¬ k < 1 by omega)).trans (if_pos h)
theorem ajb {α : Type} {d : α} {xs : List α} {i : Int} (h : 0 ≤ i ∧ i < (xs.length : Int)) : xs.set i.toNat (atL d xs i) = xs := by
  have h1 : i.toNat < xs.length := by omega
  have h2 : xs[i.toNat]? = some (atL d xs i) := abV h
  apply List.ext_getElem?
  intro j
  by_cases e : i.toNat = j
  · subst e; rw [List.getElem?_set_self h1, h2]
  · rw [List.getElem?_set_ne e]
set_option maxHeartbeats 4000000 in
theorem aqr (h1 : 1 ≤ k) (h2 : k ≤ 19) (ht : ((s.tasks.length : Nat) : Int) = s.c.tasks) (hw : ((s.works.length : Nat) : Int) = s.c.workers) :
    ∃ b, aaf s ⟨k, w, t, o, l⟩ = some ((b, ()), (s, ())) ∧ (b = true ↔ rgR s.c k w t o l ∧ ((0 ≤ w ∧ w < s.c.workers) → (aac s.works w).sleeps = decide (k = 17))) := by
  obtain ⟨n, hn⟩ : ∃ n : Nat, n < 19 ∧ k = (n : Int) + 1 := ⟨(k - 1).toNat, by omega, by omega⟩
  obtain ⟨hn, rfl⟩ := hn
  unfold aaf acK rgR
  rcases n with _ | _ | _ | _ | _ | _ | _ | _ | _ | _ | _ | _ | _ | _ | _ | _ | _ | _ | _ | n
  all_goals first | exact absurd hn (by omega) | skip
  all_goals clear h1 h2 hn
  all_goals simp (config := { decide := true }) only [if_true, if_false, aar, ht, hw]
  all_goals clear ht
  all_goals generalize hS : (aac s.works w).sleeps = S
  all_goals have hset : (0 ≤ w ∧ w < s.c.workers) → s.works.set w.toNat (aac s.works w) = s.works := fun h => ajb (α := WlV) (xs := s.works) (d := (dfR 62 : WlV)) ⟨h.1, by have h2 := h.2; rw [← hw] at h2; exact h2⟩
  all_goals repeat' split
  all_goals (try simp only [aar, if_true, if_false, decide_eq_true_eq, Bool.false_eq_true, hS, hw])
  all_goals repeat' split
  all_goals (try simp only [aar, if_true, if_false, decide_eq_true_eq, Bool.false_eq_true, hS, hw])
  all_goals repeat' split
  all_goals (first
    | (refine ⟨_, rfl, ?_⟩; simp only [decide_eq_true_eq, Bool.false_eq_true, true_and, and_true, true_iff, false_iff] at *; omega)
    | (exfalso; omega)
    | (rw [hset ⟨by omega, by omega⟩]; refine ⟨_, rfl, ?_⟩; rw [decide_eq_true_eq]; exact ⟨fun e => ⟨by (try simp only [true_and, and_true]); omega, fun _ => e⟩, fun h => h.2 ⟨by omega, by omega⟩⟩)
    | skip)
end
theorem lpS {σ β : Type} (F : (σ → Option β) → σ → Option β) (k : Nat) (x : σ) : lpF F (k + 1) x = F (lpF F k) x := rfl
section
variable {i : Int}
theorem aa8 {xs : List TkP} (h : 0 ≤ i ∧ i < (xs.length : Int)) : xs.set i.toNat (aab xs i) = xs := ajb h
theorem aa2 {xs : List WkP} (h : 0 ≤ i ∧ i < (xs.length : Int)) : xs.set i.toNat (aad xs i) = xs := ajb h
theorem aaF {xs : List TkV} (h : 0 ≤ i ∧ i < (xs.length : Int)) : xs.set i.toNat (aaa xs i) = xs := ajb h
theorem aaC {xs : List WlV} (h : 0 ≤ i ∧ i < (xs.length : Int)) : xs.set i.toNat (aac xs i) = xs := ajb h
theorem anx {α : Type} {d : α} {xs : List α} {v : α} (h : 0 ≤ i ∧ i < (xs.length : Int)) : atL d (xs.set i.toNat v) i = v := by
  unfold atL
  rw [List.getElem?_set_self (by omega)]; rfl
theorem ahg {α : Type} {d : α} {xs : List α} {v : α} {j : Int} (hi : 0 ≤ i) (hj : 0 ≤ j) (h : i ≠ j) : atL d (xs.set i.toNat v) j = atL d xs j := by
  unfold atL
  rw [List.getElem?_set_ne (by omega)]
theorem agp {xs : List TkP} {v : TkP} (h : 0 ≤ i ∧ i < (xs.length : Int)) : aab (xs.set i.toNat v) i = v := anx h
theorem agu {xs : List WkP} {v : WkP} (h : 0 ≤ i ∧ i < (xs.length : Int)) : aad (xs.set i.toNat v) i = v := anx h
theorem ac9 {xs : List TkV} {v : TkV} (h : 0 ≤ i ∧ i < (xs.length : Int)) : aaa (xs.set i.toNat v) i = v := anx h
theorem ads {xs : List WlV} {v : WlV} (h : 0 ≤ i ∧ i < (xs.length : Int)) : aac (xs.set i.toNat v) i = v := anx h
end
noncomputable def adg (s : List Int) : Int := if (s.length : Int) = 0 then -1 else aaQ s ((s.length : Int) - 1)
def anM (s : List Int) (walks : Bool) : Bool := if (s.length : Int) = 0 then !walks else false
theorem adK {x : WkP} (h : x.stack.length ≤ 1000000) : aaO x = some ((adg x.stack, ()), (x, ())) := by
  unfold aaO adg
  have e1 : wi ((x.stack.length : Int) - 1) = (x.stack.length : Int) - 1 := abR (aaZ (by omega))
  rw [e1]
  split
  · rfl
  · rw [if_pos (by omega)]
theorem aaW {x : WkP} : aaG x = some ((anM x.stack x.walks, ()), (x, ())) := by
  unfold aaG anM
  split <;> rfl
noncomputable def chV (kids : List Int) (a : Int) : Int := if a < 0 then -1 else if (kids.length : Int) ≤ a then -1 else aaQ kids a
theorem ab5 {x : TkP} {a : Int} : abv x a = some ((chV x.kids a, ()), (x, ())) := by
  unfold abv chV
  split
  · rfl
  · split
    · rfl
    · rw [if_pos (by omega)]
noncomputable def afK (P : List Ins) (kids : List Int) : Nat → Int → Int × Ins × Bool
  | 0, a => (a, ⟨0, 0, 0⟩, false)
  | f + 1, a => if a < (P.length : Int) then (if (adQ P a).op = 1 then (a, adQ P a, true) else if (adQ P a).op = 2 ∧ chV kids (adQ P a).a ≠ -1 then (a, adQ P a, true) else afK P kids f (a + 1)) else (a, ⟨0, 0, 0⟩, false)
noncomputable def ajn (P : List Ins) (kids : List Int) (a : Int) : Int × Ins × Bool := afK P kids (P.length + 1) a
theorem ajo {P : List Ins} {kids : List Int} : ∀ {f : Nat} {a : Int}, 0 ≤ a → (P.length : Int) + 1 - a ≤ f → a ≤ (P.length : Int) →
    (a ≤ (afK P kids f a).1 ∧ (afK P kids f a).1 ≤ (P.length : Int)) ∧ ((afK P kids f a).2.2 = true → (afK P kids f a).1 < (P.length : Int) ∧ (afK P kids f a).2.1 = adQ P (afK P kids f a).1)
  | 0, a, h0, h1, h2 => ⟨⟨Int.le_refl _, h2⟩, fun h => by cases h⟩
  | f + 1, a, h0, h1, h2 => by
    unfold afK
    split
    · rename_i hlt
      split
      · exact ⟨⟨Int.le_refl _, h2⟩, fun _ => ⟨hlt, rfl⟩⟩
      · split
        · exact ⟨⟨Int.le_refl _, h2⟩, fun _ => ⟨hlt, rfl⟩⟩
        · have ih := ajo (P := P) (kids := kids) (f := f) (a := a + 1) (by omega) (by omega) (by omega)
          exact ⟨⟨by omega, ih.1.2⟩, ih.2⟩
    · exact ⟨⟨Int.le_refl _, h2⟩, fun h => by cases h⟩
theorem ahq {P : List Ins} {kids : List Int} {a : Int} (h0 : 0 ≤ a) (h2 : a ≤ (P.length : Int)) :
    (a ≤ (ajn P kids a).1 ∧ (ajn P kids a).1 ≤ (P.length : Int)) ∧ ((ajn P kids a).2.2 = true → (ajn P kids a).1 < (P.length : Int) ∧ (ajn P kids a).2.1 = adQ P (ajn P kids a).1) := ajo h0 (by omega) h2
theorem aj9 {x : TkP} (h0 : 0 ≤ x.at_) (hn : x.prog.length ≤ 1000000) : aaz x = some (((ajn x.prog x.kids x.at_).2.1, (ajn x.prog x.kids x.at_).2.2, ()), ({ x with at_ := (ajn x.prog x.kids x.at_).1 }, ())) := by
  unfold aaz
  generalize hF : (fun (self3 : Ins × TkP × Unit → Option ((Ins × TkP × Unit) ⊕ ((Ins × Bool × Unit) × (TkP × Unit)))) (x1 : Ins × TkP × Unit) => _) = F
  have run : ∀ (f k : Nat) (a : Int) (z : Ins), 0 ≤ a → (x.prog.length : Int) + 1 - a ≤ f → f ≤ k →
      lpF F (k + 1) (z, { x with at_ := a }, ()) = some (if (afK x.prog x.kids f a).2.2 = true then .inr (((afK x.prog x.kids f a).2.1, true, ()), ({ x with at_ := (afK x.prog x.kids f a).1 }, ())) else .inl (z, { x with at_ := (afK x.prog x.kids f a).1 }, ())) ∧ ((afK x.prog x.kids f a).2.2 = false → (afK x.prog x.kids f a).2.1 = ⟨0, 0, 0⟩) := by
    intro f
    induction f with
    | zero =>
      intro k a z h1 h2 h3
      rw [lpS]
      subst hF
      refine ⟨?_, fun _ => rfl⟩
      exact if_neg (show ¬ a < (x.prog.length : Int) by omega)
    | succ f ih =>
      intro k a z h1 h2 h3
      obtain ⟨k, rfl⟩ : ∃ k', k = k' + 1 := ⟨k - 1, by omega⟩
      rw [lpS]
      have ih' := ih k (a + 1) z (by omega) (by omega) (by omega)
      generalize lpF F (k + 1) = self at *
      subst hF
      unfold afK
      by_cases hlt : a < (x.prog.length : Int)
      · have e1 : wi (a + 1) = a + 1 := abR (aaZ (by omega))
        simp only [hlt, h1, and_self, if_true, ab5, aar, e1]
        by_cases o1 : (adQ x.prog a).op = 1
        · simp only [o1, if_true]
          exact ⟨rfl, fun h => by cases h⟩
        · simp only [o1, if_false]
          by_cases o2 : (adQ x.prog a).op = 2
          · simp only [o2, if_true, true_and]
            by_cases o3 : chV x.kids (adQ x.prog a).a ≠ -1
            · simp only [if_pos o3]
              exact ⟨rfl, fun h => by cases h⟩
            · simp only [if_neg o3]
              exact ih'
          · simp only [o2, if_false, false_and]
            exact ih'
      · simp only [if_neg hlt]
        exact ⟨rfl, fun _ => by trivial⟩
  obtain ⟨r1, r2⟩ := run (x.prog.length + 1) 18446744073709551615 x.at_ ⟨0, 0, 0⟩ h0 (by omega) (by omega)
  have r1 : lpF F 18446744073709551616 (⟨0, 0, 0⟩, x, ()) = _ := r1
  rw [r1]
  unfold ajn
  cases hb : (afK x.prog x.kids (x.prog.length + 1) x.at_).2.2 with
  | true => rw [if_pos rfl]; rfl
  | false => rw [if_neg (by decide), r2 hb]; rfl
def alI (pa : Int → Int) (x : Int) : Nat → Int → Bool
  | 0, _ => false
  | n + 1, t => if pa t = -1 then false else if pa t = x then true else alI pa x n (pa t)
end
section
open Go Go.RowKit
set_option maxRecDepth 3000
variable [Tb]
def viP (x : TkP) : Int × Int × Int × Int := (x.ph, x.lv, x.pa, x.wt)
structure SameV (p q : SyP) : Prop where
  t : q.tasks.map viP = p.tasks.map viP
  w : q.works.map (·.stack) = p.works.map (·.stack)
  c : q.c = p.c
structure PO (p : SyP) : Prop where
  tl : (p.tasks.length : Int) = p.c.tasks
  wl : (p.works.length : Int) = p.c.workers + 1
  stk : ∀ w, 0 ≤ w ∧ w < (p.works.length : Int) → (aad p.works w).stack.length ≤ 1000000
  kid : ∀ t, 0 ≤ t ∧ t < (p.tasks.length : Int) → (aab p.tasks t).kids.length ≤ 1000000
  prg : ∀ t, 0 ≤ t ∧ t < (p.tasks.length : Int) → (aab p.tasks t).prog.length ≤ 1000000
  at0 : ∀ t, 0 ≤ t ∧ t < (p.tasks.length : Int) → 0 ≤ (aab p.tasks t).at_ ∧ (aab p.tasks t).at_ ≤ ((aab p.tasks t).prog.length : Int)
def PS (p : SyP) (e : Ev) (C : Prop) (p' : SyP) : Prop := ∃ b q, aah p e = some ((b, ()), (q, ())) ∧ (b = true → C ∧ q = p') ∧ (b = false → ¬ C ∧ SameV p q)
section
variable {p : SyP} {w t o l : Int}
theorem aja {α β : Type} {d : α} {f : α → β} {xs : List α} {i : Int} {x : α} (h : 0 ≤ i ∧ i < (xs.length : Int)) (e : f x = f (atL d xs i)) : (xs.set i.toNat x).map f = xs.map f := by
  rw [List.map_set, e, ← List.map_set]
  exact congrArg _ (ajb h)
theorem aiB {C : Prop} {p' q : SyP} (h : C) (e : q = p') : ∃ b q', some ((true, ()), (q, ())) = some ((b, ()), (q', ())) ∧ (b = true → C ∧ q' = p') ∧ (b = false → ¬ C ∧ SameV p q') := ⟨_, _, rfl, fun _ => ⟨h, e⟩, (fun h => nomatch h)⟩
theorem afz {C : Prop} {p' q : SyP} (h : ¬ C) (e : SameV p q) : ∃ b q', some ((false, ()), (q, ())) = some ((b, ()), (q', ())) ∧ (b = true → C ∧ q' = p') ∧ (b = false → ¬ C ∧ SameV p q') := ⟨_, _, rfl, (fun h => nomatch h), fun _ => ⟨h, e⟩⟩
theorem abq : SameV p p := ⟨rfl, rfl, rfl⟩
theorem al0 {k : CtP} {n m : Int} : SameV p { p with queue := k, offers := n, known := m } := ⟨rfl, rfl, rfl⟩
theorem ajd (ht : 0 ≤ t ∧ t < (p.tasks.length : Int)) {x : TkP} (h : viP x = viP (aab p.tasks t)) : SameV p { p with tasks := p.tasks.set t.toNat x } := ⟨aja (d := (dfR 70 : TkP)) ht h, rfl, rfl⟩
theorem apa (hw : 0 ≤ w ∧ w < (p.works.length : Int)) {x : WkP} (h : x.stack = (aad p.works w).stack) : SameV p { p with works := p.works.set w.toNat x } := ⟨rfl, aja (d := (dfR 71 : WkP)) (f := fun (x : WkP) => x.stack) hw h, rfl⟩
theorem auh (hP : PO p) (hw : 0 ≤ w ∧ w < (p.works.length : Int)) (ht : 0 ≤ t ∧ t < (p.tasks.length : Int)) (hr : aai p ⟨12, w, t, o, l⟩ = some ((true, ()), (p, ()))) (hs : (aad p.works w).sleeps = false) :
    PS p ⟨12, w, t, o, l⟩ (1 ≤ p.c.age ∧ anM (aad p.works w).stack (aad p.works w).walks = true ∧ (aab p.tasks t).ph ≠ 0 ∧ l = wi ((aab p.tasks t).lv + 1)) { p with tasks := p.tasks.set t.toNat { aab p.tasks t with lv := l }, works := p.works.set w.toNat { aad p.works w with last := ⟨12, w, t, o, l⟩ } } := by
  have hk := hP.stk w hw
  unfold PS aah
  rw [hr]
  simp only [aar, Int.reduceEq, if_true, if_false, hw, ht, and_self, aa8 ht, aa2 hw, List.set_set, List.length_set, agp ht, agu hw, aaW, ne_eq, not_true_eq_false, not_false_eq_true, true_and, and_true, decide_true, decide_false, reduceCtorEq, Bool.not_true, Bool.false_eq_true, Bool.not_eq_true', hs]
  repeat' split
  all_goals first
    | exact aiB (by first | exact True.intro | (simp_all; done) | (simp_all; intros; omega)) rfl
    | exact afz (by first | exact True.intro | (simp_all; done) | (simp_all; intros; omega)) (abq)
theorem auf (hP : PO p) (hw : 0 ≤ w ∧ w < (p.works.length : Int)) (ht : 0 ≤ t ∧ t < (p.tasks.length : Int)) (hr : aai p ⟨14, w, t, o, l⟩ = some ((true, ()), (p, ()))) (hs : (aad p.works w).sleeps = false) :
    PS p ⟨14, w, t, o, l⟩ (anM (aad p.works w).stack (aad p.works w).walks = true ∧ o ≠ w ∧ (aab p.tasks t).ph ≠ 0) { p with works := p.works.set w.toNat { aad p.works w with last := ⟨14, w, t, o, l⟩ } } := by
  have hk := hP.stk w hw
  unfold PS aah
  rw [hr]
  simp only [aar, Int.reduceEq, if_true, if_false, hw, ht, and_self, aa8 ht, aa2 hw, List.set_set, List.length_set, agp ht, agu hw, aaW, ne_eq, not_true_eq_false, not_false_eq_true, true_and, and_true, decide_true, decide_false, reduceCtorEq, Bool.not_true, Bool.false_eq_true, Bool.not_eq_true', hs]
  repeat' split
  all_goals first
    | exact aiB (by first | exact True.intro | (simp_all; done) | (simp_all; intros; omega)) rfl
    | exact afz (by first | exact True.intro | (simp_all; done) | (simp_all; intros; omega)) (abq)
theorem aue (hP : PO p) (hw : 0 ≤ w ∧ w < (p.works.length : Int)) (ht : 0 ≤ t ∧ t < (p.tasks.length : Int)) (hr : aai p ⟨15, w, t, o, l⟩ = some ((true, ()), (p, ()))) (hs : (aad p.works w).sleeps = false) :
    PS p ⟨15, w, t, o, l⟩ ((aab p.tasks t).ph ≠ 0 ∧ (aab p.tasks t).ph ≠ 1) { p with works := p.works.set w.toNat { aad p.works w with last := ⟨15, w, t, o, l⟩ } } := by
  have hk := hP.stk w hw
  unfold PS aah
  rw [hr]
  simp only [aar, Int.reduceEq, if_true, if_false, hw, ht, and_self, aa8 ht, aa2 hw, List.set_set, List.length_set, agp ht, agu hw, aaW, ne_eq, not_true_eq_false, not_false_eq_true, true_and, and_true, decide_true, decide_false, reduceCtorEq, Bool.not_true, Bool.false_eq_true, Bool.not_eq_true', hs]
  repeat' split
  all_goals first
    | exact aiB (by first | exact True.intro | (simp_all; done) | (simp_all; intros; omega)) rfl
    | exact afz (by first | exact True.intro | (simp_all; done) | (simp_all; intros; omega)) (abq)
theorem aud (hP : PO p) (hw : 0 ≤ w ∧ w < (p.works.length : Int)) (ht : 0 ≤ t ∧ t < (p.tasks.length : Int)) (hr : aai p ⟨16, w, t, o, l⟩ = some ((true, ()), (p, ()))) (hs : (aad p.works w).sleeps = false) :
    PS p ⟨16, w, t, o, l⟩ (anM (aad p.works w).stack (aad p.works w).walks = true) { p with works := p.works.set w.toNat { aad p.works w with sleeps := true, last := ⟨16, w, t, o, l⟩ } } := by
  have hk := hP.stk w hw
  unfold PS aah
  rw [hr]
  simp only [aar, Int.reduceEq, if_true, if_false, hw, ht, and_self, aa8 ht, aa2 hw, List.set_set, List.length_set, agp ht, agu hw, aaW, ne_eq, not_true_eq_false, not_false_eq_true, true_and, and_true, decide_true, decide_false, reduceCtorEq, Bool.not_true, Bool.false_eq_true, Bool.not_eq_true', hs]
  repeat' split
  all_goals first
    | exact aiB (by first | exact True.intro | (simp_all; done) | (simp_all; intros; omega)) (by simp_all)
    | exact afz (by first | exact True.intro | (simp_all; done) | (simp_all; intros; omega)) (apa hw rfl)
theorem auc (hP : PO p) (hw : 0 ≤ w ∧ w < (p.works.length : Int)) (ht : 0 ≤ t ∧ t < (p.tasks.length : Int)) (hr : aai p ⟨17, w, t, o, l⟩ = some ((true, ()), (p, ()))) (hs : (aad p.works w).sleeps = true) :
    PS p ⟨17, w, t, o, l⟩ (o = 1 ∨ o = 2) { p with works := p.works.set w.toNat { aad p.works w with sleeps := false, last := ⟨17, w, t, o, l⟩ } } := by
  have hk := hP.stk w hw
  unfold PS aah
  rw [hr]
  simp only [aar, Int.reduceEq, if_true, if_false, hw, ht, and_self, aa8 ht, aa2 hw, List.set_set, List.length_set, agp ht, agu hw, aaW, ne_eq, not_true_eq_false, not_false_eq_true, true_and, and_true, decide_true, decide_false, reduceCtorEq, Bool.not_true, Bool.false_eq_true, Bool.not_eq_true', hs]
  repeat' split
  all_goals first
    | exact aiB (by omega) (by simp_all)
    | exact afz (by omega) (apa hw rfl)
theorem atF (hP : PO p) (hw : 0 ≤ w ∧ w < (p.works.length : Int)) (ht : 0 ≤ t ∧ t < (p.tasks.length : Int)) (hr : aai p ⟨18, w, t, o, l⟩ = some ((true, ()), (p, ()))) (hs : (aad p.works w).sleeps = false) :
    PS p ⟨18, w, t, o, l⟩ (True) { p with works := p.works.set w.toNat { aad p.works w with last := ⟨18, w, t, o, l⟩ } } := by
  have hk := hP.stk w hw
  unfold PS aah
  rw [hr]
  simp only [aar, Int.reduceEq, if_true, if_false, hw, ht, and_self, aa8 ht, aa2 hw, List.set_set, List.length_set, agp ht, agu hw, aaW, ne_eq, not_true_eq_false, not_false_eq_true, true_and, and_true, decide_true, decide_false, reduceCtorEq, Bool.not_true, Bool.false_eq_true, Bool.not_eq_true', hs]
  exact ⟨_, _, rfl, (fun _ => rfl), (fun h => nomatch h)⟩
theorem aub (hP : PO p) (hw : 0 ≤ w ∧ w < (p.works.length : Int)) (ht : 0 ≤ t ∧ t < (p.tasks.length : Int)) (hr : aai p ⟨19, w, t, o, l⟩ = some ((true, ()), (p, ()))) (hs : (aad p.works w).sleeps = false) :
    PS p ⟨19, w, t, o, l⟩ ((aab p.tasks t).ph ≠ 0) { p with works := p.works.set w.toNat { aad p.works w with last := ⟨19, w, t, o, l⟩ } } := by
  have hk := hP.stk w hw
  unfold PS aah
  rw [hr]
  simp only [aar, Int.reduceEq, if_true, if_false, hw, ht, and_self, aa8 ht, aa2 hw, List.set_set, List.length_set, agp ht, agu hw, aaW, ne_eq, not_true_eq_false, not_false_eq_true, true_and, and_true, decide_true, decide_false, reduceCtorEq, Bool.not_true, Bool.false_eq_true, Bool.not_eq_true', hs]
  repeat' split
  all_goals first
    | exact aiB (by first | exact True.intro | (simp_all; done) | (simp_all; intros; omega)) rfl
    | exact afz (by first | exact True.intro | (simp_all; done) | (simp_all; intros; omega)) (abq)
theorem pk7 (hP : PO p) (hw : 0 ≤ w ∧ w < (p.works.length : Int)) (ht : 0 ≤ t ∧ t < (p.tasks.length : Int)) (hr : aai p ⟨7, w, t, o, l⟩ = some ((true, ()), (p, ()))) (hs : (aad p.works w).sleeps = false) :
    PS p ⟨7, w, t, o, l⟩ ((aad p.works w).walks = true ∧ (aad p.works w).walk = t ∧ (aad p.works w).low ≤ l ∧ l ≤ (aab p.tasks t).lv ∧ ((aad p.works w).up ≠ -1 → (aad p.works w).up = l)) { p with works := p.works.set w.toNat { aad p.works w with walks := false, last := ⟨7, w, t, o, l⟩ } } := by
  have hk := hP.stk w hw
  unfold PS aah
  rw [hr]
  simp only [aar, Int.reduceEq, if_true, if_false, hw, ht, and_self, aa8 ht, aa2 hw, List.set_set, List.length_set, agp ht, agu hw, aaW, ne_eq, not_true_eq_false, not_false_eq_true, true_and, and_true, decide_true, decide_false, reduceCtorEq, Bool.not_true, Bool.false_eq_true, Bool.not_eq_true', hs]
  repeat' split
  all_goals first
    | exact aiB (by first | exact True.intro | (simp_all; done) | (simp_all; intros; omega)) rfl
    | exact afz (by first | exact True.intro | (simp_all; done) | (simp_all; intros; omega)) (abq)
theorem pk5 (hP : PO p) (hw : 0 ≤ w ∧ w < (p.works.length : Int)) (ht : 0 ≤ t ∧ t < (p.tasks.length : Int)) (hr : aai p ⟨5, w, t, o, l⟩ = some ((true, ()), (p, ()))) (hs : (aad p.works w).sleeps = false) :
    PS p ⟨5, w, t, o, l⟩ ((aab p.tasks t).ph = 1 ∧ ((anM (aad p.works w).stack (aad p.works w).walks = true) ∨ (aad p.works w).last.kind = 3 ∧ (aad p.works w).last.task = t)) { p with tasks := p.tasks.set t.toNat { aab p.tasks t with ph := 2, wt := -1 }, works := p.works.set w.toNat { aad p.works w with stack := (aad p.works w).stack ++ [t], last := ⟨5, w, t, o, l⟩ } } := by
  have hk := hP.stk w hw
  unfold PS aah
  rw [hr]
  have hk2 : (((aad p.works w).stack.length + ([t] : List Int).length : Nat) : Int) < 1000000000000 := by simp only [List.length_singleton]; omega
  simp only [aar, Int.reduceEq, if_true, if_false, hw, ht, and_self, aa8 ht, aa2 hw, List.set_set, List.length_set, agp ht, agu hw, aaW, ne_eq, not_true_eq_false, not_false_eq_true, true_and, and_true, decide_true, decide_false, reduceCtorEq, Bool.not_true, Bool.false_eq_true, Bool.not_eq_true', hs, hk2]
  repeat' split
  all_goals first
    | exact aiB (by first | exact True.intro | (simp_all; done) | (simp_all; intros; omega)) rfl
    | exact afz (by first | exact True.intro | (simp_all; done) | (simp_all; intros; omega)) (abq)
end
noncomputable def prT (x : TkP) : Int × Ins × Bool := ajn x.prog x.kids x.at_
def ajs (s : List Int) : List Int := s.take ((s.length : Int) - 1).toNat
section
variable {p : SyP} {w t o l : Int}
theorem ajp (hP : PO p) (ht : 0 ≤ t ∧ t < (p.tasks.length : Int)) : aaz (aab p.tasks t) = some (((prT (aab p.tasks t)).2.1, (prT (aab p.tasks t)).2.2, ()), ({ aab p.tasks t with at_ := (prT (aab p.tasks t)).1 }, ())) := aj9 (hP.at0 t ht).1 (hP.prg t ht)
theorem ajr {s : List Int} (h : adg s = t) (ht : 0 ≤ t) (hl : s.length ≤ 1000000) : wi ((s.length : Int) - 1) = (s.length : Int) - 1 ∧ 0 ≤ (s.length : Int) - 1 ∧ (s.length : Int) - 1 ≤ (s.length : Int) := by
  unfold adg at h
  have : ¬ (s.length : Int) = 0 := fun e => by rw [if_pos e] at h; omega
  exact ⟨abR (aaZ (by omega)), by omega, by omega⟩
theorem apf (ht : 0 ≤ t ∧ t < (p.tasks.length : Int)) (ho : 0 ≤ o ∧ o < (p.tasks.length : Int)) {x : TkP} (h : x.ph = (aab p.tasks t).ph) : (aab (p.tasks.set t.toNat x) o).ph = (aab p.tasks o).ph := by
  by_cases e : t = o
  · subst e; rw [agp ht]; exact h
  · exact congrArg TkP.ph (ahg ht.1 ho.1 e)
theorem auj (hP : PO p) (hw : 0 ≤ w ∧ w < (p.works.length : Int)) (ht : 0 ≤ t ∧ t < (p.tasks.length : Int)) (hr : aai p ⟨10, w, t, o, l⟩ = some ((true, ()), (p, ()))) (hs : (aad p.works w).sleeps = false) :
    PS p ⟨10, w, t, o, l⟩ (adg (aad p.works w).stack = t ∧ (prT (aab p.tasks t)).2.2 = false) { p with tasks := p.tasks.set t.toNat { aab p.tasks t with at_ := (prT (aab p.tasks t)).1, ph := 4 }, works := p.works.set w.toNat { aad p.works w with stack := ajs (aad p.works w).stack, last := ⟨10, w, t, o, l⟩ } } := by
  have hk := hP.stk w hw
  have hpr := ajp hP ht
  have hkk := hP.kid t ht
  unfold PS aah
  rw [hr]
  by_cases htp : adg (aad p.works w).stack = t
  · obtain ⟨q1, q2, q3⟩ := ajr htp ht.1 hk
    have hn1 : (((aab p.tasks t).kids.length + ([(-1)] : List Int).length : Nat) : Int) < 1000000000000 := by simp only [List.length_singleton]; omega
    have hn2 : (((aab p.tasks t).kids.length + ([t] : List Int).length : Nat) : Int) < 1000000000000 := by simp only [List.length_singleton]; omega
    try unfold ajs
    generalize hv : prT (aab p.tasks t) = v at *
    obtain ⟨j, i, b⟩ := v
    simp only [aar, Int.reduceEq, if_true, if_false, hw, ht, and_self, aa8, aa2, List.set_set, List.length_set, agp, agu, aaW, ne_eq, not_true_eq_false, not_false_eq_true, true_and, and_true, decide_true, decide_false, reduceCtorEq, Bool.not_true, Bool.false_eq_true, Bool.not_eq_true', hs, adK hk, ab5, htp, hpr, q1, q2, q3, hn1, hn2]
    repeat' split
    all_goals first
      | exact aiB (by first | exact True.intro | (simp_all; done) | (simp_all; intros; omega)) rfl
      | exact afz (by first | exact True.intro | (simp_all; done) | (simp_all; intros; omega)) (ajd ht rfl)
  · simp only [aar, Int.reduceEq, if_true, if_false, hw, ht, and_self, aa8, aa2, List.set_set, List.length_set, agp, agu, aaW, ne_eq, not_true_eq_false, not_false_eq_true, true_and, and_true, decide_true, decide_false, reduceCtorEq, Bool.not_true, Bool.false_eq_true, Bool.not_eq_true', hs, adK hk, ab5, htp]
    exact afz (fun h => h.1) abq
theorem pk8 (hP : PO p) (hw : 0 ≤ w ∧ w < (p.works.length : Int)) (ht : 0 ≤ t ∧ t < (p.tasks.length : Int)) (ho : 0 ≤ o ∧ o < (p.tasks.length : Int)) (hr : aai p ⟨8, w, t, o, l⟩ = some ((true, ()), (p, ()))) (hs : (aad p.works w).sleeps = false) :
    PS p ⟨8, w, t, o, l⟩ (adg (aad p.works w).stack = t ∧ (prT (aab p.tasks t)).2.2 = true ∧ (prT (aab p.tasks t)).2.1.op = 2 ∧ chV (aab p.tasks t).kids (prT (aab p.tasks t)).2.1.a = o ∧ (aab p.tasks o).ph = 4) { p with tasks := p.tasks.set t.toNat { aab p.tasks t with at_ := wi ((prT (aab p.tasks t)).1 + 1) }, works := p.works.set w.toNat { aad p.works w with last := ⟨8, w, t, o, l⟩ } } := by
  have hk := hP.stk w hw
  have hpr := ajp hP ht
  have hkk := hP.kid t ht
  unfold PS aah
  rw [hr]
  by_cases htp : adg (aad p.works w).stack = t
  · obtain ⟨q1, q2, q3⟩ := ajr htp ht.1 hk
    have hn1 : (((aab p.tasks t).kids.length + ([(-1)] : List Int).length : Nat) : Int) < 1000000000000 := by simp only [List.length_singleton]; omega
    have hn2 : (((aab p.tasks t).kids.length + ([t] : List Int).length : Nat) : Int) < 1000000000000 := by simp only [List.length_singleton]; omega
    try unfold ajs
    generalize hv : prT (aab p.tasks t) = v at *
    obtain ⟨j, i, b⟩ := v
    simp only [aar, Int.reduceEq, if_true, if_false, hw, ht, and_self, aa8, aa2, List.set_set, List.length_set, agp, agu, aaW, ne_eq, not_true_eq_false, not_false_eq_true, true_and, and_true, decide_true, decide_false, reduceCtorEq, Bool.not_true, Bool.false_eq_true, Bool.not_eq_true', hs, adK hk, ab5, htp, hpr, q1, q2, q3, hn1, hn2, ho, apf ht ho]
    repeat' split
    all_goals first
      | exact aiB (by first | exact True.intro | (simp_all; done) | (simp_all; intros; omega)) rfl
      | exact afz (by first | exact True.intro | (simp_all; done) | (simp_all; intros; omega)) (ajd ht rfl)
  · simp only [aar, Int.reduceEq, if_true, if_false, hw, ht, and_self, aa8, aa2, List.set_set, List.length_set, agp, agu, aaW, ne_eq, not_true_eq_false, not_false_eq_true, true_and, and_true, decide_true, decide_false, reduceCtorEq, Bool.not_true, Bool.false_eq_true, Bool.not_eq_true', hs, adK hk, ab5, htp, ho]
    exact afz (fun h => h.1) abq
theorem pk6 (hP : PO p) (hw : 0 ≤ w ∧ w < (p.works.length : Int)) (ht : 0 ≤ t ∧ t < (p.tasks.length : Int)) (ho : 0 ≤ o ∧ o < (p.tasks.length : Int)) (hr : aai p ⟨6, w, t, o, l⟩ = some ((true, ()), (p, ()))) (hs : (aad p.works w).sleeps = false) :
    PS p ⟨6, w, t, o, l⟩ (adg (aad p.works w).stack = t ∧ (prT (aab p.tasks t)).2.2 = true ∧ (prT (aab p.tasks t)).2.1.op = 2 ∧ chV (aab p.tasks t).kids (prT (aab p.tasks t)).2.1.a = o ∧ (aab p.tasks o).ph ≠ 4) { p with tasks := p.tasks.set t.toNat { aab p.tasks t with at_ := wi ((prT (aab p.tasks t)).1 + 1), ph := 3, wt := o }, works := p.works.set w.toNat ⟨ajs (aad p.works w).stack, true, t, (aab p.tasks t).lv, -1, (aad p.works w).sleeps, ⟨6, w, t, o, l⟩⟩ } := by
  have hk := hP.stk w hw
  have hpr := ajp hP ht
  have hkk := hP.kid t ht
  unfold PS aah
  rw [hr]
  by_cases htp : adg (aad p.works w).stack = t
  · obtain ⟨q1, q2, q3⟩ := ajr htp ht.1 hk
    have hn1 : (((aab p.tasks t).kids.length + ([(-1)] : List Int).length : Nat) : Int) < 1000000000000 := by simp only [List.length_singleton]; omega
    have hn2 : (((aab p.tasks t).kids.length + ([t] : List Int).length : Nat) : Int) < 1000000000000 := by simp only [List.length_singleton]; omega
    try unfold ajs
    generalize hv : prT (aab p.tasks t) = v at *
    obtain ⟨j, i, b⟩ := v
    simp only [aar, Int.reduceEq, if_true, if_false, hw, ht, and_self, aa8, aa2, List.set_set, List.length_set, agp, agu, aaW, ne_eq, not_true_eq_false, not_false_eq_true, true_and, and_true, decide_true, decide_false, reduceCtorEq, Bool.not_true, Bool.false_eq_true, Bool.not_eq_true', hs, adK hk, ab5, htp, hpr, q1, q2, q3, hn1, hn2, ho, apf ht ho]
    repeat' split
    all_goals first
      | exact aiB (by first | exact True.intro | (simp_all; done) | (simp_all; intros; omega)) rfl
      | exact afz (by first | exact True.intro | (simp_all; done) | (simp_all; intros; omega)) (ajd ht rfl)
  · simp only [aar, Int.reduceEq, if_true, if_false, hw, ht, and_self, aa8, aa2, List.set_set, List.length_set, agp, agu, aaW, ne_eq, not_true_eq_false, not_false_eq_true, true_and, and_true, decide_true, decide_false, reduceCtorEq, Bool.not_true, Bool.false_eq_true, Bool.not_eq_true', hs, adK hk, ab5, htp, ho]
    exact afz (fun h => h.1) abq
theorem pk4 (hP : PO p) (hw : 0 ≤ w ∧ w < (p.works.length : Int)) (ht : 0 ≤ t ∧ t < (p.tasks.length : Int)) (hr : aai p ⟨4, w, t, o, l⟩ = some ((true, ()), (p, ()))) (hs : (aad p.works w).sleeps = false) :
    PS p ⟨4, w, t, o, l⟩ (adg (aad p.works w).stack = t ∧ wi (p.c.tasks - p.c.workers) ≤ p.known ∧ (prT (aab p.tasks t)).2.2 = true ∧ (prT (aab p.tasks t)).2.1.op = 1) { p with tasks := p.tasks.set t.toNat { aab p.tasks t with at_ := wi ((prT (aab p.tasks t)).1 + 1), kids := (aab p.tasks t).kids ++ [-1] }, works := p.works.set w.toNat { aad p.works w with last := ⟨4, w, t, o, l⟩ } } := by
  have hk := hP.stk w hw
  have hpr := ajp hP ht
  have hkk := hP.kid t ht
  unfold PS aah
  rw [hr]
  by_cases htp : adg (aad p.works w).stack = t
  · obtain ⟨q1, q2, q3⟩ := ajr htp ht.1 hk
    have hn1 : (((aab p.tasks t).kids.length + ([(-1)] : List Int).length : Nat) : Int) < 1000000000000 := by simp only [List.length_singleton]; omega
    have hn2 : (((aab p.tasks t).kids.length + ([t] : List Int).length : Nat) : Int) < 1000000000000 := by simp only [List.length_singleton]; omega
    try unfold ajs
    generalize hv : prT (aab p.tasks t) = v at *
    obtain ⟨j, i, b⟩ := v
    simp only [aar, Int.reduceEq, if_true, if_false, hw, ht, and_self, aa8, aa2, List.set_set, List.length_set, agp, agu, aaW, ne_eq, not_true_eq_false, not_false_eq_true, true_and, and_true, decide_true, decide_false, reduceCtorEq, Bool.not_true, Bool.false_eq_true, Bool.not_eq_true', hs, adK hk, ab5, htp, hpr, q1, q2, q3, hn1, hn2]
    repeat' split
    all_goals first
      | exact aiB (by first | exact True.intro | (simp_all; done) | (simp_all; intros; omega)) rfl
      | exact afz (by first | exact True.intro | (simp_all; done) | (simp_all; intros; omega)) (abq)
      | exact afz (by first | exact True.intro | (simp_all; done) | (simp_all; intros; omega)) (ajd ht rfl)
  · simp only [aar, Int.reduceEq, if_true, if_false, hw, ht, and_self, aa8, aa2, List.set_set, List.length_set, agp, agu, aaW, ne_eq, not_true_eq_false, not_false_eq_true, true_and, and_true, decide_true, decide_false, reduceCtorEq, Bool.not_true, Bool.false_eq_true, Bool.not_eq_true', hs, adK hk, ab5, htp]
    exact afz (fun h => h.1) abq
theorem pk3 (hP : PO p) (hw : 0 ≤ w ∧ w < (p.works.length : Int)) (ht : 0 ≤ t ∧ t < (p.tasks.length : Int)) (ho : 0 ≤ o ∧ o < (p.tasks.length : Int)) (hi : adg (aad p.works w).stack = o → (prT (aab p.tasks o)).2.2 = true → (prT (aab p.tasks o)).2.1.op = 1 → 0 ≤ (prT (aab p.tasks o)).2.1.a ∧ (prT (aab p.tasks o)).2.1.a < (p.c.progs.length : Int)) (hr : aai p ⟨3, w, t, o, l⟩ = some ((true, ()), (p, ()))) (hs : (aad p.works w).sleeps = false) :
    PS p ⟨3, w, t, o, l⟩ (adg (aad p.works w).stack = o ∧ (aab p.tasks t).ph = 0 ∧ (prT (aab p.tasks o)).2.2 = true ∧ (prT (aab p.tasks o)).2.1.op = 1 ∧ (prT (aab p.tasks o)).2.1.b = l) { p with tasks := (p.tasks.set o.toNat { aab p.tasks o with at_ := wi ((prT (aab p.tasks o)).1 + 1), kids := (aab p.tasks o).kids ++ [t] }).set t.toNat ⟨1, l, o, atL [] p.c.progs (prT (aab p.tasks o)).2.1.a, 0, [], -1⟩, works := p.works.set w.toNat { aad p.works w with last := ⟨3, w, t, o, l⟩ }, known := wi (p.known + 1) } := by
  have hk := hP.stk w hw
  have hpr := ajp hP ho
  have hkk := hP.kid o ho
  unfold PS aah
  rw [hr]
  by_cases htp : adg (aad p.works w).stack = o
  · obtain ⟨q1, q2, q3⟩ := ajr htp ho.1 hk
    have hn1 : (((aab p.tasks o).kids.length + ([(-1)] : List Int).length : Nat) : Int) < 1000000000000 := by simp only [List.length_singleton]; omega
    have hn2 : (((aab p.tasks o).kids.length + ([t] : List Int).length : Nat) : Int) < 1000000000000 := by simp only [List.length_singleton]; omega
    try unfold ajs
    generalize hv : prT (aab p.tasks o) = v at *
    obtain ⟨j, i, b⟩ := v
    simp only [aar, Int.reduceEq, if_true, if_false, hw, ht, and_self, aa8, aa2, List.set_set, List.length_set, agp, agu, aaW, ne_eq, not_true_eq_false, not_false_eq_true, true_and, and_true, decide_true, decide_false, reduceCtorEq, Bool.not_true, Bool.false_eq_true, Bool.not_eq_true', hs, adK hk, ab5, htp, hpr, q1, q2, q3, hn1, hn2, ho, hi]
    repeat' split
    all_goals first
      | exact aiB (by first | exact True.intro | (simp_all; done) | (simp_all; intros; omega)) rfl
      | exact afz (by first | exact True.intro | (simp_all; done) | (simp_all; intros; omega)) (abq)
      | exact afz (by first | exact True.intro | (simp_all; done) | (simp_all; intros; omega)) (ajd ho rfl)
      | (exfalso; rename_i h1 h2 h3; exact h3 (by simp_all))
  · simp only [aar, Int.reduceEq, if_true, if_false, hw, ht, and_self, aa8, aa2, List.set_set, List.length_set, agp, agu, aaW, ne_eq, not_true_eq_false, not_false_eq_true, true_and, and_true, decide_true, decide_false, reduceCtorEq, Bool.not_true, Bool.false_eq_true, Bool.not_eq_true', hs, adK hk, ab5, htp, ho]
    exact afz (fun h => h.1) abq
theorem pk9 (hP : PO p) (hw : 0 ≤ w ∧ w < (p.works.length : Int)) (ht : 0 ≤ t ∧ t < (p.tasks.length : Int)) (hwt : (aab p.tasks t).ph = 3 → 0 ≤ (aab p.tasks t).wt ∧ (aab p.tasks t).wt < (p.tasks.length : Int)) (hr : aai p ⟨9, w, t, o, l⟩ = some ((true, ()), (p, ()))) (hs : (aad p.works w).sleeps = false) :
    PS p ⟨9, w, t, o, l⟩ ((aab p.tasks t).ph = 3 ∧ (aab p.tasks (aab p.tasks t).wt).ph = 4 ∧ ((anM (aad p.works w).stack (aad p.works w).walks = true) ∨ (aad p.works w).last.kind = 10 ∧ (aad p.works w).last.task = (aab p.tasks t).wt)) { p with tasks := p.tasks.set t.toNat { aab p.tasks t with ph := 2, wt := -1 }, works := p.works.set w.toNat { aad p.works w with stack := (aad p.works w).stack ++ [t], last := ⟨9, w, t, o, l⟩ } } := by
  have hk := hP.stk w hw
  unfold PS aah
  rw [hr]
  have hk2 : (((aad p.works w).stack.length + ([t] : List Int).length : Nat) : Int) < 1000000000000 := by simp only [List.length_singleton]; omega
  by_cases h3 : (aab p.tasks t).ph = 3
  rotate_left
  · simp only [aar, Int.reduceEq, if_true, if_false, hw, ht, and_self, aa8, aa2, List.set_set, List.length_set, agp, agu, ne_eq, not_true_eq_false, not_false_eq_true, true_and, and_true, decide_true, decide_false, reduceCtorEq, Bool.not_true, Bool.false_eq_true, Bool.not_eq_true', hs, h3]
    exact ⟨_, _, rfl, (fun h => nomatch h), fun _ => ⟨(by simp), abq⟩⟩
  have hwt := hwt h3
  simp only [aar, Int.reduceEq, if_true, if_false, hw, ht, and_self, aa8, aa2, List.set_set, List.length_set, agp, agu, aaW, ne_eq, not_true_eq_false, not_false_eq_true, true_and, and_true, decide_true, decide_false, reduceCtorEq, Bool.not_true, Bool.false_eq_true, Bool.not_eq_true', hs, adK hk, ab5, hk2, hwt, h3]
  repeat' split
  all_goals first
    | exact aiB (by first | exact True.intro | (simp_all; done) | (simp_all; intros; omega)) rfl
    | exact afz (by first | exact True.intro | (simp_all; done) | (simp_all; intros; omega)) (abq)
end
end
section
open Go Go.RowKit
set_option maxRecDepth 1000000
variable [Tb]
def ah8 (s : List Int) (walk : Int) : Bool := if (s.length : Int) = 0 then decide (walk = -1) else false
section
variable {r : SaV} {w t : Int}
theorem af1 (hw : 0 ≤ w ∧ w < (r.works.length : Int)) (ht : 0 ≤ t) (hk : (aac r.works w).stack.length ≤ 1000000) : aaB r w t = some ((decide (adg (aac r.works w).stack = t), ()), (r, ())) := by
  unfold aaB adg
  have e1 : wi (((aac r.works w).stack.length : Int) - 1) = ((aac r.works w).stack.length : Int) - 1 := abR (aaZ (by omega))
  rw [if_neg (by omega), if_neg (by omega), if_pos hw, e1, aaC hw]
  by_cases h : ((aac r.works w).stack.length : Int) = 0
  · rw [if_neg (by omega), if_pos h, decide_eq_false (by omega)]
  · rw [if_pos (by omega), if_pos (by omega), if_neg h]
theorem agf (hw : 0 ≤ w ∧ w < (r.works.length : Int)) : aaV r w = some ((ah8 (aac r.works w).stack (aac r.works w).walk, ()), (r, ())) := by
  unfold aaV ah8
  rw [if_pos hw.1, if_pos hw.2, if_pos hw, aaC hw, if_pos hw]
  split <;> rfl
theorem aj8 (ht : 0 ≤ t ∧ t < (r.tasks.length : Int)) (hp : 0 ≤ (aaa r.tasks t).prog ∧ (aaa r.tasks t).prog < (r.c.progs.length : Int)) {P : List Ins} (hP : atL [] r.c.progs (aaa r.tasks t).prog = P)
    (h0 : 0 ≤ (aaa r.tasks t).pc) (hn : P.length ≤ 1000000) (hj : ∀ a, 0 ≤ a → a < (P.length : Int) → (adQ P a).op = 2 → 0 ≤ (adQ P a).a) :
    aas r t = some (((ajn P (aaa r.tasks t).kids (aaa r.tasks t).pc).2.1, (ajn P (aaa r.tasks t).kids (aaa r.tasks t).pc).2.2, ()), ({ r with tasks := r.tasks.set t.toNat { aaa r.tasks t with pc := (ajn P (aaa r.tasks t).kids (aaa r.tasks t).pc).1 } }, ())) := by
  unfold aas
  rw [if_pos ht, if_pos hp, hP]
  generalize hF : (fun (self3 : List TkV × Ins × Unit → Option ((List TkV × Ins × Unit) ⊕ ((Ins × Bool × Unit) × (SaV × Unit)))) (x1 : List TkV × Ins × Unit) => _) = F
  generalize hX : aaa r.tasks t = X at *
  have run : ∀ (f k : Nat) (a : Int) (z : Ins), 0 ≤ a → (P.length : Int) + 1 - a ≤ f → f ≤ k →
      lpF F (k + 1) (r.tasks.set t.toNat { X with pc := a }, z, ()) = some (if (afK P X.kids f a).2.2 = true then .inr (((afK P X.kids f a).2.1, true, ()), ({ r with tasks := r.tasks.set t.toNat { X with pc := (afK P X.kids f a).1 } }, ())) else .inl (r.tasks.set t.toNat { X with pc := (afK P X.kids f a).1 }, z, ())) ∧ ((afK P X.kids f a).2.2 = false → (afK P X.kids f a).2.1 = ⟨0, 0, 0⟩) := by
    intro f
    induction f with
    | zero =>
      intro k a z h1 h2 h3
      rw [lpS]
      subst hF
      refine ⟨?_, fun _ => rfl⟩
      simp only [ac9 ht]
      exact if_neg (show ¬ a < (P.length : Int) by omega)
    | succ f ih =>
      intro k a z h1 h2 h3
      obtain ⟨k, rfl⟩ : ∃ k', k = k' + 1 := ⟨k - 1, by omega⟩
      rw [lpS]
      have ih' := ih k (a + 1) z (by omega) (by omega) (by omega)
      generalize lpF F (k + 1) = self at *
      subst hF
      unfold afK
      simp only [ac9 ht, List.set_set]
      by_cases hlt : a < (P.length : Int)
      · have e1 : wi (a + 1) = a + 1 := abR (aaZ (by omega))
        simp only [hlt, h1, and_self, if_true, e1]
        by_cases o1 : (adQ P a).op = 1
        · simp only [o1, if_true]
          exact ⟨rfl, fun h => by cases h⟩
        · simp only [o1, if_false]
          by_cases o2 : (adQ P a).op = 2
          · have hc := hj a h1 hlt o2
            simp only [o2, if_true, true_and]
            unfold chV
            rw [if_neg (show ¬ (adQ P a).a < 0 by omega)]
            by_cases o4 : (adQ P a).a < (X.kids.length : Int)
            · rw [if_pos o4, if_pos ⟨hc, o4⟩, if_neg (show ¬ (X.kids.length : Int) ≤ (adQ P a).a by omega)]
              by_cases o3 : aaQ X.kids (adQ P a).a ≠ -1
              · simp only [if_pos o3]
                exact ⟨rfl, fun h => by cases h⟩
              · simp only [if_neg o3]
                exact ih'
            · rw [if_neg o4, if_pos (show (X.kids.length : Int) ≤ (adQ P a).a by omega), if_neg (show ¬ ((-1 : Int) ≠ -1) by decide)]
              exact ih'
          · simp only [o2, if_false, false_and]
            exact ih'
      · simp only [if_neg hlt]
        exact ⟨rfl, fun _ => by trivial⟩
  obtain ⟨r1, r2⟩ := run (P.length + 1) 18446744073709551615 X.pc ⟨0, 0, 0⟩ h0 (by omega) (by omega)
  have r1 : lpF F 18446744073709551616 (r.tasks.set t.toNat X, ⟨0, 0, 0⟩, ()) = _ := r1
  rw [r1]
  unfold ajn
  cases hb : (afK P X.kids (P.length + 1) X.pc).2.2 with
  | true => rw [if_pos rfl]; rfl
  | false => rw [if_neg (by decide), r2 hb]; rfl
def ada (l : List TkV) : Nat := l.countP fun x => decide (x.view.phase ≠ 0)
theorem ajA (hl : r.tasks.length ≤ 1000000) : aau r = some (((ada r.tasks : Int), ()), (r, ())) := by
  have hg : aaD (aau r) fun o => o = (((ada r.tasks : Int), ()), (r, ())) := by
    unfold aau
    refine aaD.bind (P := fun z => z.1 = (ada r.tasks : Int) ∧ z.2.2.1 = r) (abU (fun x => ∃ i : Nat, x.2.1 = (i : Int) ∧ i ≤ r.tasks.length ∧ x.2.2.1 = r ∧ x.1 = (ada (r.tasks.take i) : Int)) (fun x => ((r.tasks.length : Int) - x.2.1).toNat) (fun self x ⟨i, q2, q3, q4, q5⟩ ih => ?_) _ _ ⟨0, rfl, Nat.zero_le _, rfl, rfl⟩ (by show ((r.tasks.length : Int) - 0).toNat < _; omega)) fun z ⟨hz1, hz2⟩ => .some_ (by rw [hz1, hz2])
    obtain ⟨x1, x2, x3, u⟩ := x
    obtain rfl : x2 = (i : Int) := q2
    obtain rfl : x3 = r := q4
    obtain rfl : x1 = (ada (x3.tasks.take i) : Int) := q5
    have e1 : wi ((i : Int) + 1) = ((i + 1 : Nat) : Int) := abR (aaZ (by omega))
    refine aaD.ite (fun h => ?_) fun h => .some_ ⟨?_, rfl⟩
    · have hi : i < x3.tasks.length := Int.ofNat_lt.1 h
      refine aaD.guard ⟨by show (0 : Int) ≤ (i : Int); omega, h⟩ fun _ => ?_
      have hat : aaa x3.tasks (i : Int) = x3.tasks[i] := by
        have a1 := abV (d := (dfR 61 : TkV)) (xs := x3.tasks) (i := (i : Int)) ⟨by omega, h⟩
        have a2 : x3.tasks[((i : Nat) : Int).toNat]? = some x3.tasks[i] := by simp [hi]
        exact Option.some.inj (a1.symm.trans a2)
      have hle : ada (x3.tasks.take i) ≤ i := Nat.le_trans (List.countP_le_length) (by rw [List.length_take]; omega)
      have hc : ada (x3.tasks.take (i + 1)) = ada (x3.tasks.take i) + (if x3.tasks[i].view.phase ≠ 0 then 1 else 0) := by
        unfold ada
        rw [List.take_succ_eq_append_getElem hi, List.countP_append]
        congr 1
        by_cases hz : x3.tasks[i].view.phase = 0 <;> simp [hz]
      refine aaD.ite (fun hp => ?_) fun hp => ?_
      · show aaD (self (wi ((ada (x3.tasks.take i) : Int) + 1), wi ((i : Int) + 1), x3, ())) _
        rw [e1]
        have hp : (aaa x3.tasks (i : Int)).view.phase ≠ 0 := hp
        rw [hat] at hp
        rw [if_pos hp] at hc
        refine ih _ ⟨i + 1, rfl, hi, rfl, ?_⟩ (by show ((x3.tasks.length : Int) - ((i + 1 : Nat) : Int)).toNat < ((x3.tasks.length : Int) - (i : Int)).toNat; omega)
        show wi ((ada (x3.tasks.take i) : Int) + 1) = _
        rw [hc, abR (aaZ (by omega))]; rfl
      · show aaD (self ((ada (x3.tasks.take i) : Int), wi ((i : Int) + 1), x3, ())) _
        rw [e1]
        have hp : ¬ (aaa x3.tasks (i : Int)).view.phase ≠ 0 := hp
        rw [hat] at hp
        rw [if_neg hp] at hc
        exact ih _ ⟨i + 1, rfl, hi, rfl, (by show (ada (x3.tasks.take i) : Int) = _; rw [hc]; rfl)⟩ (by show ((x3.tasks.length : Int) - ((i + 1 : Nat) : Int)).toNat < ((x3.tasks.length : Int) - (i : Int)).toNat; omega)
    · have h : ¬ (i : Int) < ((x3.tasks.length : Nat) : Int) := h
      rw [List.take_of_length_le (by omega)]
  obtain ⟨x, h1, rfl⟩ := hg
  exact h1
def leK (a b : KyV) : Prop := a.deadline < b.deadline ∨ a.deadline = b.deadline ∧ a.arrival < b.arrival
theorem arW {q : QuV} (h : 0 < q.keys.length) (hl : q.keys.length ≤ 1000000) : aaD (aaL q) fun o => o.2.1 = q ∧ (0 ≤ o.1.1 ∧ o.1.1 < (q.keys.length : Int)) ∧ ∀ j : Nat, j < q.keys.length → ¬ leK (aax q.keys (j : Int)) (aax q.keys o.1.1) := by
  unfold aaL
  refine aaD.bind (P := fun z => z.2.2.1 = q ∧ (0 ≤ z.1 ∧ z.1 < (q.keys.length : Int)) ∧ ∀ j : Nat, j < q.keys.length → ¬ leK (aax q.keys (j : Int)) (aax q.keys z.1)) (abU (fun x => ∃ i : Nat, x.2.1 = (i : Int) ∧ (1 ≤ i ∧ i ≤ q.keys.length) ∧ x.2.2.1 = q ∧ (0 ≤ x.1 ∧ x.1 < (q.keys.length : Int)) ∧ ∀ j : Nat, j < i → ¬ leK (aax q.keys (j : Int)) (aax q.keys x.1)) (fun x => ((q.keys.length : Int) - x.2.1).toNat) (fun self x ⟨i, q2, q3, q4, q5, q6⟩ ih => ?_) _ _ ⟨1, rfl, ⟨Nat.le_refl _, h⟩, rfl, ⟨Int.le_refl _, by show (0 : Int) < _; omega⟩, fun j hj => ?_⟩ (by show ((q.keys.length : Int) - 1).toNat < _; omega)) fun z hz => .some_ hz
  rotate_left
  · obtain ⟨x1, x2, x3, u⟩ := x
    obtain rfl : x2 = (i : Int) := q2
    obtain rfl : x3 = q := q4
    have q5 : 0 ≤ x1 ∧ x1 < (x3.keys.length : Int) := q5
    have q6 : ∀ j : Nat, j < i → ¬ leK (aax x3.keys (j : Int)) (aax x3.keys x1) := q6
    have e1 : wi ((i : Int) + 1) = ((i + 1 : Nat) : Int) := abR (aaZ (by omega))
    have hm : ∀ hi : i < x3.keys.length, ((x3.keys.length : Int) - ((i + 1 : Nat) : Int)).toNat < ((x3.keys.length : Int) - (i : Int)).toNat := fun hi => by omega
    have mv : leK (aax x3.keys (i : Int)) (aax x3.keys x1) → ∀ j : Nat, j < i + 1 → ¬ leK (aax x3.keys (j : Int)) (aax x3.keys (i : Int)) := fun hle j hj => by
      rcases Nat.lt_or_ge j i with h1 | h1
      · have := q6 j h1
        unfold leK at *
        omega
      · obtain rfl : j = i := by omega
        unfold leK; omega
    have ky : ¬ leK (aax x3.keys (i : Int)) (aax x3.keys x1) → ∀ j : Nat, j < i + 1 → ¬ leK (aax x3.keys (j : Int)) (aax x3.keys x1) := fun hle j hj => by
      rcases Nat.lt_or_ge j i with h1 | h1
      · exact q6 j h1
      · obtain rfl : j = i := by omega
        exact hle
    refine aaD.ite (fun h => ?_) fun h => .some_ ⟨rfl, q5, fun j hj => q6 j (by have h : ¬ (i : Int) < (x3.keys.length : Int) := h; omega)⟩
    have hi : i < x3.keys.length := Int.ofNat_lt.1 h
    refine aaD.guard ⟨by show (0 : Int) ≤ (i : Int); omega, h⟩ fun _ => aaD.guard q5 fun _ => aaD.ite (fun h1 => ?_) fun h1 => aaD.ite (fun h2 => aaD.ite (fun h3 => ?_) fun h3 => ?_) fun h2 => ?_
    · show aaD (self ((i : Int), wi ((i : Int) + 1), x3, ())) _
      rw [e1]
      exact ih _ ⟨i + 1, rfl, ⟨by omega, hi⟩, rfl, ⟨by show (0 : Int) ≤ (i : Int); omega, h⟩, mv (.inl h1)⟩ (hm hi)
    · show aaD (self ((i : Int), wi ((i : Int) + 1), x3, ())) _
      rw [e1]
      exact ih _ ⟨i + 1, rfl, ⟨by omega, hi⟩, rfl, ⟨by show (0 : Int) ≤ (i : Int); omega, h⟩, mv (.inr ⟨h2, h3⟩)⟩ (hm hi)
    · show aaD (self (x1, wi ((i : Int) + 1), x3, ())) _
      rw [e1]
      exact ih _ ⟨i + 1, rfl, ⟨by omega, hi⟩, rfl, q5, ky (fun h => h.elim (fun h => h1 h) (fun h => h3 h.2))⟩ (hm hi)
    · show aaD (self (x1, wi ((i : Int) + 1), x3, ())) _
      rw [e1]
      exact ih _ ⟨i + 1, rfl, ⟨by omega, hi⟩, rfl, q5, ky (fun h => h.elim (fun h => h1 h) (fun h => h2 h.1))⟩ (hm hi)
  · obtain rfl : j = 0 := by omega
    show ¬ leK (aax q.keys 0) (aax q.keys 0)
    unfold leK; omega
end
section
variable {a b d : Int}
theorem apk : agi a = some ((false, ()), ()) := by
  unfold agi
  rw [decide_eq_false (fun h => h rfl)]
def ats (a b : Int) : Int := if a < b then -1 else if b < a then 1 else 0
theorem aqM : adt a b = some ((ats a b, ()), ()) := by
  unfold adt ats
  rw [apk, apk, aar, aar, if_neg (by decide), if_neg (by decide)]
  split
  · rfl
  · split <;> rfl
theorem aoQ : aoR [a, b, d] = some ((if a ≠ 0 then a else if b ≠ 0 then b else d, ()), ()) := by
  unfold aoR
  generalize hF : (fun (self3 : Int × Unit → Option ((Int × Unit) ⊕ ((Int × Unit) × Unit))) (x1 : Int × Unit) => _) = F
  have s3 : ∀ k, lpF F (k + 1) (3, ()) = some (.inl (3, ())) := fun k => by rw [lpS]; subst hF; rfl
  have s2 : ∀ k, lpF F (k + 2) (2, ()) = if d ≠ 0 then some (.inr ((d, ()), ())) else some (.inl (3, ())) := fun k => by
    have h := s3 k
    rw [lpS]
    generalize lpF F (k + 1) = self at *
    subst hF
    show (if d ≠ 0 then _ else self (wi (2 + 1), ())) = _
    rw [show wi (2 + 1) = 3 from rfl, h]; rfl
  have s1 : ∀ k, lpF F (k + 3) (1, ()) = if b ≠ 0 then some (.inr ((b, ()), ())) else if d ≠ 0 then some (.inr ((d, ()), ())) else some (.inl (3, ())) := fun k => by
    have h := s2 k
    rw [lpS]
    generalize lpF F (k + 2) = self at *
    subst hF
    show (if b ≠ 0 then _ else self (wi (1 + 1), ())) = _
    rw [show wi (1 + 1) = 2 from rfl, h]; rfl
  have s0 : ∀ k, lpF F (k + 4) (0, ()) = if a ≠ 0 then some (.inr ((a, ()), ())) else if b ≠ 0 then some (.inr ((b, ()), ())) else if d ≠ 0 then some (.inr ((d, ()), ())) else some (.inl (3, ())) := fun k => by
    have h := s1 k
    rw [lpS]
    generalize lpF F (k + 3) = self at *
    subst hF
    show (if a ≠ 0 then _ else self (wi (0 + 1), ())) = _
    rw [show wi (0 + 1) = 1 from rfl, h]; rfl
  have s := s0 18446744073709551612
  have s : lpF F 18446744073709551616 (0, ()) = _ := s
  rw [s]
  by_cases h1 : a ≠ 0
  · rw [if_pos h1, if_pos h1]; rfl
  · rw [if_neg h1, if_neg h1]
    by_cases h2 : b ≠ 0
    · rw [if_pos h2, if_pos h2]; rfl
    · rw [if_neg h2, if_neg h2]
      by_cases h3 : d ≠ 0
      · rw [if_pos h3]; rfl
      · rw [if_neg h3]
        have : d = 0 := by omega
        rw [this]; rfl
theorem aus {x y : KyV} (h : x.arrival < y.arrival) : ∃ v, acl x y = some ((v, ()), ()) ∧ (v < 0 ↔ x.deadline ≤ y.deadline) := by
  unfold acl
  simp only [aqM, aar, if_true, aoQ]
  refine ⟨_, rfl, ?_⟩
  unfold ats
  repeat' split
  all_goals omega
end
theorem aup {lo hi : Int} (h0 : 0 ≤ lo) (h1 : lo ≤ hi) (h2 : hi ≤ 1000000) : wi (Int.fdiv (wu (wi (lo + hi))) (2 ^ min (1 : Int).toNat IntKind.u64.bits)) = (lo + hi) / 2 := by
  have e2 : wi (lo + hi) = lo + hi := abR (aaZ (by omega))
  have e3 : wu (lo + hi) = lo + hi := atN (by omega) (by omega)
  have e4 : ((2 : Int) ^ min (1 : Int).toNat IntKind.u64.bits) = 2 := rfl
  rw [e2, e3, e4, Int.fdiv_eq_ediv_of_nonneg _ (by decide)]
  exact abR (aaZ (by omega))
section
variable {q : CtP} {c : Cfg} {w t o l : Int}
theorem qP2 : aaw q c ⟨2, w, t, o, l⟩ = if l ≠ 1 then some ((true, ()), (q, ())) else some ((decide ((q.keys.length : Int) = c.heap), ()), (q, ())) := by
  unfold aaw
  rw [if_neg (show ¬ (2 : Int) = 1 by decide), if_neg (show ¬ (2 : Int) = 13 by decide), if_pos rfl]
theorem aua : aaw q c ⟨13, w, t, o, l⟩ = if 0 < q.keys.length ∧ (adi q.keys 0).task = t then some ((true, ()), (⟨q.keys.drop 1, q.count⟩, ())) else some ((false, ()), (q, ())) := by
  unfold aaw
  rw [if_neg (show ¬ (13 : Int) = 1 by decide), if_pos rfl]
  by_cases h : (q.keys.length : Int) = 0
  · rw [if_pos h, aar, if_pos rfl, if_neg (by omega)]
  · rw [if_neg h, if_pos (by omega), aar]
    by_cases h2 : (adi q.keys 0).task = t
    · rw [if_neg (by simp [h2]), if_pos ⟨by decide, by show (1 : Int) ≤ (q.keys.length : Int); omega⟩, if_pos ⟨by omega, h2⟩]; rfl
    · rw [if_pos (by simp [h2]), if_neg (fun h => h2 h.2)]
structure Srt (ks : List KyV) (n : Int) : Prop where
  s : ∀ i j : Nat, i < j → j < ks.length → leK (adi ks (i : Int)) (adi ks (j : Int))
  a : ∀ i : Nat, i < ks.length → (adi ks (i : Int)).arrival < n
theorem qP1 (ho : 0 ≤ o ∧ o < (c.subs.length : Int)) (hs : Srt q.keys q.count) (hl : q.keys.length ≤ 1000000) :
    (c.heap ≤ (q.keys.length : Int) → aaw q c ⟨1, w, t, o, l⟩ = some ((false, ()), (q, ()))) ∧
    ((q.keys.length : Int) < c.heap → ∃ i : Nat, i ≤ q.keys.length ∧ (∀ j : Nat, j < i → (adi q.keys (j : Int)).deadline ≤ (acz c.subs o).deadline) ∧ (∀ j : Nat, i ≤ j → j < q.keys.length → (acz c.subs o).deadline < (adi q.keys (j : Int)).deadline) ∧
      aaw q c ⟨1, w, t, o, l⟩ = some ((true, ()), (⟨q.keys.take i ++ [⟨(acz c.subs o).deadline, q.count, t⟩] ++ q.keys.drop i, wi (q.count + 1)⟩, ()))) := by
  have e0 : ∀ b, decide (c.heap ≤ (q.keys.length : Int)) = b → (if (⟨1, w, t, o, l⟩ : Ev).other < 0 then some (true, q, ()) else if ((c.subs.length : Nat) : Int) ≤ (⟨1, w, t, o, l⟩ : Ev).other then some (true, q, ()) else some (decide (c.heap ≤ ((q.keys.length : Nat) : Int)), q, ())) = some (b, q, ()) := fun b hb => by
    rw [if_neg (by show ¬ o < 0; omega), if_neg (by show ¬ (c.subs.length : Int) ≤ o; omega), hb]
  refine ⟨fun h => ?_, fun h => ?_⟩
  · unfold aaw
    rw [if_pos rfl, e0 true (decide_eq_true h), aar, if_pos rfl]
  · unfold aaw
    rw [if_pos rfl, e0 false (decide_eq_false (by omega)), aar, if_neg (show ¬ false = true by decide)]
    dsimp only
    rw [if_pos ho, if_pos rfl, if_pos rfl, if_pos rfl, if_pos rfl]
    generalize hd : (acz c.subs o).deadline = D
    have hk : ∀ j : Nat, j < q.keys.length → ∃ v, acl (adi q.keys (j : Int)) ⟨D, q.count, t⟩ = some ((v, ()), ()) ∧ (v < 0 ↔ (adi q.keys (j : Int)).deadline ≤ D) := fun j hj => aus (hs.a j hj)
    have hg : aaD (lpF (σ := Int × Int × Unit) (β := Int × Int × Unit) (fun self4 x2 =>
         if x2.1 < x2.2.1 then
          if 0 ≤ wi (Int.fdiv (wu (wi (x2.1 + x2.2.1))) (2 ^ min (1 : Int).toNat IntKind.u64.bits)) ∧ wi (Int.fdiv (wu (wi (x2.1 + x2.2.1))) (2 ^ min (1 : Int).toNat IntKind.u64.bits)) < ((q.keys.length : Nat) : Int) then
           (acl (adi q.keys (wi (Int.fdiv (wu (wi (x2.1 + x2.2.1))) (2 ^ min (1 : Int).toNat IntKind.u64.bits)))) (⟨D, q.count, t⟩ : KyV)).bind fun r5 =>
           if r5.1.1 < 0 then
            self4 (wi ((wi (Int.fdiv (wu (wi (x2.1 + x2.2.1))) (2 ^ min (1 : Int).toNat IntKind.u64.bits))) + 1), x2.2.1, ())
           else
           self4 (x2.1, wi (Int.fdiv (wu (wi (x2.1 + x2.2.1))) (2 ^ min (1 : Int).toNat IntKind.u64.bits)), ())
          else none
         else
         some (x2.1, x2.2.1, ())
        ) 18446744073709551616 (0, ((q.keys.length : Nat) : Int), ())) fun z => ∃ i : Nat, z.1 = (i : Int) ∧ i ≤ q.keys.length ∧ (∀ j : Nat, j < i → (adi q.keys (j : Int)).deadline ≤ D) ∧ (∀ j : Nat, i ≤ j → j < q.keys.length → D < (adi q.keys (j : Int)).deadline) := by
      refine abU (fun x => ∃ i k : Nat, x.1 = (i : Int) ∧ x.2.1 = (k : Int) ∧ i ≤ k ∧ k ≤ q.keys.length ∧ (∀ j : Nat, j < i → (adi q.keys (j : Int)).deadline ≤ D) ∧ (∀ j : Nat, k ≤ j → j < q.keys.length → D < (adi q.keys (j : Int)).deadline)) (fun x => (x.2.1 - x.1).toNat) (fun self x ⟨i, k, q1, q2, q3, q4, q5, q6⟩ ih => ?_) _ _ ⟨0, q.keys.length, rfl, rfl, Nat.zero_le _, Nat.le_refl _, fun j hj => absurd hj (Nat.not_lt_zero _), fun j h1 h2 => by omega⟩ (by show ((q.keys.length : Int) - 0).toNat < _; omega)
      obtain ⟨x1, x2, u⟩ := x
      obtain rfl : x1 = (i : Int) := q1
      obtain rfl : x2 = (k : Int) := q2
      refine aaD.ite (fun h1 => ?_) fun h1 => .some_ ⟨i, rfl, by omega, q5, fun j h2 h3 => q6 j (by have h1 : ¬ (i : Int) < (k : Int) := h1; omega) h3⟩
      have h1 : (i : Int) < (k : Int) := h1
      dsimp only
      rw [aup (lo := (i : Int)) (hi := (k : Int)) (by omega) (by omega) (by omega)]
      obtain ⟨m, hm⟩ : ∃ m : Nat, ((i : Int) + (k : Int)) / 2 = (m : Int) := ⟨(((i : Int) + (k : Int)) / 2).toNat, by omega⟩
      rw [hm]
      have m1 : i ≤ m ∧ m < k := by omega
      refine aaD.guard (by omega) fun _ => ?_
      obtain ⟨v, v1, v2⟩ := hk m (by omega)
      rw [v1, aar]
      have e1 : wi ((m : Int) + 1) = ((m + 1 : Nat) : Int) := abR (aaZ (by omega))
      refine aaD.ite (fun h2 => ?_) fun h2 => ?_
      · rw [e1]
        refine ih _ ⟨m + 1, k, rfl, rfl, by omega, q4, fun j hj => ?_, q6⟩ (by show ((k : Int) - ((m + 1 : Nat) : Int)).toNat < ((k : Int) - (i : Int)).toNat; omega)
        have h3 := v2.1 h2
        rcases Nat.lt_or_ge j m with h4 | h4
        · have := hs.s j m h4 (by omega)
          unfold leK at this; omega
        · obtain rfl : j = m := by omega
          exact h3
      · refine ih _ ⟨i, m, rfl, rfl, m1.1, by omega, q5, fun j h3 h4 => ?_⟩ (by show ((m : Int) - (i : Int)).toNat < ((k : Int) - (i : Int)).toNat; omega)
        have h5 : D < (adi q.keys (m : Int)).deadline := by
          have : ¬ (adi q.keys (m : Int)).deadline ≤ D := fun h => h2 (v2.2 h)
          omega
        rcases Nat.lt_or_ge m j with h6 | h6
        · have := hs.s m j h6 h4
          unfold leK at this; omega
        · obtain rfl : j = m := by omega
          exact h5
    obtain ⟨⟨z1, z2, u⟩, hz, i, rfl, i1, i2, i3⟩ := hg
    refine ⟨i, i1, i2, i3, ?_⟩
    rw [hz, aar]
    have e2 : afb q.keys (i : Int) [⟨D, q.count, t⟩] = some ((q.keys.take i ++ [⟨D, q.count, t⟩] ++ q.keys.drop i, ()), ()) := if_pos ⟨⟨by omega, hl⟩, rfl⟩
    by_cases h4 : (i : Int) < (q.keys.length : Int)
    · obtain ⟨v, v1, _⟩ := hk i (by omega)
      rw [if_pos h4, if_pos ⟨by omega, h4⟩, v1, aar, aar]
      rw [e2, aar]
    · rw [if_neg h4, aar, e2, aar]
end
end
end Go.Proofs.Ytkmkhldmflebkaa
