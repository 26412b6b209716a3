/- The reference of the model in the evaluator's form. slices.Insert at queue.Key, walked. slices.Insert at queue.Key in the evaluator's form. -/
import Derived.Test.YtkmkhldmflebkaaMzam
import Derived.Test.YtkmkhldmflebkaaRows
import Derived.Test.YtkmkhldmflebkaaMzaa
import Derived.WalkKit
import Derived.Shelf.Spec.SlicesInsertGrow
import Derived.Test.YtkmkhldmflebkaaMzak
set_option linter.all false
namespace Go.Proofs.Ytkmkhldmflebkaa
section
open Go Go.RowKit
set_option maxRecDepth 100000
variable [Tb]
noncomputable def abH (y0 : SaV) (y1 : Ev) : Option ((Bool × Unit) × (SaV × Unit)) :=
 if 0 ≤ y1.task ∧ y1.task < ((y0.tasks.length : Nat) : Int) then
  if 0 ≤ y1.worker ∧ y1.worker < ((y0.works.length : Nat) : Int) then
   agr (
   if ((aac y0.works y1.worker).last.kind) = ((aac y0.works y1.worker).last.kind) then
   if ((aac y0.works y1.worker).last.worker) = ((aac y0.works y1.worker).last.worker) then
   if ((aac y0.works y1.worker).last.task) = ((aac y0.works y1.worker).last.task) then
   if ((aac y0.works y1.worker).last.other) = ((aac y0.works y1.worker).last.other) then
   if ((aac y0.works y1.worker).last.level) = ((aac y0.works y1.worker).last.level) then
   if y1.worker = y1.worker then
   if ((aaa y0.tasks y1.task).view.phase) = ((aaa y0.tasks y1.task).view.phase) then
   if ((aaa y0.tasks y1.task).view.level) = ((aaa y0.tasks y1.task).view.level) then
   if ((aaa y0.tasks y1.task).view.parent) = ((aaa y0.tasks y1.task).view.parent) then
   if ((aaa y0.tasks y1.task).view.worker) = ((aaa y0.tasks y1.task).view.worker) then
   if ((aaa y0.tasks y1.task).view.other) = ((aaa y0.tasks y1.task).view.other) then
   if y1.task = y1.task then
   if ((aac y0.works y1.worker).last.kind) = ((aac y0.works y1.worker).last.kind) then
   if ((aac y0.works y1.worker).last.worker) = ((aac y0.works y1.worker).last.worker) then
   if ((aac y0.works y1.worker).last.task) = ((aac y0.works y1.worker).last.task) then
   if ((aac y0.works y1.worker).last.other) = ((aac y0.works y1.worker).last.other) then
   if ((aac y0.works y1.worker).last.level) = ((aac y0.works y1.worker).last.level) then
   if y1.worker = y1.worker then
   if ((aaa y0.tasks y1.task).view.phase) = ((aaa y0.tasks y1.task).view.phase) then
   if ((aaa y0.tasks y1.task).view.level) = ((aaa y0.tasks y1.task).view.level) then
   if ((aaa y0.tasks y1.task).view.parent) = ((aaa y0.tasks y1.task).view.parent) then
   if ((aaa y0.tasks y1.task).view.worker) = ((aaa y0.tasks y1.task).view.worker) then
   if ((aaa y0.tasks y1.task).view.other) = ((aaa y0.tasks y1.task).view.other) then
   if y1.task = y1.task then
   if ((aac y0.works y1.worker).last.kind) = ((aac y0.works y1.worker).last.kind) then
   if ((aac y0.works y1.worker).last.worker) = ((aac y0.works y1.worker).last.worker) then
   if ((aac y0.works y1.worker).last.task) = ((aac y0.works y1.worker).last.task) then
   if ((aac y0.works y1.worker).last.other) = ((aac y0.works y1.worker).last.other) then
   if ((aac y0.works y1.worker).last.level) = ((aac y0.works y1.worker).last.level) then
   if y1.worker = y1.worker then
   (aaV ({ y0 with tasks := y0.tasks.set y1.task.toNat (aaa y0.tasks y1.task), works := y0.works.set y1.worker.toNat (aac y0.works y1.worker) } : SaV) y1.worker).bind fun r6 =>
   if y1.kind = 5 then
   if ((aaa y0.tasks y1.task).view.phase) = 1 then
   if r6.1.1 = true then
   (aal r6.2.1 y1.worker y1.task).bind fun r7 =>
   some ((true, ()), (r7.2.1, ()))
   else
   if ((aac y0.works y1.worker).last.kind) = 3 then
   if ((aac y0.works y1.worker).last.task) = y1.task then
   (aal r6.2.1 y1.worker y1.task).bind fun r8 =>
   some ((decide (((aac y0.works y1.worker).last.task) = y1.task), ()), (r8.2.1, ()))
   else
   some ((decide (((aac y0.works y1.worker).last.task) = y1.task), ()), (r6.2.1, ()))
   else
   some ((false, ()), (r6.2.1, ()))
   else
   some ((false, ()), (r6.2.1, ()))
   else
   if ((aaa y0.tasks y1.task).view.phase) = 3 then
   if 0 ≤ (aaa y0.tasks y1.task).view.other ∧ (aaa y0.tasks y1.task).view.other < ((r6.2.1.tasks.length : Nat) : Int) then
   if ((aaa r6.2.1.tasks ((aaa y0.tasks y1.task).view.other)).view.phase) = 4 then
   if r6.1.1 = true then
   (aal ({ r6.2.1 with tasks := r6.2.1.tasks.set ((aaa y0.tasks y1.task).view.other).toNat (aaa r6.2.1.tasks ((aaa y0.tasks y1.task).view.other)) } : SaV) y1.worker y1.task).bind fun r9 =>
   some ((true, ()), (r9.2.1, ()))
   else
   if ((aac y0.works y1.worker).last.kind) = 10 then
   if ((aac y0.works y1.worker).last.task) = ((aaa y0.tasks y1.task).view.other) then
   (aal ({ r6.2.1 with tasks := r6.2.1.tasks.set ((aaa y0.tasks y1.task).view.other).toNat (aaa r6.2.1.tasks ((aaa y0.tasks y1.task).view.other)) } : SaV) y1.worker y1.task).bind fun r10 =>
   some ((decide (((aac y0.works y1.worker).last.task) = ((aaa y0.tasks y1.task).view.other)), ()), (r10.2.1, ()))
   else
   some ((decide (((aac y0.works y1.worker).last.task) = ((aaa y0.tasks y1.task).view.other)), ()), (({ r6.2.1 with tasks := r6.2.1.tasks.set ((aaa y0.tasks y1.task).view.other).toNat (aaa r6.2.1.tasks ((aaa y0.tasks y1.task).view.other)) } : SaV), ()))
   else
   some ((false, ()), (({ r6.2.1 with tasks := r6.2.1.tasks.set ((aaa y0.tasks y1.task).view.other).toNat (aaa r6.2.1.tasks ((aaa y0.tasks y1.task).view.other)) } : SaV), ()))
   else
   some ((false, ()), (({ r6.2.1 with tasks := r6.2.1.tasks.set ((aaa y0.tasks y1.task).view.other).toNat (aaa r6.2.1.tasks ((aaa y0.tasks y1.task).view.other)) } : SaV), ()))
   else none
   else
   some ((false, ()), (r6.2.1, ()))
   else none
   else none
   else none
   else none
   else none
   else none
   else none
   else none
   else none
   else none
   else none
   else none
   else none
   else none
   else none
   else none
   else none
   else none
   else none
   else none
   else none
   else none
   else none
   else none
   else none
   else none
   else none
   else none
   else none
   else none
   ) (
   if ((aac y0.works y1.worker).last.kind) = ((aac y0.works y1.worker).last.kind) then
   if ((aac y0.works y1.worker).last.worker) = ((aac y0.works y1.worker).last.worker) then
   if ((aac y0.works y1.worker).last.task) = ((aac y0.works y1.worker).last.task) then
   if ((aac y0.works y1.worker).last.other) = ((aac y0.works y1.worker).last.other) then
   if ((aac y0.works y1.worker).last.level) = ((aac y0.works y1.worker).last.level) then
   if y1.worker = y1.worker then
   if ((aaa y0.tasks y1.task).view.phase) = ((aaa y0.tasks y1.task).view.phase) then
   if ((aaa y0.tasks y1.task).view.level) = ((aaa y0.tasks y1.task).view.level) then
   if ((aaa y0.tasks y1.task).view.parent) = ((aaa y0.tasks y1.task).view.parent) then
   if ((aaa y0.tasks y1.task).view.worker) = ((aaa y0.tasks y1.task).view.worker) then
   if ((aaa y0.tasks y1.task).view.other) = ((aaa y0.tasks y1.task).view.other) then
   if y1.task = y1.task then
   if ((aac y0.works y1.worker).last.kind) = ((aac y0.works y1.worker).last.kind) then
   if ((aac y0.works y1.worker).last.worker) = ((aac y0.works y1.worker).last.worker) then
   if ((aac y0.works y1.worker).last.task) = ((aac y0.works y1.worker).last.task) then
   if ((aac y0.works y1.worker).last.other) = ((aac y0.works y1.worker).last.other) then
   if ((aac y0.works y1.worker).last.level) = ((aac y0.works y1.worker).last.level) then
   if y1.worker = y1.worker then
   if ((aaa y0.tasks y1.task).view.phase) = ((aaa y0.tasks y1.task).view.phase) then
   if ((aaa y0.tasks y1.task).view.level) = ((aaa y0.tasks y1.task).view.level) then
   if ((aaa y0.tasks y1.task).view.parent) = ((aaa y0.tasks y1.task).view.parent) then
   if ((aaa y0.tasks y1.task).view.worker) = ((aaa y0.tasks y1.task).view.worker) then
   if ((aaa y0.tasks y1.task).view.other) = ((aaa y0.tasks y1.task).view.other) then
   if y1.task = y1.task then
   if ((aac y0.works y1.worker).last.kind) = ((aac y0.works y1.worker).last.kind) then
   if ((aac y0.works y1.worker).last.worker) = ((aac y0.works y1.worker).last.worker) then
   if ((aac y0.works y1.worker).last.task) = ((aac y0.works y1.worker).last.task) then
   if ((aac y0.works y1.worker).last.other) = ((aac y0.works y1.worker).last.other) then
   if ((aac y0.works y1.worker).last.level) = ((aac y0.works y1.worker).last.level) then
   if y1.worker = y1.worker then
   (aaV ({ y0 with tasks := y0.tasks.set y1.task.toNat (aaa y0.tasks y1.task), works := y0.works.set y1.worker.toNat (aac y0.works y1.worker) } : SaV) y1.worker).bind fun r1 =>
   if y1.kind = 5 then
   if ((aaa y0.tasks y1.task).view.phase) = 1 then
   if r1.1.1 = true then
   (aal r1.2.1 y1.worker y1.task).bind fun r2 =>
   some ((true, ()), (r2.2.1, ()))
   else
   if ((aac y0.works y1.worker).last.kind) = 3 then
   if ((aac y0.works y1.worker).last.task) = y1.task then
   (aal r1.2.1 y1.worker y1.task).bind fun r3 =>
   some ((decide (((aac y0.works y1.worker).last.task) = y1.task), ()), (r3.2.1, ()))
   else
   some ((decide (((aac y0.works y1.worker).last.task) = y1.task), ()), (r1.2.1, ()))
   else
   some ((false, ()), (r1.2.1, ()))
   else
   some ((false, ()), (r1.2.1, ()))
   else
   if ((aaa y0.tasks y1.task).view.phase) = 3 then
   if 0 ≤ (aaa y0.tasks y1.task).view.other ∧ (aaa y0.tasks y1.task).view.other < ((r1.2.1.tasks.length : Nat) : Int) then
   if ((aaa r1.2.1.tasks ((aaa y0.tasks y1.task).view.other)).view.phase) = 4 then
   if r1.1.1 = true then
   (aal ({ r1.2.1 with tasks := r1.2.1.tasks.set ((aaa y0.tasks y1.task).view.other).toNat (aaa r1.2.1.tasks ((aaa y0.tasks y1.task).view.other)) } : SaV) y1.worker y1.task).bind fun r4 =>
   some ((true, ()), (r4.2.1, ()))
   else
   if ((aac y0.works y1.worker).last.kind) = 10 then
   if ((aac y0.works y1.worker).last.task) = ((aaa y0.tasks y1.task).view.other) then
   (aal ({ r1.2.1 with tasks := r1.2.1.tasks.set ((aaa y0.tasks y1.task).view.other).toNat (aaa r1.2.1.tasks ((aaa y0.tasks y1.task).view.other)) } : SaV) y1.worker y1.task).bind fun r5 =>
   some ((decide (((aac y0.works y1.worker).last.task) = ((aaa y0.tasks y1.task).view.other)), ()), (r5.2.1, ()))
   else
   some ((decide (((aac y0.works y1.worker).last.task) = ((aaa y0.tasks y1.task).view.other)), ()), (({ r1.2.1 with tasks := r1.2.1.tasks.set ((aaa y0.tasks y1.task).view.other).toNat (aaa r1.2.1.tasks ((aaa y0.tasks y1.task).view.other)) } : SaV), ()))
   else
   some ((false, ()), (({ r1.2.1 with tasks := r1.2.1.tasks.set ((aaa y0.tasks y1.task).view.other).toNat (aaa r1.2.1.tasks ((aaa y0.tasks y1.task).view.other)) } : SaV), ()))
   else
   some ((false, ()), (({ r1.2.1 with tasks := r1.2.1.tasks.set ((aaa y0.tasks y1.task).view.other).toNat (aaa r1.2.1.tasks ((aaa y0.tasks y1.task).view.other)) } : SaV), ()))
   else none
   else
   some ((false, ()), (r1.2.1, ()))
   else none
   else none
   else none
   else none
   else none
   else none
   else none
   else none
   else none
   else none
   else none
   else none
   else none
   else none
   else none
   else none
   else none
   else none
   else none
   else none
   else none
   else none
   else none
   else none
   else none
   else none
   else none
   else none
   else none
   else none
   )
  else none
 else none
noncomputable abbrev ab8 : Con SR1 := ⟨69, [.ref 64, .val 2], [.sh .b], fun x => abH x.1 x.2.1⟩
theorem adc : CO Try.prog ab8 := abC abx Try.func69 [acC, acA] ⟨adV, adR, trivial⟩ [] trivial (fun _ => []) [] fun x => by kernel_rfl
noncomputable def aaS (y0 : SaV) (y1 : Ev) : Option ((Bool × Unit) × (SaV × Unit)) :=
 if 0 ≤ y1.task ∧ y1.task < ((y0.tasks.length : Nat) : Int) then
  if 0 ≤ y1.worker ∧ y1.worker < ((y0.works.length : Nat) : Int) then
   (aaV ({ y0 with tasks := y0.tasks.set y1.task.toNat (aaa y0.tasks y1.task), works := y0.works.set y1.worker.toNat (aac y0.works y1.worker) } : SaV) y1.worker).bind fun r1 =>
   if y1.kind = 5 then
   if ((aaa y0.tasks y1.task).view.phase) = 1 then
   if r1.1.1 = true then
   (aal r1.2.1 y1.worker y1.task).bind fun r2 =>
   some ((true, ()), (r2.2.1, ()))
   else
   if ((aac y0.works y1.worker).last.kind) = 3 then
   if ((aac y0.works y1.worker).last.task) = y1.task then
   (aal r1.2.1 y1.worker y1.task).bind fun r3 =>
   some ((decide (((aac y0.works y1.worker).last.task) = y1.task), ()), (r3.2.1, ()))
   else
   some ((decide (((aac y0.works y1.worker).last.task) = y1.task), ()), (r1.2.1, ()))
   else
   some ((false, ()), (r1.2.1, ()))
   else
   some ((false, ()), (r1.2.1, ()))
   else
   if ((aaa y0.tasks y1.task).view.phase) = 3 then
   if 0 ≤ (aaa y0.tasks y1.task).view.other ∧ (aaa y0.tasks y1.task).view.other < ((r1.2.1.tasks.length : Nat) : Int) then
   if ((aaa r1.2.1.tasks ((aaa y0.tasks y1.task).view.other)).view.phase) = 4 then
   if r1.1.1 = true then
   (aal ({ r1.2.1 with tasks := r1.2.1.tasks.set ((aaa y0.tasks y1.task).view.other).toNat (aaa r1.2.1.tasks ((aaa y0.tasks y1.task).view.other)) } : SaV) y1.worker y1.task).bind fun r4 =>
   some ((true, ()), (r4.2.1, ()))
   else
   if ((aac y0.works y1.worker).last.kind) = 10 then
   if ((aac y0.works y1.worker).last.task) = ((aaa y0.tasks y1.task).view.other) then
   (aal ({ r1.2.1 with tasks := r1.2.1.tasks.set ((aaa y0.tasks y1.task).view.other).toNat (aaa r1.2.1.tasks ((aaa y0.tasks y1.task).view.other)) } : SaV) y1.worker y1.task).bind fun r5 =>
   some ((decide (((aac y0.works y1.worker).last.task) = ((aaa y0.tasks y1.task).view.other)), ()), (r5.2.1, ()))
   else
   some ((decide (((aac y0.works y1.worker).last.task) = ((aaa y0.tasks y1.task).view.other)), ()), (({ r1.2.1 with tasks := r1.2.1.tasks.set ((aaa y0.tasks y1.task).view.other).toNat (aaa r1.2.1.tasks ((aaa y0.tasks y1.task).view.other)) } : SaV), ()))
   else
   some ((false, ()), (({ r1.2.1 with tasks := r1.2.1.tasks.set ((aaa y0.tasks y1.task).view.other).toNat (aaa r1.2.1.tasks ((aaa y0.tasks y1.task).view.other)) } : SaV), ()))
   else
   some ((false, ()), (({ r1.2.1 with tasks := r1.2.1.tasks.set ((aaa y0.tasks y1.task).view.other).toNat (aaa r1.2.1.tasks ((aaa y0.tasks y1.task).view.other)) } : SaV), ()))
   else none
   else
   some ((false, ()), (r1.2.1, ()))
  else none
 else none
noncomputable abbrev act : Con SR1 := ⟨69, [.ref 64, .val 2], [.sh .b], fun x => aaS x.1 x.2.1⟩
theorem adC (y0 : SaV) (y1 : Ev) : abH y0 y1 = aaS y0 y1 := by
  unfold abH aaS
  simp only [if_true, aeK, acS]
  try rfl
theorem adB : CO Try.prog act := ako adc fun x out hx => (show ab8.spec x = some out from (adC x.1 x.2.1).trans hx)
noncomputable def abQ (y0 : SaV) (y1 : Ev) : Option ((Bool × Unit) × (SaV × Unit)) :=
 (aaB y0 y1.worker y1.task).bind fun r1 =>
 if (!r1.1.1) = true then
  some ((false, ()), (r1.2.1, ()))
 else
 (aas r1.2.1 y1.task).bind fun r2 =>
 if r2.1.2.1 = true then
  some ((false, ()), (r2.2.1, ()))
 else
 if 0 ≤ y1.worker ∧ y1.worker < ((r2.2.1.works.length : Nat) : Int) then
  if 0 ≤ wi (((((aac r2.2.1.works y1.worker).stack).length : Nat) : Int) - 1) ∧ wi (((((aac r2.2.1.works y1.worker).stack).length : Nat) : Int) - 1) < ((((aac r2.2.1.works y1.worker).stack).length : Nat) : Int) then
   if 0 ≤ aaQ ((aac r2.2.1.works y1.worker).stack) (wi (((((aac r2.2.1.works y1.worker).stack).length : Nat) : Int) - 1)) ∧ aaQ ((aac r2.2.1.works y1.worker).stack) (wi (((((aac r2.2.1.works y1.worker).stack).length : Nat) : Int) - 1)) < ((r2.2.1.tasks.length : Nat) : Int) then
   if 0 ≤ wi (((((aac r2.2.1.works y1.worker).stack).length : Nat) : Int) - 1) ∧ wi (((((aac r2.2.1.works y1.worker).stack).length : Nat) : Int) - 1) ≤ ((((aac r2.2.1.works y1.worker).stack).length : Nat) : Int) then
   if (((([] : List Int).length + (((aac r2.2.1.works y1.worker).stack).take (wi (((((aac r2.2.1.works y1.worker).stack).length : Nat) : Int) - 1) : Int).toNat).length : Nat)) : Int) < 1000000000000 then
   if 0 ≤ y1.worker ∧ y1.worker < (((r2.2.1.works.set y1.worker.toNat (aac r2.2.1.works y1.worker)).length : Nat) : Int) then
   if 0 ≤ y1.task ∧ y1.task < (((r2.2.1.tasks.set (aaQ ((aac r2.2.1.works y1.worker).stack) (wi (((((aac r2.2.1.works y1.worker).stack).length : Nat) : Int) - 1))).toNat ({ aaa r2.2.1.tasks (aaQ ((aac r2.2.1.works y1.worker).stack) (wi (((((aac r2.2.1.works y1.worker).stack).length : Nat) : Int) - 1))) with view := { (aaa r2.2.1.tasks (aaQ ((aac r2.2.1.works y1.worker).stack) (wi (((((aac r2.2.1.works y1.worker).stack).length : Nat) : Int) - 1)))).view with worker := (-1) } } : TkV)).length : Nat) : Int) then
   some ((true, ()), (({ r2.2.1 with tasks := (r2.2.1.tasks.set (aaQ ((aac r2.2.1.works y1.worker).stack) (wi (((((aac r2.2.1.works y1.worker).stack).length : Nat) : Int) - 1))).toNat ({ aaa r2.2.1.tasks (aaQ ((aac r2.2.1.works y1.worker).stack) (wi (((((aac r2.2.1.works y1.worker).stack).length : Nat) : Int) - 1))) with view := { (aaa r2.2.1.tasks (aaQ ((aac r2.2.1.works y1.worker).stack) (wi (((((aac r2.2.1.works y1.worker).stack).length : Nat) : Int) - 1)))).view with worker := (-1) } } : TkV)).set y1.task.toNat ({ aaa (r2.2.1.tasks.set (aaQ ((aac r2.2.1.works y1.worker).stack) (wi (((((aac r2.2.1.works y1.worker).stack).length : Nat) : Int) - 1))).toNat ({ aaa r2.2.1.tasks (aaQ ((aac r2.2.1.works y1.worker).stack) (wi (((((aac r2.2.1.works y1.worker).stack).length : Nat) : Int) - 1))) with view := { (aaa r2.2.1.tasks (aaQ ((aac r2.2.1.works y1.worker).stack) (wi (((((aac r2.2.1.works y1.worker).stack).length : Nat) : Int) - 1)))).view with worker := (-1) } } : TkV)) y1.task with view := { (aaa (r2.2.1.tasks.set (aaQ ((aac r2.2.1.works y1.worker).stack) (wi (((((aac r2.2.1.works y1.worker).stack).length : Nat) : Int) - 1))).toNat ({ aaa r2.2.1.tasks (aaQ ((aac r2.2.1.works y1.worker).stack) (wi (((((aac r2.2.1.works y1.worker).stack).length : Nat) : Int) - 1))) with view := { (aaa r2.2.1.tasks (aaQ ((aac r2.2.1.works y1.worker).stack) (wi (((((aac r2.2.1.works y1.worker).stack).length : Nat) : Int) - 1)))).view with worker := (-1) } } : TkV)) y1.task).view with phase := 4 } } : TkV), works := (r2.2.1.works.set y1.worker.toNat (aac r2.2.1.works y1.worker)).set y1.worker.toNat ({ aac (r2.2.1.works.set y1.worker.toNat (aac r2.2.1.works y1.worker)) y1.worker with stack := ([]) ++ (((aac r2.2.1.works y1.worker).stack).take (wi (((((aac r2.2.1.works y1.worker).stack).length : Nat) : Int) - 1) : Int).toNat) } : WlV) } : SaV), ()))
   else none
   else none
   else none
   else none
   else none
  else none
 else none
noncomputable abbrev acg : Con SR1 := ⟨70, [.ref 64, .val 2], [.sh .b], fun x => abQ x.1 x.2.1⟩
noncomputable def adn : List (Nat × Func) := [(82, Try.f82)]
theorem ado : CO Try.prog acg := abC abx Try.func70 [abl, aa7] ⟨abD, abo, trivial⟩ adn ⟨Try.func82, trivial⟩ (fun _ => []) [] fun x => by kernel_rfl
noncomputable def aa3 (y0 : SaV) (y1 : Ev) : Option ((Bool × Unit) × (SaV × Unit)) :=
 if 0 ≤ y1.task ∧ y1.task < ((y0.tasks.length : Nat) : Int) then
  if 0 ≤ y1.worker ∧ y1.worker < ((y0.works.length : Nat) : Int) then
   if y1.kind = 7 then
   if ((aac y0.works y1.worker).walk) ≠ y1.task then
   some ((false, ()), (({ y0 with works := y0.works.set y1.worker.toNat (aac y0.works y1.worker) } : SaV), ()))
   else
   if y1.level < ((aac y0.works y1.worker).low) then
   some ((false, ()), (({ y0 with works := y0.works.set y1.worker.toNat (aac y0.works y1.worker) } : SaV), ()))
   else
   if ((aaa y0.tasks y1.task).view.level) < y1.level then
   some ((false, ()), (({ y0 with tasks := y0.tasks.set y1.task.toNat (aaa y0.tasks y1.task), works := y0.works.set y1.worker.toNat (aac y0.works y1.worker) } : SaV), ()))
   else
   if 0 ≤ ((aac y0.works y1.worker).up) then
   if ((aac y0.works y1.worker).up) ≠ y1.level then
   some ((false, ()), (({ y0 with tasks := y0.tasks.set y1.task.toNat (aaa y0.tasks y1.task), works := y0.works.set y1.worker.toNat (aac y0.works y1.worker) } : SaV), ()))
   else
   some ((true, ()), (({ y0 with tasks := y0.tasks.set y1.task.toNat (aaa y0.tasks y1.task), works := y0.works.set y1.worker.toNat ({ aac y0.works y1.worker with walk := (-1) } : WlV) } : SaV), ()))
   else
   some ((true, ()), (({ y0 with tasks := y0.tasks.set y1.task.toNat (aaa y0.tasks y1.task), works := y0.works.set y1.worker.toNat ({ aac y0.works y1.worker with walk := (-1) } : WlV) } : SaV), ()))
   else
   if y1.kind = 11 then
   if ((aac y0.works y1.worker).walk) = (-1) then
   some ((false, ()), (({ y0 with works := y0.works.set y1.worker.toNat (aac y0.works y1.worker) } : SaV), ()))
   else
   (lpF (σ := Int × Int × Unit) (β := (Int × Int × Unit) ⊕ ((Bool × Unit) × (SaV × Unit))) (fun self3 x1 =>
   if x1.2.1 < ((y0.tasks.length : Nat) : Int) then
   if 0 ≤ x1.1 then
   if x1.1 < ((y0.tasks.length : Nat) : Int) then
   if 0 ≤ x1.1 ∧ x1.1 < ((y0.tasks.length : Nat) : Int) then
   if ((aaa y0.tasks x1.1).view.parent) = ((aac y0.works y1.worker).walk) then
   Option.map Sum.inr (
   if y1.level ≤ ((aaa y0.tasks y1.task).view.level) then
   some ((false, ()), (({ y0 with tasks := y0.tasks.set y1.task.toNat (aaa y0.tasks y1.task), works := y0.works.set y1.worker.toNat (aac y0.works y1.worker) } : SaV), ()))
   else
   if 0 ≤ (aac (y0.works.set y1.worker.toNat (aac y0.works y1.worker)) y1.worker).walk ∧ (aac (y0.works.set y1.worker.toNat (aac y0.works y1.worker)) y1.worker).walk < (((y0.tasks.set y1.task.toNat (aaa y0.tasks y1.task)).length : Nat) : Int) then
   if ((aaa (y0.tasks.set y1.task.toNat (aaa y0.tasks y1.task)) ((aac (y0.works.set y1.worker.toNat (aac y0.works y1.worker)) y1.worker).walk)).view.level) < y1.level then
   some ((false, ()), (({ y0 with tasks := (y0.tasks.set y1.task.toNat (aaa y0.tasks y1.task)).set ((aac (y0.works.set y1.worker.toNat (aac y0.works y1.worker)) y1.worker).walk).toNat (aaa (y0.tasks.set y1.task.toNat (aaa y0.tasks y1.task)) ((aac (y0.works.set y1.worker.toNat (aac y0.works y1.worker)) y1.worker).walk)), works := (y0.works.set y1.worker.toNat (aac y0.works y1.worker)).set y1.worker.toNat (aac (y0.works.set y1.worker.toNat (aac y0.works y1.worker)) y1.worker) } : SaV), ()))
   else
   if 0 ≤ ((aac (y0.works.set y1.worker.toNat (aac y0.works y1.worker)) y1.worker).up) then
   if ((aac (y0.works.set y1.worker.toNat (aac y0.works y1.worker)) y1.worker).up) ≠ y1.level then
   some ((false, ()), (({ y0 with tasks := (y0.tasks.set y1.task.toNat (aaa y0.tasks y1.task)).set ((aac (y0.works.set y1.worker.toNat (aac y0.works y1.worker)) y1.worker).walk).toNat (aaa (y0.tasks.set y1.task.toNat (aaa y0.tasks y1.task)) ((aac (y0.works.set y1.worker.toNat (aac y0.works y1.worker)) y1.worker).walk)), works := (y0.works.set y1.worker.toNat (aac y0.works y1.worker)).set y1.worker.toNat (aac (y0.works.set y1.worker.toNat (aac y0.works y1.worker)) y1.worker) } : SaV), ()))
   else
   if y1.level = y1.level then
   some ((true, ()), (({ y0 with tasks := ((y0.tasks.set y1.task.toNat (aaa y0.tasks y1.task)).set ((aac (y0.works.set y1.worker.toNat (aac y0.works y1.worker)) y1.worker).walk).toNat (aaa (y0.tasks.set y1.task.toNat (aaa y0.tasks y1.task)) ((aac (y0.works.set y1.worker.toNat (aac y0.works y1.worker)) y1.worker).walk))).set y1.task.toNat ({ aaa ((y0.tasks.set y1.task.toNat (aaa y0.tasks y1.task)).set ((aac (y0.works.set y1.worker.toNat (aac y0.works y1.worker)) y1.worker).walk).toNat (aaa (y0.tasks.set y1.task.toNat (aaa y0.tasks y1.task)) ((aac (y0.works.set y1.worker.toNat (aac y0.works y1.worker)) y1.worker).walk))) y1.task with view := { (aaa ((y0.tasks.set y1.task.toNat (aaa y0.tasks y1.task)).set ((aac (y0.works.set y1.worker.toNat (aac y0.works y1.worker)) y1.worker).walk).toNat (aaa (y0.tasks.set y1.task.toNat (aaa y0.tasks y1.task)) ((aac (y0.works.set y1.worker.toNat (aac y0.works y1.worker)) y1.worker).walk))) y1.task).view with level := y1.level } } : TkV), works := (y0.works.set y1.worker.toNat (aac y0.works y1.worker)).set y1.worker.toNat ({ aac (y0.works.set y1.worker.toNat (aac y0.works y1.worker)) y1.worker with up := y1.level } : WlV) } : SaV), ()))
   else none
   else
   if y1.level = y1.level then
   some ((true, ()), (({ y0 with tasks := ((y0.tasks.set y1.task.toNat (aaa y0.tasks y1.task)).set ((aac (y0.works.set y1.worker.toNat (aac y0.works y1.worker)) y1.worker).walk).toNat (aaa (y0.tasks.set y1.task.toNat (aaa y0.tasks y1.task)) ((aac (y0.works.set y1.worker.toNat (aac y0.works y1.worker)) y1.worker).walk))).set y1.task.toNat ({ aaa ((y0.tasks.set y1.task.toNat (aaa y0.tasks y1.task)).set ((aac (y0.works.set y1.worker.toNat (aac y0.works y1.worker)) y1.worker).walk).toNat (aaa (y0.tasks.set y1.task.toNat (aaa y0.tasks y1.task)) ((aac (y0.works.set y1.worker.toNat (aac y0.works y1.worker)) y1.worker).walk))) y1.task with view := { (aaa ((y0.tasks.set y1.task.toNat (aaa y0.tasks y1.task)).set ((aac (y0.works.set y1.worker.toNat (aac y0.works y1.worker)) y1.worker).walk).toNat (aaa (y0.tasks.set y1.task.toNat (aaa y0.tasks y1.task)) ((aac (y0.works.set y1.worker.toNat (aac y0.works y1.worker)) y1.worker).walk))) y1.task).view with level := y1.level } } : TkV), works := (y0.works.set y1.worker.toNat (aac y0.works y1.worker)).set y1.worker.toNat ({ aac (y0.works.set y1.worker.toNat (aac y0.works y1.worker)) y1.worker with up := y1.level } : WlV) } : SaV), ()))
   else none
   else none
   )
   else
   self3 ((aaa y0.tasks x1.1).view.parent, wi (x1.2.1 + 1), ())
   else none
   else
   some (Sum.inl (x1.1, x1.2.1, ()))
   else
   some (Sum.inl (x1.1, x1.2.1, ()))
   else
   some (Sum.inl (x1.1, x1.2.1, ()))
   ) 18446744073709551616 (y1.task, 0, ())).bind fun z2 => match z2 with
   | .inr o4 => some o4
   | .inl z2 =>
   some ((false, ()), (({ y0 with works := y0.works.set y1.worker.toNat (aac y0.works y1.worker) } : SaV), ()))
   else
   if y0.c.age < 1 then
   some ((false, ()), (y0, ()))
   else
   if 0 ≤ y1.worker then
   if y1.worker < ((y0.works.length : Nat) : Int) then
   if 0 ≤ y1.worker ∧ y1.worker < ((y0.works.length : Nat) : Int) then
   if ((((aac y0.works y1.worker).stack).length : Nat) : Int) = 0 then
   if 0 ≤ y1.worker ∧ y1.worker < (((y0.works.set y1.worker.toNat (aac y0.works y1.worker)).length : Nat) : Int) then
   if ¬ (((aac (y0.works.set y1.worker.toNat (aac y0.works y1.worker)) y1.worker).walk) = (-1)) then
   some ((false, ()), (({ y0 with works := y0.works.set y1.worker.toNat (aac y0.works y1.worker) } : SaV), ()))
   else
   if ((aaa y0.tasks y1.task).view.phase) = 0 then
   some ((false, ()), (({ y0 with tasks := y0.tasks.set y1.task.toNat (aaa y0.tasks y1.task), works := y0.works.set y1.worker.toNat (aac y0.works y1.worker) } : SaV), ()))
   else
   if y1.level ≠ (wi (((aaa y0.tasks y1.task).view.level) + 1)) then
   some ((false, ()), (({ y0 with tasks := y0.tasks.set y1.task.toNat (aaa y0.tasks y1.task), works := y0.works.set y1.worker.toNat (aac y0.works y1.worker) } : SaV), ()))
   else
   some ((true, ()), (({ y0 with tasks := y0.tasks.set y1.task.toNat ({ aaa y0.tasks y1.task with view := { (aaa y0.tasks y1.task).view with level := y1.level } } : TkV), works := y0.works.set y1.worker.toNat (aac y0.works y1.worker) } : SaV), ()))
   else none
   else
   some ((false, ()), (({ y0 with works := y0.works.set y1.worker.toNat (aac y0.works y1.worker) } : SaV), ()))
   else none
   else
   some ((false, ()), (y0, ()))
   else
   some ((false, ()), (y0, ()))
  else none
 else none
noncomputable abbrev acr : Con SR1 := ⟨71, [.ref 64, .val 2], [.sh .b], fun x => aa3 x.1 x.2.1⟩
noncomputable def ady : List (Nat × Func) := [(84, Try.f84), (65, Try.f65), (72, Try.f72)]
theorem adz : CO Try.prog acr := abC abx Try.func71 [] trivial ady ⟨Try.func84, Try.func65, Try.func72, trivial⟩ (fun f => (get [(84, [(2, .loopR [.rg 1 sI_, .rg 7 sI_] 18446744073709551616 0)])] f).getD []) [] fun x => by kernel_rfl
noncomputable def aaj (y0 : SaV) (y1 : Ev) : Option ((Bool × Unit) × (SaV × Unit)) :=
 ((
  if y1.kind = 1 then
   some (decide (y1.kind = 1), ())
  else
  some (decide (y1.kind = 2), ())
 ) : Option (Bool × Unit)).bind fun z1 =>
 if z1.1 = true then
  (aa4 y0 y1).bind fun r2 =>
  some ((r2.1.1, ()), (r2.2.1, ()))
 else
 ((
  if y1.kind = 3 then
   some (decide (y1.kind = 3), ())
  else
  some (decide (y1.kind = 4), ())
 ) : Option (Bool × Unit)).bind fun z3 =>
 if z3.1 = true then
  (aaR y0 y1).bind fun r4 =>
  some ((r4.1.1, ()), (r4.2.1, ()))
 else
 ((
  if y1.kind = 6 then
   some (decide (y1.kind = 6), ())
  else
  some (decide (y1.kind = 8), ())
 ) : Option (Bool × Unit)).bind fun z5 =>
 if z5.1 = true then
  (abt y0 y1).bind fun r6 =>
  some ((r6.1.1, ()), (r6.2.1, ()))
 else
 ((
  if y1.kind = 5 then
   some (decide (y1.kind = 5), ())
  else
  some (decide (y1.kind = 9), ())
 ) : Option (Bool × Unit)).bind fun z7 =>
 if z7.1 = true then
  (aaS y0 y1).bind fun r8 =>
  some ((r8.1.1, ()), (r8.2.1, ()))
 else
 if y1.kind = 10 then
  (abQ y0 y1).bind fun r9 =>
  some ((r9.1.1, ()), (r9.2.1, ()))
 else
 ((
  if y1.kind = 7 then
   some (decide (y1.kind = 7), ())
  else
  if y1.kind = 11 then
   some (decide (y1.kind = 11), ())
  else
  some (decide (y1.kind = 12), ())
 ) : Option (Bool × Unit)).bind fun z10 =>
 if z10.1 = true then
  (aa3 y0 y1).bind fun r11 =>
  some ((r11.1.1, ()), (r11.2.1, ()))
 else
 if y1.kind = 13 then
  if 0 ≤ y1.worker then
   if y1.worker < ((y0.works.length : Nat) : Int) then
   if 0 ≤ y1.worker ∧ y1.worker < ((y0.works.length : Nat) : Int) then
   if ((((aac y0.works y1.worker).stack).length : Nat) : Int) = 0 then
   if 0 ≤ y1.worker ∧ y1.worker < (((y0.works.set y1.worker.toNat (aac y0.works y1.worker)).length : Nat) : Int) then
   if ((aac (y0.works.set y1.worker.toNat (aac y0.works y1.worker)) y1.worker).walk) = (-1) then
   (aav y0.queue y0.c y1).bind fun r12 =>
   some ((r12.1.1, ()), (({ y0 with works := y0.works.set y1.worker.toNat (aac y0.works y1.worker), queue := r12.2.1 } : SaV), ()))
   else
   some ((false, ()), (({ y0 with works := y0.works.set y1.worker.toNat (aac y0.works y1.worker) } : SaV), ()))
   else none
   else
   some ((false, ()), (({ y0 with works := y0.works.set y1.worker.toNat (aac y0.works y1.worker) } : SaV), ()))
   else none
   else
   some ((false, ()), (y0, ()))
  else
  some ((false, ()), (y0, ()))
 else
 if y1.kind = 14 then
  if 0 ≤ y1.worker then
   if y1.worker < ((y0.works.length : Nat) : Int) then
   if 0 ≤ y1.worker ∧ y1.worker < ((y0.works.length : Nat) : Int) then
   if ((((aac y0.works y1.worker).stack).length : Nat) : Int) = 0 then
   if 0 ≤ y1.worker ∧ y1.worker < (((y0.works.set y1.worker.toNat (aac y0.works y1.worker)).length : Nat) : Int) then
   if ((aac (y0.works.set y1.worker.toNat (aac y0.works y1.worker)) y1.worker).walk) = (-1) then
   if y1.other ≠ y1.worker then
   if 0 ≤ y1.other then
   if y1.other < y0.c.workers then
   if 0 ≤ y1.task ∧ y1.task < ((y0.tasks.length : Nat) : Int) then
   some ((decide (((aaa y0.tasks y1.task).view.phase) ≠ 0), ()), (({ y0 with tasks := y0.tasks.set y1.task.toNat (aaa y0.tasks y1.task), works := y0.works.set y1.worker.toNat (aac y0.works y1.worker) } : SaV), ()))
   else none
   else
   some ((false, ()), (({ y0 with works := y0.works.set y1.worker.toNat (aac y0.works y1.worker) } : SaV), ()))
   else
   some ((false, ()), (({ y0 with works := y0.works.set y1.worker.toNat (aac y0.works y1.worker) } : SaV), ()))
   else
   some ((false, ()), (({ y0 with works := y0.works.set y1.worker.toNat (aac y0.works y1.worker) } : SaV), ()))
   else
   some ((false, ()), (({ y0 with works := y0.works.set y1.worker.toNat (aac y0.works y1.worker) } : SaV), ()))
   else none
   else
   some ((false, ()), (({ y0 with works := y0.works.set y1.worker.toNat (aac y0.works y1.worker) } : SaV), ()))
   else none
   else
   some ((false, ()), (y0, ()))
  else
  some ((false, ()), (y0, ()))
 else
 if y1.kind = 15 then
  if 0 ≤ y1.task ∧ y1.task < ((y0.tasks.length : Nat) : Int) then
   if ((aaa y0.tasks y1.task).view.phase) ≠ 0 then
   some ((decide (((aaa y0.tasks y1.task).view.phase) ≠ 1), ()), (({ y0 with tasks := y0.tasks.set y1.task.toNat (aaa y0.tasks y1.task) } : SaV), ()))
   else
   some ((false, ()), (({ y0 with tasks := y0.tasks.set y1.task.toNat (aaa y0.tasks y1.task) } : SaV), ()))
  else none
 else
 if y1.kind = 16 then
  ((
   if 0 ≤ y1.worker then
   if y1.worker < ((y0.works.length : Nat) : Int) then
   if 0 ≤ y1.worker ∧ y1.worker < ((y0.works.length : Nat) : Int) then
   if ((((aac y0.works y1.worker).stack).length : Nat) : Int) = 0 then
   if 0 ≤ y1.worker ∧ y1.worker < (((y0.works.set y1.worker.toNat (aac y0.works y1.worker)).length : Nat) : Int) then
   if y1.worker = y1.worker then
   if 0 ≤ y1.worker ∧ y1.worker < (((y0.works.set y1.worker.toNat (aac y0.works y1.worker)).length : Nat) : Int) then
   some (({ y0 with works := (y0.works.set y1.worker.toNat (aac y0.works y1.worker)).set y1.worker.toNat ({ aac (y0.works.set y1.worker.toNat (aac y0.works y1.worker)) y1.worker with sleeps := decide (((aac (y0.works.set y1.worker.toNat (aac y0.works y1.worker)) y1.worker).walk) = (-1)) } : WlV) } : SaV), ())
   else none
   else none
   else none
   else
   if y1.worker = y1.worker then
   if 0 ≤ y1.worker ∧ y1.worker < (((y0.works.set y1.worker.toNat (aac y0.works y1.worker)).length : Nat) : Int) then
   some (({ y0 with works := (y0.works.set y1.worker.toNat (aac y0.works y1.worker)).set y1.worker.toNat ({ aac (y0.works.set y1.worker.toNat (aac y0.works y1.worker)) y1.worker with sleeps := false } : WlV) } : SaV), ())
   else none
   else none
   else none
   else
   if y1.worker = y1.worker then
   if 0 ≤ y1.worker ∧ y1.worker < ((y0.works.length : Nat) : Int) then
   some (({ y0 with works := y0.works.set y1.worker.toNat ({ aac y0.works y1.worker with sleeps := false } : WlV) } : SaV), ())
   else none
   else none
   else
   if y1.worker = y1.worker then
   if 0 ≤ y1.worker ∧ y1.worker < ((y0.works.length : Nat) : Int) then
   some (({ y0 with works := y0.works.set y1.worker.toNat ({ aac y0.works y1.worker with sleeps := false } : WlV) } : SaV), ())
   else none
   else none
  ) : Option (SaV × Unit)).bind fun z13 =>
  if 0 ≤ y1.worker ∧ y1.worker < ((z13.1.works.length : Nat) : Int) then
   some (((aac z13.1.works y1.worker).sleeps, ()), (({ z13.1 with works := z13.1.works.set y1.worker.toNat (aac z13.1.works y1.worker) } : SaV), ()))
  else none
 else
 if y1.kind = 17 then
  if 0 ≤ y1.worker ∧ y1.worker < ((y0.works.length : Nat) : Int) then
   if y1.other = 1 then
   some ((true, ()), (({ y0 with works := y0.works.set y1.worker.toNat ({ aac y0.works y1.worker with sleeps := false } : WlV) } : SaV), ()))
   else
   some ((decide (y1.other = 2), ()), (({ y0 with works := y0.works.set y1.worker.toNat ({ aac y0.works y1.worker with sleeps := false } : WlV) } : SaV), ()))
  else none
 else
 if y1.kind = 18 then
  if 0 ≤ y1.other then
   some ((decide (y1.other < y0.c.workers), ()), (y0, ()))
  else
  some ((false, ()), (y0, ()))
 else
 if 0 ≤ y1.task ∧ y1.task < ((y0.tasks.length : Nat) : Int) then
  some ((decide (((aaa y0.tasks y1.task).view.phase) ≠ 0), ()), (({ y0 with tasks := y0.tasks.set y1.task.toNat (aaa y0.tasks y1.task) } : SaV), ()))
 else none
noncomputable abbrev acu : Con SR1 := ⟨48, [.ref 64, .val 2], [.sh .b], fun x => aaj x.1 x.2.1⟩
noncomputable def adD : List (Nat × Func) := [(72, Try.f72)]
theorem adE : CO Try.prog acu := abC abx Try.func48 [acs, acq, acB, act, acg, acr, abJ] ⟨adA, adw, adU, adB, ado, adz, aci, trivial⟩ adD ⟨Try.func72, trivial⟩ (fun _ => []) [(4, .cut [.rg 8 .b] [0, 6]), (7, .cut [.rg 14 .b] [0, 6]), (10, .cut [.rg 20 .b] [0, 6]), (13, .cut [.rg 26 .b] [0, 6]), (19, .cut [.rg 37 .b] [0, 6]), (29, .cut [.ob 0 64] [6])] fun x => by kernel_rfl
noncomputable def aam (y0 : SaV) (y1 : Ev) : Option ((Bool × Unit) × (SaV × Unit)) :=
 (aaf y0 y1).bind fun r1 =>
 if (!r1.1.1) = true then
  some ((false, ()), (r1.2.1, ()))
 else
 (aaj r1.2.1 y1).bind fun r2 =>
 if (!r2.1.1) = true then
  some ((false, ()), (r2.2.1, ()))
 else
 if y1.worker < r2.2.1.c.workers then
  if 0 ≤ y1.worker ∧ y1.worker < ((r2.2.1.works.length : Nat) : Int) then
   some ((true, ()), (({ r2.2.1 with works := r2.2.1.works.set y1.worker.toNat ({ aac r2.2.1.works y1.worker with last := y1 } : WlV) } : SaV), ()))
  else none
 else
 some ((true, ()), (r2.2.1, ()))
noncomputable abbrev acL : Con SR1 := ⟨23, [.ref 64, .val 2], [.sh .b], fun x => aam x.1 x.2.1⟩
theorem aeb : CO Try.prog acL := abC abx Try.func23 [acD, acu] ⟨adX, adE, trivial⟩ [] trivial (fun _ => []) [] fun x => by kernel_rfl
noncomputable def aaY (y0 : Cfg) (y1 : List Ev) : Option ((List VwV × Int × Int × Unit) × (Unit)) :=
 (ag5 y0).bind fun r1 =>
 if r1.1.1 ≠ 0 then
  some (([], 0, r1.1.1, ()), (()))
 else
 (abW y0).bind fun r2 =>
 (lpF (σ := Int × Int × Int × SaV × Unit) (β := Int × Int × Int × SaV × Unit) (fun self5 x3 =>
  if x3.2.2.1 < ((y1.length : Nat) : Int) then
   if 0 ≤ x3.2.2.1 ∧ x3.2.2.1 < ((y1.length : Nat) : Int) then
   (aam x3.2.2.2.1 (abr y1 x3.2.2.1)).bind fun r6 =>
   if (!r6.1.1) = true then
   some (x3.2.2.1, 6, x3.2.2.1, r6.2.1, ())
   else
   self5 (x3.1, x3.2.1, wi (x3.2.2.1 + 1), r6.2.1, ())
   else none
  else
  some (x3.1, x3.2.1, x3.2.2.1, x3.2.2.2.1, ())
 ) 18446744073709551616 (((y1.length : Nat) : Int), 0, 0, r2.1.1, ())).bind fun z4 =>
 (abW y0).bind fun r7 =>
 (lpF (σ := Int × SaV × Unit) (β := Int × SaV × Unit) (fun self10 x8 =>
  if x8.1 < z4.1 then
   if 0 ≤ x8.1 ∧ x8.1 < ((y1.length : Nat) : Int) then
   (aam x8.2.1 (abr y1 x8.1)).bind fun r11 =>
   self10 (wi (x8.1 + 1), r11.2.1, ())
   else none
  else
  some (x8.1, x8.2.1, ())
 ) 18446744073709551616 (0, r7.1.1, ())).bind fun z9 =>
 (lpF (σ := List VwV × Int × SaV × Unit) (β := List VwV × Int × SaV × Unit) (fun self14 x12 =>
  if x12.2.1 < ((x12.2.2.1.tasks.length : Nat) : Int) then
   if 0 ≤ x12.2.1 ∧ x12.2.1 < ((x12.2.2.1.tasks.length : Nat) : Int) then
   if (((x12.1.length + ([(aaa x12.2.2.1.tasks x12.2.1).view] : List VwV).length : Nat)) : Int) < 1000000000000 then
   self14 (x12.1 ++ ([(aaa x12.2.2.1.tasks x12.2.1).view]), wi (x12.2.1 + 1), x12.2.2.1, ())
   else none
   else none
  else
  some (x12.1, x12.2.1, x12.2.2.1, ())
 ) 18446744073709551616 ([], 0, z9.2.1, ())).bind fun z13 =>
 some ((z13.1, z4.1, z4.2.1, ()), (()))
noncomputable abbrev acR : Con SR1 := ⟨15, [.val 13, .sh (.ro 2)], [.sh (.row 60), .sh sI_, .sh sI_], fun x => aaY x.1 x.2.1⟩
theorem aep : CO Try.prog acR := abC abx Try.func15 [ah0, adF, acL] ⟨aj4, afu, aeb, trivial⟩ [] trivial (fun _ => []) [(18, .loop [.rg 13 (.row 60), .rg 14 sI_, .ob 1000010 64] 18446744073709551616 4), (7, .loop [.rg 8 sI_, .rg 9 sI_, .rg 11 sI_, .rg 10 (.own 64)] 18446744073709551616 0), (13, .loop [.rg 12 sI_, .rg 10 (.own 64)] 18446744073709551616 2)] fun x => by kernel_rfl
end
section
open Go Go.RowKit Go.Lib
set_option maxRecDepth 100000
set_option maxHeartbeats 4000000
theorem ajz (w : World) : (Go.underlying 80).run Try.prog w = .ok (.slice 121) w := abp Try.underlying80
theorem amI : ∃ i, Try.prog.info? 121 = some i ∧ i.zero = some (.agg #[.int .i64 0, .int .i64 0, .int .i64 0]) ∧ i.size = 3 ∧ i.bytes = 24 := by
  obtain ⟨i, hi⟩ : ∃ i, Try.prog.info? 121 = some i ∧ i.zero = some (.agg #[.int .i64 0, .int .i64 0, .int .i64 0]) ∧ i.size = 3 ∧ i.bytes = 24 := ⟨_, rfl, by kernel_rfl, by kernel_rfl, by kernel_rfl⟩
  exact ⟨i, hi⟩
theorem alC (w : World) : (Go.sizeOf 121).run Try.prog w = .ok 3 w := by
  obtain ⟨i, h1, h2, h3, h4⟩ := amI
  unfold Go.sizeOf
  rw [aae (abn h1), h3]
  rfl
theorem aql (base : Option Addr) (n c vb voff vc : Nat) (v' : Value) (w W1 : World) (hnc : n ≤ c) (hc63 : c ≤ 9223372036854775807) (hb : base = none → n = 0 ∧ c = 0)
    (h1 : ∀ ty, (Builtin.append_ #[80, 80] ty #[.slice base n c, .slice (some ⟨vb, voff, none⟩) 1 vc]).run Try.prog w = .ok v' W1) :
    Calls Try.prog 76 #[.slice base n c, .int .i64 n, .slice (some ⟨vb, voff, none⟩) 1 vc] w fun e w' => e = .returned v' ∧ w' = W1 := by
  have q1 := ajz
  have q2 := alC
  have q3 := Try.underlying80
  go_enter Try.func76, Try.ntmps76
  cases base with
  | none =>
    obtain ⟨rfl, rfl⟩ := hb rfl
    go_wp2_with (at_builtin; refine Lib.wpList_append_run _ rfl _ _ _ _ rfl _ _ rfl rfl _ _ (h1 _) ?_)
    go_ret
    exact ⟨rfl, rfl⟩
  | some a =>
    obtain ⟨ab, ao, asp⟩ := a
    go_wp2_with (at_builtin; refine Lib.wpList_append_run _ rfl _ _ _ _ rfl _ _ rfl rfl _ _ (h1 _) ?_)
    all_goals (go_ret; exact ⟨rfl, rfl⟩)
theorem amM (b off n c i vb voff vc : Nat) (r1 r2 : Value) (w W1 W2 : World) (hi : i < n) (hroom : n + 1 ≤ c) (hc63 : c ≤ 9223372036854775807)
    (hov : ∀ cb, (callFunc 88 #[.slice (some ⟨vb, voff, none⟩) 1 vc, .slice (some ⟨b, off + (i + 1) * 3, none⟩) (n - i) cb]).run Try.prog w = .ok (.value (.bool false)) w)
    (h1 : ∀ ty dc sc, (Builtin.copy_ #[80, 80] ty #[.slice (some ⟨b, off + (i + 1) * 3, none⟩) (n + 1 - (i + 1)) dc, .slice (some ⟨b, off + i * 3, none⟩) (n + 1 - i) sc]).run Try.prog w.drew = .ok r1 W1)
    (h2 : ∀ ty dc, (Builtin.copy_ #[80, 80] ty #[.slice (some ⟨b, off + i * 3, none⟩) (n + 1 - i) dc, .slice (some ⟨vb, voff, none⟩) 1 vc]).run Try.prog W1 = .ok r2 W2) :
    Calls Try.prog 76 #[.slice (some ⟨b, off, none⟩) n c, .int .i64 i, .slice (some ⟨vb, voff, none⟩) 1 vc] w fun e w' => e = .returned (.slice (some ⟨b, off, none⟩) (n + 1) c) ∧ w' = W2 := by
  have q1 := ajz
  have q2 := alC
  have q3 := Try.underlying80
  have abx : Try.prog.follows .mixedOrders = true := by kernel_rfl
  have hz2 : ¬ ((i : Int) = (n : Int)) := by omega
  have hw1 : IntKind.i64.wrap ((i : Int) + 1) = (i : Int) + 1 := by rw [IntKind.wrap_i64]; omega
  have hw2 : IntKind.i64.wrap ((n : Int) + 1) = (n : Int) + 1 := by rw [IntKind.wrap_i64]; omega
  have hb1 : (0 : Int) ≤ (i : Int) + 1 := by omega
  have hin : i ≤ n := by omega
  have htn : ((i : Int) + 1).toNat = i + 1 := by omega
  have htn2 : ((n : Int) + 1).toNat = n + 1 := by omega
  have hb2 : ¬ (c = i + 1) := by omega
  have hb3 : (i : Int) ≤ (n : Int) + 1 := by omega
  have hb4 : ¬ (c = i) := by omega
  go_enter Try.func76, Try.ntmps76
  go_wp2_with (simp only [hov])
  go_region_law_o (refine step_copy_runI rfl _ _ 80 80 rfl (.slice (some ⟨b, off + (i + 1) * 3, none⟩) (n + 1 - (i + 1)) (c - (i + 1))) (.slice (some ⟨b, off + i * 3, none⟩) (n + 1 - i) (c - i)) (by simp [Act.eval, Act.put]) (by simp [Act.eval, Act.put]) (h1 _ _ _) ?_)
  go_wp2_with (at_builtin; refine wpList_copy_runI _ rfl _ _ 80 80 rfl _ _ rfl rfl (h2 _ _) ?_)
  go_ret
  exact ⟨rfl, rfl⟩
theorem aou (b off n c i vb voff vc g G : Nat) (r1 r2 : Value) (w W0 W1 W2 : World) (hi : i < n) (hnc : n ≤ c) (hroom : c < n + 1) (hc63 : c ≤ 9223372036854775807) (hn63 : n + 1 ≤ 9223372036854775807) (hG : n + 1 ≤ G) (hG63 : G ≤ 9223372036854775807)
    (h0 : ∀ ty, (Builtin.append_ #[80, 3] ty #[.slice (some ⟨b, off, none⟩) i c, .int .i64 ((n : Int) + 1 - (i : Int))]).run Try.prog w = .ok (.slice (some ⟨g, 0, none⟩) (n + 1) G) W0)
    (h1 : ∀ ty, (Builtin.copy_ #[80, 80] ty #[.slice (some ⟨g, i * 3, none⟩) (n + 1 - i) (G - i), .slice (some ⟨vb, voff, none⟩) 1 vc]).run Try.prog W0 = .ok r1 W1)
    (h2 : ∀ ty, (Builtin.copy_ #[80, 80] ty #[.slice (some ⟨g, (i + 1) * 3, none⟩) (n + 1 - (i + 1)) (G - (i + 1)), .slice (some ⟨b, off + i * 3, none⟩) (n - i) (c - i)]).run Try.prog W1.drew = .ok r2 W2) :
    Calls Try.prog 76 #[.slice (some ⟨b, off, none⟩) n c, .int .i64 i, .slice (some ⟨vb, voff, none⟩) 1 vc] w fun e w' => e = .returned (.slice (some ⟨g, 0, none⟩) (n + 1) G) ∧ w' = W2 := by
  have q1 := ajz
  have q2 := alC
  have q3 := Try.underlying80
  have abx : Try.prog.follows .mixedOrders = true := by kernel_rfl
  have hz2 : ¬ ((i : Int) = (n : Int)) := by omega
  have hz3 : (c : Int) < (n : Int) + 1 := by omega
  have hw1 : IntKind.i64.wrap ((i : Int) + 1) = (i : Int) + 1 := by rw [IntKind.wrap_i64]; omega
  have hw2 : IntKind.i64.wrap ((n : Int) + 1) = (n : Int) + 1 := by rw [IntKind.wrap_i64]; omega
  have hw3 : IntKind.i64.wrap ((n : Int) + 1 - (i : Int)) = (n : Int) + 1 - (i : Int) := by rw [IntKind.wrap_i64]; omega
  have hb1 : (0 : Int) ≤ (i : Int) + 1 := by omega
  have hin : i ≤ n := by omega
  have htn : ((i : Int) + 1).toNat = i + 1 := by omega
  have hb3 : (i : Int) ≤ (n : Int) := by omega
  have hb4 : ¬ (c = i) := by omega
  have hG1 : ¬ (G = i) := by omega
  have hG2 : ¬ (G = i + 1) := by omega
  have hb5 : (i : Int) ≤ (n : Int) + 1 := by omega
  go_enter Try.func76, Try.ntmps76
  go_wp2_with (first
    | (at_builtin; refine Lib.wpList_append_run _ rfl _ _ _ _ rfl _ _ rfl rfl _ _ (h0 _) ?_)
    | (at_builtin; refine wpList_copy_runI _ rfl _ _ 80 80 rfl (.slice (some ⟨g, i * 3, none⟩) (n + 1 - i) (G - i)) (.slice (some ⟨vb, voff, none⟩) 1 vc) (by simp [Act.eval, Act.put]) (by simp [Act.eval, Act.put]) (h1 _) ?_))
  go_region_law_o (refine step_copy_runI rfl _ _ 80 80 rfl (.slice (some ⟨g, (i + 1) * 3, none⟩) (n + 1 - (i + 1)) (G - (i + 1))) (.slice (some ⟨b, off + i * 3, none⟩) (n - i) (c - i)) (by simp [Act.eval, Act.put]) (by simp [Act.eval, Act.put]) (h2 _) ?_)
  go_wp2
  go_ret
  exact ⟨rfl, rfl⟩
end
section
open Go Go.RowKit Go.Lib
set_option maxRecDepth 100000
theorem ahd {w w1 : World} {ty : TypeId} {b o dLen dCap sLen sCap n : Nat} {a : Addr} {cs : List Value} (hn : Nat.min sLen dLen = n) (hl : ∀ j u, cs[j]? = some u → w.cell? (a.add j) = some u) (hc : cs.length = n * 3) (hst : (storeCells ⟨b, o, none⟩ cs 0).run Try.prog w = .ok () w1) :
    (Builtin.copy_ #[80, 80] ty #[.slice (some ⟨b, o, none⟩) dLen dCap, .slice (some a) sLen sCap]).run Try.prog w = .ok (goInt n) w1 := by
  have h1 : (loadCells a (n * 3)).run Try.prog w = .ok cs.toArray w := by rw [← hc]; exact run_loadCells_list w a cs hl
  have h2 := ajz
  have h3 := alC
  simp [Builtin.copy_, h2, h3, Builtin.lenOf, Builtin.firstCells, hn, h1, hst]
section
variable {B : Nat} {W w : World} {L : List aag} {A A2 : Option Addr} {n c c2 i : Nat} {X Y : List Value}
theorem arX {b o vb vo : Nat} {Z : List Value} {cb : Nat} (s : Sat B w (pts b o Z :: pts vb vo Y :: L)) (hY : Y.length = 3) (hZ : (n + 1) * 3 ≤ Z.length) (hi : i < n) :
    (callFunc 88 #[.slice (some ⟨vb, vo, none⟩) 1 c2, .slice (some ⟨b, o + (i + 1) * 3, none⟩) (n - i) cb]).run Try.prog w = .ok (.value (.bool false)) w := by
  have hv := s.drop.cell (i := 0) (v := Y[0]'(by omega)) (List.getElem?_eq_getElem _)
  have hb := s.cell (i := 0) (v := Z[0]'(by omega)) (List.getElem?_eq_getElem _)
  have tv := s.drop.tame (i := 0) (v := Y[0]'(by omega)) (List.getElem?_eq_getElem _)
  have sh : ∀ {b o : Nat} {v : Value}, w.cell? ⟨b, o, none⟩ = some v → ∃ t k, w.shape? b = some (t, k) ∧ k ≠ 0 := fun {b o v} h => by
    unfold World.cell? at h
    unfold World.shape?
    cases hh : w.heap[b]? with
    | none => rw [hh] at h; cases h
    | some x =>
      rw [hh] at h
      cases x <;> simp at h ⊢
      rename_i cs el fr
      have hlt := (Array.getElem?_eq_some_iff.1 h).1
      exact ⟨el, cs.size, ⟨rfl, rfl⟩, by omega⟩
  obtain ⟨tA, kA, s1, _⟩ := sh hv.2.1
  obtain ⟨tB, kB, s2, s3⟩ := sh hb.2.1
  rw [run_callFunc_extern Try.func88 (by kernel_rfl) (by kernel_rfl) (by kernel_rfl) (e := Extern.SlicesOverlaps.overlaps #[80, 80] #[4]) (by kernel_rfl)]
  by_cases hne : vb = b
  · subst hne
    have hno : ¬ (vo < o + (i + 1) * 3 + (n - i) * 3 ∧ o + (i + 1) * 3 < vo + 3) := fun ⟨q1, q2⟩ => by
      obtain ⟨h, H, k1, k2, a, e, hA, hL⟩ := s
      obtain ⟨k3, k4, a', e', hA', _⟩ := hL
      have key : ∀ x, vo ≤ x → x < vo + 3 → o ≤ x → x < o + (n + 1) * 3 → False := fun x p1 p2 p3 p4 => by
        have c1 := hA (x - o) _ (List.getElem?_eq_getElem (by omega))
        have c2 := hA' (x - vo) _ (List.getElem?_eq_getElem (by omega))
        rw [show o + (x - o) = x by omega] at c1
        rw [show vo + (x - vo) = x by omega] at c2
        have c3 : k2 vb x = some (.cell (Y[x - vo]'(by omega))) := by rw [e']; unfold abO; rw [c2]
        rcases a vb x with h1 | h1 | ⟨v, h1, _⟩
        · rw [h1] at c1; cases c1
        · rw [h1] at c3; cases c3
        · rw [h1] at c1; cases c1
      by_cases hx : vo ≤ o + (i + 1) * 3
      · exact key (o + (i + 1) * 3) hx q2 (by omega) (by omega)
      · exact key vo (Nat.le_refl _) (by omega) (by omega) (by omega)
    have u1 := ajz
    have u2 := alC
    have hni : ¬ (n - i = 0) := by omega
    have : (Extern.SlicesOverlaps.overlaps #[80, 80] #[4] #[.slice (some ⟨vb, vo, none⟩) 1 c2, .slice (some ⟨vb, o + (i + 1) * 3, none⟩) (n - i) cb]).run Try.prog w = .ok (.bool false) w := by
      delta Extern.SlicesOverlaps.overlaps
      delta Extern.SlicesOverlaps.overlaps.match_4
      simp [u1, u2, hni]
      delta Extern.SlicesOverlaps.overlaps._sparseCasesOn_4
      simp only [Array.getLit]
      simp [u1, u2, hni]
      omega
    rw [this]; rfl
  · rw [Lib.run_overlaps_apart w 80 4 121 Try.underlying80 3 alC ⟨vb, vo, none⟩ ⟨b, o + (i + 1) * 3, none⟩ 1 c2 (n - i) cb hne tA tB kA kB s1 s2 s3 hv.2.2 (tv tA kA s1)]
    rfl
theorem arY (s : Sat B w (acx A n c 3 X :: acx A2 1 c2 3 Y :: L)) (hb : Below B W w) (hl : B ≤ w.heap.size) (hX : X.all abA = true) (hY : Y.all abA = true) (hi : i ≤ n) (hn : n ≤ 1000000) :
    Calls Try.prog 76 #[.slice A n c, .int .i64 i, .slice A2 1 c2] w fun e w' => ∃ A' c', e = .returned (.slice A' (n + 1) c') ∧ Cls B W (acx A' (n + 1) c' 3 (X.take (i * 3) ++ Y ++ X.drop (i * 3)) :: L) w' := by
  obtain ⟨hXl, hnc, hcm, hA⟩ := acG s (List.mem_cons_self ..)
  obtain ⟨h0, H0, k1, k2, ap, e, hr1, hL⟩ := s
  obtain ⟨k3, k4, ap2, e2, ⟨hYl, hc1, hcm2, hA2⟩, hL2⟩ := hL
  rcases hA2 with ⟨_, rfl⟩ | ⟨vb, vo, sp2, rfl, hsp2, hp2⟩
  · omega
  have hY3 : Y.length = 3 := by omega
  have s : Sat B w (acx A n c 3 X :: pts vb vo Y :: L) := ⟨h0, H0, k1, k2, ap, e, hr1, k3, k4, ap2, e2, (afl hp2).1, hL2⟩
  have sv : Sat B w (pts vb vo Y :: L) := s.drop
  obtain ⟨y0, hy0⟩ : ∃ y, Y[0]? = some y := ⟨Y[0]'(by omega), List.getElem?_eq_getElem _⟩
  have hYc : ∀ j u, Y[j]? = some u → w.cell? ((⟨vb, vo, none⟩ : Addr).add j) = some u := fun j u hj => by rw [abd]; exact (sv.cell hj).2.1
  by_cases hin : i = n
  · subst hin
    obtain ⟨inf, f1, f2, f3, f4⟩ := amI
    obtain ⟨A', c', w', h1, h2⟩ := agP (P := Try.prog) (ty := 80) (c := c2) (k := 1) (sz := 3) (z := .agg #[.int .i64 0, .int .i64 0, .int .i64 0]) (by_ := 24) Try.underlying80 ⟨inf, f1, f2, f3, f4⟩ rfl (by decide) s hb hl (by omega) hY (by decide) (by unfold maxLen; omega) (by omega)
    refine (aql A i c vb vo c2 _ w w' hnc (by unfold maxLen at hcm; omega) (fun e => ?_) (fun ty => h1)).mono fun e w2 ⟨he, hw⟩ => ?_
    · rcases hA with ⟨_, h⟩ | ⟨b, o, h, _⟩
      · omega
      · rw [h] at e; cases e
    · subst hw
      refine ⟨A', c', he, h2.1, h2.2.1, ?_⟩
      have e1 : X.take (i * 3) ++ Y ++ X.drop (i * 3) = X ++ Y := by
        rw [List.take_of_length_le (by omega), List.drop_eq_nil_of_le (by omega), List.append_nil]
      rw [e1]
      obtain ⟨q0, Q, q1, q2, qa, qe, g1, g2⟩ := h2.2.2
      exact Sat.perm (L := [acx A' (i + 1) c' 3 (X ++ Y), pts vb vo Y] ++ L) ⟨q0, Q, q1, q2, qa, qe, g1, g2⟩ (List.Perm.refl _) |>.imp fun h => aa5 fun h hh => by
        obtain ⟨_, _, ap, e, _, hM⟩ := hh
        have : aba ([] ++ L) h := aan.2 ⟨_, _, ap, e, trivial, hM⟩
        exact this
  · have hlt : i < n := by omega
    rcases hA with ⟨_, h⟩ | ⟨b, o, rfl, hcells⟩
    · omega
    obtain ⟨q0, Q, q1, q2, qa, qe, ⟨_, _, _, hA⟩, qL⟩ := s
    rcases hA with ⟨h, _⟩ | ⟨b', o', sp, he, hsp, hp⟩
    · cases h
    obtain ⟨rfl, rfl⟩ : b = b' ∧ o = o' := by
      have := Option.some.inj he; exact ⟨congrArg Addr.block this, congrArg Addr.off this⟩
    have s : Sat B w (pts b o (X ++ sp) :: pts vb vo Y :: L) := ⟨q0, Q, q1, q2, qa, qe, hp, qL⟩
    have hXd : (X.drop (i * 3)).length = (n - i) * 3 := by rw [List.length_drop, hXl]; omega
    have hXda : (X.drop (i * 3)).all abA = true := List.all_eq_true.2 fun u hu => List.all_eq_true.1 hX u (List.mem_of_mem_drop hu)
    by_cases hroom : n + 1 ≤ c
    · have hspl : 3 ≤ sp.length := by rw [hsp]; have : 1 ≤ c - n := by omega
                                      omega
      have sd := s.below (w' := w.drew) ((Below.refl _ _).drew)
      obtain ⟨W1, g1, g2⟩ := abu (P := Try.prog) (W := W) (b := b) (o := o) (o' := o + (i + 1) * 3) (X.drop (i * 3)) 0 ((i + 1) * 3) (X ++ sp) w.drew _ (by omega) hXda (by rw [hXd, List.length_append, hXl]; omega) sd hb.drew (by simpa using hl)
      obtain ⟨W2, g3, g4⟩ := abu (P := Try.prog) (W := W) (b := b) (o := o) (o' := o + i * 3) Y 0 (i * 3) _ W1 _ (by omega) hY (by simp only [List.length_append, List.length_take, List.length_drop, hXl, hY3]; omega) g2.2.2 g2.1 g2.2.1
      have ov : ∀ cb, (callFunc 88 #[.slice (some ⟨vb, vo, none⟩) 1 c2, .slice (some ⟨b, o + (i + 1) * 3, none⟩) (n - i) cb]).run Try.prog w = .ok (.value (.bool false)) w := fun cb => arX s hY3 (by rw [List.length_append, hXl]; omega) hlt
      refine (amM b o n c i vb vo c2 (goInt ((n - i : Nat) : Int)) (goInt 1) w W1 W2 hlt hroom (by unfold maxLen at hcm; omega) ov (fun ty dc sc => ?_) (fun ty dc => ?_)).mono fun e w2 ⟨he, hw⟩ => ?_
      · refine ahd (n := n - i) (sLen := n + 1 - i) (dLen := n + 1 - (i + 1)) (by simp only [Nat.min_def]; split <;> omega) (fun j u hj => ?_) hXd g1
        rw [abd, Nat.add_assoc]
        refine (sd.cell ?_).2.1
        rw [List.getElem?_drop] at hj
        rw [List.getElem?_append_left (List.getElem?_eq_some_iff.1 hj).1]
        exact hj
      · refine ahd (n := 1) (sLen := 1) (dLen := n + 1 - i) (by simp only [Nat.min_def]; split <;> omega) (fun j u hj => ?_) (by omega) g3
        rw [abd]
        exact (g2.2.2.drop.cell hj).2.1
      · subst hw
        refine ⟨some ⟨b, o, none⟩, c, he, g4.1, g4.2.1, ?_⟩
        have s3 := g4.2.2
        refine s3.imp fun h => fun hh => ?_
        obtain ⟨a1, a2, a3, a4, a5, a6⟩ := hh
        obtain ⟨_, _, b1, b2, _, b3⟩ := a6
        have b4 : aba L a2 := by
          have : aba ([] ++ L) a2 := aan.2 ⟨_, _, b1, b2, trivial, b3⟩
          exact this
        refine ⟨a1, a2, a3, a4, ⟨?_, hroom, hcm, .inr ⟨b, o, sp.drop 3, rfl, ?_, ?_⟩⟩, b4⟩
        · simp only [List.length_append, List.length_take, List.length_drop, hXl, hY3]; omega
        · rw [List.length_drop, hsp]; omega
        · have e1 : ((X ++ sp).take ((i + 1) * 3) ++ X.drop (i * 3) ++ (X ++ sp).drop ((i + 1) * 3 + (X.drop (i * 3)).length)).take (i * 3) = X.take (i * 3) := by
            rw [List.append_assoc, List.take_append_of_le_length (by rw [List.length_take, List.length_append, hXl]; omega), List.take_take, Nat.min_eq_left (by omega), List.take_append_of_le_length (by omega)]
          have e2 : ((X ++ sp).take ((i + 1) * 3) ++ X.drop (i * 3) ++ (X ++ sp).drop ((i + 1) * 3 + (X.drop (i * 3)).length)).drop (i * 3 + Y.length) = X.drop (i * 3) ++ sp.drop 3 := by
            have l1 : ((X ++ sp).take ((i + 1) * 3)).length = i * 3 + Y.length := by rw [List.length_take, List.length_append, hXl]; omega
            rw [List.append_assoc, ← l1, List.drop_left, hXd]
            congr 1
            rw [List.drop_append, List.drop_eq_nil_of_le (by omega), List.nil_append]
            congr 1
            omega
          rw [e1, e2] at a5
          simpa [List.append_assoc] using a5
    · obtain ⟨inf, f1, f2, f3, f4⟩ := amI
      have sd := s.below (w' := w.drew) ((Below.refl _ _).drew)
      have hXt : (X.take (i * 3)).length = i * 3 := by rw [List.length_take, hXl]; omega
      have hold : (Builtin.firstCells inf.size i (.slice (some ⟨b, o, none⟩) i c)).run Try.prog w.drew = .ok (X.take (i * 3)).toArray w.drew := by
        rw [f3]
        refine run_firstCells_some w.drew 3 i ⟨b, o, none⟩ i c (X.take (i * 3)) hXt fun j v hj => ?_
        rw [abd]
        refine (sd.cell ?_).2.1
        rw [List.getElem?_take] at hj
        split at hj
        · rw [List.getElem?_append_left (List.getElem?_eq_some_iff.1 hj).1]; exact hj
        · cases hj
      have hik : i + (n + 1 - i) = n + 1 := by omega
      have hG := grownCap_ge w (n + 1) c 121
      have hGm := grownCap_le_maxLen w (n + 1) c 121 (by unfold maxLen; omega)
      obtain ⟨G, hGe⟩ : ∃ G, grownCap w (n + 1) c 121 = G := ⟨_, rfl⟩
      have hrz : ∀ ty, (Builtin.append_ #[80, 3] ty #[.slice (some ⟨b, o, none⟩) i c, .int .i64 ((n : Int) + 1 - (i : Int))]).run Try.prog w = .ok (.slice (some ⟨w.heap.size, 0, none⟩) (n + 1) G) (w.drew.alloc (.cells ((X.take (i * 3)).toArray ++ Builtin.zeroCells #[.int .i64 0, .int .i64 0, .int .i64 0] (n + 1 - i) ++ Builtin.zeroCells #[.int .i64 0, .int .i64 0, .int .i64 0] (G - (n + 1))) 121)) := fun ty => by
        have h := Lib.run_append_grow_zeros w 80 3 ty 121 inf _ .i64 .i64 Try.underlying80 Try.underlying3 f1 f2 (some ⟨b, o, none⟩) i c (X.take (i * 3)) hold (n + 1 - i) (by omega) (by omega) (by omega) (by omega) (by rw [f4]; omega) (by rw [f4, hik]; exact growslice_fits (by omega) (by omega))
        rw [hik, hGe] at h
        rw [show ((n : Int) + 1 - (i : Int)) = ((n + 1 - i : Nat) : Int) by omega]
        exact h
      rw [hGe] at hG hGm
      generalize hR : (X.take (i * 3)).toArray ++ Builtin.zeroCells #[.int .i64 0, .int .i64 0, .int .i64 0] (n + 1 - i) ++ Builtin.zeroCells #[.int .i64 0, .int .i64 0, .int .i64 0] (G - (n + 1)) = ROW at hrz
      have hRs : ROW.toList.length = G * 3 := by
        rw [← hR]
        simp [size_zeroCells, hXl]
        omega
      have hRt : ROW.toList.take (i * 3) = X.take (i * 3) := by
        rw [← hR]
        simp only [Array.toList_append, List.append_assoc]
        rw [List.take_append_of_le_length (by rw [hXt]; exact Nat.le_refl _), List.take_of_length_le (by rw [hXt]; exact Nat.le_refl _)]
      have s0 := sd.fresh (cs := ROW) (T := 121) (by simpa using hl)
      have b0 := ab4 hb.drew (by simpa using hl) (.cells ROW 121)
      have l0 : B ≤ (w.drew.alloc (.cells ROW 121)).heap.size := by simpa using Nat.le_succ_of_le hl
      obtain ⟨W1, g1, g2⟩ := abu (P := Try.prog) (W := W) (b := w.heap.size) (o := 0) (o' := i * 3) Y 0 (i * 3) ROW.toList _ _ (by omega) hY (by rw [hRs, hY3]; omega) s0 b0 l0
      have sd1 := g2.2.2.below (w' := W1.drew) ((Below.refl _ _).drew)
      obtain ⟨W2, g3, g4⟩ := abu (P := Try.prog) (W := W) (b := w.heap.size) (o := 0) (o' := (i + 1) * 3) (X.drop (i * 3)) 0 ((i + 1) * 3) _ W1.drew _ (by omega) hXda (by simp only [List.length_append, List.length_take, List.length_drop, hRs, hY3, hXl]; omega) sd1 g2.1.drew (by simpa using g2.2.1)
      refine (aou b o n c i vb vo c2 w.heap.size G (goInt 1) (goInt ((n - i : Nat) : Int)) w _ W1 W2 hlt hnc (by omega) (by unfold maxLen at hcm; omega) (by omega) hG (by unfold maxLen at hGm; omega) hrz (fun ty => ?_) (fun ty => ?_)).mono fun e w2 ⟨he, hw⟩ => ?_
      · refine ahd (n := 1) (sLen := 1) (dLen := n + 1 - i) (by simp only [Nat.min_def]; split <;> omega) (fun j u hj => ?_) (by omega) g1
        rw [abd]
        exact (s0.drop.drop.cell hj).2.1
      · refine ahd (n := n - i) (sLen := n - i) (dLen := n + 1 - (i + 1)) (by simp only [Nat.min_def]; split <;> omega) (fun j u hj => ?_) hXd g3
        rw [abd, Nat.add_assoc]
        refine (sd1.drop.cell ?_).2.1
        rw [List.getElem?_drop] at hj
        rw [List.getElem?_append_left (List.getElem?_eq_some_iff.1 hj).1]
        exact hj
      · subst hw
        refine ⟨some ⟨w.heap.size, 0, none⟩, G, he, g4.1, g4.2.1, ?_⟩
        have s3 := g4.2.2
        refine s3.imp fun h => fun hh => ?_
        obtain ⟨a1, a2, a3, a4, a5, a6⟩ := hh
        obtain ⟨_, _, b1, b2, _, b3⟩ := a6
        obtain ⟨_, _, b1', b2', _, b3'⟩ := b3
        have b4 : aba L a2 := by
          have h1 : aba ([] ++ L) _ := aan.2 ⟨_, _, b1', b2', trivial, b3'⟩
          have : aba ([] ++ L) a2 := aan.2 ⟨_, _, b1, b2, trivial, h1⟩
          exact this
        refine ⟨a1, a2, a3, a4, ⟨?_, hG, hGm, .inr ⟨w.heap.size, 0, (ROW.toList.take (i * 3) ++ Y ++ ROW.toList.drop (i * 3 + Y.length)).drop ((n + 1) * 3), rfl, ?_, ?_⟩⟩, b4⟩
        · simp only [List.length_append, List.length_take, List.length_drop, hXl, hY3]; omega
        · simp only [List.length_append, List.length_take, List.length_drop, hRs, hY3]; omega
        · have e1 : (ROW.toList.take (i * 3) ++ Y ++ ROW.toList.drop (i * 3 + Y.length)).take ((i + 1) * 3) = X.take (i * 3) ++ Y := by
            have l1 : (ROW.toList.take (i * 3) ++ Y).length = (i + 1) * 3 := by rw [List.length_append, List.length_take, hRs, hY3]; omega
            rw [← l1, List.take_left, hRt]
          have e2 : (i + 1) * 3 + (X.drop (i * 3)).length = (n + 1) * 3 := by rw [hXd]; omega
          rw [e1, e2] at a5
          exact a5
end
theorem akO {K : KT} {B : Nat} {w : World} {c : Nat} {xs : List (K.T c)} {v : Value} {L : List aag} (hc : K.pl c = true) (s : Sat B w (pcS K (.row c xs) v :: L)) : ∃ A cap, v = .slice A xs.length cap ∧ Sat B w (acx A xs.length cap (K.sz c) (xs.flatMap (acJ K c)) :: L) := by
  obtain ⟨h, Hh, k1, k2, a, e, h1, hL⟩ := s
  rw [aaI] at h1
  obtain ⟨A, cap, rfl, hr⟩ := h1
  rw [abL] at hr
  obtain ⟨vss, q1, q2, a', e', g1, g2⟩ := hr
  have g3 : aba (abj K (pcS K) c xs vss ++ []) q2 := by simpa using g2
  obtain ⟨rfl, _⟩ := agB hc g3
  rw [← List.flatMap_def] at g1
  refine ⟨A, cap, rfl, h, Hh, k1, k2, a, e, ?_, hL⟩
  obtain ⟨r1, r2, r3, r4⟩ := g1
  refine ⟨r1, r2, r3, r4.imp id ?_⟩
  rintro ⟨b, o, spare, hA, hs, hp⟩
  refine ⟨b, o, spare, hA, hs, fun i v hi => ?_⟩
  rw [e']; unfold abO; rw [hp i v hi]
def afb (xs : List KyV) (i : Int) (ys : List KyV) : Option ((List KyV × Unit) × Unit) := if ((0 ≤ i ∧ i ≤ (xs.length : Int)) ∧ xs.length ≤ 1000000) ∧ ys.length = 1 then some ((xs.take i.toNat ++ ys ++ xs.drop i.toNat, ()), ()) else none
noncomputable abbrev afY : Con SR1 := ⟨76, [.sh (.row 68), .sh sI_, .sh (.row 68)], [.sh (.row 68)], fun x => afb x.1 x.2.1 x.2.2.1⟩
theorem amT {α : Type} {enc : α → List Value} (h : ∀ x, (enc x).length = 3) : ∀ (xs : List α) (i : Nat), (xs.flatMap enc).take (i * 3) = (xs.take i).flatMap enc
  | xs, 0 => by simp
  | [], i + 1 => by simp
  | x :: xs, i + 1 => by
    rw [List.take_succ_cons, List.flatMap_cons, List.flatMap_cons, ← amT h xs i, List.take_append, h x, List.take_of_length_le (by rw [h x]; omega), show (i + 1) * 3 - 3 = i * 3 by omega]
theorem amU {α : Type} {enc : α → List Value} (h : ∀ x, (enc x).length = 3) : ∀ (xs : List α) (i : Nat), (xs.flatMap enc).drop (i * 3) = (xs.drop i).flatMap enc
  | xs, 0 => by simp
  | [], i + 1 => by simp
  | x :: xs, i + 1 => by
    rw [List.drop_succ_cons, List.flatMap_cons, ← amU h xs i, List.drop_append, h x, List.drop_eq_nil_of_le (by rw [h x]; omega), List.nil_append, show (i + 1) * 3 - 3 = i * 3 by omega]
theorem ajF {α : Type} {enc : α → List Value} (h : ∀ x, (enc x).all abA = true) (xs : List α) : (xs.flatMap enc).all abA = true := List.all_eq_true.2 fun u hu => by
  obtain ⟨x, _, hx⟩ := List.mem_flatMap.1 hu
  exact List.all_eq_true.1 (h x) u hx
abbrev kyE : SR1.kt.T 68 → List Value := acJ SR1.kt 68
theorem ky3 : ∀ x, (kyE x).length = 3 := fun _ => rfl
theorem kyS : ∀ x, (kyE x).all abA = true := fun _ => rfl
theorem aos {B : Nat} {W w : World} {F : aag} {xs ys : List (SR1.kt.T 68)} {j : Nat} {v0 v1 v2 : Value} (hb : Below B W w) (hB : B ≤ w.heap.size) (hj : j ≤ xs.length) (hxl : xs.length ≤ 1000000) (hyl : ys.length = 1)
    (hs : Sat B w (pcS SR1.kt (.row 68 xs) v0 :: pcS SR1.kt (.i .i64 (j : Int)) v1 :: pcS SR1.kt (.row 68 ys) v2 :: [F])) :
    Calls Try.prog 76 #[v0, v1, v2] w fun e w' => ∃ u, e = .returned u ∧ Cls B W (pcS SR1.kt (.row 68 (xs.take j ++ ys ++ xs.drop j)) u :: [F]) w' := by
  obtain ⟨A, c, rfl, s1⟩ := akO rfl hs
  have hv1 : v1 = .int .i64 j := by
    obtain ⟨_, _, k1, k2, _, _, h1, _⟩ := s1.drop
    exact aaI.1 h1
  subst hv1
  have s2 : Sat B w (pcS SR1.kt (.row 68 ys) v2 :: acx A xs.length c 3 (List.flatMap kyE xs) :: [F]) := by
    obtain ⟨h, H, k1, k2, a, e, h1, hL⟩ := s1
    have hL' : aba ([pcS SR1.kt (.i .i64 (j : Int)) (.int .i64 j)] ++ [pcS SR1.kt (.row 68 ys) v2, F]) k2 := hL
    exact (show Sat B w (acx A xs.length c 3 (List.flatMap kyE xs) :: pcS SR1.kt (.row 68 ys) v2 :: [F]) from ⟨h, H, k1, k2, a, e, h1, ac3 hL'⟩).perm (List.Perm.swap ..)
  obtain ⟨A2, c2, rfl, s3⟩ := akO rfl s2
  have s4 := s3.perm (List.Perm.swap ..)
  rw [hyl] at s4 ⊢
  have hk := arY (W := W) (L := [F]) (i := j) s4 hb hB (ajF kyS xs) (ajF kyS ys) hj hxl
  refine hk.mono fun e w' ⟨A', c', he, h1, h2, h3⟩ => ?_
  have hlen : (xs.take j ++ ys ++ xs.drop j).length = xs.length + 1 := by simp only [List.length_append, List.length_take, List.length_drop, hyl]; omega
  refine ⟨_, he, h1, h2, ?_⟩
  have e1 : (List.flatMap kyE xs).take (j * 3) ++ List.flatMap kyE ys ++ (List.flatMap kyE xs).drop (j * 3) = List.flatMap kyE (xs.take j ++ ys ++ xs.drop j) := by
    rw [amT ky3, amU ky3, List.flatMap_append, List.flatMap_append]
  rw [e1, ← hlen] at h3
  have := aiq (S := SR1) (c := 68) (fun _ => rfl) h3
  rw [hlen] at this
  exact this
variable [Tb]
theorem ajB : CO Try.prog afY := fun x out hx B W hg vs F w hw => by
  obtain ⟨hb, hB, hs⟩ := hw
  obtain ⟨xs, i, ys, u⟩ := x
  have hx : afb xs i ys = some out := hx
  unfold afb at hx
  split at hx
  case isFalse => cases hx
  rename_i hn
  obtain ⟨⟨⟨hi0, hi1⟩, hxl⟩, hyl⟩ := hn
  cases hx
  show aeo Try.prog afY.f _ w _
  rw [ac8 rfl]
  rcases vs with _ | ⟨v0, _ | ⟨v1, _ | ⟨v2, _ | ⟨v3, vs⟩⟩⟩⟩
  · exact aaN hs
  · exact aaN (show Sat B w (_ :: (fun _ => False) :: _) from hs).drop
  · exact aaN (show Sat B w (_ :: _ :: (fun _ => False) :: _) from hs).drop.drop
  · obtain ⟨j, rfl⟩ : ∃ j : Nat, i = (j : Int) := ⟨i.toNat, (Int.toNat_of_nonneg hi0).symm⟩
    exact (aos hb hB (Int.ofNat_le.1 hi1) hxl hyl hs).mono fun e w' ⟨u, he, hc⟩ => ⟨[u], he, hc⟩
  · exact aaN (show Sat B w (_ :: _ :: _ :: (fun _ => False) :: _) from hs).drop.drop.drop
end
end Go.Proofs.Ytkmkhldmflebkaa
