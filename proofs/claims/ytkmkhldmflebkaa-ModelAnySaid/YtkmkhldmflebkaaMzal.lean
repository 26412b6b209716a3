/- The reference of the model in the evaluator's form. -/
import Derived.Test.YtkmkhldmflebkaaMzak
set_option linter.all false
namespace Go.Proofs.Ytkmkhldmflebkaa
open Go Go.RowKit
set_option maxRecDepth 100000
variable [Tb]
noncomputable def abE (y0 : SaV) (y1 : Ev) : Option ((Bool × Unit) × (SaV × Unit)) :=
 if y1.kind = 4 then
  (aaB y0 y1.worker y1.task).bind fun r1 =>
  if (!r1.1.1) = true then
   some ((false, ()), (r1.2.1, ()))
  else
  (aas r1.2.1 y1.task).bind fun r2 =>
  if (!r2.1.2.1) = true then
   some ((false, ()), (r2.2.1, ()))
  else
  if r2.1.1.op ≠ 1 then
   some ((false, ()), (r2.2.1, ()))
  else
  if y1.kind = 3 then
   ((
   if r2.1.1.b ≠ y1.level then
   some (true, r2.2.1, ())
   else
   if 0 ≤ y1.task ∧ y1.task < ((r2.2.1.tasks.length : Nat) : Int) then
   some (decide (((aaa r2.2.1.tasks y1.task).view.phase) ≠ 0), ({ r2.2.1 with tasks := r2.2.1.tasks.set y1.task.toNat (aaa r2.2.1.tasks y1.task) } : SaV), ())
   else none
   ) : Option (Bool × SaV × Unit)).bind fun z3 =>
   if z3.1 = true then
   some ((false, ()), (z3.2.1, ()))
   else
   (aaH z3.2.1 y1.task y1.level r2.1.1.a y1.task).bind fun r4 =>
   if 0 ≤ y1.task ∧ y1.task < ((r4.2.1.tasks.length : Nat) : Int) then
   agr (
   agr (
   if (((([] : List Int).length + ((aaa r4.2.1.tasks y1.task).kids).length : Nat)) : Int) < 1000000000000 then
   if ((((([]) ++ ((aaa r4.2.1.tasks y1.task).kids)).length + ([y1.task] : List Int).length : Nat)) : Int) < 1000000000000 then
   if 0 ≤ y1.task ∧ y1.task < (((r4.2.1.tasks.set y1.task.toNat (aaa r4.2.1.tasks y1.task)).length : Nat) : Int) then
   if 0 ≤ y1.task ∧ y1.task < ((((r4.2.1.tasks.set y1.task.toNat (aaa r4.2.1.tasks y1.task)).set y1.task.toNat ({ aaa (r4.2.1.tasks.set y1.task.toNat (aaa r4.2.1.tasks y1.task)) y1.task with kids := (([]) ++ ((aaa r4.2.1.tasks y1.task).kids)) ++ ([y1.task]) } : TkV)).length : Nat) : Int) then
   if 0 ≤ y1.task ∧ y1.task < ((((r4.2.1.tasks.set y1.task.toNat (aaa r4.2.1.tasks y1.task)).set y1.task.toNat ({ aaa (r4.2.1.tasks.set y1.task.toNat (aaa r4.2.1.tasks y1.task)) y1.task with kids := (([]) ++ ((aaa r4.2.1.tasks y1.task).kids)) ++ ([y1.task]) } : TkV)).length : Nat) : Int) then
   some ((true, ()), (({ r4.2.1 with tasks := ((r4.2.1.tasks.set y1.task.toNat (aaa r4.2.1.tasks y1.task)).set y1.task.toNat ({ aaa (r4.2.1.tasks.set y1.task.toNat (aaa r4.2.1.tasks y1.task)) y1.task with kids := (([]) ++ ((aaa r4.2.1.tasks y1.task).kids)) ++ ([y1.task]) } : TkV)).set y1.task.toNat ({ aaa ((r4.2.1.tasks.set y1.task.toNat (aaa r4.2.1.tasks y1.task)).set y1.task.toNat ({ aaa (r4.2.1.tasks.set y1.task.toNat (aaa r4.2.1.tasks y1.task)) y1.task with kids := (([]) ++ ((aaa r4.2.1.tasks y1.task).kids)) ++ ([y1.task]) } : TkV)) y1.task with pc := wi (((aaa ((r4.2.1.tasks.set y1.task.toNat (aaa r4.2.1.tasks y1.task)).set y1.task.toNat ({ aaa (r4.2.1.tasks.set y1.task.toNat (aaa r4.2.1.tasks y1.task)) y1.task with kids := (([]) ++ ((aaa r4.2.1.tasks y1.task).kids)) ++ ([y1.task]) } : TkV)) y1.task).pc) + 1) } : TkV) } : SaV), ()))
   else none
   else none
   else none
   else none
   else none
   ) (
   if (((([] : List Int).length + ((aaa r4.2.1.tasks y1.task).kids).length : Nat)) : Int) < 1000000000000 then
   if ((((([]) ++ ((aaa r4.2.1.tasks y1.task).kids)).length + ([y1.task] : List Int).length : Nat)) : Int) < 1000000000000 then
   if 0 ≤ y1.task ∧ y1.task < (((r4.2.1.tasks.set y1.task.toNat (aaa r4.2.1.tasks y1.task)).length : Nat) : Int) then
   if 0 ≤ y1.task ∧ y1.task < ((((r4.2.1.tasks.set y1.task.toNat (aaa r4.2.1.tasks y1.task)).set y1.task.toNat ({ aaa (r4.2.1.tasks.set y1.task.toNat (aaa r4.2.1.tasks y1.task)) y1.task with kids := (([]) ++ ((aaa r4.2.1.tasks y1.task).kids)) ++ ([y1.task]) } : TkV)).length : Nat) : Int) then
   if 0 ≤ y1.task ∧ y1.task < ((((r4.2.1.tasks.set y1.task.toNat (aaa r4.2.1.tasks y1.task)).set y1.task.toNat ({ aaa (r4.2.1.tasks.set y1.task.toNat (aaa r4.2.1.tasks y1.task)) y1.task with kids := (([]) ++ ((aaa r4.2.1.tasks y1.task).kids)) ++ ([y1.task]) } : TkV)).length : Nat) : Int) then
   some ((true, ()), (({ r4.2.1 with tasks := ((r4.2.1.tasks.set y1.task.toNat (aaa r4.2.1.tasks y1.task)).set y1.task.toNat ({ aaa (r4.2.1.tasks.set y1.task.toNat (aaa r4.2.1.tasks y1.task)) y1.task with kids := (([]) ++ ((aaa r4.2.1.tasks y1.task).kids)) ++ ([y1.task]) } : TkV)).set y1.task.toNat ({ aaa ((r4.2.1.tasks.set y1.task.toNat (aaa r4.2.1.tasks y1.task)).set y1.task.toNat ({ aaa (r4.2.1.tasks.set y1.task.toNat (aaa r4.2.1.tasks y1.task)) y1.task with kids := (([]) ++ ((aaa r4.2.1.tasks y1.task).kids)) ++ ([y1.task]) } : TkV)) y1.task with pc := wi (((aaa ((r4.2.1.tasks.set y1.task.toNat (aaa r4.2.1.tasks y1.task)).set y1.task.toNat ({ aaa (r4.2.1.tasks.set y1.task.toNat (aaa r4.2.1.tasks y1.task)) y1.task with kids := (([]) ++ ((aaa r4.2.1.tasks y1.task).kids)) ++ ([y1.task]) } : TkV)) y1.task).pc) + 1) } : TkV) } : SaV), ()))
   else none
   else none
   else none
   else none
   else none
   )
   ) (
   if (((([] : List Int).length + ((aaa r4.2.1.tasks y1.task).kids).length : Nat)) : Int) < 1000000000000 then
   if ((((([]) ++ ((aaa r4.2.1.tasks y1.task).kids)).length + ([y1.task] : List Int).length : Nat)) : Int) < 1000000000000 then
   if 0 ≤ y1.task ∧ y1.task < (((r4.2.1.tasks.set y1.task.toNat (aaa r4.2.1.tasks y1.task)).length : Nat) : Int) then
   if 0 ≤ y1.task ∧ y1.task < ((((r4.2.1.tasks.set y1.task.toNat (aaa r4.2.1.tasks y1.task)).set y1.task.toNat ({ aaa (r4.2.1.tasks.set y1.task.toNat (aaa r4.2.1.tasks y1.task)) y1.task with kids := (([]) ++ ((aaa r4.2.1.tasks y1.task).kids)) ++ ([y1.task]) } : TkV)).length : Nat) : Int) then
   if 0 ≤ y1.task ∧ y1.task < ((((r4.2.1.tasks.set y1.task.toNat (aaa r4.2.1.tasks y1.task)).set y1.task.toNat ({ aaa (r4.2.1.tasks.set y1.task.toNat (aaa r4.2.1.tasks y1.task)) y1.task with kids := (([]) ++ ((aaa r4.2.1.tasks y1.task).kids)) ++ ([y1.task]) } : TkV)).length : Nat) : Int) then
   some ((true, ()), (({ r4.2.1 with tasks := ((r4.2.1.tasks.set y1.task.toNat (aaa r4.2.1.tasks y1.task)).set y1.task.toNat ({ aaa (r4.2.1.tasks.set y1.task.toNat (aaa r4.2.1.tasks y1.task)) y1.task with kids := (([]) ++ ((aaa r4.2.1.tasks y1.task).kids)) ++ ([y1.task]) } : TkV)).set y1.task.toNat ({ aaa ((r4.2.1.tasks.set y1.task.toNat (aaa r4.2.1.tasks y1.task)).set y1.task.toNat ({ aaa (r4.2.1.tasks.set y1.task.toNat (aaa r4.2.1.tasks y1.task)) y1.task with kids := (([]) ++ ((aaa r4.2.1.tasks y1.task).kids)) ++ ([y1.task]) } : TkV)) y1.task with pc := wi (((aaa ((r4.2.1.tasks.set y1.task.toNat (aaa r4.2.1.tasks y1.task)).set y1.task.toNat ({ aaa (r4.2.1.tasks.set y1.task.toNat (aaa r4.2.1.tasks y1.task)) y1.task with kids := (([]) ++ ((aaa r4.2.1.tasks y1.task).kids)) ++ ([y1.task]) } : TkV)) y1.task).pc) + 1) } : TkV) } : SaV), ()))
   else none
   else none
   else none
   else none
   else none
   )
   else none
  else
  (aau r2.2.1).bind fun r5 =>
  if r2.2.1.c.workers = r5.2.1.c.workers then
   if r2.2.1.c.tasks = r5.2.1.c.tasks then
   if r5.1.1 < (wi (r2.2.1.c.tasks - r2.2.1.c.workers)) then
   some ((false, ()), (r5.2.1, ()))
   else
   if 0 ≤ y1.task ∧ y1.task < ((r5.2.1.tasks.length : Nat) : Int) then
   agr (
   agr (
   if (((([] : List Int).length + ((aaa r5.2.1.tasks y1.task).kids).length : Nat)) : Int) < 1000000000000 then
   if ((((([]) ++ ((aaa r5.2.1.tasks y1.task).kids)).length + ([(-1)] : List Int).length : Nat)) : Int) < 1000000000000 then
   if 0 ≤ y1.task ∧ y1.task < (((r5.2.1.tasks.set y1.task.toNat (aaa r5.2.1.tasks y1.task)).length : Nat) : Int) then
   if 0 ≤ y1.task ∧ y1.task < ((((r5.2.1.tasks.set y1.task.toNat (aaa r5.2.1.tasks y1.task)).set y1.task.toNat ({ aaa (r5.2.1.tasks.set y1.task.toNat (aaa r5.2.1.tasks y1.task)) y1.task with kids := (([]) ++ ((aaa r5.2.1.tasks y1.task).kids)) ++ ([(-1)]) } : TkV)).length : Nat) : Int) then
   if 0 ≤ y1.task ∧ y1.task < ((((r5.2.1.tasks.set y1.task.toNat (aaa r5.2.1.tasks y1.task)).set y1.task.toNat ({ aaa (r5.2.1.tasks.set y1.task.toNat (aaa r5.2.1.tasks y1.task)) y1.task with kids := (([]) ++ ((aaa r5.2.1.tasks y1.task).kids)) ++ ([(-1)]) } : TkV)).length : Nat) : Int) then
   some ((true, ()), (({ r5.2.1 with tasks := ((r5.2.1.tasks.set y1.task.toNat (aaa r5.2.1.tasks y1.task)).set y1.task.toNat ({ aaa (r5.2.1.tasks.set y1.task.toNat (aaa r5.2.1.tasks y1.task)) y1.task with kids := (([]) ++ ((aaa r5.2.1.tasks y1.task).kids)) ++ ([(-1)]) } : TkV)).set y1.task.toNat ({ aaa ((r5.2.1.tasks.set y1.task.toNat (aaa r5.2.1.tasks y1.task)).set y1.task.toNat ({ aaa (r5.2.1.tasks.set y1.task.toNat (aaa r5.2.1.tasks y1.task)) y1.task with kids := (([]) ++ ((aaa r5.2.1.tasks y1.task).kids)) ++ ([(-1)]) } : TkV)) y1.task with pc := wi (((aaa ((r5.2.1.tasks.set y1.task.toNat (aaa r5.2.1.tasks y1.task)).set y1.task.toNat ({ aaa (r5.2.1.tasks.set y1.task.toNat (aaa r5.2.1.tasks y1.task)) y1.task with kids := (([]) ++ ((aaa r5.2.1.tasks y1.task).kids)) ++ ([(-1)]) } : TkV)) y1.task).pc) + 1) } : TkV) } : SaV), ()))
   else none
   else none
   else none
   else none
   else none
   ) (
   if (((([] : List Int).length + ((aaa r5.2.1.tasks y1.task).kids).length : Nat)) : Int) < 1000000000000 then
   if ((((([]) ++ ((aaa r5.2.1.tasks y1.task).kids)).length + ([(-1)] : List Int).length : Nat)) : Int) < 1000000000000 then
   if 0 ≤ y1.task ∧ y1.task < (((r5.2.1.tasks.set y1.task.toNat (aaa r5.2.1.tasks y1.task)).length : Nat) : Int) then
   if 0 ≤ y1.task ∧ y1.task < ((((r5.2.1.tasks.set y1.task.toNat (aaa r5.2.1.tasks y1.task)).set y1.task.toNat ({ aaa (r5.2.1.tasks.set y1.task.toNat (aaa r5.2.1.tasks y1.task)) y1.task with kids := (([]) ++ ((aaa r5.2.1.tasks y1.task).kids)) ++ ([(-1)]) } : TkV)).length : Nat) : Int) then
   if 0 ≤ y1.task ∧ y1.task < ((((r5.2.1.tasks.set y1.task.toNat (aaa r5.2.1.tasks y1.task)).set y1.task.toNat ({ aaa (r5.2.1.tasks.set y1.task.toNat (aaa r5.2.1.tasks y1.task)) y1.task with kids := (([]) ++ ((aaa r5.2.1.tasks y1.task).kids)) ++ ([(-1)]) } : TkV)).length : Nat) : Int) then
   some ((true, ()), (({ r5.2.1 with tasks := ((r5.2.1.tasks.set y1.task.toNat (aaa r5.2.1.tasks y1.task)).set y1.task.toNat ({ aaa (r5.2.1.tasks.set y1.task.toNat (aaa r5.2.1.tasks y1.task)) y1.task with kids := (([]) ++ ((aaa r5.2.1.tasks y1.task).kids)) ++ ([(-1)]) } : TkV)).set y1.task.toNat ({ aaa ((r5.2.1.tasks.set y1.task.toNat (aaa r5.2.1.tasks y1.task)).set y1.task.toNat ({ aaa (r5.2.1.tasks.set y1.task.toNat (aaa r5.2.1.tasks y1.task)) y1.task with kids := (([]) ++ ((aaa r5.2.1.tasks y1.task).kids)) ++ ([(-1)]) } : TkV)) y1.task with pc := wi (((aaa ((r5.2.1.tasks.set y1.task.toNat (aaa r5.2.1.tasks y1.task)).set y1.task.toNat ({ aaa (r5.2.1.tasks.set y1.task.toNat (aaa r5.2.1.tasks y1.task)) y1.task with kids := (([]) ++ ((aaa r5.2.1.tasks y1.task).kids)) ++ ([(-1)]) } : TkV)) y1.task).pc) + 1) } : TkV) } : SaV), ()))
   else none
   else none
   else none
   else none
   else none
   )
   ) (
   if (((([] : List Int).length + ((aaa r5.2.1.tasks y1.task).kids).length : Nat)) : Int) < 1000000000000 then
   if ((((([]) ++ ((aaa r5.2.1.tasks y1.task).kids)).length + ([(-1)] : List Int).length : Nat)) : Int) < 1000000000000 then
   if 0 ≤ y1.task ∧ y1.task < (((r5.2.1.tasks.set y1.task.toNat (aaa r5.2.1.tasks y1.task)).length : Nat) : Int) then
   if 0 ≤ y1.task ∧ y1.task < ((((r5.2.1.tasks.set y1.task.toNat (aaa r5.2.1.tasks y1.task)).set y1.task.toNat ({ aaa (r5.2.1.tasks.set y1.task.toNat (aaa r5.2.1.tasks y1.task)) y1.task with kids := (([]) ++ ((aaa r5.2.1.tasks y1.task).kids)) ++ ([(-1)]) } : TkV)).length : Nat) : Int) then
   if 0 ≤ y1.task ∧ y1.task < ((((r5.2.1.tasks.set y1.task.toNat (aaa r5.2.1.tasks y1.task)).set y1.task.toNat ({ aaa (r5.2.1.tasks.set y1.task.toNat (aaa r5.2.1.tasks y1.task)) y1.task with kids := (([]) ++ ((aaa r5.2.1.tasks y1.task).kids)) ++ ([(-1)]) } : TkV)).length : Nat) : Int) then
   some ((true, ()), (({ r5.2.1 with tasks := ((r5.2.1.tasks.set y1.task.toNat (aaa r5.2.1.tasks y1.task)).set y1.task.toNat ({ aaa (r5.2.1.tasks.set y1.task.toNat (aaa r5.2.1.tasks y1.task)) y1.task with kids := (([]) ++ ((aaa r5.2.1.tasks y1.task).kids)) ++ ([(-1)]) } : TkV)).set y1.task.toNat ({ aaa ((r5.2.1.tasks.set y1.task.toNat (aaa r5.2.1.tasks y1.task)).set y1.task.toNat ({ aaa (r5.2.1.tasks.set y1.task.toNat (aaa r5.2.1.tasks y1.task)) y1.task with kids := (([]) ++ ((aaa r5.2.1.tasks y1.task).kids)) ++ ([(-1)]) } : TkV)) y1.task with pc := wi (((aaa ((r5.2.1.tasks.set y1.task.toNat (aaa r5.2.1.tasks y1.task)).set y1.task.toNat ({ aaa (r5.2.1.tasks.set y1.task.toNat (aaa r5.2.1.tasks y1.task)) y1.task with kids := (([]) ++ ((aaa r5.2.1.tasks y1.task).kids)) ++ ([(-1)]) } : TkV)) y1.task).pc) + 1) } : TkV) } : SaV), ()))
   else none
   else none
   else none
   else none
   else none
   )
   else none
   else none
  else none
 else
 (aaB y0 y1.worker y1.other).bind fun r6 =>
 if (!r6.1.1) = true then
  some ((false, ()), (r6.2.1, ()))
 else
 (aas r6.2.1 y1.other).bind fun r7 =>
 if (!r7.1.2.1) = true then
  some ((false, ()), (r7.2.1, ()))
 else
 if r7.1.1.op ≠ 1 then
  some ((false, ()), (r7.2.1, ()))
 else
 if y1.kind = 3 then
  ((
   if r7.1.1.b ≠ y1.level then
   some (true, r7.2.1, ())
   else
   if 0 ≤ y1.task ∧ y1.task < ((r7.2.1.tasks.length : Nat) : Int) then
   some (decide (((aaa r7.2.1.tasks y1.task).view.phase) ≠ 0), ({ r7.2.1 with tasks := r7.2.1.tasks.set y1.task.toNat (aaa r7.2.1.tasks y1.task) } : SaV), ())
   else none
  ) : Option (Bool × SaV × Unit)).bind fun z8 =>
  if z8.1 = true then
   some ((false, ()), (z8.2.1, ()))
  else
  (aaH z8.2.1 y1.task y1.level r7.1.1.a y1.other).bind fun r9 =>
  if 0 ≤ y1.other ∧ y1.other < ((r9.2.1.tasks.length : Nat) : Int) then
   agr (
   agr (
   if (((([] : List Int).length + ((aaa r9.2.1.tasks y1.other).kids).length : Nat)) : Int) < 1000000000000 then
   if ((((([]) ++ ((aaa r9.2.1.tasks y1.other).kids)).length + ([y1.task] : List Int).length : Nat)) : Int) < 1000000000000 then
   if 0 ≤ y1.other ∧ y1.other < (((r9.2.1.tasks.set y1.other.toNat (aaa r9.2.1.tasks y1.other)).length : Nat) : Int) then
   if 0 ≤ y1.other ∧ y1.other < ((((r9.2.1.tasks.set y1.other.toNat (aaa r9.2.1.tasks y1.other)).set y1.other.toNat ({ aaa (r9.2.1.tasks.set y1.other.toNat (aaa r9.2.1.tasks y1.other)) y1.other with kids := (([]) ++ ((aaa r9.2.1.tasks y1.other).kids)) ++ ([y1.task]) } : TkV)).length : Nat) : Int) then
   if 0 ≤ y1.other ∧ y1.other < ((((r9.2.1.tasks.set y1.other.toNat (aaa r9.2.1.tasks y1.other)).set y1.other.toNat ({ aaa (r9.2.1.tasks.set y1.other.toNat (aaa r9.2.1.tasks y1.other)) y1.other with kids := (([]) ++ ((aaa r9.2.1.tasks y1.other).kids)) ++ ([y1.task]) } : TkV)).length : Nat) : Int) then
   some ((true, ()), (({ r9.2.1 with tasks := ((r9.2.1.tasks.set y1.other.toNat (aaa r9.2.1.tasks y1.other)).set y1.other.toNat ({ aaa (r9.2.1.tasks.set y1.other.toNat (aaa r9.2.1.tasks y1.other)) y1.other with kids := (([]) ++ ((aaa r9.2.1.tasks y1.other).kids)) ++ ([y1.task]) } : TkV)).set y1.other.toNat ({ aaa ((r9.2.1.tasks.set y1.other.toNat (aaa r9.2.1.tasks y1.other)).set y1.other.toNat ({ aaa (r9.2.1.tasks.set y1.other.toNat (aaa r9.2.1.tasks y1.other)) y1.other with kids := (([]) ++ ((aaa r9.2.1.tasks y1.other).kids)) ++ ([y1.task]) } : TkV)) y1.other with pc := wi (((aaa ((r9.2.1.tasks.set y1.other.toNat (aaa r9.2.1.tasks y1.other)).set y1.other.toNat ({ aaa (r9.2.1.tasks.set y1.other.toNat (aaa r9.2.1.tasks y1.other)) y1.other with kids := (([]) ++ ((aaa r9.2.1.tasks y1.other).kids)) ++ ([y1.task]) } : TkV)) y1.other).pc) + 1) } : TkV) } : SaV), ()))
   else none
   else none
   else none
   else none
   else none
   ) (
   if (((([] : List Int).length + ((aaa r9.2.1.tasks y1.other).kids).length : Nat)) : Int) < 1000000000000 then
   if ((((([]) ++ ((aaa r9.2.1.tasks y1.other).kids)).length + ([y1.task] : List Int).length : Nat)) : Int) < 1000000000000 then
   if 0 ≤ y1.other ∧ y1.other < (((r9.2.1.tasks.set y1.other.toNat (aaa r9.2.1.tasks y1.other)).length : Nat) : Int) then
   if 0 ≤ y1.other ∧ y1.other < ((((r9.2.1.tasks.set y1.other.toNat (aaa r9.2.1.tasks y1.other)).set y1.other.toNat ({ aaa (r9.2.1.tasks.set y1.other.toNat (aaa r9.2.1.tasks y1.other)) y1.other with kids := (([]) ++ ((aaa r9.2.1.tasks y1.other).kids)) ++ ([y1.task]) } : TkV)).length : Nat) : Int) then
   if 0 ≤ y1.other ∧ y1.other < ((((r9.2.1.tasks.set y1.other.toNat (aaa r9.2.1.tasks y1.other)).set y1.other.toNat ({ aaa (r9.2.1.tasks.set y1.other.toNat (aaa r9.2.1.tasks y1.other)) y1.other with kids := (([]) ++ ((aaa r9.2.1.tasks y1.other).kids)) ++ ([y1.task]) } : TkV)).length : Nat) : Int) then
   some ((true, ()), (({ r9.2.1 with tasks := ((r9.2.1.tasks.set y1.other.toNat (aaa r9.2.1.tasks y1.other)).set y1.other.toNat ({ aaa (r9.2.1.tasks.set y1.other.toNat (aaa r9.2.1.tasks y1.other)) y1.other with kids := (([]) ++ ((aaa r9.2.1.tasks y1.other).kids)) ++ ([y1.task]) } : TkV)).set y1.other.toNat ({ aaa ((r9.2.1.tasks.set y1.other.toNat (aaa r9.2.1.tasks y1.other)).set y1.other.toNat ({ aaa (r9.2.1.tasks.set y1.other.toNat (aaa r9.2.1.tasks y1.other)) y1.other with kids := (([]) ++ ((aaa r9.2.1.tasks y1.other).kids)) ++ ([y1.task]) } : TkV)) y1.other with pc := wi (((aaa ((r9.2.1.tasks.set y1.other.toNat (aaa r9.2.1.tasks y1.other)).set y1.other.toNat ({ aaa (r9.2.1.tasks.set y1.other.toNat (aaa r9.2.1.tasks y1.other)) y1.other with kids := (([]) ++ ((aaa r9.2.1.tasks y1.other).kids)) ++ ([y1.task]) } : TkV)) y1.other).pc) + 1) } : TkV) } : SaV), ()))
   else none
   else none
   else none
   else none
   else none
   )
   ) (
   if (((([] : List Int).length + ((aaa r9.2.1.tasks y1.other).kids).length : Nat)) : Int) < 1000000000000 then
   if ((((([]) ++ ((aaa r9.2.1.tasks y1.other).kids)).length + ([y1.task] : List Int).length : Nat)) : Int) < 1000000000000 then
   if 0 ≤ y1.other ∧ y1.other < (((r9.2.1.tasks.set y1.other.toNat (aaa r9.2.1.tasks y1.other)).length : Nat) : Int) then
   if 0 ≤ y1.other ∧ y1.other < ((((r9.2.1.tasks.set y1.other.toNat (aaa r9.2.1.tasks y1.other)).set y1.other.toNat ({ aaa (r9.2.1.tasks.set y1.other.toNat (aaa r9.2.1.tasks y1.other)) y1.other with kids := (([]) ++ ((aaa r9.2.1.tasks y1.other).kids)) ++ ([y1.task]) } : TkV)).length : Nat) : Int) then
   if 0 ≤ y1.other ∧ y1.other < ((((r9.2.1.tasks.set y1.other.toNat (aaa r9.2.1.tasks y1.other)).set y1.other.toNat ({ aaa (r9.2.1.tasks.set y1.other.toNat (aaa r9.2.1.tasks y1.other)) y1.other with kids := (([]) ++ ((aaa r9.2.1.tasks y1.other).kids)) ++ ([y1.task]) } : TkV)).length : Nat) : Int) then
   some ((true, ()), (({ r9.2.1 with tasks := ((r9.2.1.tasks.set y1.other.toNat (aaa r9.2.1.tasks y1.other)).set y1.other.toNat ({ aaa (r9.2.1.tasks.set y1.other.toNat (aaa r9.2.1.tasks y1.other)) y1.other with kids := (([]) ++ ((aaa r9.2.1.tasks y1.other).kids)) ++ ([y1.task]) } : TkV)).set y1.other.toNat ({ aaa ((r9.2.1.tasks.set y1.other.toNat (aaa r9.2.1.tasks y1.other)).set y1.other.toNat ({ aaa (r9.2.1.tasks.set y1.other.toNat (aaa r9.2.1.tasks y1.other)) y1.other with kids := (([]) ++ ((aaa r9.2.1.tasks y1.other).kids)) ++ ([y1.task]) } : TkV)) y1.other with pc := wi (((aaa ((r9.2.1.tasks.set y1.other.toNat (aaa r9.2.1.tasks y1.other)).set y1.other.toNat ({ aaa (r9.2.1.tasks.set y1.other.toNat (aaa r9.2.1.tasks y1.other)) y1.other with kids := (([]) ++ ((aaa r9.2.1.tasks y1.other).kids)) ++ ([y1.task]) } : TkV)) y1.other).pc) + 1) } : TkV) } : SaV), ()))
   else none
   else none
   else none
   else none
   else none
   )
  else none
 else
 (aau r7.2.1).bind fun r10 =>
 if r7.2.1.c.workers = r10.2.1.c.workers then
  if r7.2.1.c.tasks = r10.2.1.c.tasks then
   if r10.1.1 < (wi (r7.2.1.c.tasks - r7.2.1.c.workers)) then
   some ((false, ()), (r10.2.1, ()))
   else
   if 0 ≤ y1.other ∧ y1.other < ((r10.2.1.tasks.length : Nat) : Int) then
   agr (
   agr (
   if (((([] : List Int).length + ((aaa r10.2.1.tasks y1.other).kids).length : Nat)) : Int) < 1000000000000 then
   if ((((([]) ++ ((aaa r10.2.1.tasks y1.other).kids)).length + ([(-1)] : List Int).length : Nat)) : Int) < 1000000000000 then
   if 0 ≤ y1.other ∧ y1.other < (((r10.2.1.tasks.set y1.other.toNat (aaa r10.2.1.tasks y1.other)).length : Nat) : Int) then
   if 0 ≤ y1.other ∧ y1.other < ((((r10.2.1.tasks.set y1.other.toNat (aaa r10.2.1.tasks y1.other)).set y1.other.toNat ({ aaa (r10.2.1.tasks.set y1.other.toNat (aaa r10.2.1.tasks y1.other)) y1.other with kids := (([]) ++ ((aaa r10.2.1.tasks y1.other).kids)) ++ ([(-1)]) } : TkV)).length : Nat) : Int) then
   if 0 ≤ y1.other ∧ y1.other < ((((r10.2.1.tasks.set y1.other.toNat (aaa r10.2.1.tasks y1.other)).set y1.other.toNat ({ aaa (r10.2.1.tasks.set y1.other.toNat (aaa r10.2.1.tasks y1.other)) y1.other with kids := (([]) ++ ((aaa r10.2.1.tasks y1.other).kids)) ++ ([(-1)]) } : TkV)).length : Nat) : Int) then
   some ((true, ()), (({ r10.2.1 with tasks := ((r10.2.1.tasks.set y1.other.toNat (aaa r10.2.1.tasks y1.other)).set y1.other.toNat ({ aaa (r10.2.1.tasks.set y1.other.toNat (aaa r10.2.1.tasks y1.other)) y1.other with kids := (([]) ++ ((aaa r10.2.1.tasks y1.other).kids)) ++ ([(-1)]) } : TkV)).set y1.other.toNat ({ aaa ((r10.2.1.tasks.set y1.other.toNat (aaa r10.2.1.tasks y1.other)).set y1.other.toNat ({ aaa (r10.2.1.tasks.set y1.other.toNat (aaa r10.2.1.tasks y1.other)) y1.other with kids := (([]) ++ ((aaa r10.2.1.tasks y1.other).kids)) ++ ([(-1)]) } : TkV)) y1.other with pc := wi (((aaa ((r10.2.1.tasks.set y1.other.toNat (aaa r10.2.1.tasks y1.other)).set y1.other.toNat ({ aaa (r10.2.1.tasks.set y1.other.toNat (aaa r10.2.1.tasks y1.other)) y1.other with kids := (([]) ++ ((aaa r10.2.1.tasks y1.other).kids)) ++ ([(-1)]) } : TkV)) y1.other).pc) + 1) } : TkV) } : SaV), ()))
   else none
   else none
   else none
   else none
   else none
   ) (
   if (((([] : List Int).length + ((aaa r10.2.1.tasks y1.other).kids).length : Nat)) : Int) < 1000000000000 then
   if ((((([]) ++ ((aaa r10.2.1.tasks y1.other).kids)).length + ([(-1)] : List Int).length : Nat)) : Int) < 1000000000000 then
   if 0 ≤ y1.other ∧ y1.other < (((r10.2.1.tasks.set y1.other.toNat (aaa r10.2.1.tasks y1.other)).length : Nat) : Int) then
   if 0 ≤ y1.other ∧ y1.other < ((((r10.2.1.tasks.set y1.other.toNat (aaa r10.2.1.tasks y1.other)).set y1.other.toNat ({ aaa (r10.2.1.tasks.set y1.other.toNat (aaa r10.2.1.tasks y1.other)) y1.other with kids := (([]) ++ ((aaa r10.2.1.tasks y1.other).kids)) ++ ([(-1)]) } : TkV)).length : Nat) : Int) then
   if 0 ≤ y1.other ∧ y1.other < ((((r10.2.1.tasks.set y1.other.toNat (aaa r10.2.1.tasks y1.other)).set y1.other.toNat ({ aaa (r10.2.1.tasks.set y1.other.toNat (aaa r10.2.1.tasks y1.other)) y1.other with kids := (([]) ++ ((aaa r10.2.1.tasks y1.other).kids)) ++ ([(-1)]) } : TkV)).length : Nat) : Int) then
   some ((true, ()), (({ r10.2.1 with tasks := ((r10.2.1.tasks.set y1.other.toNat (aaa r10.2.1.tasks y1.other)).set y1.other.toNat ({ aaa (r10.2.1.tasks.set y1.other.toNat (aaa r10.2.1.tasks y1.other)) y1.other with kids := (([]) ++ ((aaa r10.2.1.tasks y1.other).kids)) ++ ([(-1)]) } : TkV)).set y1.other.toNat ({ aaa ((r10.2.1.tasks.set y1.other.toNat (aaa r10.2.1.tasks y1.other)).set y1.other.toNat ({ aaa (r10.2.1.tasks.set y1.other.toNat (aaa r10.2.1.tasks y1.other)) y1.other with kids := (([]) ++ ((aaa r10.2.1.tasks y1.other).kids)) ++ ([(-1)]) } : TkV)) y1.other with pc := wi (((aaa ((r10.2.1.tasks.set y1.other.toNat (aaa r10.2.1.tasks y1.other)).set y1.other.toNat ({ aaa (r10.2.1.tasks.set y1.other.toNat (aaa r10.2.1.tasks y1.other)) y1.other with kids := (([]) ++ ((aaa r10.2.1.tasks y1.other).kids)) ++ ([(-1)]) } : TkV)) y1.other).pc) + 1) } : TkV) } : SaV), ()))
   else none
   else none
   else none
   else none
   else none
   )
   ) (
   if (((([] : List Int).length + ((aaa r10.2.1.tasks y1.other).kids).length : Nat)) : Int) < 1000000000000 then
   if ((((([]) ++ ((aaa r10.2.1.tasks y1.other).kids)).length + ([(-1)] : List Int).length : Nat)) : Int) < 1000000000000 then
   if 0 ≤ y1.other ∧ y1.other < (((r10.2.1.tasks.set y1.other.toNat (aaa r10.2.1.tasks y1.other)).length : Nat) : Int) then
   if 0 ≤ y1.other ∧ y1.other < ((((r10.2.1.tasks.set y1.other.toNat (aaa r10.2.1.tasks y1.other)).set y1.other.toNat ({ aaa (r10.2.1.tasks.set y1.other.toNat (aaa r10.2.1.tasks y1.other)) y1.other with kids := (([]) ++ ((aaa r10.2.1.tasks y1.other).kids)) ++ ([(-1)]) } : TkV)).length : Nat) : Int) then
   if 0 ≤ y1.other ∧ y1.other < ((((r10.2.1.tasks.set y1.other.toNat (aaa r10.2.1.tasks y1.other)).set y1.other.toNat ({ aaa (r10.2.1.tasks.set y1.other.toNat (aaa r10.2.1.tasks y1.other)) y1.other with kids := (([]) ++ ((aaa r10.2.1.tasks y1.other).kids)) ++ ([(-1)]) } : TkV)).length : Nat) : Int) then
   some ((true, ()), (({ r10.2.1 with tasks := ((r10.2.1.tasks.set y1.other.toNat (aaa r10.2.1.tasks y1.other)).set y1.other.toNat ({ aaa (r10.2.1.tasks.set y1.other.toNat (aaa r10.2.1.tasks y1.other)) y1.other with kids := (([]) ++ ((aaa r10.2.1.tasks y1.other).kids)) ++ ([(-1)]) } : TkV)).set y1.other.toNat ({ aaa ((r10.2.1.tasks.set y1.other.toNat (aaa r10.2.1.tasks y1.other)).set y1.other.toNat ({ aaa (r10.2.1.tasks.set y1.other.toNat (aaa r10.2.1.tasks y1.other)) y1.other with kids := (([]) ++ ((aaa r10.2.1.tasks y1.other).kids)) ++ ([(-1)]) } : TkV)) y1.other with pc := wi (((aaa ((r10.2.1.tasks.set y1.other.toNat (aaa r10.2.1.tasks y1.other)).set y1.other.toNat ({ aaa (r10.2.1.tasks.set y1.other.toNat (aaa r10.2.1.tasks y1.other)) y1.other with kids := (([]) ++ ((aaa r10.2.1.tasks y1.other).kids)) ++ ([(-1)]) } : TkV)) y1.other).pc) + 1) } : TkV) } : SaV), ()))
   else none
   else none
   else none
   else none
   else none
   )
   else none
  else none
 else none
noncomputable abbrev ab7 : Con SR1 := ⟨67, [.ref 64, .val 2], [.sh .b], fun x => abE x.1 x.2.1⟩
theorem adb : CO Try.prog ab7 := abC abx Try.func67 [abl, aa7, abG, abF] ⟨abD, abo, ach, acf, trivial⟩ [] trivial (fun _ => []) [(12, .cut [.rg 55 .b, .ob 0 64] [6, 12])] fun x => by kernel_rfl
noncomputable def aaR (y0 : SaV) (y1 : Ev) : Option ((Bool × Unit) × (SaV × Unit)) :=
 if y1.kind = 4 then
  (aaB y0 y1.worker y1.task).bind fun r1 =>
  if (!r1.1.1) = true then
   some ((false, ()), (r1.2.1, ()))
  else
  (aas r1.2.1 y1.task).bind fun r2 =>
  if (!r2.1.2.1) = true then
   some ((false, ()), (r2.2.1, ()))
  else
  if r2.1.1.op ≠ 1 then
   some ((false, ()), (r2.2.1, ()))
  else
  if y1.kind = 3 then
   ((
   if r2.1.1.b ≠ y1.level then
   some (true, r2.2.1, ())
   else
   if 0 ≤ y1.task ∧ y1.task < ((r2.2.1.tasks.length : Nat) : Int) then
   some (decide (((aaa r2.2.1.tasks y1.task).view.phase) ≠ 0), ({ r2.2.1 with tasks := r2.2.1.tasks.set y1.task.toNat (aaa r2.2.1.tasks y1.task) } : SaV), ())
   else none
   ) : Option (Bool × SaV × Unit)).bind fun z3 =>
   if z3.1 = true then
   some ((false, ()), (z3.2.1, ()))
   else
   (aaH z3.2.1 y1.task y1.level r2.1.1.a y1.task).bind fun r4 =>
   if 0 ≤ y1.task ∧ y1.task < ((r4.2.1.tasks.length : Nat) : Int) then
   if (((([] : List Int).length + ((aaa r4.2.1.tasks y1.task).kids).length : Nat)) : Int) < 1000000000000 then
   if ((((([]) ++ ((aaa r4.2.1.tasks y1.task).kids)).length + ([y1.task] : List Int).length : Nat)) : Int) < 1000000000000 then
   if 0 ≤ y1.task ∧ y1.task < (((r4.2.1.tasks.set y1.task.toNat (aaa r4.2.1.tasks y1.task)).length : Nat) : Int) then
   if 0 ≤ y1.task ∧ y1.task < ((((r4.2.1.tasks.set y1.task.toNat (aaa r4.2.1.tasks y1.task)).set y1.task.toNat ({ aaa (r4.2.1.tasks.set y1.task.toNat (aaa r4.2.1.tasks y1.task)) y1.task with kids := (([]) ++ ((aaa r4.2.1.tasks y1.task).kids)) ++ ([y1.task]) } : TkV)).length : Nat) : Int) then
   if 0 ≤ y1.task ∧ y1.task < ((((r4.2.1.tasks.set y1.task.toNat (aaa r4.2.1.tasks y1.task)).set y1.task.toNat ({ aaa (r4.2.1.tasks.set y1.task.toNat (aaa r4.2.1.tasks y1.task)) y1.task with kids := (([]) ++ ((aaa r4.2.1.tasks y1.task).kids)) ++ ([y1.task]) } : TkV)).length : Nat) : Int) then
   some ((true, ()), (({ r4.2.1 with tasks := ((r4.2.1.tasks.set y1.task.toNat (aaa r4.2.1.tasks y1.task)).set y1.task.toNat ({ aaa (r4.2.1.tasks.set y1.task.toNat (aaa r4.2.1.tasks y1.task)) y1.task with kids := (([]) ++ ((aaa r4.2.1.tasks y1.task).kids)) ++ ([y1.task]) } : TkV)).set y1.task.toNat ({ aaa ((r4.2.1.tasks.set y1.task.toNat (aaa r4.2.1.tasks y1.task)).set y1.task.toNat ({ aaa (r4.2.1.tasks.set y1.task.toNat (aaa r4.2.1.tasks y1.task)) y1.task with kids := (([]) ++ ((aaa r4.2.1.tasks y1.task).kids)) ++ ([y1.task]) } : TkV)) y1.task with pc := wi (((aaa ((r4.2.1.tasks.set y1.task.toNat (aaa r4.2.1.tasks y1.task)).set y1.task.toNat ({ aaa (r4.2.1.tasks.set y1.task.toNat (aaa r4.2.1.tasks y1.task)) y1.task with kids := (([]) ++ ((aaa r4.2.1.tasks y1.task).kids)) ++ ([y1.task]) } : TkV)) y1.task).pc) + 1) } : TkV) } : SaV), ()))
   else none
   else none
   else none
   else none
   else none
   else none
  else
  (aau r2.2.1).bind fun r5 =>
  if r2.2.1.c.workers = r5.2.1.c.workers then
   if r2.2.1.c.tasks = r5.2.1.c.tasks then
   if r5.1.1 < (wi (r2.2.1.c.tasks - r2.2.1.c.workers)) then
   some ((false, ()), (r5.2.1, ()))
   else
   if 0 ≤ y1.task ∧ y1.task < ((r5.2.1.tasks.length : Nat) : Int) then
   if (((([] : List Int).length + ((aaa r5.2.1.tasks y1.task).kids).length : Nat)) : Int) < 1000000000000 then
   if ((((([]) ++ ((aaa r5.2.1.tasks y1.task).kids)).length + ([(-1)] : List Int).length : Nat)) : Int) < 1000000000000 then
   if 0 ≤ y1.task ∧ y1.task < (((r5.2.1.tasks.set y1.task.toNat (aaa r5.2.1.tasks y1.task)).length : Nat) : Int) then
   if 0 ≤ y1.task ∧ y1.task < ((((r5.2.1.tasks.set y1.task.toNat (aaa r5.2.1.tasks y1.task)).set y1.task.toNat ({ aaa (r5.2.1.tasks.set y1.task.toNat (aaa r5.2.1.tasks y1.task)) y1.task with kids := (([]) ++ ((aaa r5.2.1.tasks y1.task).kids)) ++ ([(-1)]) } : TkV)).length : Nat) : Int) then
   if 0 ≤ y1.task ∧ y1.task < ((((r5.2.1.tasks.set y1.task.toNat (aaa r5.2.1.tasks y1.task)).set y1.task.toNat ({ aaa (r5.2.1.tasks.set y1.task.toNat (aaa r5.2.1.tasks y1.task)) y1.task with kids := (([]) ++ ((aaa r5.2.1.tasks y1.task).kids)) ++ ([(-1)]) } : TkV)).length : Nat) : Int) then
   some ((true, ()), (({ r5.2.1 with tasks := ((r5.2.1.tasks.set y1.task.toNat (aaa r5.2.1.tasks y1.task)).set y1.task.toNat ({ aaa (r5.2.1.tasks.set y1.task.toNat (aaa r5.2.1.tasks y1.task)) y1.task with kids := (([]) ++ ((aaa r5.2.1.tasks y1.task).kids)) ++ ([(-1)]) } : TkV)).set y1.task.toNat ({ aaa ((r5.2.1.tasks.set y1.task.toNat (aaa r5.2.1.tasks y1.task)).set y1.task.toNat ({ aaa (r5.2.1.tasks.set y1.task.toNat (aaa r5.2.1.tasks y1.task)) y1.task with kids := (([]) ++ ((aaa r5.2.1.tasks y1.task).kids)) ++ ([(-1)]) } : TkV)) y1.task with pc := wi (((aaa ((r5.2.1.tasks.set y1.task.toNat (aaa r5.2.1.tasks y1.task)).set y1.task.toNat ({ aaa (r5.2.1.tasks.set y1.task.toNat (aaa r5.2.1.tasks y1.task)) y1.task with kids := (([]) ++ ((aaa r5.2.1.tasks y1.task).kids)) ++ ([(-1)]) } : TkV)) y1.task).pc) + 1) } : TkV) } : SaV), ()))
   else none
   else none
   else none
   else none
   else none
   else none
   else none
  else none
 else
 (aaB y0 y1.worker y1.other).bind fun r6 =>
 if (!r6.1.1) = true then
  some ((false, ()), (r6.2.1, ()))
 else
 (aas r6.2.1 y1.other).bind fun r7 =>
 if (!r7.1.2.1) = true then
  some ((false, ()), (r7.2.1, ()))
 else
 if r7.1.1.op ≠ 1 then
  some ((false, ()), (r7.2.1, ()))
 else
 if y1.kind = 3 then
  ((
   if r7.1.1.b ≠ y1.level then
   some (true, r7.2.1, ())
   else
   if 0 ≤ y1.task ∧ y1.task < ((r7.2.1.tasks.length : Nat) : Int) then
   some (decide (((aaa r7.2.1.tasks y1.task).view.phase) ≠ 0), ({ r7.2.1 with tasks := r7.2.1.tasks.set y1.task.toNat (aaa r7.2.1.tasks y1.task) } : SaV), ())
   else none
  ) : Option (Bool × SaV × Unit)).bind fun z8 =>
  if z8.1 = true then
   some ((false, ()), (z8.2.1, ()))
  else
  (aaH z8.2.1 y1.task y1.level r7.1.1.a y1.other).bind fun r9 =>
  if 0 ≤ y1.other ∧ y1.other < ((r9.2.1.tasks.length : Nat) : Int) then
   if (((([] : List Int).length + ((aaa r9.2.1.tasks y1.other).kids).length : Nat)) : Int) < 1000000000000 then
   if ((((([]) ++ ((aaa r9.2.1.tasks y1.other).kids)).length + ([y1.task] : List Int).length : Nat)) : Int) < 1000000000000 then
   if 0 ≤ y1.other ∧ y1.other < (((r9.2.1.tasks.set y1.other.toNat (aaa r9.2.1.tasks y1.other)).length : Nat) : Int) then
   if 0 ≤ y1.other ∧ y1.other < ((((r9.2.1.tasks.set y1.other.toNat (aaa r9.2.1.tasks y1.other)).set y1.other.toNat ({ aaa (r9.2.1.tasks.set y1.other.toNat (aaa r9.2.1.tasks y1.other)) y1.other with kids := (([]) ++ ((aaa r9.2.1.tasks y1.other).kids)) ++ ([y1.task]) } : TkV)).length : Nat) : Int) then
   if 0 ≤ y1.other ∧ y1.other < ((((r9.2.1.tasks.set y1.other.toNat (aaa r9.2.1.tasks y1.other)).set y1.other.toNat ({ aaa (r9.2.1.tasks.set y1.other.toNat (aaa r9.2.1.tasks y1.other)) y1.other with kids := (([]) ++ ((aaa r9.2.1.tasks y1.other).kids)) ++ ([y1.task]) } : TkV)).length : Nat) : Int) then
   some ((true, ()), (({ r9.2.1 with tasks := ((r9.2.1.tasks.set y1.other.toNat (aaa r9.2.1.tasks y1.other)).set y1.other.toNat ({ aaa (r9.2.1.tasks.set y1.other.toNat (aaa r9.2.1.tasks y1.other)) y1.other with kids := (([]) ++ ((aaa r9.2.1.tasks y1.other).kids)) ++ ([y1.task]) } : TkV)).set y1.other.toNat ({ aaa ((r9.2.1.tasks.set y1.other.toNat (aaa r9.2.1.tasks y1.other)).set y1.other.toNat ({ aaa (r9.2.1.tasks.set y1.other.toNat (aaa r9.2.1.tasks y1.other)) y1.other with kids := (([]) ++ ((aaa r9.2.1.tasks y1.other).kids)) ++ ([y1.task]) } : TkV)) y1.other with pc := wi (((aaa ((r9.2.1.tasks.set y1.other.toNat (aaa r9.2.1.tasks y1.other)).set y1.other.toNat ({ aaa (r9.2.1.tasks.set y1.other.toNat (aaa r9.2.1.tasks y1.other)) y1.other with kids := (([]) ++ ((aaa r9.2.1.tasks y1.other).kids)) ++ ([y1.task]) } : TkV)) y1.other).pc) + 1) } : TkV) } : SaV), ()))
   else none
   else none
   else none
   else none
   else none
  else none
 else
 (aau r7.2.1).bind fun r10 =>
 if r7.2.1.c.workers = r10.2.1.c.workers then
  if r7.2.1.c.tasks = r10.2.1.c.tasks then
   if r10.1.1 < (wi (r7.2.1.c.tasks - r7.2.1.c.workers)) then
   some ((false, ()), (r10.2.1, ()))
   else
   if 0 ≤ y1.other ∧ y1.other < ((r10.2.1.tasks.length : Nat) : Int) then
   if (((([] : List Int).length + ((aaa r10.2.1.tasks y1.other).kids).length : Nat)) : Int) < 1000000000000 then
   if ((((([]) ++ ((aaa r10.2.1.tasks y1.other).kids)).length + ([(-1)] : List Int).length : Nat)) : Int) < 1000000000000 then
   if 0 ≤ y1.other ∧ y1.other < (((r10.2.1.tasks.set y1.other.toNat (aaa r10.2.1.tasks y1.other)).length : Nat) : Int) then
   if 0 ≤ y1.other ∧ y1.other < ((((r10.2.1.tasks.set y1.other.toNat (aaa r10.2.1.tasks y1.other)).set y1.other.toNat ({ aaa (r10.2.1.tasks.set y1.other.toNat (aaa r10.2.1.tasks y1.other)) y1.other with kids := (([]) ++ ((aaa r10.2.1.tasks y1.other).kids)) ++ ([(-1)]) } : TkV)).length : Nat) : Int) then
   if 0 ≤ y1.other ∧ y1.other < ((((r10.2.1.tasks.set y1.other.toNat (aaa r10.2.1.tasks y1.other)).set y1.other.toNat ({ aaa (r10.2.1.tasks.set y1.other.toNat (aaa r10.2.1.tasks y1.other)) y1.other with kids := (([]) ++ ((aaa r10.2.1.tasks y1.other).kids)) ++ ([(-1)]) } : TkV)).length : Nat) : Int) then
   some ((true, ()), (({ r10.2.1 with tasks := ((r10.2.1.tasks.set y1.other.toNat (aaa r10.2.1.tasks y1.other)).set y1.other.toNat ({ aaa (r10.2.1.tasks.set y1.other.toNat (aaa r10.2.1.tasks y1.other)) y1.other with kids := (([]) ++ ((aaa r10.2.1.tasks y1.other).kids)) ++ ([(-1)]) } : TkV)).set y1.other.toNat ({ aaa ((r10.2.1.tasks.set y1.other.toNat (aaa r10.2.1.tasks y1.other)).set y1.other.toNat ({ aaa (r10.2.1.tasks.set y1.other.toNat (aaa r10.2.1.tasks y1.other)) y1.other with kids := (([]) ++ ((aaa r10.2.1.tasks y1.other).kids)) ++ ([(-1)]) } : TkV)) y1.other with pc := wi (((aaa ((r10.2.1.tasks.set y1.other.toNat (aaa r10.2.1.tasks y1.other)).set y1.other.toNat ({ aaa (r10.2.1.tasks.set y1.other.toNat (aaa r10.2.1.tasks y1.other)) y1.other with kids := (([]) ++ ((aaa r10.2.1.tasks y1.other).kids)) ++ ([(-1)]) } : TkV)) y1.other).pc) + 1) } : TkV) } : SaV), ()))
   else none
   else none
   else none
   else none
   else none
   else none
  else none
 else none
noncomputable abbrev acq : Con SR1 := ⟨67, [.ref 64, .val 2], [.sh .b], fun x => aaR x.1 x.2.1⟩
theorem adx (y0 : SaV) (y1 : Ev) : abE y0 y1 = aaR y0 y1 := by
  unfold abE aaR
  simp only [if_true, aeK, acS]
  try rfl
theorem adw : CO Try.prog acq := ako adb fun x out hx => (show ab7.spec x = some out from (adx x.1 x.2.1).trans hx)
end Go.Proofs.Ytkmkhldmflebkaa
