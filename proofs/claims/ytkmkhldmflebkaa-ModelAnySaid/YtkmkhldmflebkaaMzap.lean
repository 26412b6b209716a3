/- The model of the program in the evaluator's form. The model of the program in the evaluator's form. -/
import Derived.Test.YtkmkhldmflebkaaMzao
set_option linter.all false
namespace Go.Proofs.Ytkmkhldmflebkaa
section
open Go Go.RowKit
set_option maxRecDepth 100000
variable [Tb]
noncomputable def aah (y0 : SyP) (y1 : Ev) : Option ((Bool × Unit) × (SyP × Unit)) :=
 (aai y0 y1).bind fun r1 =>
 if (!r1.1.1) = true then
  some ((false, ()), (r1.2.1, ()))
 else
 if 0 ≤ y1.worker ∧ y1.worker < ((r1.2.1.works.length : Nat) : Int) then
  if ((aad r1.2.1.works y1.worker).sleeps) ≠ (decide (y1.kind = 17)) then
   some ((false, ()), (({ r1.2.1 with works := r1.2.1.works.set y1.worker.toNat (aad r1.2.1.works y1.worker) } : SyP), ()))
  else
  if y1.kind = 12 then
   if 0 ≤ y1.task ∧ y1.task < ((r1.2.1.tasks.length : Nat) : Int) then
   if r1.2.1.c.age < 1 then
   some ((false, ()), (({ r1.2.1 with works := r1.2.1.works.set y1.worker.toNat (aad r1.2.1.works y1.worker) } : SyP), ()))
   else
   (aaG (aad (r1.2.1.works.set y1.worker.toNat (aad r1.2.1.works y1.worker)) y1.worker)).bind fun r2 =>
   if (!r2.1.1) = true then
   some ((false, ()), (({ r1.2.1 with works := (r1.2.1.works.set y1.worker.toNat (aad r1.2.1.works y1.worker)).set y1.worker.toNat r2.2.1 } : SyP), ()))
   else
   if ((aab r1.2.1.tasks y1.task).ph) = 0 then
   some ((false, ()), (({ r1.2.1 with tasks := r1.2.1.tasks.set y1.task.toNat (aab r1.2.1.tasks y1.task), works := (r1.2.1.works.set y1.worker.toNat (aad r1.2.1.works y1.worker)).set y1.worker.toNat r2.2.1 } : SyP), ()))
   else
   if y1.level ≠ (wi (((aab r1.2.1.tasks y1.task).lv) + 1)) then
   some ((false, ()), (({ r1.2.1 with tasks := r1.2.1.tasks.set y1.task.toNat (aab r1.2.1.tasks y1.task), works := (r1.2.1.works.set y1.worker.toNat (aad r1.2.1.works y1.worker)).set y1.worker.toNat r2.2.1 } : SyP), ()))
   else
   some ((true, ()), (({ r1.2.1 with tasks := r1.2.1.tasks.set y1.task.toNat ({ aab r1.2.1.tasks y1.task with lv := y1.level } : TkP), works := ((r1.2.1.works.set y1.worker.toNat (aad r1.2.1.works y1.worker)).set y1.worker.toNat r2.2.1).set y1.worker.toNat ({ aad ((r1.2.1.works.set y1.worker.toNat (aad r1.2.1.works y1.worker)).set y1.worker.toNat r2.2.1) y1.worker with last := y1 } : WkP) } : SyP), ()))
   else none
  else
   if y1.kind = 11 then
   if 0 ≤ y1.task ∧ y1.task < ((r1.2.1.tasks.length : Nat) : Int) then
   if (!((aad r1.2.1.works y1.worker).walks)) = true then
   some ((false, ()), (({ r1.2.1 with works := r1.2.1.works.set y1.worker.toNat (aad r1.2.1.works y1.worker) } : SyP), ()))
   else
   if 0 ≤ y1.task ∧ y1.task < ((r1.2.1.tasks.length : Nat) : Int) then
   (lpF (σ := Int × Unit) (β := (Int × Unit) ⊕ ((Bool × Unit) × (SyP × Unit))) (fun self5 x3 =>
   if x3.1 ≠ (-1) then
   if x3.1 = ((aad r1.2.1.works y1.worker).walk) then
   Option.map Sum.inr (
   if y1.level ≤ ((aab r1.2.1.tasks y1.task).lv) then
   some ((false, ()), (({ r1.2.1 with tasks := r1.2.1.tasks.set y1.task.toNat (aab r1.2.1.tasks y1.task), works := r1.2.1.works.set y1.worker.toNat (aad r1.2.1.works y1.worker) } : SyP), ()))
   else
   if 0 ≤ (aad (r1.2.1.works.set y1.worker.toNat (aad r1.2.1.works y1.worker)) y1.worker).walk ∧ (aad (r1.2.1.works.set y1.worker.toNat (aad r1.2.1.works y1.worker)) y1.worker).walk < (((r1.2.1.tasks.set y1.task.toNat (aab r1.2.1.tasks y1.task)).length : Nat) : Int) then
   if ((aab (r1.2.1.tasks.set y1.task.toNat (aab r1.2.1.tasks y1.task)) ((aad (r1.2.1.works.set y1.worker.toNat (aad r1.2.1.works y1.worker)) y1.worker).walk)).lv) < y1.level then
   some ((false, ()), (({ r1.2.1 with tasks := (r1.2.1.tasks.set y1.task.toNat (aab r1.2.1.tasks y1.task)).set ((aad (r1.2.1.works.set y1.worker.toNat (aad r1.2.1.works y1.worker)) y1.worker).walk).toNat (aab (r1.2.1.tasks.set y1.task.toNat (aab r1.2.1.tasks y1.task)) ((aad (r1.2.1.works.set y1.worker.toNat (aad r1.2.1.works y1.worker)) y1.worker).walk)), works := (r1.2.1.works.set y1.worker.toNat (aad r1.2.1.works y1.worker)).set y1.worker.toNat (aad (r1.2.1.works.set y1.worker.toNat (aad r1.2.1.works y1.worker)) y1.worker) } : SyP), ()))
   else
   if ((aad (r1.2.1.works.set y1.worker.toNat (aad r1.2.1.works y1.worker)) y1.worker).up) ≠ (-1) then
   if ((aad (r1.2.1.works.set y1.worker.toNat (aad r1.2.1.works y1.worker)) y1.worker).up) ≠ y1.level then
   some ((false, ()), (({ r1.2.1 with tasks := (r1.2.1.tasks.set y1.task.toNat (aab r1.2.1.tasks y1.task)).set ((aad (r1.2.1.works.set y1.worker.toNat (aad r1.2.1.works y1.worker)) y1.worker).walk).toNat (aab (r1.2.1.tasks.set y1.task.toNat (aab r1.2.1.tasks y1.task)) ((aad (r1.2.1.works.set y1.worker.toNat (aad r1.2.1.works y1.worker)) y1.worker).walk)), works := (r1.2.1.works.set y1.worker.toNat (aad r1.2.1.works y1.worker)).set y1.worker.toNat (aad (r1.2.1.works.set y1.worker.toNat (aad r1.2.1.works y1.worker)) y1.worker) } : SyP), ()))
   else
   some ((true, ()), (({ r1.2.1 with tasks := ((r1.2.1.tasks.set y1.task.toNat (aab r1.2.1.tasks y1.task)).set ((aad (r1.2.1.works.set y1.worker.toNat (aad r1.2.1.works y1.worker)) y1.worker).walk).toNat (aab (r1.2.1.tasks.set y1.task.toNat (aab r1.2.1.tasks y1.task)) ((aad (r1.2.1.works.set y1.worker.toNat (aad r1.2.1.works y1.worker)) y1.worker).walk))).set y1.task.toNat ({ aab ((r1.2.1.tasks.set y1.task.toNat (aab r1.2.1.tasks y1.task)).set ((aad (r1.2.1.works.set y1.worker.toNat (aad r1.2.1.works y1.worker)) y1.worker).walk).toNat (aab (r1.2.1.tasks.set y1.task.toNat (aab r1.2.1.tasks y1.task)) ((aad (r1.2.1.works.set y1.worker.toNat (aad r1.2.1.works y1.worker)) y1.worker).walk))) y1.task with lv := y1.level } : TkP), works := (r1.2.1.works.set y1.worker.toNat (aad r1.2.1.works y1.worker)).set y1.worker.toNat ({ aad (r1.2.1.works.set y1.worker.toNat (aad r1.2.1.works y1.worker)) y1.worker with up := y1.level, last := y1 } : WkP) } : SyP), ()))
   else
   some ((true, ()), (({ r1.2.1 with tasks := ((r1.2.1.tasks.set y1.task.toNat (aab r1.2.1.tasks y1.task)).set ((aad (r1.2.1.works.set y1.worker.toNat (aad r1.2.1.works y1.worker)) y1.worker).walk).toNat (aab (r1.2.1.tasks.set y1.task.toNat (aab r1.2.1.tasks y1.task)) ((aad (r1.2.1.works.set y1.worker.toNat (aad r1.2.1.works y1.worker)) y1.worker).walk))).set y1.task.toNat ({ aab ((r1.2.1.tasks.set y1.task.toNat (aab r1.2.1.tasks y1.task)).set ((aad (r1.2.1.works.set y1.worker.toNat (aad r1.2.1.works y1.worker)) y1.worker).walk).toNat (aab (r1.2.1.tasks.set y1.task.toNat (aab r1.2.1.tasks y1.task)) ((aad (r1.2.1.works.set y1.worker.toNat (aad r1.2.1.works y1.worker)) y1.worker).walk))) y1.task with lv := y1.level } : TkP), works := (r1.2.1.works.set y1.worker.toNat (aad r1.2.1.works y1.worker)).set y1.worker.toNat ({ aad (r1.2.1.works.set y1.worker.toNat (aad r1.2.1.works y1.worker)) y1.worker with up := y1.level, last := y1 } : WkP) } : SyP), ()))
   else none
   )
   else
   if 0 ≤ x3.1 ∧ x3.1 < ((r1.2.1.tasks.length : Nat) : Int) then
   self5 ((aab r1.2.1.tasks x3.1).pa, ())
   else none
   else
   some (Sum.inl (x3.1, ()))
   ) 18446744073709551616 ((aab r1.2.1.tasks y1.task).pa, ())).bind fun z4 => match z4 with
   | .inr o6 => some o6
   | .inl z4 =>
   some ((false, ()), (({ r1.2.1 with works := r1.2.1.works.set y1.worker.toNat (aad r1.2.1.works y1.worker) } : SyP), ()))
   else none
   else none
   else
   if y1.kind = 10 then
   (aaO (aad (r1.2.1.works.set y1.worker.toNat (aad r1.2.1.works y1.worker)) y1.worker)).bind fun r7 =>
   if r7.1.1 ≠ y1.task then
   some ((false, ()), (({ r1.2.1 with works := (r1.2.1.works.set y1.worker.toNat (aad r1.2.1.works y1.worker)).set y1.worker.toNat r7.2.1 } : SyP), ()))
   else
   if 0 ≤ y1.task ∧ y1.task < ((r1.2.1.tasks.length : Nat) : Int) then
   (aaz (aab r1.2.1.tasks y1.task)).bind fun r8 =>
   if r8.1.2.1 = true then
   some ((false, ()), (({ r1.2.1 with tasks := r1.2.1.tasks.set y1.task.toNat r8.2.1, works := (r1.2.1.works.set y1.worker.toNat (aad r1.2.1.works y1.worker)).set y1.worker.toNat r7.2.1 } : SyP), ()))
   else
   if 0 ≤ y1.task ∧ y1.task < (((r1.2.1.tasks.set y1.task.toNat r8.2.1).length : Nat) : Int) then
   if 0 ≤ wi (((((aad ((r1.2.1.works.set y1.worker.toNat (aad r1.2.1.works y1.worker)).set y1.worker.toNat r7.2.1) y1.worker).stack).length : Nat) : Int) - 1) ∧ wi (((((aad ((r1.2.1.works.set y1.worker.toNat (aad r1.2.1.works y1.worker)).set y1.worker.toNat r7.2.1) y1.worker).stack).length : Nat) : Int) - 1) ≤ ((((aad ((r1.2.1.works.set y1.worker.toNat (aad r1.2.1.works y1.worker)).set y1.worker.toNat r7.2.1) y1.worker).stack).length : Nat) : Int) then
   some ((true, ()), (({ r1.2.1 with tasks := (r1.2.1.tasks.set y1.task.toNat r8.2.1).set y1.task.toNat ({ aab (r1.2.1.tasks.set y1.task.toNat r8.2.1) y1.task with ph := 4 } : TkP), works := ((r1.2.1.works.set y1.worker.toNat (aad r1.2.1.works y1.worker)).set y1.worker.toNat r7.2.1).set y1.worker.toNat ({ aad ((r1.2.1.works.set y1.worker.toNat (aad r1.2.1.works y1.worker)).set y1.worker.toNat r7.2.1) y1.worker with stack := ((aad ((r1.2.1.works.set y1.worker.toNat (aad r1.2.1.works y1.worker)).set y1.worker.toNat r7.2.1) y1.worker).stack).take (wi (((((aad ((r1.2.1.works.set y1.worker.toNat (aad r1.2.1.works y1.worker)).set y1.worker.toNat r7.2.1) y1.worker).stack).length : Nat) : Int) - 1) : Int).toNat, last := y1 } : WkP) } : SyP), ()))
   else none
   else none
   else none
   else
   if y1.kind = 9 then
   if 0 ≤ y1.task ∧ y1.task < ((r1.2.1.tasks.length : Nat) : Int) then
   if ((aab r1.2.1.tasks y1.task).ph) ≠ 3 then
   some ((false, ()), (({ r1.2.1 with tasks := r1.2.1.tasks.set y1.task.toNat (aab r1.2.1.tasks y1.task), works := r1.2.1.works.set y1.worker.toNat (aad r1.2.1.works y1.worker) } : SyP), ()))
   else
   if 0 ≤ (aab r1.2.1.tasks y1.task).wt ∧ (aab r1.2.1.tasks y1.task).wt < (((r1.2.1.tasks.set y1.task.toNat (aab r1.2.1.tasks y1.task)).length : Nat) : Int) then
   if ((aab (r1.2.1.tasks.set y1.task.toNat (aab r1.2.1.tasks y1.task)) ((aab r1.2.1.tasks y1.task).wt)).ph) ≠ 4 then
   some ((false, ()), (({ r1.2.1 with tasks := (r1.2.1.tasks.set y1.task.toNat (aab r1.2.1.tasks y1.task)).set ((aab r1.2.1.tasks y1.task).wt).toNat (aab (r1.2.1.tasks.set y1.task.toNat (aab r1.2.1.tasks y1.task)) ((aab r1.2.1.tasks y1.task).wt)), works := r1.2.1.works.set y1.worker.toNat (aad r1.2.1.works y1.worker) } : SyP), ()))
   else
   (aaG (aad (r1.2.1.works.set y1.worker.toNat (aad r1.2.1.works y1.worker)) y1.worker)).bind fun r9 =>
   if (!r9.1.1) = true then
   if ((aad ((r1.2.1.works.set y1.worker.toNat (aad r1.2.1.works y1.worker)).set y1.worker.toNat r9.2.1) y1.worker).last.kind) ≠ 10 then
   some ((false, ()), (({ r1.2.1 with tasks := (r1.2.1.tasks.set y1.task.toNat (aab r1.2.1.tasks y1.task)).set ((aab r1.2.1.tasks y1.task).wt).toNat (aab (r1.2.1.tasks.set y1.task.toNat (aab r1.2.1.tasks y1.task)) ((aab r1.2.1.tasks y1.task).wt)), works := ((r1.2.1.works.set y1.worker.toNat (aad r1.2.1.works y1.worker)).set y1.worker.toNat r9.2.1).set y1.worker.toNat (aad ((r1.2.1.works.set y1.worker.toNat (aad r1.2.1.works y1.worker)).set y1.worker.toNat r9.2.1) y1.worker) } : SyP), ()))
   else
   if ((aad ((r1.2.1.works.set y1.worker.toNat (aad r1.2.1.works y1.worker)).set y1.worker.toNat r9.2.1) y1.worker).last.task) ≠ ((aab ((r1.2.1.tasks.set y1.task.toNat (aab r1.2.1.tasks y1.task)).set ((aab r1.2.1.tasks y1.task).wt).toNat (aab (r1.2.1.tasks.set y1.task.toNat (aab r1.2.1.tasks y1.task)) ((aab r1.2.1.tasks y1.task).wt))) y1.task).wt) then
   some ((false, ()), (({ r1.2.1 with tasks := ((r1.2.1.tasks.set y1.task.toNat (aab r1.2.1.tasks y1.task)).set ((aab r1.2.1.tasks y1.task).wt).toNat (aab (r1.2.1.tasks.set y1.task.toNat (aab r1.2.1.tasks y1.task)) ((aab r1.2.1.tasks y1.task).wt))).set y1.task.toNat (aab ((r1.2.1.tasks.set y1.task.toNat (aab r1.2.1.tasks y1.task)).set ((aab r1.2.1.tasks y1.task).wt).toNat (aab (r1.2.1.tasks.set y1.task.toNat (aab r1.2.1.tasks y1.task)) ((aab r1.2.1.tasks y1.task).wt))) y1.task), works := ((r1.2.1.works.set y1.worker.toNat (aad r1.2.1.works y1.worker)).set y1.worker.toNat r9.2.1).set y1.worker.toNat (aad ((r1.2.1.works.set y1.worker.toNat (aad r1.2.1.works y1.worker)).set y1.worker.toNat r9.2.1) y1.worker) } : SyP), ()))
   else
   if 0 ≤ y1.task ∧ y1.task < (((((r1.2.1.tasks.set y1.task.toNat (aab r1.2.1.tasks y1.task)).set ((aab r1.2.1.tasks y1.task).wt).toNat (aab (r1.2.1.tasks.set y1.task.toNat (aab r1.2.1.tasks y1.task)) ((aab r1.2.1.tasks y1.task).wt))).set y1.task.toNat (aab ((r1.2.1.tasks.set y1.task.toNat (aab r1.2.1.tasks y1.task)).set ((aab r1.2.1.tasks y1.task).wt).toNat (aab (r1.2.1.tasks.set y1.task.toNat (aab r1.2.1.tasks y1.task)) ((aab r1.2.1.tasks y1.task).wt))) y1.task)).length : Nat) : Int) then
   if 0 ≤ y1.task ∧ y1.task < ((((((r1.2.1.tasks.set y1.task.toNat (aab r1.2.1.tasks y1.task)).set ((aab r1.2.1.tasks y1.task).wt).toNat (aab (r1.2.1.tasks.set y1.task.toNat (aab r1.2.1.tasks y1.task)) ((aab r1.2.1.tasks y1.task).wt))).set y1.task.toNat (aab ((r1.2.1.tasks.set y1.task.toNat (aab r1.2.1.tasks y1.task)).set ((aab r1.2.1.tasks y1.task).wt).toNat (aab (r1.2.1.tasks.set y1.task.toNat (aab r1.2.1.tasks y1.task)) ((aab r1.2.1.tasks y1.task).wt))) y1.task)).set y1.task.toNat ({ aab (((r1.2.1.tasks.set y1.task.toNat (aab r1.2.1.tasks y1.task)).set ((aab r1.2.1.tasks y1.task).wt).toNat (aab (r1.2.1.tasks.set y1.task.toNat (aab r1.2.1.tasks y1.task)) ((aab r1.2.1.tasks y1.task).wt))).set y1.task.toNat (aab ((r1.2.1.tasks.set y1.task.toNat (aab r1.2.1.tasks y1.task)).set ((aab r1.2.1.tasks y1.task).wt).toNat (aab (r1.2.1.tasks.set y1.task.toNat (aab r1.2.1.tasks y1.task)) ((aab r1.2.1.tasks y1.task).wt))) y1.task)) y1.task with ph := 2 } : TkP)).length : Nat) : Int) then
   if (((((aad ((r1.2.1.works.set y1.worker.toNat (aad r1.2.1.works y1.worker)).set y1.worker.toNat r9.2.1) y1.worker).stack).length + ([y1.task] : List Int).length : Nat)) : Int) < 1000000000000 then
   some ((true, ()), (({ r1.2.1 with tasks := ((((r1.2.1.tasks.set y1.task.toNat (aab r1.2.1.tasks y1.task)).set ((aab r1.2.1.tasks y1.task).wt).toNat (aab (r1.2.1.tasks.set y1.task.toNat (aab r1.2.1.tasks y1.task)) ((aab r1.2.1.tasks y1.task).wt))).set y1.task.toNat (aab ((r1.2.1.tasks.set y1.task.toNat (aab r1.2.1.tasks y1.task)).set ((aab r1.2.1.tasks y1.task).wt).toNat (aab (r1.2.1.tasks.set y1.task.toNat (aab r1.2.1.tasks y1.task)) ((aab r1.2.1.tasks y1.task).wt))) y1.task)).set y1.task.toNat ({ aab (((r1.2.1.tasks.set y1.task.toNat (aab r1.2.1.tasks y1.task)).set ((aab r1.2.1.tasks y1.task).wt).toNat (aab (r1.2.1.tasks.set y1.task.toNat (aab r1.2.1.tasks y1.task)) ((aab r1.2.1.tasks y1.task).wt))).set y1.task.toNat (aab ((r1.2.1.tasks.set y1.task.toNat (aab r1.2.1.tasks y1.task)).set ((aab r1.2.1.tasks y1.task).wt).toNat (aab (r1.2.1.tasks.set y1.task.toNat (aab r1.2.1.tasks y1.task)) ((aab r1.2.1.tasks y1.task).wt))) y1.task)) y1.task with ph := 2 } : TkP)).set y1.task.toNat ({ aab ((((r1.2.1.tasks.set y1.task.toNat (aab r1.2.1.tasks y1.task)).set ((aab r1.2.1.tasks y1.task).wt).toNat (aab (r1.2.1.tasks.set y1.task.toNat (aab r1.2.1.tasks y1.task)) ((aab r1.2.1.tasks y1.task).wt))).set y1.task.toNat (aab ((r1.2.1.tasks.set y1.task.toNat (aab r1.2.1.tasks y1.task)).set ((aab r1.2.1.tasks y1.task).wt).toNat (aab (r1.2.1.tasks.set y1.task.toNat (aab r1.2.1.tasks y1.task)) ((aab r1.2.1.tasks y1.task).wt))) y1.task)).set y1.task.toNat ({ aab (((r1.2.1.tasks.set y1.task.toNat (aab r1.2.1.tasks y1.task)).set ((aab r1.2.1.tasks y1.task).wt).toNat (aab (r1.2.1.tasks.set y1.task.toNat (aab r1.2.1.tasks y1.task)) ((aab r1.2.1.tasks y1.task).wt))).set y1.task.toNat (aab ((r1.2.1.tasks.set y1.task.toNat (aab r1.2.1.tasks y1.task)).set ((aab r1.2.1.tasks y1.task).wt).toNat (aab (r1.2.1.tasks.set y1.task.toNat (aab r1.2.1.tasks y1.task)) ((aab r1.2.1.tasks y1.task).wt))) y1.task)) y1.task with ph := 2 } : TkP)) y1.task with wt := (-1) } : TkP), works := ((r1.2.1.works.set y1.worker.toNat (aad r1.2.1.works y1.worker)).set y1.worker.toNat r9.2.1).set y1.worker.toNat ({ aad ((r1.2.1.works.set y1.worker.toNat (aad r1.2.1.works y1.worker)).set y1.worker.toNat r9.2.1) y1.worker with stack := ((aad ((r1.2.1.works.set y1.worker.toNat (aad r1.2.1.works y1.worker)).set y1.worker.toNat r9.2.1) y1.worker).stack) ++ ([y1.task]), last := y1 } : WkP) } : SyP), ()))
   else none
   else none
   else none
   else
   if 0 ≤ y1.task ∧ y1.task < ((((r1.2.1.tasks.set y1.task.toNat (aab r1.2.1.tasks y1.task)).set ((aab r1.2.1.tasks y1.task).wt).toNat (aab (r1.2.1.tasks.set y1.task.toNat (aab r1.2.1.tasks y1.task)) ((aab r1.2.1.tasks y1.task).wt))).length : Nat) : Int) then
   if 0 ≤ y1.task ∧ y1.task < (((((r1.2.1.tasks.set y1.task.toNat (aab r1.2.1.tasks y1.task)).set ((aab r1.2.1.tasks y1.task).wt).toNat (aab (r1.2.1.tasks.set y1.task.toNat (aab r1.2.1.tasks y1.task)) ((aab r1.2.1.tasks y1.task).wt))).set y1.task.toNat ({ aab ((r1.2.1.tasks.set y1.task.toNat (aab r1.2.1.tasks y1.task)).set ((aab r1.2.1.tasks y1.task).wt).toNat (aab (r1.2.1.tasks.set y1.task.toNat (aab r1.2.1.tasks y1.task)) ((aab r1.2.1.tasks y1.task).wt))) y1.task with ph := 2 } : TkP)).length : Nat) : Int) then
   if (((((aad ((r1.2.1.works.set y1.worker.toNat (aad r1.2.1.works y1.worker)).set y1.worker.toNat r9.2.1) y1.worker).stack).length + ([y1.task] : List Int).length : Nat)) : Int) < 1000000000000 then
   some ((true, ()), (({ r1.2.1 with tasks := (((r1.2.1.tasks.set y1.task.toNat (aab r1.2.1.tasks y1.task)).set ((aab r1.2.1.tasks y1.task).wt).toNat (aab (r1.2.1.tasks.set y1.task.toNat (aab r1.2.1.tasks y1.task)) ((aab r1.2.1.tasks y1.task).wt))).set y1.task.toNat ({ aab ((r1.2.1.tasks.set y1.task.toNat (aab r1.2.1.tasks y1.task)).set ((aab r1.2.1.tasks y1.task).wt).toNat (aab (r1.2.1.tasks.set y1.task.toNat (aab r1.2.1.tasks y1.task)) ((aab r1.2.1.tasks y1.task).wt))) y1.task with ph := 2 } : TkP)).set y1.task.toNat ({ aab (((r1.2.1.tasks.set y1.task.toNat (aab r1.2.1.tasks y1.task)).set ((aab r1.2.1.tasks y1.task).wt).toNat (aab (r1.2.1.tasks.set y1.task.toNat (aab r1.2.1.tasks y1.task)) ((aab r1.2.1.tasks y1.task).wt))).set y1.task.toNat ({ aab ((r1.2.1.tasks.set y1.task.toNat (aab r1.2.1.tasks y1.task)).set ((aab r1.2.1.tasks y1.task).wt).toNat (aab (r1.2.1.tasks.set y1.task.toNat (aab r1.2.1.tasks y1.task)) ((aab r1.2.1.tasks y1.task).wt))) y1.task with ph := 2 } : TkP)) y1.task with wt := (-1) } : TkP), works := ((r1.2.1.works.set y1.worker.toNat (aad r1.2.1.works y1.worker)).set y1.worker.toNat r9.2.1).set y1.worker.toNat ({ aad ((r1.2.1.works.set y1.worker.toNat (aad r1.2.1.works y1.worker)).set y1.worker.toNat r9.2.1) y1.worker with stack := ((aad ((r1.2.1.works.set y1.worker.toNat (aad r1.2.1.works y1.worker)).set y1.worker.toNat r9.2.1) y1.worker).stack) ++ ([y1.task]), last := y1 } : WkP) } : SyP), ()))
   else none
   else none
   else none
   else none
   else none
   else
   if y1.kind = 8 then
   (aaO (aad (r1.2.1.works.set y1.worker.toNat (aad r1.2.1.works y1.worker)) y1.worker)).bind fun r10 =>
   if r10.1.1 ≠ y1.task then
   some ((false, ()), (({ r1.2.1 with works := (r1.2.1.works.set y1.worker.toNat (aad r1.2.1.works y1.worker)).set y1.worker.toNat r10.2.1 } : SyP), ()))
   else
   if 0 ≤ y1.task ∧ y1.task < ((r1.2.1.tasks.length : Nat) : Int) then
   (aaz (aab r1.2.1.tasks y1.task)).bind fun r11 =>
   if r11.1.2.1 = true then
   if r11.1.1.op = 2 then
   (abv (aab (r1.2.1.tasks.set y1.task.toNat r11.2.1) y1.task) r11.1.1.a).bind fun r12 =>
   if ¬ (r12.1.1 = y1.other) then
   some ((false, ()), (({ r1.2.1 with tasks := (r1.2.1.tasks.set y1.task.toNat r11.2.1).set y1.task.toNat r12.2.1, works := (r1.2.1.works.set y1.worker.toNat (aad r1.2.1.works y1.worker)).set y1.worker.toNat r10.2.1 } : SyP), ()))
   else
   if 0 ≤ y1.other ∧ y1.other < ((((r1.2.1.tasks.set y1.task.toNat r11.2.1).set y1.task.toNat r12.2.1).length : Nat) : Int) then
   if ((aab ((r1.2.1.tasks.set y1.task.toNat r11.2.1).set y1.task.toNat r12.2.1) y1.other).ph) ≠ 4 then
   some ((false, ()), (({ r1.2.1 with tasks := ((r1.2.1.tasks.set y1.task.toNat r11.2.1).set y1.task.toNat r12.2.1).set y1.other.toNat (aab ((r1.2.1.tasks.set y1.task.toNat r11.2.1).set y1.task.toNat r12.2.1) y1.other), works := (r1.2.1.works.set y1.worker.toNat (aad r1.2.1.works y1.worker)).set y1.worker.toNat r10.2.1 } : SyP), ()))
   else
   if 0 ≤ y1.task ∧ y1.task < (((((r1.2.1.tasks.set y1.task.toNat r11.2.1).set y1.task.toNat r12.2.1).set y1.other.toNat (aab ((r1.2.1.tasks.set y1.task.toNat r11.2.1).set y1.task.toNat r12.2.1) y1.other)).length : Nat) : Int) then
   if 0 ≤ y1.task ∧ y1.task < ((((((r1.2.1.tasks.set y1.task.toNat r11.2.1).set y1.task.toNat r12.2.1).set y1.other.toNat (aab ((r1.2.1.tasks.set y1.task.toNat r11.2.1).set y1.task.toNat r12.2.1) y1.other)).set y1.task.toNat (aab (((r1.2.1.tasks.set y1.task.toNat r11.2.1).set y1.task.toNat r12.2.1).set y1.other.toNat (aab ((r1.2.1.tasks.set y1.task.toNat r11.2.1).set y1.task.toNat r12.2.1) y1.other)) y1.task)).length : Nat) : Int) then
   some ((true, ()), (({ r1.2.1 with tasks := ((((r1.2.1.tasks.set y1.task.toNat r11.2.1).set y1.task.toNat r12.2.1).set y1.other.toNat (aab ((r1.2.1.tasks.set y1.task.toNat r11.2.1).set y1.task.toNat r12.2.1) y1.other)).set y1.task.toNat (aab (((r1.2.1.tasks.set y1.task.toNat r11.2.1).set y1.task.toNat r12.2.1).set y1.other.toNat (aab ((r1.2.1.tasks.set y1.task.toNat r11.2.1).set y1.task.toNat r12.2.1) y1.other)) y1.task)).set y1.task.toNat ({ aab ((((r1.2.1.tasks.set y1.task.toNat r11.2.1).set y1.task.toNat r12.2.1).set y1.other.toNat (aab ((r1.2.1.tasks.set y1.task.toNat r11.2.1).set y1.task.toNat r12.2.1) y1.other)).set y1.task.toNat (aab (((r1.2.1.tasks.set y1.task.toNat r11.2.1).set y1.task.toNat r12.2.1).set y1.other.toNat (aab ((r1.2.1.tasks.set y1.task.toNat r11.2.1).set y1.task.toNat r12.2.1) y1.other)) y1.task)) y1.task with at_ := wi (((aab (((r1.2.1.tasks.set y1.task.toNat r11.2.1).set y1.task.toNat r12.2.1).set y1.other.toNat (aab ((r1.2.1.tasks.set y1.task.toNat r11.2.1).set y1.task.toNat r12.2.1) y1.other)) y1.task).at_) + 1) } : TkP), works := ((r1.2.1.works.set y1.worker.toNat (aad r1.2.1.works y1.worker)).set y1.worker.toNat r10.2.1).set y1.worker.toNat ({ aad ((r1.2.1.works.set y1.worker.toNat (aad r1.2.1.works y1.worker)).set y1.worker.toNat r10.2.1) y1.worker with last := y1 } : WkP) } : SyP), ()))
   else none
   else none
   else none
   else
   some ((false, ()), (({ r1.2.1 with tasks := r1.2.1.tasks.set y1.task.toNat r11.2.1, works := (r1.2.1.works.set y1.worker.toNat (aad r1.2.1.works y1.worker)).set y1.worker.toNat r10.2.1 } : SyP), ()))
   else
   some ((false, ()), (({ r1.2.1 with tasks := r1.2.1.tasks.set y1.task.toNat r11.2.1, works := (r1.2.1.works.set y1.worker.toNat (aad r1.2.1.works y1.worker)).set y1.worker.toNat r10.2.1 } : SyP), ()))
   else none
   else
   if y1.kind = 7 then
   if (!((aad r1.2.1.works y1.worker).walks)) = true then
   some ((false, ()), (({ r1.2.1 with works := r1.2.1.works.set y1.worker.toNat (aad r1.2.1.works y1.worker) } : SyP), ()))
   else
   if ((aad r1.2.1.works y1.worker).walk) ≠ y1.task then
   some ((false, ()), (({ r1.2.1 with works := r1.2.1.works.set y1.worker.toNat (aad r1.2.1.works y1.worker) } : SyP), ()))
   else
   if y1.level < ((aad r1.2.1.works y1.worker).low) then
   some ((false, ()), (({ r1.2.1 with works := r1.2.1.works.set y1.worker.toNat (aad r1.2.1.works y1.worker) } : SyP), ()))
   else
   if 0 ≤ y1.task ∧ y1.task < ((r1.2.1.tasks.length : Nat) : Int) then
   if ((aab r1.2.1.tasks y1.task).lv) < y1.level then
   some ((false, ()), (({ r1.2.1 with tasks := r1.2.1.tasks.set y1.task.toNat (aab r1.2.1.tasks y1.task), works := r1.2.1.works.set y1.worker.toNat (aad r1.2.1.works y1.worker) } : SyP), ()))
   else
   if ((aad r1.2.1.works y1.worker).up) ≠ (-1) then
   if ((aad r1.2.1.works y1.worker).up) ≠ y1.level then
   some ((false, ()), (({ r1.2.1 with tasks := r1.2.1.tasks.set y1.task.toNat (aab r1.2.1.tasks y1.task), works := r1.2.1.works.set y1.worker.toNat (aad r1.2.1.works y1.worker) } : SyP), ()))
   else
   some ((true, ()), (({ r1.2.1 with tasks := r1.2.1.tasks.set y1.task.toNat (aab r1.2.1.tasks y1.task), works := r1.2.1.works.set y1.worker.toNat ({ aad r1.2.1.works y1.worker with walks := false, last := y1 } : WkP) } : SyP), ()))
   else
   some ((true, ()), (({ r1.2.1 with tasks := r1.2.1.tasks.set y1.task.toNat (aab r1.2.1.tasks y1.task), works := r1.2.1.works.set y1.worker.toNat ({ aad r1.2.1.works y1.worker with walks := false, last := y1 } : WkP) } : SyP), ()))
   else none
   else
   if y1.kind = 6 then
   (aaO (aad (r1.2.1.works.set y1.worker.toNat (aad r1.2.1.works y1.worker)) y1.worker)).bind fun r13 =>
   if r13.1.1 ≠ y1.task then
   some ((false, ()), (({ r1.2.1 with works := (r1.2.1.works.set y1.worker.toNat (aad r1.2.1.works y1.worker)).set y1.worker.toNat r13.2.1 } : SyP), ()))
   else
   if 0 ≤ y1.task ∧ y1.task < ((r1.2.1.tasks.length : Nat) : Int) then
   (aaz (aab r1.2.1.tasks y1.task)).bind fun r14 =>
   if r14.1.2.1 = true then
   if r14.1.1.op = 2 then
   (abv (aab (r1.2.1.tasks.set y1.task.toNat r14.2.1) y1.task) r14.1.1.a).bind fun r15 =>
   if ¬ (r15.1.1 = y1.other) then
   some ((false, ()), (({ r1.2.1 with tasks := (r1.2.1.tasks.set y1.task.toNat r14.2.1).set y1.task.toNat r15.2.1, works := (r1.2.1.works.set y1.worker.toNat (aad r1.2.1.works y1.worker)).set y1.worker.toNat r13.2.1 } : SyP), ()))
   else
   if 0 ≤ y1.other ∧ y1.other < ((((r1.2.1.tasks.set y1.task.toNat r14.2.1).set y1.task.toNat r15.2.1).length : Nat) : Int) then
   if ((aab ((r1.2.1.tasks.set y1.task.toNat r14.2.1).set y1.task.toNat r15.2.1) y1.other).ph) = 4 then
   some ((false, ()), (({ r1.2.1 with tasks := ((r1.2.1.tasks.set y1.task.toNat r14.2.1).set y1.task.toNat r15.2.1).set y1.other.toNat (aab ((r1.2.1.tasks.set y1.task.toNat r14.2.1).set y1.task.toNat r15.2.1) y1.other), works := (r1.2.1.works.set y1.worker.toNat (aad r1.2.1.works y1.worker)).set y1.worker.toNat r13.2.1 } : SyP), ()))
   else
   if 0 ≤ y1.task ∧ y1.task < (((((r1.2.1.tasks.set y1.task.toNat r14.2.1).set y1.task.toNat r15.2.1).set y1.other.toNat (aab ((r1.2.1.tasks.set y1.task.toNat r14.2.1).set y1.task.toNat r15.2.1) y1.other)).length : Nat) : Int) then
   if 0 ≤ wi (((((aad ((r1.2.1.works.set y1.worker.toNat (aad r1.2.1.works y1.worker)).set y1.worker.toNat r13.2.1) y1.worker).stack).length : Nat) : Int) - 1) ∧ wi (((((aad ((r1.2.1.works.set y1.worker.toNat (aad r1.2.1.works y1.worker)).set y1.worker.toNat r13.2.1) y1.worker).stack).length : Nat) : Int) - 1) ≤ ((((aad ((r1.2.1.works.set y1.worker.toNat (aad r1.2.1.works y1.worker)).set y1.worker.toNat r13.2.1) y1.worker).stack).length : Nat) : Int) then
   some ((true, ()), (({ r1.2.1 with tasks := ((((((r1.2.1.tasks.set y1.task.toNat r14.2.1).set y1.task.toNat r15.2.1).set y1.other.toNat (aab ((r1.2.1.tasks.set y1.task.toNat r14.2.1).set y1.task.toNat r15.2.1) y1.other)).set y1.task.toNat ({ aab (((r1.2.1.tasks.set y1.task.toNat r14.2.1).set y1.task.toNat r15.2.1).set y1.other.toNat (aab ((r1.2.1.tasks.set y1.task.toNat r14.2.1).set y1.task.toNat r15.2.1) y1.other)) y1.task with at_ := wi (((aab (((r1.2.1.tasks.set y1.task.toNat r14.2.1).set y1.task.toNat r15.2.1).set y1.other.toNat (aab ((r1.2.1.tasks.set y1.task.toNat r14.2.1).set y1.task.toNat r15.2.1) y1.other)) y1.task).at_) + 1) } : TkP)).set y1.task.toNat ({ aab ((((r1.2.1.tasks.set y1.task.toNat r14.2.1).set y1.task.toNat r15.2.1).set y1.other.toNat (aab ((r1.2.1.tasks.set y1.task.toNat r14.2.1).set y1.task.toNat r15.2.1) y1.other)).set y1.task.toNat ({ aab (((r1.2.1.tasks.set y1.task.toNat r14.2.1).set y1.task.toNat r15.2.1).set y1.other.toNat (aab ((r1.2.1.tasks.set y1.task.toNat r14.2.1).set y1.task.toNat r15.2.1) y1.other)) y1.task with at_ := wi (((aab (((r1.2.1.tasks.set y1.task.toNat r14.2.1).set y1.task.toNat r15.2.1).set y1.other.toNat (aab ((r1.2.1.tasks.set y1.task.toNat r14.2.1).set y1.task.toNat r15.2.1) y1.other)) y1.task).at_) + 1) } : TkP)) y1.task with ph := 3 } : TkP)).set y1.task.toNat ({ aab (((((r1.2.1.tasks.set y1.task.toNat r14.2.1).set y1.task.toNat r15.2.1).set y1.other.toNat (aab ((r1.2.1.tasks.set y1.task.toNat r14.2.1).set y1.task.toNat r15.2.1) y1.other)).set y1.task.toNat ({ aab (((r1.2.1.tasks.set y1.task.toNat r14.2.1).set y1.task.toNat r15.2.1).set y1.other.toNat (aab ((r1.2.1.tasks.set y1.task.toNat r14.2.1).set y1.task.toNat r15.2.1) y1.other)) y1.task with at_ := wi (((aab (((r1.2.1.tasks.set y1.task.toNat r14.2.1).set y1.task.toNat r15.2.1).set y1.other.toNat (aab ((r1.2.1.tasks.set y1.task.toNat r14.2.1).set y1.task.toNat r15.2.1) y1.other)) y1.task).at_) + 1) } : TkP)).set y1.task.toNat ({ aab ((((r1.2.1.tasks.set y1.task.toNat r14.2.1).set y1.task.toNat r15.2.1).set y1.other.toNat (aab ((r1.2.1.tasks.set y1.task.toNat r14.2.1).set y1.task.toNat r15.2.1) y1.other)).set y1.task.toNat ({ aab (((r1.2.1.tasks.set y1.task.toNat r14.2.1).set y1.task.toNat r15.2.1).set y1.other.toNat (aab ((r1.2.1.tasks.set y1.task.toNat r14.2.1).set y1.task.toNat r15.2.1) y1.other)) y1.task with at_ := wi (((aab (((r1.2.1.tasks.set y1.task.toNat r14.2.1).set y1.task.toNat r15.2.1).set y1.other.toNat (aab ((r1.2.1.tasks.set y1.task.toNat r14.2.1).set y1.task.toNat r15.2.1) y1.other)) y1.task).at_) + 1) } : TkP)) y1.task with ph := 3 } : TkP)) y1.task with wt := y1.other } : TkP)).set y1.task.toNat (aab ((((((r1.2.1.tasks.set y1.task.toNat r14.2.1).set y1.task.toNat r15.2.1).set y1.other.toNat (aab ((r1.2.1.tasks.set y1.task.toNat r14.2.1).set y1.task.toNat r15.2.1) y1.other)).set y1.task.toNat ({ aab (((r1.2.1.tasks.set y1.task.toNat r14.2.1).set y1.task.toNat r15.2.1).set y1.other.toNat (aab ((r1.2.1.tasks.set y1.task.toNat r14.2.1).set y1.task.toNat r15.2.1) y1.other)) y1.task with at_ := wi (((aab (((r1.2.1.tasks.set y1.task.toNat r14.2.1).set y1.task.toNat r15.2.1).set y1.other.toNat (aab ((r1.2.1.tasks.set y1.task.toNat r14.2.1).set y1.task.toNat r15.2.1) y1.other)) y1.task).at_) + 1) } : TkP)).set y1.task.toNat ({ aab ((((r1.2.1.tasks.set y1.task.toNat r14.2.1).set y1.task.toNat r15.2.1).set y1.other.toNat (aab ((r1.2.1.tasks.set y1.task.toNat r14.2.1).set y1.task.toNat r15.2.1) y1.other)).set y1.task.toNat ({ aab (((r1.2.1.tasks.set y1.task.toNat r14.2.1).set y1.task.toNat r15.2.1).set y1.other.toNat (aab ((r1.2.1.tasks.set y1.task.toNat r14.2.1).set y1.task.toNat r15.2.1) y1.other)) y1.task with at_ := wi (((aab (((r1.2.1.tasks.set y1.task.toNat r14.2.1).set y1.task.toNat r15.2.1).set y1.other.toNat (aab ((r1.2.1.tasks.set y1.task.toNat r14.2.1).set y1.task.toNat r15.2.1) y1.other)) y1.task).at_) + 1) } : TkP)) y1.task with ph := 3 } : TkP)).set y1.task.toNat ({ aab (((((r1.2.1.tasks.set y1.task.toNat r14.2.1).set y1.task.toNat r15.2.1).set y1.other.toNat (aab ((r1.2.1.tasks.set y1.task.toNat r14.2.1).set y1.task.toNat r15.2.1) y1.other)).set y1.task.toNat ({ aab (((r1.2.1.tasks.set y1.task.toNat r14.2.1).set y1.task.toNat r15.2.1).set y1.other.toNat (aab ((r1.2.1.tasks.set y1.task.toNat r14.2.1).set y1.task.toNat r15.2.1) y1.other)) y1.task with at_ := wi (((aab (((r1.2.1.tasks.set y1.task.toNat r14.2.1).set y1.task.toNat r15.2.1).set y1.other.toNat (aab ((r1.2.1.tasks.set y1.task.toNat r14.2.1).set y1.task.toNat r15.2.1) y1.other)) y1.task).at_) + 1) } : TkP)).set y1.task.toNat ({ aab ((((r1.2.1.tasks.set y1.task.toNat r14.2.1).set y1.task.toNat r15.2.1).set y1.other.toNat (aab ((r1.2.1.tasks.set y1.task.toNat r14.2.1).set y1.task.toNat r15.2.1) y1.other)).set y1.task.toNat ({ aab (((r1.2.1.tasks.set y1.task.toNat r14.2.1).set y1.task.toNat r15.2.1).set y1.other.toNat (aab ((r1.2.1.tasks.set y1.task.toNat r14.2.1).set y1.task.toNat r15.2.1) y1.other)) y1.task with at_ := wi (((aab (((r1.2.1.tasks.set y1.task.toNat r14.2.1).set y1.task.toNat r15.2.1).set y1.other.toNat (aab ((r1.2.1.tasks.set y1.task.toNat r14.2.1).set y1.task.toNat r15.2.1) y1.other)) y1.task).at_) + 1) } : TkP)) y1.task with ph := 3 } : TkP)) y1.task with wt := y1.other } : TkP)) y1.task), works := ((r1.2.1.works.set y1.worker.toNat (aad r1.2.1.works y1.worker)).set y1.worker.toNat r13.2.1).set y1.worker.toNat (⟨((aad ((r1.2.1.works.set y1.worker.toNat (aad r1.2.1.works y1.worker)).set y1.worker.toNat r13.2.1) y1.worker).stack).take (wi (((((aad ((r1.2.1.works.set y1.worker.toNat (aad r1.2.1.works y1.worker)).set y1.worker.toNat r13.2.1) y1.worker).stack).length : Nat) : Int) - 1) : Int).toNat, true, y1.task, (aab ((((((r1.2.1.tasks.set y1.task.toNat r14.2.1).set y1.task.toNat r15.2.1).set y1.other.toNat (aab ((r1.2.1.tasks.set y1.task.toNat r14.2.1).set y1.task.toNat r15.2.1) y1.other)).set y1.task.toNat ({ aab (((r1.2.1.tasks.set y1.task.toNat r14.2.1).set y1.task.toNat r15.2.1).set y1.other.toNat (aab ((r1.2.1.tasks.set y1.task.toNat r14.2.1).set y1.task.toNat r15.2.1) y1.other)) y1.task with at_ := wi (((aab (((r1.2.1.tasks.set y1.task.toNat r14.2.1).set y1.task.toNat r15.2.1).set y1.other.toNat (aab ((r1.2.1.tasks.set y1.task.toNat r14.2.1).set y1.task.toNat r15.2.1) y1.other)) y1.task).at_) + 1) } : TkP)).set y1.task.toNat ({ aab ((((r1.2.1.tasks.set y1.task.toNat r14.2.1).set y1.task.toNat r15.2.1).set y1.other.toNat (aab ((r1.2.1.tasks.set y1.task.toNat r14.2.1).set y1.task.toNat r15.2.1) y1.other)).set y1.task.toNat ({ aab (((r1.2.1.tasks.set y1.task.toNat r14.2.1).set y1.task.toNat r15.2.1).set y1.other.toNat (aab ((r1.2.1.tasks.set y1.task.toNat r14.2.1).set y1.task.toNat r15.2.1) y1.other)) y1.task with at_ := wi (((aab (((r1.2.1.tasks.set y1.task.toNat r14.2.1).set y1.task.toNat r15.2.1).set y1.other.toNat (aab ((r1.2.1.tasks.set y1.task.toNat r14.2.1).set y1.task.toNat r15.2.1) y1.other)) y1.task).at_) + 1) } : TkP)) y1.task with ph := 3 } : TkP)).set y1.task.toNat ({ aab (((((r1.2.1.tasks.set y1.task.toNat r14.2.1).set y1.task.toNat r15.2.1).set y1.other.toNat (aab ((r1.2.1.tasks.set y1.task.toNat r14.2.1).set y1.task.toNat r15.2.1) y1.other)).set y1.task.toNat ({ aab (((r1.2.1.tasks.set y1.task.toNat r14.2.1).set y1.task.toNat r15.2.1).set y1.other.toNat (aab ((r1.2.1.tasks.set y1.task.toNat r14.2.1).set y1.task.toNat r15.2.1) y1.other)) y1.task with at_ := wi (((aab (((r1.2.1.tasks.set y1.task.toNat r14.2.1).set y1.task.toNat r15.2.1).set y1.other.toNat (aab ((r1.2.1.tasks.set y1.task.toNat r14.2.1).set y1.task.toNat r15.2.1) y1.other)) y1.task).at_) + 1) } : TkP)).set y1.task.toNat ({ aab ((((r1.2.1.tasks.set y1.task.toNat r14.2.1).set y1.task.toNat r15.2.1).set y1.other.toNat (aab ((r1.2.1.tasks.set y1.task.toNat r14.2.1).set y1.task.toNat r15.2.1) y1.other)).set y1.task.toNat ({ aab (((r1.2.1.tasks.set y1.task.toNat r14.2.1).set y1.task.toNat r15.2.1).set y1.other.toNat (aab ((r1.2.1.tasks.set y1.task.toNat r14.2.1).set y1.task.toNat r15.2.1) y1.other)) y1.task with at_ := wi (((aab (((r1.2.1.tasks.set y1.task.toNat r14.2.1).set y1.task.toNat r15.2.1).set y1.other.toNat (aab ((r1.2.1.tasks.set y1.task.toNat r14.2.1).set y1.task.toNat r15.2.1) y1.other)) y1.task).at_) + 1) } : TkP)) y1.task with ph := 3 } : TkP)) y1.task with wt := y1.other } : TkP)) y1.task).lv, (-1), (aad ((r1.2.1.works.set y1.worker.toNat (aad r1.2.1.works y1.worker)).set y1.worker.toNat r13.2.1) y1.worker).sleeps, y1⟩ : WkP) } : SyP), ()))
   else none
   else none
   else none
   else
   some ((false, ()), (({ r1.2.1 with tasks := r1.2.1.tasks.set y1.task.toNat r14.2.1, works := (r1.2.1.works.set y1.worker.toNat (aad r1.2.1.works y1.worker)).set y1.worker.toNat r13.2.1 } : SyP), ()))
   else
   some ((false, ()), (({ r1.2.1 with tasks := r1.2.1.tasks.set y1.task.toNat r14.2.1, works := (r1.2.1.works.set y1.worker.toNat (aad r1.2.1.works y1.worker)).set y1.worker.toNat r13.2.1 } : SyP), ()))
   else none
   else
   if y1.kind = 5 then
   if 0 ≤ y1.task ∧ y1.task < ((r1.2.1.tasks.length : Nat) : Int) then
   if ((aab r1.2.1.tasks y1.task).ph) ≠ 1 then
   some ((false, ()), (({ r1.2.1 with tasks := r1.2.1.tasks.set y1.task.toNat (aab r1.2.1.tasks y1.task), works := r1.2.1.works.set y1.worker.toNat (aad r1.2.1.works y1.worker) } : SyP), ()))
   else
   (aaG (aad (r1.2.1.works.set y1.worker.toNat (aad r1.2.1.works y1.worker)) y1.worker)).bind fun r16 =>
   if (!r16.1.1) = true then
   if ((aad ((r1.2.1.works.set y1.worker.toNat (aad r1.2.1.works y1.worker)).set y1.worker.toNat r16.2.1) y1.worker).last.kind) ≠ 3 then
   some ((false, ()), (({ r1.2.1 with tasks := r1.2.1.tasks.set y1.task.toNat (aab r1.2.1.tasks y1.task), works := ((r1.2.1.works.set y1.worker.toNat (aad r1.2.1.works y1.worker)).set y1.worker.toNat r16.2.1).set y1.worker.toNat (aad ((r1.2.1.works.set y1.worker.toNat (aad r1.2.1.works y1.worker)).set y1.worker.toNat r16.2.1) y1.worker) } : SyP), ()))
   else
   if ((aad ((r1.2.1.works.set y1.worker.toNat (aad r1.2.1.works y1.worker)).set y1.worker.toNat r16.2.1) y1.worker).last.task) ≠ y1.task then
   some ((false, ()), (({ r1.2.1 with tasks := r1.2.1.tasks.set y1.task.toNat (aab r1.2.1.tasks y1.task), works := ((r1.2.1.works.set y1.worker.toNat (aad r1.2.1.works y1.worker)).set y1.worker.toNat r16.2.1).set y1.worker.toNat (aad ((r1.2.1.works.set y1.worker.toNat (aad r1.2.1.works y1.worker)).set y1.worker.toNat r16.2.1) y1.worker) } : SyP), ()))
   else
   if 0 ≤ y1.task ∧ y1.task < (((r1.2.1.tasks.set y1.task.toNat (aab r1.2.1.tasks y1.task)).length : Nat) : Int) then
   if 0 ≤ y1.task ∧ y1.task < ((((r1.2.1.tasks.set y1.task.toNat (aab r1.2.1.tasks y1.task)).set y1.task.toNat ({ aab (r1.2.1.tasks.set y1.task.toNat (aab r1.2.1.tasks y1.task)) y1.task with ph := 2 } : TkP)).length : Nat) : Int) then
   if (((((aad ((r1.2.1.works.set y1.worker.toNat (aad r1.2.1.works y1.worker)).set y1.worker.toNat r16.2.1) y1.worker).stack).length + ([y1.task] : List Int).length : Nat)) : Int) < 1000000000000 then
   some ((true, ()), (({ r1.2.1 with tasks := ((r1.2.1.tasks.set y1.task.toNat (aab r1.2.1.tasks y1.task)).set y1.task.toNat ({ aab (r1.2.1.tasks.set y1.task.toNat (aab r1.2.1.tasks y1.task)) y1.task with ph := 2 } : TkP)).set y1.task.toNat ({ aab ((r1.2.1.tasks.set y1.task.toNat (aab r1.2.1.tasks y1.task)).set y1.task.toNat ({ aab (r1.2.1.tasks.set y1.task.toNat (aab r1.2.1.tasks y1.task)) y1.task with ph := 2 } : TkP)) y1.task with wt := (-1) } : TkP), works := ((r1.2.1.works.set y1.worker.toNat (aad r1.2.1.works y1.worker)).set y1.worker.toNat r16.2.1).set y1.worker.toNat ({ aad ((r1.2.1.works.set y1.worker.toNat (aad r1.2.1.works y1.worker)).set y1.worker.toNat r16.2.1) y1.worker with stack := ((aad ((r1.2.1.works.set y1.worker.toNat (aad r1.2.1.works y1.worker)).set y1.worker.toNat r16.2.1) y1.worker).stack) ++ ([y1.task]), last := y1 } : WkP) } : SyP), ()))
   else none
   else none
   else none
   else
   if 0 ≤ y1.task ∧ y1.task < (((r1.2.1.tasks.set y1.task.toNat (aab r1.2.1.tasks y1.task)).length : Nat) : Int) then
   if 0 ≤ y1.task ∧ y1.task < ((((r1.2.1.tasks.set y1.task.toNat (aab r1.2.1.tasks y1.task)).set y1.task.toNat ({ aab (r1.2.1.tasks.set y1.task.toNat (aab r1.2.1.tasks y1.task)) y1.task with ph := 2 } : TkP)).length : Nat) : Int) then
   if (((((aad ((r1.2.1.works.set y1.worker.toNat (aad r1.2.1.works y1.worker)).set y1.worker.toNat r16.2.1) y1.worker).stack).length + ([y1.task] : List Int).length : Nat)) : Int) < 1000000000000 then
   some ((true, ()), (({ r1.2.1 with tasks := ((r1.2.1.tasks.set y1.task.toNat (aab r1.2.1.tasks y1.task)).set y1.task.toNat ({ aab (r1.2.1.tasks.set y1.task.toNat (aab r1.2.1.tasks y1.task)) y1.task with ph := 2 } : TkP)).set y1.task.toNat ({ aab ((r1.2.1.tasks.set y1.task.toNat (aab r1.2.1.tasks y1.task)).set y1.task.toNat ({ aab (r1.2.1.tasks.set y1.task.toNat (aab r1.2.1.tasks y1.task)) y1.task with ph := 2 } : TkP)) y1.task with wt := (-1) } : TkP), works := ((r1.2.1.works.set y1.worker.toNat (aad r1.2.1.works y1.worker)).set y1.worker.toNat r16.2.1).set y1.worker.toNat ({ aad ((r1.2.1.works.set y1.worker.toNat (aad r1.2.1.works y1.worker)).set y1.worker.toNat r16.2.1) y1.worker with stack := ((aad ((r1.2.1.works.set y1.worker.toNat (aad r1.2.1.works y1.worker)).set y1.worker.toNat r16.2.1) y1.worker).stack) ++ ([y1.task]), last := y1 } : WkP) } : SyP), ()))
   else none
   else none
   else none
   else none
   else
   if y1.kind = 4 then
   if 0 ≤ y1.task ∧ y1.task < ((r1.2.1.tasks.length : Nat) : Int) then
   (aaO (aad (r1.2.1.works.set y1.worker.toNat (aad r1.2.1.works y1.worker)) y1.worker)).bind fun r17 =>
   if r17.1.1 ≠ y1.task then
   some ((false, ()), (({ r1.2.1 with works := (r1.2.1.works.set y1.worker.toNat (aad r1.2.1.works y1.worker)).set y1.worker.toNat r17.2.1 } : SyP), ()))
   else
   if ¬ ((wi (r1.2.1.c.tasks - r1.2.1.c.workers)) ≤ r1.2.1.known) then
   some ((false, ()), (({ r1.2.1 with works := (r1.2.1.works.set y1.worker.toNat (aad r1.2.1.works y1.worker)).set y1.worker.toNat r17.2.1 } : SyP), ()))
   else
   (aaz (aab r1.2.1.tasks y1.task)).bind fun r18 =>
   if (!r18.1.2.1) = true then
   some ((false, ()), (({ r1.2.1 with tasks := r1.2.1.tasks.set y1.task.toNat r18.2.1, works := (r1.2.1.works.set y1.worker.toNat (aad r1.2.1.works y1.worker)).set y1.worker.toNat r17.2.1 } : SyP), ()))
   else
   if r18.1.1.op ≠ 1 then
   some ((false, ()), (({ r1.2.1 with tasks := r1.2.1.tasks.set y1.task.toNat r18.2.1, works := (r1.2.1.works.set y1.worker.toNat (aad r1.2.1.works y1.worker)).set y1.worker.toNat r17.2.1 } : SyP), ()))
   else
   if (((((aab (r1.2.1.tasks.set y1.task.toNat r18.2.1) y1.task).kids).length + ([(-1)] : List Int).length : Nat)) : Int) < 1000000000000 then
   some ((true, ()), (({ r1.2.1 with tasks := (r1.2.1.tasks.set y1.task.toNat r18.2.1).set y1.task.toNat ({ aab (r1.2.1.tasks.set y1.task.toNat r18.2.1) y1.task with at_ := wi (((aab (r1.2.1.tasks.set y1.task.toNat r18.2.1) y1.task).at_) + 1), kids := ((aab (r1.2.1.tasks.set y1.task.toNat r18.2.1) y1.task).kids) ++ ([(-1)]) } : TkP), works := ((r1.2.1.works.set y1.worker.toNat (aad r1.2.1.works y1.worker)).set y1.worker.toNat r17.2.1).set y1.worker.toNat ({ aad ((r1.2.1.works.set y1.worker.toNat (aad r1.2.1.works y1.worker)).set y1.worker.toNat r17.2.1) y1.worker with last := y1 } : WkP) } : SyP), ()))
   else none
   else none
   else
   if y1.kind = 3 then
   (aaO (aad (r1.2.1.works.set y1.worker.toNat (aad r1.2.1.works y1.worker)) y1.worker)).bind fun r19 =>
   if r19.1.1 ≠ y1.other then
   some ((false, ()), (({ r1.2.1 with works := (r1.2.1.works.set y1.worker.toNat (aad r1.2.1.works y1.worker)).set y1.worker.toNat r19.2.1 } : SyP), ()))
   else
   if 0 ≤ y1.task ∧ y1.task < ((r1.2.1.tasks.length : Nat) : Int) then
   if ((aab r1.2.1.tasks y1.task).ph) ≠ 0 then
   some ((false, ()), (({ r1.2.1 with tasks := r1.2.1.tasks.set y1.task.toNat (aab r1.2.1.tasks y1.task), works := (r1.2.1.works.set y1.worker.toNat (aad r1.2.1.works y1.worker)).set y1.worker.toNat r19.2.1 } : SyP), ()))
   else
   if 0 ≤ y1.other ∧ y1.other < (((r1.2.1.tasks.set y1.task.toNat (aab r1.2.1.tasks y1.task)).length : Nat) : Int) then
   (aaz (aab (r1.2.1.tasks.set y1.task.toNat (aab r1.2.1.tasks y1.task)) y1.other)).bind fun r20 =>
   if (!r20.1.2.1) = true then
   some ((false, ()), (({ r1.2.1 with tasks := (r1.2.1.tasks.set y1.task.toNat (aab r1.2.1.tasks y1.task)).set y1.other.toNat r20.2.1, works := (r1.2.1.works.set y1.worker.toNat (aad r1.2.1.works y1.worker)).set y1.worker.toNat r19.2.1 } : SyP), ()))
   else
   if r20.1.1.op ≠ 1 then
   some ((false, ()), (({ r1.2.1 with tasks := (r1.2.1.tasks.set y1.task.toNat (aab r1.2.1.tasks y1.task)).set y1.other.toNat r20.2.1, works := (r1.2.1.works.set y1.worker.toNat (aad r1.2.1.works y1.worker)).set y1.worker.toNat r19.2.1 } : SyP), ()))
   else
   if r20.1.1.b ≠ y1.level then
   some ((false, ()), (({ r1.2.1 with tasks := (r1.2.1.tasks.set y1.task.toNat (aab r1.2.1.tasks y1.task)).set y1.other.toNat r20.2.1, works := (r1.2.1.works.set y1.worker.toNat (aad r1.2.1.works y1.worker)).set y1.worker.toNat r19.2.1 } : SyP), ()))
   else
   if (((((aab ((r1.2.1.tasks.set y1.task.toNat (aab r1.2.1.tasks y1.task)).set y1.other.toNat r20.2.1) y1.other).kids).length + ([y1.task] : List Int).length : Nat)) : Int) < 1000000000000 then
   if 0 ≤ r20.1.1.a ∧ r20.1.1.a < ((r1.2.1.c.progs.length : Nat) : Int) then
   if 0 ≤ y1.task ∧ y1.task < (((((r1.2.1.tasks.set y1.task.toNat (aab r1.2.1.tasks y1.task)).set y1.other.toNat r20.2.1).set y1.other.toNat ({ aab ((r1.2.1.tasks.set y1.task.toNat (aab r1.2.1.tasks y1.task)).set y1.other.toNat r20.2.1) y1.other with at_ := wi (((aab ((r1.2.1.tasks.set y1.task.toNat (aab r1.2.1.tasks y1.task)).set y1.other.toNat r20.2.1) y1.other).at_) + 1), kids := ((aab ((r1.2.1.tasks.set y1.task.toNat (aab r1.2.1.tasks y1.task)).set y1.other.toNat r20.2.1) y1.other).kids) ++ ([y1.task]) } : TkP)).length : Nat) : Int) then
   some ((true, ()), (({ r1.2.1 with tasks := (((r1.2.1.tasks.set y1.task.toNat (aab r1.2.1.tasks y1.task)).set y1.other.toNat r20.2.1).set y1.other.toNat ({ aab ((r1.2.1.tasks.set y1.task.toNat (aab r1.2.1.tasks y1.task)).set y1.other.toNat r20.2.1) y1.other with at_ := wi (((aab ((r1.2.1.tasks.set y1.task.toNat (aab r1.2.1.tasks y1.task)).set y1.other.toNat r20.2.1) y1.other).at_) + 1), kids := ((aab ((r1.2.1.tasks.set y1.task.toNat (aab r1.2.1.tasks y1.task)).set y1.other.toNat r20.2.1) y1.other).kids) ++ ([y1.task]) } : TkP)).set y1.task.toNat (⟨1, y1.level, y1.other, atL [] r1.2.1.c.progs r20.1.1.a, 0, [], (-1)⟩ : TkP), works := ((r1.2.1.works.set y1.worker.toNat (aad r1.2.1.works y1.worker)).set y1.worker.toNat r19.2.1).set y1.worker.toNat ({ aad ((r1.2.1.works.set y1.worker.toNat (aad r1.2.1.works y1.worker)).set y1.worker.toNat r19.2.1) y1.worker with last := y1 } : WkP), known := wi (r1.2.1.known + 1) } : SyP), ()))
   else none
   else none
   else none
   else none
   else none
   else
   if y1.kind = 2 then
   if y1.other ≠ r1.2.1.offers then
   some ((false, ()), (({ r1.2.1 with works := r1.2.1.works.set y1.worker.toNat (aad r1.2.1.works y1.worker) } : SyP), ()))
   else
   if ((r1.2.1.c.subs.length : Nat) : Int) ≤ y1.other then
   some ((false, ()), (({ r1.2.1 with works := r1.2.1.works.set y1.worker.toNat (aad r1.2.1.works y1.worker) } : SyP), ()))
   else
   if y1.level = 1 then
   (aaw r1.2.1.queue r1.2.1.c y1).bind fun r21 =>
   if (!r21.1.1) = true then
   some ((false, ()), (({ r1.2.1 with works := r1.2.1.works.set y1.worker.toNat (aad r1.2.1.works y1.worker), queue := r21.2.1 } : SyP), ()))
   else
   some ((true, ()), (({ r1.2.1 with works := (r1.2.1.works.set y1.worker.toNat (aad r1.2.1.works y1.worker)).set y1.worker.toNat ({ aad (r1.2.1.works.set y1.worker.toNat (aad r1.2.1.works y1.worker)) y1.worker with last := y1 } : WkP), offers := wi (r1.2.1.offers + 1), queue := r21.2.1 } : SyP), ()))
   else
   if y1.level = 2 then
   if r1.2.1.c.heap ≤ ((r1.2.1.queue.keys.length : Nat) : Int) then
   some ((false, ()), (({ r1.2.1 with works := r1.2.1.works.set y1.worker.toNat (aad r1.2.1.works y1.worker) } : SyP), ()))
   else
   if ¬ ((wi (r1.2.1.c.tasks - r1.2.1.c.workers)) ≤ r1.2.1.known) then
   some ((false, ()), (({ r1.2.1 with works := r1.2.1.works.set y1.worker.toNat (aad r1.2.1.works y1.worker) } : SyP), ()))
   else
   some ((true, ()), (({ r1.2.1 with works := r1.2.1.works.set y1.worker.toNat ({ aad r1.2.1.works y1.worker with last := y1 } : WkP), offers := wi (r1.2.1.offers + 1) } : SyP), ()))
   else
   some ((false, ()), (({ r1.2.1 with works := r1.2.1.works.set y1.worker.toNat (aad r1.2.1.works y1.worker) } : SyP), ()))
   else
   if y1.kind = 1 then
   if y1.other ≠ r1.2.1.offers then
   some ((false, ()), (({ r1.2.1 with works := r1.2.1.works.set y1.worker.toNat (aad r1.2.1.works y1.worker) } : SyP), ()))
   else
   if ((r1.2.1.c.subs.length : Nat) : Int) ≤ y1.other then
   some ((false, ()), (({ r1.2.1 with works := r1.2.1.works.set y1.worker.toNat (aad r1.2.1.works y1.worker) } : SyP), ()))
   else
   if 0 ≤ y1.other ∧ y1.other < ((r1.2.1.c.subs.length : Nat) : Int) then
   if y1.level ≠ ((acz r1.2.1.c.subs y1.other).level) then
   some ((false, ()), (({ r1.2.1 with works := r1.2.1.works.set y1.worker.toNat (aad r1.2.1.works y1.worker) } : SyP), ()))
   else
   if 0 ≤ y1.task ∧ y1.task < ((r1.2.1.tasks.length : Nat) : Int) then
   if ((aab r1.2.1.tasks y1.task).ph) ≠ 0 then
   some ((false, ()), (({ r1.2.1 with tasks := r1.2.1.tasks.set y1.task.toNat (aab r1.2.1.tasks y1.task), works := r1.2.1.works.set y1.worker.toNat (aad r1.2.1.works y1.worker) } : SyP), ()))
   else
   (aaw r1.2.1.queue r1.2.1.c y1).bind fun r22 =>
   if (!r22.1.1) = true then
   some ((false, ()), (({ r1.2.1 with tasks := r1.2.1.tasks.set y1.task.toNat (aab r1.2.1.tasks y1.task), works := r1.2.1.works.set y1.worker.toNat (aad r1.2.1.works y1.worker), queue := r22.2.1 } : SyP), ()))
   else
   if 0 ≤ y1.other ∧ y1.other < ((r1.2.1.c.subs.length : Nat) : Int) then
   if 0 ≤ (acz r1.2.1.c.subs y1.other).prog ∧ (acz r1.2.1.c.subs y1.other).prog < ((r1.2.1.c.progs.length : Nat) : Int) then
   if 0 ≤ y1.task ∧ y1.task < (((r1.2.1.tasks.set y1.task.toNat (aab r1.2.1.tasks y1.task)).length : Nat) : Int) then
   some ((true, ()), ((⟨r1.2.1.c, (r1.2.1.tasks.set y1.task.toNat (aab r1.2.1.tasks y1.task)).set y1.task.toNat (⟨1, y1.level, (-1), atL [] r1.2.1.c.progs ((acz r1.2.1.c.subs y1.other).prog), 0, [], (-1)⟩ : TkP), (r1.2.1.works.set y1.worker.toNat (aad r1.2.1.works y1.worker)).set y1.worker.toNat ({ aad (r1.2.1.works.set y1.worker.toNat (aad r1.2.1.works y1.worker)) y1.worker with last := y1 } : WkP), wi (r1.2.1.offers + 1), wi (r1.2.1.known + 1), r22.2.1⟩ : SyP), ()))
   else none
   else none
   else none
   else none
   else none
   else
   if 0 ≤ y1.task ∧ y1.task < ((r1.2.1.tasks.length : Nat) : Int) then
   if y1.kind = 13 then
   (aaG (aad (r1.2.1.works.set y1.worker.toNat (aad r1.2.1.works y1.worker)) y1.worker)).bind fun r23 =>
   if r23.1.1 = true then
   (aaw r1.2.1.queue r1.2.1.c y1).bind fun r24 =>
   if (!r24.1.1) = true then
   some ((false, ()), (({ r1.2.1 with tasks := r1.2.1.tasks.set y1.task.toNat (aab r1.2.1.tasks y1.task), works := (r1.2.1.works.set y1.worker.toNat (aad r1.2.1.works y1.worker)).set y1.worker.toNat r23.2.1, queue := r24.2.1 } : SyP), ()))
   else
   some ((true, ()), (({ r1.2.1 with tasks := r1.2.1.tasks.set y1.task.toNat (aab r1.2.1.tasks y1.task), works := ((r1.2.1.works.set y1.worker.toNat (aad r1.2.1.works y1.worker)).set y1.worker.toNat r23.2.1).set y1.worker.toNat ({ aad ((r1.2.1.works.set y1.worker.toNat (aad r1.2.1.works y1.worker)).set y1.worker.toNat r23.2.1) y1.worker with last := y1 } : WkP), queue := r24.2.1 } : SyP), ()))
   else
   some ((false, ()), (({ r1.2.1 with tasks := r1.2.1.tasks.set y1.task.toNat (aab r1.2.1.tasks y1.task), works := (r1.2.1.works.set y1.worker.toNat (aad r1.2.1.works y1.worker)).set y1.worker.toNat r23.2.1 } : SyP), ()))
   else
   if y1.kind = 14 then
   (aaG (aad (r1.2.1.works.set y1.worker.toNat (aad r1.2.1.works y1.worker)) y1.worker)).bind fun r25 =>
   if r25.1.1 = true then
   if y1.other ≠ y1.worker then
   if ¬ (((aab r1.2.1.tasks y1.task).ph) ≠ 0) then
   some ((false, ()), (({ r1.2.1 with tasks := r1.2.1.tasks.set y1.task.toNat (aab r1.2.1.tasks y1.task), works := (r1.2.1.works.set y1.worker.toNat (aad r1.2.1.works y1.worker)).set y1.worker.toNat r25.2.1 } : SyP), ()))
   else
   some ((true, ()), (({ r1.2.1 with tasks := r1.2.1.tasks.set y1.task.toNat (aab r1.2.1.tasks y1.task), works := ((r1.2.1.works.set y1.worker.toNat (aad r1.2.1.works y1.worker)).set y1.worker.toNat r25.2.1).set y1.worker.toNat ({ aad ((r1.2.1.works.set y1.worker.toNat (aad r1.2.1.works y1.worker)).set y1.worker.toNat r25.2.1) y1.worker with last := y1 } : WkP) } : SyP), ()))
   else
   some ((false, ()), (({ r1.2.1 with tasks := r1.2.1.tasks.set y1.task.toNat (aab r1.2.1.tasks y1.task), works := (r1.2.1.works.set y1.worker.toNat (aad r1.2.1.works y1.worker)).set y1.worker.toNat r25.2.1 } : SyP), ()))
   else
   some ((false, ()), (({ r1.2.1 with tasks := r1.2.1.tasks.set y1.task.toNat (aab r1.2.1.tasks y1.task), works := (r1.2.1.works.set y1.worker.toNat (aad r1.2.1.works y1.worker)).set y1.worker.toNat r25.2.1 } : SyP), ()))
   else
   if y1.kind = 15 then
   if ((aab r1.2.1.tasks y1.task).ph) ≠ 0 then
   if 0 ≤ y1.task ∧ y1.task < (((r1.2.1.tasks.set y1.task.toNat (aab r1.2.1.tasks y1.task)).length : Nat) : Int) then
   if ¬ (((aab (r1.2.1.tasks.set y1.task.toNat (aab r1.2.1.tasks y1.task)) y1.task).ph) ≠ 1) then
   some ((false, ()), (({ r1.2.1 with tasks := (r1.2.1.tasks.set y1.task.toNat (aab r1.2.1.tasks y1.task)).set y1.task.toNat (aab (r1.2.1.tasks.set y1.task.toNat (aab r1.2.1.tasks y1.task)) y1.task), works := r1.2.1.works.set y1.worker.toNat (aad r1.2.1.works y1.worker) } : SyP), ()))
   else
   some ((true, ()), (({ r1.2.1 with tasks := (r1.2.1.tasks.set y1.task.toNat (aab r1.2.1.tasks y1.task)).set y1.task.toNat (aab (r1.2.1.tasks.set y1.task.toNat (aab r1.2.1.tasks y1.task)) y1.task), works := r1.2.1.works.set y1.worker.toNat ({ aad r1.2.1.works y1.worker with last := y1 } : WkP) } : SyP), ()))
   else none
   else
   some ((false, ()), (({ r1.2.1 with tasks := r1.2.1.tasks.set y1.task.toNat (aab r1.2.1.tasks y1.task), works := r1.2.1.works.set y1.worker.toNat (aad r1.2.1.works y1.worker) } : SyP), ()))
   else
   if y1.kind = 16 then
   (aaG (aad (r1.2.1.works.set y1.worker.toNat (aad r1.2.1.works y1.worker)) y1.worker)).bind fun r26 =>
   if (!((aad (((r1.2.1.works.set y1.worker.toNat (aad r1.2.1.works y1.worker)).set y1.worker.toNat r26.2.1).set y1.worker.toNat ({ aad ((r1.2.1.works.set y1.worker.toNat (aad r1.2.1.works y1.worker)).set y1.worker.toNat r26.2.1) y1.worker with sleeps := r26.1.1 } : WkP)) y1.worker).sleeps)) = true then
   some ((false, ()), (({ r1.2.1 with tasks := r1.2.1.tasks.set y1.task.toNat (aab r1.2.1.tasks y1.task), works := ((r1.2.1.works.set y1.worker.toNat (aad r1.2.1.works y1.worker)).set y1.worker.toNat r26.2.1).set y1.worker.toNat ({ aad ((r1.2.1.works.set y1.worker.toNat (aad r1.2.1.works y1.worker)).set y1.worker.toNat r26.2.1) y1.worker with sleeps := r26.1.1 } : WkP) } : SyP), ()))
   else
   some ((true, ()), (({ r1.2.1 with tasks := r1.2.1.tasks.set y1.task.toNat (aab r1.2.1.tasks y1.task), works := (((r1.2.1.works.set y1.worker.toNat (aad r1.2.1.works y1.worker)).set y1.worker.toNat r26.2.1).set y1.worker.toNat ({ aad ((r1.2.1.works.set y1.worker.toNat (aad r1.2.1.works y1.worker)).set y1.worker.toNat r26.2.1) y1.worker with sleeps := r26.1.1 } : WkP)).set y1.worker.toNat ({ aad (((r1.2.1.works.set y1.worker.toNat (aad r1.2.1.works y1.worker)).set y1.worker.toNat r26.2.1).set y1.worker.toNat ({ aad ((r1.2.1.works.set y1.worker.toNat (aad r1.2.1.works y1.worker)).set y1.worker.toNat r26.2.1) y1.worker with sleeps := r26.1.1 } : WkP)) y1.worker with last := y1 } : WkP) } : SyP), ()))
   else
   if y1.kind = 17 then
   if y1.other ≠ 1 then
   if ¬ (¬ (y1.other ≠ 2)) then
   some ((false, ()), (({ r1.2.1 with tasks := r1.2.1.tasks.set y1.task.toNat (aab r1.2.1.tasks y1.task), works := r1.2.1.works.set y1.worker.toNat ({ aad r1.2.1.works y1.worker with sleeps := decide (y1.other ≠ 2) } : WkP) } : SyP), ()))
   else
   some ((true, ()), (({ r1.2.1 with tasks := r1.2.1.tasks.set y1.task.toNat (aab r1.2.1.tasks y1.task), works := r1.2.1.works.set y1.worker.toNat ({ aad r1.2.1.works y1.worker with sleeps := decide (y1.other ≠ 2), last := y1 } : WkP) } : SyP), ()))
   else
   some ((true, ()), (({ r1.2.1 with tasks := r1.2.1.tasks.set y1.task.toNat (aab r1.2.1.tasks y1.task), works := r1.2.1.works.set y1.worker.toNat ({ aad r1.2.1.works y1.worker with sleeps := false, last := y1 } : WkP) } : SyP), ()))
   else
   if y1.kind = 19 then
   if ¬ (((aab r1.2.1.tasks y1.task).ph) ≠ 0) then
   some ((false, ()), (({ r1.2.1 with tasks := r1.2.1.tasks.set y1.task.toNat (aab r1.2.1.tasks y1.task), works := r1.2.1.works.set y1.worker.toNat (aad r1.2.1.works y1.worker) } : SyP), ()))
   else
   some ((true, ()), (({ r1.2.1 with tasks := r1.2.1.tasks.set y1.task.toNat (aab r1.2.1.tasks y1.task), works := r1.2.1.works.set y1.worker.toNat ({ aad r1.2.1.works y1.worker with last := y1 } : WkP) } : SyP), ()))
   else
   some ((true, ()), (({ r1.2.1 with tasks := r1.2.1.tasks.set y1.task.toNat (aab r1.2.1.tasks y1.task), works := r1.2.1.works.set y1.worker.toNat ({ aad r1.2.1.works y1.worker with last := y1 } : WkP) } : SyP), ()))
   else none
 else none
noncomputable abbrev ad4 : Con SR1 := ⟨19, [.ref 72, .val 2], [.sh .b], fun x => aah x.1 x.2.1⟩
theorem afX (y0 : SyP) (y1 : Ev) : acP y0 y1 = aah y0 y1 := by
  unfold acP aah
  simp only [if_true, aeK, acS]
  try rfl
theorem afW : CO Try.prog ad4 := ako ae8 fun x out hx => (show adl.spec x = some out from (afX x.1 x.2.1).trans hx)
noncomputable def abM (y0 : SyP) : Option ((List VwV × Unit) × (SyP × Unit)) :=
 (lpF (σ := List VwV × Int × List TkP × (Int × Int × Int × Int × Int × Int × Int × Int × Int × List (List Ins) × List Sub × List WkP × Int × Int × List KyV × Int × Unit) × Unit) (β := List VwV × Int × List TkP × (Int × Int × Int × Int × Int × Int × Int × Int × Int × List (List Ins) × List Sub × List WkP × Int × Int × List KyV × Int × Unit) × Unit) (fun self3 x1 =>
  if x1.2.1 < ((y0.tasks.length : Nat) : Int) then
   if 0 ≤ x1.2.1 ∧ x1.2.1 < ((x1.2.2.1.length : Nat) : Int) then
   if ((aab x1.2.2.1 x1.2.1).ph) = 3 then
   if ((aab x1.2.2.1 x1.2.1).ph) = 2 then
   (lpF (σ := Int × List WkP × Unit) (β := (Int × List WkP × Unit) ⊕ (List VwV × Int × List TkP × (Int × Int × Int × Int × Int × Int × Int × Int × Int × List (List Ins) × List Sub × List WkP × Int × Int × List KyV × Int × Unit) × Unit)) (fun self6 x4 =>
   if x4.1 < ((x1.2.2.2.1.2.2.2.2.2.2.2.2.2.2.2.1.length : Nat) : Int) then
   if 0 ≤ x4.1 ∧ x4.1 < ((x4.2.1.length : Nat) : Int) then
   (lpF (σ := Int × Unit × Unit) (β := (Int × Unit × Unit) ⊕ ((Int × List WkP × Unit) ⊕ (List VwV × Int × List TkP × (Int × Int × Int × Int × Int × Int × Int × Int × Int × List (List Ins) × List Sub × List WkP × Int × Int × List KyV × Int × Unit) × Unit))) (fun self9 x7 =>
   if x7.1 < ((((aad x4.2.1 x4.1).stack).length : Nat) : Int) then
   if 0 ≤ x7.1 ∧ x7.1 < ((((aad x4.2.1 x4.1).stack).length : Nat) : Int) then
   if x1.2.1 = (aaQ ((aad x4.2.1 x4.1).stack) x7.1) then
   Option.map Sum.inr (
   if 0 ≤ x7.1 then
   Option.map Sum.inr (
   if (((x1.1.length + ([(⟨(aab x1.2.2.1 x1.2.1).ph, (aab x1.2.2.1 x1.2.1).lv, (aab x1.2.2.1 x1.2.1).pa, x4.1, (aab x1.2.2.1 x1.2.1).wt⟩ : VwV)] : List VwV).length : Nat)) : Int) < 1000000000000 then
   self3 (x1.1 ++ ([(⟨(aab x1.2.2.1 x1.2.1).ph, (aab x1.2.2.1 x1.2.1).lv, (aab x1.2.2.1 x1.2.1).pa, x4.1, (aab x1.2.2.1 x1.2.1).wt⟩ : VwV)]), wi (x1.2.1 + 1), x1.2.2.1.set x1.2.1.toNat (aab x1.2.2.1 x1.2.1), (x1.2.2.2.1.1, x1.2.2.2.1.2.1, x1.2.2.2.1.2.2.1, x1.2.2.2.1.2.2.2.1, x1.2.2.2.1.2.2.2.2.1, x1.2.2.2.1.2.2.2.2.2.1, x1.2.2.2.1.2.2.2.2.2.2.1, x1.2.2.2.1.2.2.2.2.2.2.2.1, x1.2.2.2.1.2.2.2.2.2.2.2.2.1, x1.2.2.2.1.2.2.2.2.2.2.2.2.2.1, x1.2.2.2.1.2.2.2.2.2.2.2.2.2.2.1, x4.2.1.set x4.1.toNat (aad x4.2.1 x4.1), x1.2.2.2.1.2.2.2.2.2.2.2.2.2.2.2.2.1, x1.2.2.2.1.2.2.2.2.2.2.2.2.2.2.2.2.2.1, x1.2.2.2.1.2.2.2.2.2.2.2.2.2.2.2.2.2.2.1, x1.2.2.2.1.2.2.2.2.2.2.2.2.2.2.2.2.2.2.2.1, ()), ())
   else none
   )
   else
   self6 (wi (x4.1 + 1), x4.2.1.set x4.1.toNat (aad x4.2.1 x4.1), ())
   )
   else
   self9 (wi (x7.1 + 1), (), ())
   else none
   else
   some (Sum.inl (x7.1, (), ()))
   ) 18446744073709551616 (0, (), ())).bind fun z8 => match z8 with
   | .inr o10 => some o10
   | .inl z8 =>
   self6 (wi (x4.1 + 1), x4.2.1.set x4.1.toNat (aad x4.2.1 x4.1), ())
   else none
   else
   some (Sum.inl (x4.1, x4.2.1, ()))
   ) 18446744073709551616 (0, x1.2.2.2.1.2.2.2.2.2.2.2.2.2.2.2.1, ())).bind fun z5 => match z5 with
   | .inr o11 => some o11
   | .inl z5 =>
   if (((x1.1.length + ([(⟨(aab x1.2.2.1 x1.2.1).ph, (aab x1.2.2.1 x1.2.1).lv, (aab x1.2.2.1 x1.2.1).pa, (-1), (aab x1.2.2.1 x1.2.1).wt⟩ : VwV)] : List VwV).length : Nat)) : Int) < 1000000000000 then
   self3 (x1.1 ++ ([(⟨(aab x1.2.2.1 x1.2.1).ph, (aab x1.2.2.1 x1.2.1).lv, (aab x1.2.2.1 x1.2.1).pa, (-1), (aab x1.2.2.1 x1.2.1).wt⟩ : VwV)]), wi (x1.2.1 + 1), x1.2.2.1.set x1.2.1.toNat (aab x1.2.2.1 x1.2.1), (x1.2.2.2.1.1, x1.2.2.2.1.2.1, x1.2.2.2.1.2.2.1, x1.2.2.2.1.2.2.2.1, x1.2.2.2.1.2.2.2.2.1, x1.2.2.2.1.2.2.2.2.2.1, x1.2.2.2.1.2.2.2.2.2.2.1, x1.2.2.2.1.2.2.2.2.2.2.2.1, x1.2.2.2.1.2.2.2.2.2.2.2.2.1, x1.2.2.2.1.2.2.2.2.2.2.2.2.2.1, x1.2.2.2.1.2.2.2.2.2.2.2.2.2.2.1, z5.2.1, x1.2.2.2.1.2.2.2.2.2.2.2.2.2.2.2.2.1, x1.2.2.2.1.2.2.2.2.2.2.2.2.2.2.2.2.2.1, x1.2.2.2.1.2.2.2.2.2.2.2.2.2.2.2.2.2.2.1, x1.2.2.2.1.2.2.2.2.2.2.2.2.2.2.2.2.2.2.2.1, ()), ())
   else none
   else
   if (((x1.1.length + ([(⟨(aab x1.2.2.1 x1.2.1).ph, (aab x1.2.2.1 x1.2.1).lv, (aab x1.2.2.1 x1.2.1).pa, (-1), (aab x1.2.2.1 x1.2.1).wt⟩ : VwV)] : List VwV).length : Nat)) : Int) < 1000000000000 then
   self3 (x1.1 ++ ([(⟨(aab x1.2.2.1 x1.2.1).ph, (aab x1.2.2.1 x1.2.1).lv, (aab x1.2.2.1 x1.2.1).pa, (-1), (aab x1.2.2.1 x1.2.1).wt⟩ : VwV)]), wi (x1.2.1 + 1), x1.2.2.1.set x1.2.1.toNat (aab x1.2.2.1 x1.2.1), (x1.2.2.2.1.1, x1.2.2.2.1.2.1, x1.2.2.2.1.2.2.1, x1.2.2.2.1.2.2.2.1, x1.2.2.2.1.2.2.2.2.1, x1.2.2.2.1.2.2.2.2.2.1, x1.2.2.2.1.2.2.2.2.2.2.1, x1.2.2.2.1.2.2.2.2.2.2.2.1, x1.2.2.2.1.2.2.2.2.2.2.2.2.1, x1.2.2.2.1.2.2.2.2.2.2.2.2.2.1, x1.2.2.2.1.2.2.2.2.2.2.2.2.2.2.1, x1.2.2.2.1.2.2.2.2.2.2.2.2.2.2.2.1, x1.2.2.2.1.2.2.2.2.2.2.2.2.2.2.2.2.1, x1.2.2.2.1.2.2.2.2.2.2.2.2.2.2.2.2.2.1, x1.2.2.2.1.2.2.2.2.2.2.2.2.2.2.2.2.2.2.1, x1.2.2.2.1.2.2.2.2.2.2.2.2.2.2.2.2.2.2.2.1, ()), ())
   else none
   else
   if ((aab x1.2.2.1 x1.2.1).ph) = 2 then
   (lpF (σ := Int × List WkP × Unit) (β := (Int × List WkP × Unit) ⊕ (List VwV × Int × List TkP × (Int × Int × Int × Int × Int × Int × Int × Int × Int × List (List Ins) × List Sub × List WkP × Int × Int × List KyV × Int × Unit) × Unit)) (fun self14 x12 =>
   if x12.1 < ((x1.2.2.2.1.2.2.2.2.2.2.2.2.2.2.2.1.length : Nat) : Int) then
   if 0 ≤ x12.1 ∧ x12.1 < ((x12.2.1.length : Nat) : Int) then
   (lpF (σ := Int × Unit × Unit) (β := (Int × Unit × Unit) ⊕ ((Int × List WkP × Unit) ⊕ (List VwV × Int × List TkP × (Int × Int × Int × Int × Int × Int × Int × Int × Int × List (List Ins) × List Sub × List WkP × Int × Int × List KyV × Int × Unit) × Unit))) (fun self17 x15 =>
   if x15.1 < ((((aad x12.2.1 x12.1).stack).length : Nat) : Int) then
   if 0 ≤ x15.1 ∧ x15.1 < ((((aad x12.2.1 x12.1).stack).length : Nat) : Int) then
   if x1.2.1 = (aaQ ((aad x12.2.1 x12.1).stack) x15.1) then
   Option.map Sum.inr (
   if 0 ≤ x15.1 then
   Option.map Sum.inr (
   if (((x1.1.length + ([(⟨(aab x1.2.2.1 x1.2.1).ph, (aab x1.2.2.1 x1.2.1).lv, (aab x1.2.2.1 x1.2.1).pa, x12.1, (-1)⟩ : VwV)] : List VwV).length : Nat)) : Int) < 1000000000000 then
   self3 (x1.1 ++ ([(⟨(aab x1.2.2.1 x1.2.1).ph, (aab x1.2.2.1 x1.2.1).lv, (aab x1.2.2.1 x1.2.1).pa, x12.1, (-1)⟩ : VwV)]), wi (x1.2.1 + 1), x1.2.2.1.set x1.2.1.toNat (aab x1.2.2.1 x1.2.1), (x1.2.2.2.1.1, x1.2.2.2.1.2.1, x1.2.2.2.1.2.2.1, x1.2.2.2.1.2.2.2.1, x1.2.2.2.1.2.2.2.2.1, x1.2.2.2.1.2.2.2.2.2.1, x1.2.2.2.1.2.2.2.2.2.2.1, x1.2.2.2.1.2.2.2.2.2.2.2.1, x1.2.2.2.1.2.2.2.2.2.2.2.2.1, x1.2.2.2.1.2.2.2.2.2.2.2.2.2.1, x1.2.2.2.1.2.2.2.2.2.2.2.2.2.2.1, x12.2.1.set x12.1.toNat (aad x12.2.1 x12.1), x1.2.2.2.1.2.2.2.2.2.2.2.2.2.2.2.2.1, x1.2.2.2.1.2.2.2.2.2.2.2.2.2.2.2.2.2.1, x1.2.2.2.1.2.2.2.2.2.2.2.2.2.2.2.2.2.2.1, x1.2.2.2.1.2.2.2.2.2.2.2.2.2.2.2.2.2.2.2.1, ()), ())
   else none
   )
   else
   self14 (wi (x12.1 + 1), x12.2.1.set x12.1.toNat (aad x12.2.1 x12.1), ())
   )
   else
   self17 (wi (x15.1 + 1), (), ())
   else none
   else
   some (Sum.inl (x15.1, (), ()))
   ) 18446744073709551616 (0, (), ())).bind fun z16 => match z16 with
   | .inr o18 => some o18
   | .inl z16 =>
   self14 (wi (x12.1 + 1), x12.2.1.set x12.1.toNat (aad x12.2.1 x12.1), ())
   else none
   else
   some (Sum.inl (x12.1, x12.2.1, ()))
   ) 18446744073709551616 (0, x1.2.2.2.1.2.2.2.2.2.2.2.2.2.2.2.1, ())).bind fun z13 => match z13 with
   | .inr o19 => some o19
   | .inl z13 =>
   if (((x1.1.length + ([(⟨(aab x1.2.2.1 x1.2.1).ph, (aab x1.2.2.1 x1.2.1).lv, (aab x1.2.2.1 x1.2.1).pa, (-1), (-1)⟩ : VwV)] : List VwV).length : Nat)) : Int) < 1000000000000 then
   self3 (x1.1 ++ ([(⟨(aab x1.2.2.1 x1.2.1).ph, (aab x1.2.2.1 x1.2.1).lv, (aab x1.2.2.1 x1.2.1).pa, (-1), (-1)⟩ : VwV)]), wi (x1.2.1 + 1), x1.2.2.1.set x1.2.1.toNat (aab x1.2.2.1 x1.2.1), (x1.2.2.2.1.1, x1.2.2.2.1.2.1, x1.2.2.2.1.2.2.1, x1.2.2.2.1.2.2.2.1, x1.2.2.2.1.2.2.2.2.1, x1.2.2.2.1.2.2.2.2.2.1, x1.2.2.2.1.2.2.2.2.2.2.1, x1.2.2.2.1.2.2.2.2.2.2.2.1, x1.2.2.2.1.2.2.2.2.2.2.2.2.1, x1.2.2.2.1.2.2.2.2.2.2.2.2.2.1, x1.2.2.2.1.2.2.2.2.2.2.2.2.2.2.1, z13.2.1, x1.2.2.2.1.2.2.2.2.2.2.2.2.2.2.2.2.1, x1.2.2.2.1.2.2.2.2.2.2.2.2.2.2.2.2.2.1, x1.2.2.2.1.2.2.2.2.2.2.2.2.2.2.2.2.2.2.1, x1.2.2.2.1.2.2.2.2.2.2.2.2.2.2.2.2.2.2.2.1, ()), ())
   else none
   else
   if (((x1.1.length + ([(⟨(aab x1.2.2.1 x1.2.1).ph, (aab x1.2.2.1 x1.2.1).lv, (aab x1.2.2.1 x1.2.1).pa, (-1), (-1)⟩ : VwV)] : List VwV).length : Nat)) : Int) < 1000000000000 then
   self3 (x1.1 ++ ([(⟨(aab x1.2.2.1 x1.2.1).ph, (aab x1.2.2.1 x1.2.1).lv, (aab x1.2.2.1 x1.2.1).pa, (-1), (-1)⟩ : VwV)]), wi (x1.2.1 + 1), x1.2.2.1.set x1.2.1.toNat (aab x1.2.2.1 x1.2.1), (x1.2.2.2.1.1, x1.2.2.2.1.2.1, x1.2.2.2.1.2.2.1, x1.2.2.2.1.2.2.2.1, x1.2.2.2.1.2.2.2.2.1, x1.2.2.2.1.2.2.2.2.2.1, x1.2.2.2.1.2.2.2.2.2.2.1, x1.2.2.2.1.2.2.2.2.2.2.2.1, x1.2.2.2.1.2.2.2.2.2.2.2.2.1, x1.2.2.2.1.2.2.2.2.2.2.2.2.2.1, x1.2.2.2.1.2.2.2.2.2.2.2.2.2.2.1, x1.2.2.2.1.2.2.2.2.2.2.2.2.2.2.2.1, x1.2.2.2.1.2.2.2.2.2.2.2.2.2.2.2.2.1, x1.2.2.2.1.2.2.2.2.2.2.2.2.2.2.2.2.2.1, x1.2.2.2.1.2.2.2.2.2.2.2.2.2.2.2.2.2.2.1, x1.2.2.2.1.2.2.2.2.2.2.2.2.2.2.2.2.2.2.2.1, ()), ())
   else none
   else none
  else
  some (x1.1, x1.2.1, x1.2.2.1, (x1.2.2.2.1.1, x1.2.2.2.1.2.1, x1.2.2.2.1.2.2.1, x1.2.2.2.1.2.2.2.1, x1.2.2.2.1.2.2.2.2.1, x1.2.2.2.1.2.2.2.2.2.1, x1.2.2.2.1.2.2.2.2.2.2.1, x1.2.2.2.1.2.2.2.2.2.2.2.1, x1.2.2.2.1.2.2.2.2.2.2.2.2.1, x1.2.2.2.1.2.2.2.2.2.2.2.2.2.1, x1.2.2.2.1.2.2.2.2.2.2.2.2.2.2.1, x1.2.2.2.1.2.2.2.2.2.2.2.2.2.2.2.1, x1.2.2.2.1.2.2.2.2.2.2.2.2.2.2.2.2.1, x1.2.2.2.1.2.2.2.2.2.2.2.2.2.2.2.2.2.1, x1.2.2.2.1.2.2.2.2.2.2.2.2.2.2.2.2.2.2.1, x1.2.2.2.1.2.2.2.2.2.2.2.2.2.2.2.2.2.2.2.1, ()), ())
 ) 18446744073709551616 ([], 0, y0.tasks, (y0.c.workers, y0.c.levels, y0.c.classes, y0.c.tasks, y0.c.deque, y0.c.heap, y0.c.batch, y0.c.age, y0.c.patience, y0.c.progs, y0.c.subs, y0.works, y0.offers, y0.known, y0.queue.keys, y0.queue.count, ()), ())).bind fun z2 =>
 some ((z2.1, ()), ((⟨⟨z2.2.2.2.1.1, z2.2.2.2.1.2.1, z2.2.2.2.1.2.2.1, z2.2.2.2.1.2.2.2.1, z2.2.2.2.1.2.2.2.2.1, z2.2.2.2.1.2.2.2.2.2.1, z2.2.2.2.1.2.2.2.2.2.2.1, z2.2.2.2.1.2.2.2.2.2.2.2.1, z2.2.2.2.1.2.2.2.2.2.2.2.2.1, z2.2.2.2.1.2.2.2.2.2.2.2.2.2.1, z2.2.2.2.1.2.2.2.2.2.2.2.2.2.2.1⟩, z2.2.2.1, z2.2.2.2.1.2.2.2.2.2.2.2.2.2.2.2.1, z2.2.2.2.1.2.2.2.2.2.2.2.2.2.2.2.2.1, z2.2.2.2.1.2.2.2.2.2.2.2.2.2.2.2.2.2.1, ⟨z2.2.2.2.1.2.2.2.2.2.2.2.2.2.2.2.2.2.2.1, z2.2.2.2.1.2.2.2.2.2.2.2.2.2.2.2.2.2.2.2.1⟩⟩ : SyP), ()))
noncomputable abbrev ad3 : Con SR1 := ⟨20, [.ref 72], [.sh (.row 66)], fun x => abM x.1⟩
noncomputable def afU : List (Nat × Func) := [(41, Try.f41), (42, Try.f42), (43, Try.f43), (63, Try.f63)]
theorem afV : CO Try.prog ad3 := abC abx Try.func20 [] trivial afU ⟨Try.func41, Try.func42, Try.func43, Try.func63, trivial⟩ (fun f => (get [(41, [(2, .loopR [.rg 8 sI_, .rw 15 71] 18446744073709551616 0)]), (63, [(2, .loopR [.rg 8 sI_, .kp] 18446744073709551616 0)])] f).getD []) [(3, .loop [.rg 3 (.row 66), .rg 12 sI_, .rw 1 70, .cx 0 [.inl sI_, .inl sI_, .inl sI_, .inl sI_, .inl sI_, .inl sI_, .inl sI_, .inl sI_, .inl sI_, .inl (.rr 3), .inl (.ro 4), .inr (.sl 1), .inl (.row 71), .inl sI_, .inl sI_, .inl (.row 68), .inl sI_]] 18446744073709551616 0)] fun x => by kernel_rfl
noncomputable def acW (y0 : Cfg) : Option ((SyP × Unit) × (Unit)) :=
 if (wi (y0.workers + 1)) = (wi (y0.workers + 1)) then
  if 0 ≤ (wi (y0.workers + 1)) ∧ (wi (y0.workers + 1)) ≤ 1099511627776 then
   if y0.workers = y0.workers then
   if y0.levels = y0.levels then
   if y0.classes = y0.classes then
   if y0.tasks = y0.tasks then
   if y0.deque = y0.deque then
   if y0.heap = y0.heap then
   if y0.batch = y0.batch then
   if y0.age = y0.age then
   if y0.patience = y0.patience then
   (lpF (σ := Int × SyP × Unit) (β := Int × SyP × Unit) (fun self3 x1 =>
   if x1.1 < y0.tasks then
   if (((x1.2.1.tasks.length + ([(⟨0, (-1), (-1), [], 0, [], (-1)⟩ : TkP)] : List TkP).length : Nat)) : Int) < 100000000000 then
   self3 (wi (x1.1 + 1), ({ x1.2.1 with tasks := x1.2.1.tasks ++ ([(⟨0, (-1), (-1), [], 0, [], (-1)⟩ : TkP)]) } : SyP), ())
   else none
   else
   some (x1.1, x1.2.1, ())
   ) 18446744073709551616 (0, (⟨y0, [], List.replicate (wi (y0.workers + 1) : Int).toNat (dfR 71 : WkP), 0, 0, ⟨[], 0⟩⟩ : SyP), ())).bind fun z2 =>
   some ((z2.2.1, ()), (()))
   else none
   else none
   else none
   else none
   else none
   else none
   else none
   else none
   else none
  else none
 else none
noncomputable abbrev aeO : Con SR1 := ⟨18, [.val 13], [.sh (.own 72)], fun x => acW x.1⟩
theorem agF : CO Try.prog aeO := abC abx Try.func18 [] trivial [] trivial (fun _ => []) [(3, .loop [.rg 13 sI_, .rg 3 (.own 72)] 18446744073709551616 0)] fun x => by kernel_rfl
noncomputable def acm (y0 : Cfg) (y1 : List Ev) : Option ((List VwV × Int × Int × Unit) × (Unit)) :=
 (ahf y0).bind fun r1 =>
 if r1.1.1 ≠ 0 then
  some (([], 0, r1.1.1, ()), (()))
 else
 (acW y0).bind fun r2 =>
 (lpF (σ := Int × SyP × Unit) (β := (Int × SyP × Unit) ⊕ ((List VwV × Int × Int × Unit) × (Unit))) (fun self5 x3 =>
  if x3.1 < ((y1.length : Nat) : Int) then
   if 0 ≤ x3.1 ∧ x3.1 < ((y1.length : Nat) : Int) then
   (aah x3.2.1 (abr y1 x3.1)).bind fun r6 =>
   if (!r6.1.1) = true then
   (abM r6.2.1).bind fun r7 =>
   Option.map Sum.inr (
   some ((r7.1.1, x3.1, 6, ()), (()))
   )
   else
   self5 (wi (x3.1 + 1), r6.2.1, ())
   else none
  else
  some (Sum.inl (x3.1, x3.2.1, ()))
 ) 18446744073709551616 (0, r2.1.1, ())).bind fun z4 => match z4 with
 | .inr o8 => some o8
 | .inl z4 =>
 (abM z4.2.1).bind fun r9 =>
 some ((r9.1.1, ((y1.length : Nat) : Int), 0, ()), (()))
noncomputable abbrev aev : Con SR1 := ⟨14, [.val 13, .sh (.ro 2)], [.sh (.row 66), .sh sI_, .sh sI_], fun x => acm x.1 x.2.1⟩
theorem afN : CO Try.prog aev := abC abx Try.func14 [aig, aeO, ad4, ad3] ⟨akv, agF, afW, afV, trivial⟩ [] trivial (fun _ => []) [(6, .loopR [.rg 20 sI_, .rg 8 (.own 72)] 18446744073709551616 0)] fun x => by kernel_rfl
noncomputable def acH (y0 : Cfg) (y1 : List Ev) : Option ((Int × Int × Unit) × (Unit)) :=
 (acm y0 y1).bind fun r1 =>
 some ((r1.1.2.1, r1.1.2.2.1, ()), (()))
noncomputable abbrev ae9 : Con SR1 := ⟨12, [.val 13, .sh (.ro 2)], [.sh sI_, .sh sI_], fun x => acH x.1 x.2.1⟩
theorem agb : CO Try.prog ae9 := abC abx Try.func12 [aev] ⟨afN, trivial⟩ [] trivial (fun _ => []) [] fun x => by kernel_rfl
end
end Go.Proofs.Ytkmkhldmflebkaa
