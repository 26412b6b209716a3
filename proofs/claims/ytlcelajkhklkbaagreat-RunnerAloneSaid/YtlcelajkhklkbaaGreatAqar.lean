/- The reference of the model in the evaluator's form. The program's environment made anew, at a valid configuration. The reference of the model: what it does at the events of a task that runs alone. The reference of the model: its state when a task runs alone, and its answers. -/
import Derived.Test.YtlcelajkhklkbaaGreatAqaq
import Derived.Test.YtlcelajkhklkbaaGreatAqan
set_option linter.all false
namespace Go.Proofs.YtlcelajkhklkbaaGreat
section
open Go Go.RowKit
set_option maxRecDepth 100000
variable [Tb]
noncomputable def abX (y0 : SaV) (y1 : Ev) : Option ((Bool × Unit) × (SaV × Unit)) :=
 if 0 ≤ y1.task ∧ y1.task < ((y0.tasks.length : Nat) : Int) then
  if 0 ≤ y1.worker ∧ y1.worker < ((y0.works.length : Nat) : Int) then
   agr (
   if ((aab y0.works y1.worker).last.kind) = ((aab y0.works y1.worker).last.kind) then
   if ((aab y0.works y1.worker).last.worker) = ((aab y0.works y1.worker).last.worker) then
   if ((aab y0.works y1.worker).last.task) = ((aab y0.works y1.worker).last.task) then
   if ((aab y0.works y1.worker).last.other) = ((aab y0.works y1.worker).last.other) then
   if ((aab y0.works y1.worker).last.level) = ((aab y0.works y1.worker).last.level) then
   if y1.worker = y1.worker then
   if ((aaa y0.tasks y1.task).view.phase) = ((aaa y0.tasks y1.task).view.phase) then
   if ((aaa y0.tasks y1.task).view.level) = ((aaa y0.tasks y1.task).view.level) then
   if ((aaa y0.tasks y1.task).view.parent) = ((aaa y0.tasks y1.task).view.parent) then
   if ((aaa y0.tasks y1.task).view.worker) = ((aaa y0.tasks y1.task).view.worker) then
   if ((aaa y0.tasks y1.task).view.other) = ((aaa y0.tasks y1.task).view.other) then
   if y1.task = y1.task then
   if ((aab y0.works y1.worker).last.kind) = ((aab y0.works y1.worker).last.kind) then
   if ((aab y0.works y1.worker).last.worker) = ((aab y0.works y1.worker).last.worker) then
   if ((aab y0.works y1.worker).last.task) = ((aab y0.works y1.worker).last.task) then
   if ((aab y0.works y1.worker).last.other) = ((aab y0.works y1.worker).last.other) then
   if ((aab y0.works y1.worker).last.level) = ((aab y0.works y1.worker).last.level) then
   if y1.worker = y1.worker then
   if ((aaa y0.tasks y1.task).view.phase) = ((aaa y0.tasks y1.task).view.phase) then
   if ((aaa y0.tasks y1.task).view.level) = ((aaa y0.tasks y1.task).view.level) then
   if ((aaa y0.tasks y1.task).view.parent) = ((aaa y0.tasks y1.task).view.parent) then
   if ((aaa y0.tasks y1.task).view.worker) = ((aaa y0.tasks y1.task).view.worker) then
   if ((aaa y0.tasks y1.task).view.other) = ((aaa y0.tasks y1.task).view.other) then
   if y1.task = y1.task then
   if ((aab y0.works y1.worker).last.kind) = ((aab y0.works y1.worker).last.kind) then
   if ((aab y0.works y1.worker).last.worker) = ((aab y0.works y1.worker).last.worker) then
   if ((aab y0.works y1.worker).last.task) = ((aab y0.works y1.worker).last.task) then
   if ((aab y0.works y1.worker).last.other) = ((aab y0.works y1.worker).last.other) then
   if ((aab y0.works y1.worker).last.level) = ((aab y0.works y1.worker).last.level) then
   if y1.worker = y1.worker then
   (abI ({ y0 with tasks := y0.tasks.set y1.task.toNat (aaa y0.tasks y1.task), works := y0.works.set y1.worker.toNat (aab y0.works y1.worker) } : SaV) y1.worker).bind fun r6 =>
   if y1.kind = 5 then
   if ((aaa y0.tasks y1.task).view.phase) = 1 then
   if r6.1.1 = true then
   (aan r6.2.1 y1.worker y1.task).bind fun r7 =>
   some ((true, ()), (r7.2.1, ()))
   else
   if ((aab y0.works y1.worker).last.kind) = 3 then
   if ((aab y0.works y1.worker).last.task) = y1.task then
   (aan r6.2.1 y1.worker y1.task).bind fun r8 =>
   some ((decide (((aab y0.works y1.worker).last.task) = y1.task), ()), (r8.2.1, ()))
   else
   some ((decide (((aab y0.works y1.worker).last.task) = y1.task), ()), (r6.2.1, ()))
   else
   some ((false, ()), (r6.2.1, ()))
   else
   some ((false, ()), (r6.2.1, ()))
   else
   if ((aaa y0.tasks y1.task).view.phase) = 3 then
   if 0 ≤ (aaa y0.tasks y1.task).view.other ∧ (aaa y0.tasks y1.task).view.other < ((r6.2.1.tasks.length : Nat) : Int) then
   if ((aaa r6.2.1.tasks ((aaa y0.tasks y1.task).view.other)).view.phase) = 4 then
   if r6.1.1 = true then
   (aan ({ r6.2.1 with tasks := r6.2.1.tasks.set ((aaa y0.tasks y1.task).view.other).toNat (aaa r6.2.1.tasks ((aaa y0.tasks y1.task).view.other)) } : SaV) y1.worker y1.task).bind fun r9 =>
   some ((true, ()), (r9.2.1, ()))
   else
   if ((aab y0.works y1.worker).last.kind) = 10 then
   if ((aab y0.works y1.worker).last.task) = ((aaa y0.tasks y1.task).view.other) then
   (aan ({ r6.2.1 with tasks := r6.2.1.tasks.set ((aaa y0.tasks y1.task).view.other).toNat (aaa r6.2.1.tasks ((aaa y0.tasks y1.task).view.other)) } : SaV) y1.worker y1.task).bind fun r10 =>
   some ((decide (((aab y0.works y1.worker).last.task) = ((aaa y0.tasks y1.task).view.other)), ()), (r10.2.1, ()))
   else
   some ((decide (((aab y0.works y1.worker).last.task) = ((aaa y0.tasks y1.task).view.other)), ()), (({ r6.2.1 with tasks := r6.2.1.tasks.set ((aaa y0.tasks y1.task).view.other).toNat (aaa r6.2.1.tasks ((aaa y0.tasks y1.task).view.other)) } : SaV), ()))
   else
   some ((false, ()), (({ r6.2.1 with tasks := r6.2.1.tasks.set ((aaa y0.tasks y1.task).view.other).toNat (aaa r6.2.1.tasks ((aaa y0.tasks y1.task).view.other)) } : SaV), ()))
   else
   some ((false, ()), (({ r6.2.1 with tasks := r6.2.1.tasks.set ((aaa y0.tasks y1.task).view.other).toNat (aaa r6.2.1.tasks ((aaa y0.tasks y1.task).view.other)) } : SaV), ()))
   else none
   else
   some ((false, ()), (r6.2.1, ()))
   else none
   else none
   else none
   else none
   else none
   else none
   else none
   else none
   else none
   else none
   else none
   else none
   else none
   else none
   else none
   else none
   else none
   else none
   else none
   else none
   else none
   else none
   else none
   else none
   else none
   else none
   else none
   else none
   else none
   else none
   ) (
   if ((aab y0.works y1.worker).last.kind) = ((aab y0.works y1.worker).last.kind) then
   if ((aab y0.works y1.worker).last.worker) = ((aab y0.works y1.worker).last.worker) then
   if ((aab y0.works y1.worker).last.task) = ((aab y0.works y1.worker).last.task) then
   if ((aab y0.works y1.worker).last.other) = ((aab y0.works y1.worker).last.other) then
   if ((aab y0.works y1.worker).last.level) = ((aab y0.works y1.worker).last.level) then
   if y1.worker = y1.worker then
   if ((aaa y0.tasks y1.task).view.phase) = ((aaa y0.tasks y1.task).view.phase) then
   if ((aaa y0.tasks y1.task).view.level) = ((aaa y0.tasks y1.task).view.level) then
   if ((aaa y0.tasks y1.task).view.parent) = ((aaa y0.tasks y1.task).view.parent) then
   if ((aaa y0.tasks y1.task).view.worker) = ((aaa y0.tasks y1.task).view.worker) then
   if ((aaa y0.tasks y1.task).view.other) = ((aaa y0.tasks y1.task).view.other) then
   if y1.task = y1.task then
   if ((aab y0.works y1.worker).last.kind) = ((aab y0.works y1.worker).last.kind) then
   if ((aab y0.works y1.worker).last.worker) = ((aab y0.works y1.worker).last.worker) then
   if ((aab y0.works y1.worker).last.task) = ((aab y0.works y1.worker).last.task) then
   if ((aab y0.works y1.worker).last.other) = ((aab y0.works y1.worker).last.other) then
   if ((aab y0.works y1.worker).last.level) = ((aab y0.works y1.worker).last.level) then
   if y1.worker = y1.worker then
   if ((aaa y0.tasks y1.task).view.phase) = ((aaa y0.tasks y1.task).view.phase) then
   if ((aaa y0.tasks y1.task).view.level) = ((aaa y0.tasks y1.task).view.level) then
   if ((aaa y0.tasks y1.task).view.parent) = ((aaa y0.tasks y1.task).view.parent) then
   if ((aaa y0.tasks y1.task).view.worker) = ((aaa y0.tasks y1.task).view.worker) then
   if ((aaa y0.tasks y1.task).view.other) = ((aaa y0.tasks y1.task).view.other) then
   if y1.task = y1.task then
   if ((aab y0.works y1.worker).last.kind) = ((aab y0.works y1.worker).last.kind) then
   if ((aab y0.works y1.worker).last.worker) = ((aab y0.works y1.worker).last.worker) then
   if ((aab y0.works y1.worker).last.task) = ((aab y0.works y1.worker).last.task) then
   if ((aab y0.works y1.worker).last.other) = ((aab y0.works y1.worker).last.other) then
   if ((aab y0.works y1.worker).last.level) = ((aab y0.works y1.worker).last.level) then
   if y1.worker = y1.worker then
   (abI ({ y0 with tasks := y0.tasks.set y1.task.toNat (aaa y0.tasks y1.task), works := y0.works.set y1.worker.toNat (aab y0.works y1.worker) } : SaV) y1.worker).bind fun r1 =>
   if y1.kind = 5 then
   if ((aaa y0.tasks y1.task).view.phase) = 1 then
   if r1.1.1 = true then
   (aan r1.2.1 y1.worker y1.task).bind fun r2 =>
   some ((true, ()), (r2.2.1, ()))
   else
   if ((aab y0.works y1.worker).last.kind) = 3 then
   if ((aab y0.works y1.worker).last.task) = y1.task then
   (aan r1.2.1 y1.worker y1.task).bind fun r3 =>
   some ((decide (((aab y0.works y1.worker).last.task) = y1.task), ()), (r3.2.1, ()))
   else
   some ((decide (((aab y0.works y1.worker).last.task) = y1.task), ()), (r1.2.1, ()))
   else
   some ((false, ()), (r1.2.1, ()))
   else
   some ((false, ()), (r1.2.1, ()))
   else
   if ((aaa y0.tasks y1.task).view.phase) = 3 then
   if 0 ≤ (aaa y0.tasks y1.task).view.other ∧ (aaa y0.tasks y1.task).view.other < ((r1.2.1.tasks.length : Nat) : Int) then
   if ((aaa r1.2.1.tasks ((aaa y0.tasks y1.task).view.other)).view.phase) = 4 then
   if r1.1.1 = true then
   (aan ({ r1.2.1 with tasks := r1.2.1.tasks.set ((aaa y0.tasks y1.task).view.other).toNat (aaa r1.2.1.tasks ((aaa y0.tasks y1.task).view.other)) } : SaV) y1.worker y1.task).bind fun r4 =>
   some ((true, ()), (r4.2.1, ()))
   else
   if ((aab y0.works y1.worker).last.kind) = 10 then
   if ((aab y0.works y1.worker).last.task) = ((aaa y0.tasks y1.task).view.other) then
   (aan ({ r1.2.1 with tasks := r1.2.1.tasks.set ((aaa y0.tasks y1.task).view.other).toNat (aaa r1.2.1.tasks ((aaa y0.tasks y1.task).view.other)) } : SaV) y1.worker y1.task).bind fun r5 =>
   some ((decide (((aab y0.works y1.worker).last.task) = ((aaa y0.tasks y1.task).view.other)), ()), (r5.2.1, ()))
   else
   some ((decide (((aab y0.works y1.worker).last.task) = ((aaa y0.tasks y1.task).view.other)), ()), (({ r1.2.1 with tasks := r1.2.1.tasks.set ((aaa y0.tasks y1.task).view.other).toNat (aaa r1.2.1.tasks ((aaa y0.tasks y1.task).view.other)) } : SaV), ()))
   else
   some ((false, ()), (({ r1.2.1 with tasks := r1.2.1.tasks.set ((aaa y0.tasks y1.task).view.other).toNat (aaa r1.2.1.tasks ((aaa y0.tasks y1.task).view.other)) } : SaV), ()))
   else
   some ((false, ()), (({ r1.2.1 with tasks := r1.2.1.tasks.set ((aaa y0.tasks y1.task).view.other).toNat (aaa r1.2.1.tasks ((aaa y0.tasks y1.task).view.other)) } : SaV), ()))
   else none
   else
   some ((false, ()), (r1.2.1, ()))
   else none
   else none
   else none
   else none
   else none
   else none
   else none
   else none
   else none
   else none
   else none
   else none
   else none
   else none
   else none
   else none
   else none
   else none
   else none
   else none
   else none
   else none
   else none
   else none
   else none
   else none
   else none
   else none
   else none
   else none
   )
  else none
 else none
noncomputable abbrev acH : Con SR1 := ⟨91, [.ref 66, .val 2], [.sh .b], fun x => abX x.1 x.2.1⟩
theorem aeF : CO Tryz.prog acH := aas aar Tryz.func91 [ads, adq] ⟨afI, afE, trivial⟩ [] trivial (fun _ => []) [] fun x => by kernel_rfl
noncomputable def abw (y0 : SaV) (y1 : Ev) : Option ((Bool × Unit) × (SaV × Unit)) :=
 if 0 ≤ y1.task ∧ y1.task < ((y0.tasks.length : Nat) : Int) then
  if 0 ≤ y1.worker ∧ y1.worker < ((y0.works.length : Nat) : Int) then
   (abI ({ y0 with tasks := y0.tasks.set y1.task.toNat (aaa y0.tasks y1.task), works := y0.works.set y1.worker.toNat (aab y0.works y1.worker) } : SaV) y1.worker).bind fun r1 =>
   if y1.kind = 5 then
   if ((aaa y0.tasks y1.task).view.phase) = 1 then
   if r1.1.1 = true then
   (aan r1.2.1 y1.worker y1.task).bind fun r2 =>
   some ((true, ()), (r2.2.1, ()))
   else
   if ((aab y0.works y1.worker).last.kind) = 3 then
   if ((aab y0.works y1.worker).last.task) = y1.task then
   (aan r1.2.1 y1.worker y1.task).bind fun r3 =>
   some ((decide (((aab y0.works y1.worker).last.task) = y1.task), ()), (r3.2.1, ()))
   else
   some ((decide (((aab y0.works y1.worker).last.task) = y1.task), ()), (r1.2.1, ()))
   else
   some ((false, ()), (r1.2.1, ()))
   else
   some ((false, ()), (r1.2.1, ()))
   else
   if ((aaa y0.tasks y1.task).view.phase) = 3 then
   if 0 ≤ (aaa y0.tasks y1.task).view.other ∧ (aaa y0.tasks y1.task).view.other < ((r1.2.1.tasks.length : Nat) : Int) then
   if ((aaa r1.2.1.tasks ((aaa y0.tasks y1.task).view.other)).view.phase) = 4 then
   if r1.1.1 = true then
   (aan ({ r1.2.1 with tasks := r1.2.1.tasks.set ((aaa y0.tasks y1.task).view.other).toNat (aaa r1.2.1.tasks ((aaa y0.tasks y1.task).view.other)) } : SaV) y1.worker y1.task).bind fun r4 =>
   some ((true, ()), (r4.2.1, ()))
   else
   if ((aab y0.works y1.worker).last.kind) = 10 then
   if ((aab y0.works y1.worker).last.task) = ((aaa y0.tasks y1.task).view.other) then
   (aan ({ r1.2.1 with tasks := r1.2.1.tasks.set ((aaa y0.tasks y1.task).view.other).toNat (aaa r1.2.1.tasks ((aaa y0.tasks y1.task).view.other)) } : SaV) y1.worker y1.task).bind fun r5 =>
   some ((decide (((aab y0.works y1.worker).last.task) = ((aaa y0.tasks y1.task).view.other)), ()), (r5.2.1, ()))
   else
   some ((decide (((aab y0.works y1.worker).last.task) = ((aaa y0.tasks y1.task).view.other)), ()), (({ r1.2.1 with tasks := r1.2.1.tasks.set ((aaa y0.tasks y1.task).view.other).toNat (aaa r1.2.1.tasks ((aaa y0.tasks y1.task).view.other)) } : SaV), ()))
   else
   some ((false, ()), (({ r1.2.1 with tasks := r1.2.1.tasks.set ((aaa y0.tasks y1.task).view.other).toNat (aaa r1.2.1.tasks ((aaa y0.tasks y1.task).view.other)) } : SaV), ()))
   else
   some ((false, ()), (({ r1.2.1 with tasks := r1.2.1.tasks.set ((aaa y0.tasks y1.task).view.other).toNat (aaa r1.2.1.tasks ((aaa y0.tasks y1.task).view.other)) } : SaV), ()))
   else none
   else
   some ((false, ()), (r1.2.1, ()))
  else none
 else none
noncomputable abbrev adk : Con SR1 := ⟨91, [.ref 66, .val 2], [.sh .b], fun x => abw x.1 x.2.1⟩
theorem afc (y0 : SaV) (y1 : Ev) : abX y0 y1 = abw y0 y1 := by
  unfold abX abw
  simp only [if_true, ahg, aei]
theorem afb : CO Tryz.prog adk := aqd aeF fun x out hx => (show acH.spec x = some out from (afc x.1 x.2.1).trans hx)
noncomputable def aaM (y0 : SaV) (y1 : Ev) : Option ((Bool × Unit) × (SaV × Unit)) :=
 (aav y0 y1.worker y1.task).bind fun r1 =>
 if (!r1.1.1) = true then
  some ((false, ()), (r1.2.1, ()))
 else
 (aak r1.2.1 y1.task).bind fun r2 =>
 if r2.1.2.1 = true then
  some ((false, ()), (r2.2.1, ()))
 else
 if 0 ≤ y1.worker ∧ y1.worker < ((r2.2.1.works.length : Nat) : Int) then
  if 0 ≤ wi (((((aab r2.2.1.works y1.worker).stack).length : Nat) : Int) - 1) ∧ wi (((((aab r2.2.1.works y1.worker).stack).length : Nat) : Int) - 1) < ((((aab r2.2.1.works y1.worker).stack).length : Nat) : Int) then
   if 0 ≤ aaf ((aab r2.2.1.works y1.worker).stack) (wi (((((aab r2.2.1.works y1.worker).stack).length : Nat) : Int) - 1)) ∧ aaf ((aab r2.2.1.works y1.worker).stack) (wi (((((aab r2.2.1.works y1.worker).stack).length : Nat) : Int) - 1)) < ((r2.2.1.tasks.length : Nat) : Int) then
   if 0 ≤ wi (((((aab r2.2.1.works y1.worker).stack).length : Nat) : Int) - 1) ∧ wi (((((aab r2.2.1.works y1.worker).stack).length : Nat) : Int) - 1) ≤ ((((aab r2.2.1.works y1.worker).stack).length : Nat) : Int) then
   if (((([] : List Int).length + (((aab r2.2.1.works y1.worker).stack).take (wi (((((aab r2.2.1.works y1.worker).stack).length : Nat) : Int) - 1) : Int).toNat).length : Nat)) : Int) < 1000000000000 then
   if 0 ≤ y1.worker ∧ y1.worker < (((r2.2.1.works.set y1.worker.toNat (aab r2.2.1.works y1.worker)).length : Nat) : Int) then
   if 0 ≤ y1.task ∧ y1.task < (((r2.2.1.tasks.set (aaf ((aab r2.2.1.works y1.worker).stack) (wi (((((aab r2.2.1.works y1.worker).stack).length : Nat) : Int) - 1))).toNat ({ aaa r2.2.1.tasks (aaf ((aab r2.2.1.works y1.worker).stack) (wi (((((aab r2.2.1.works y1.worker).stack).length : Nat) : Int) - 1))) with view := { (aaa r2.2.1.tasks (aaf ((aab r2.2.1.works y1.worker).stack) (wi (((((aab r2.2.1.works y1.worker).stack).length : Nat) : Int) - 1)))).view with worker := (-1) } } : TkV)).length : Nat) : Int) then
   some ((true, ()), (({ r2.2.1 with tasks := (r2.2.1.tasks.set (aaf ((aab r2.2.1.works y1.worker).stack) (wi (((((aab r2.2.1.works y1.worker).stack).length : Nat) : Int) - 1))).toNat ({ aaa r2.2.1.tasks (aaf ((aab r2.2.1.works y1.worker).stack) (wi (((((aab r2.2.1.works y1.worker).stack).length : Nat) : Int) - 1))) with view := { (aaa r2.2.1.tasks (aaf ((aab r2.2.1.works y1.worker).stack) (wi (((((aab r2.2.1.works y1.worker).stack).length : Nat) : Int) - 1)))).view with worker := (-1) } } : TkV)).set y1.task.toNat ({ aaa (r2.2.1.tasks.set (aaf ((aab r2.2.1.works y1.worker).stack) (wi (((((aab r2.2.1.works y1.worker).stack).length : Nat) : Int) - 1))).toNat ({ aaa r2.2.1.tasks (aaf ((aab r2.2.1.works y1.worker).stack) (wi (((((aab r2.2.1.works y1.worker).stack).length : Nat) : Int) - 1))) with view := { (aaa r2.2.1.tasks (aaf ((aab r2.2.1.works y1.worker).stack) (wi (((((aab r2.2.1.works y1.worker).stack).length : Nat) : Int) - 1)))).view with worker := (-1) } } : TkV)) y1.task with view := { (aaa (r2.2.1.tasks.set (aaf ((aab r2.2.1.works y1.worker).stack) (wi (((((aab r2.2.1.works y1.worker).stack).length : Nat) : Int) - 1))).toNat ({ aaa r2.2.1.tasks (aaf ((aab r2.2.1.works y1.worker).stack) (wi (((((aab r2.2.1.works y1.worker).stack).length : Nat) : Int) - 1))) with view := { (aaa r2.2.1.tasks (aaf ((aab r2.2.1.works y1.worker).stack) (wi (((((aab r2.2.1.works y1.worker).stack).length : Nat) : Int) - 1)))).view with worker := (-1) } } : TkV)) y1.task).view with phase := 4 } } : TkV), works := (r2.2.1.works.set y1.worker.toNat (aab r2.2.1.works y1.worker)).set y1.worker.toNat ({ aab (r2.2.1.works.set y1.worker.toNat (aab r2.2.1.works y1.worker)) y1.worker with stack := ([]) ++ (((aab r2.2.1.works y1.worker).stack).take (wi (((((aab r2.2.1.works y1.worker).stack).length : Nat) : Int) - 1) : Int).toNat) } : WlV) } : SaV), ()))
   else none
   else none
   else none
   else none
   else none
  else none
 else none
noncomputable abbrev acT : Con SR1 := ⟨92, [.ref 66, .val 2], [.sh .b], fun x => aaM x.1 x.2.1⟩
noncomputable def aeS : List (Nat × Func) := [(102, Tryz.f102)]
theorem aeT : CO Tryz.prog acT := aas aar Tryz.func92 [abn, aa9] ⟨abT, abE, trivial⟩ aeS ⟨Tryz.func102, trivial⟩ (fun _ => []) [] fun x => by kernel_rfl
noncomputable def adK (y0 : SaV) (y1 : Ev) : Option ((Bool × Unit) × (SaV × Unit)) :=
 if 0 ≤ y1.task ∧ y1.task < ((y0.tasks.length : Nat) : Int) then
  if 0 ≤ y1.worker ∧ y1.worker < ((y0.works.length : Nat) : Int) then
   if y1.kind = 7 then
   if ((aab y0.works y1.worker).walk) ≠ y1.task then
   some ((false, ()), (({ y0 with works := y0.works.set y1.worker.toNat (aab y0.works y1.worker) } : SaV), ()))
   else
   if y1.level < ((aab y0.works y1.worker).low) then
   some ((false, ()), (({ y0 with works := y0.works.set y1.worker.toNat (aab y0.works y1.worker) } : SaV), ()))
   else
   if ((aaa y0.tasks y1.task).view.level) < y1.level then
   some ((false, ()), (({ y0 with tasks := y0.tasks.set y1.task.toNat (aaa y0.tasks y1.task), works := y0.works.set y1.worker.toNat (aab y0.works y1.worker) } : SaV), ()))
   else
   if 0 ≤ ((aab y0.works y1.worker).up) then
   if ((aab y0.works y1.worker).up) ≠ y1.level then
   some ((false, ()), (({ y0 with tasks := y0.tasks.set y1.task.toNat (aaa y0.tasks y1.task), works := y0.works.set y1.worker.toNat (aab y0.works y1.worker) } : SaV), ()))
   else
   some ((true, ()), (({ y0 with tasks := y0.tasks.set y1.task.toNat (aaa y0.tasks y1.task), works := y0.works.set y1.worker.toNat ({ aab y0.works y1.worker with walk := (-1) } : WlV) } : SaV), ()))
   else
   some ((true, ()), (({ y0 with tasks := y0.tasks.set y1.task.toNat (aaa y0.tasks y1.task), works := y0.works.set y1.worker.toNat ({ aab y0.works y1.worker with walk := (-1) } : WlV) } : SaV), ()))
   else
   if y1.kind = 11 then
   if ((aab y0.works y1.worker).walk) = (-1) then
   some ((false, ()), (({ y0 with works := y0.works.set y1.worker.toNat (aab y0.works y1.worker) } : SaV), ()))
   else
   (lpF (σ := Int × Int × Unit) (β := (Int × Int × Unit) ⊕ ((Bool × Unit) × (SaV × Unit))) (fun self3 x1 =>
   if x1.2.1 < ((y0.tasks.length : Nat) : Int) then
   if 0 ≤ x1.1 then
   if x1.1 < ((y0.tasks.length : Nat) : Int) then
   if 0 ≤ x1.1 ∧ x1.1 < ((y0.tasks.length : Nat) : Int) then
   if ((aaa y0.tasks x1.1).view.parent) = ((aab y0.works y1.worker).walk) then
   Option.map Sum.inr (
   if y1.level ≤ ((aaa y0.tasks y1.task).view.level) then
   some ((false, ()), (({ y0 with tasks := y0.tasks.set y1.task.toNat (aaa y0.tasks y1.task), works := y0.works.set y1.worker.toNat (aab y0.works y1.worker) } : SaV), ()))
   else
   if 0 ≤ (aab (y0.works.set y1.worker.toNat (aab y0.works y1.worker)) y1.worker).walk ∧ (aab (y0.works.set y1.worker.toNat (aab y0.works y1.worker)) y1.worker).walk < (((y0.tasks.set y1.task.toNat (aaa y0.tasks y1.task)).length : Nat) : Int) then
   if ((aaa (y0.tasks.set y1.task.toNat (aaa y0.tasks y1.task)) ((aab (y0.works.set y1.worker.toNat (aab y0.works y1.worker)) y1.worker).walk)).view.level) < y1.level then
   some ((false, ()), (({ y0 with tasks := (y0.tasks.set y1.task.toNat (aaa y0.tasks y1.task)).set ((aab (y0.works.set y1.worker.toNat (aab y0.works y1.worker)) y1.worker).walk).toNat (aaa (y0.tasks.set y1.task.toNat (aaa y0.tasks y1.task)) ((aab (y0.works.set y1.worker.toNat (aab y0.works y1.worker)) y1.worker).walk)), works := (y0.works.set y1.worker.toNat (aab y0.works y1.worker)).set y1.worker.toNat (aab (y0.works.set y1.worker.toNat (aab y0.works y1.worker)) y1.worker) } : SaV), ()))
   else
   if 0 ≤ ((aab (y0.works.set y1.worker.toNat (aab y0.works y1.worker)) y1.worker).up) then
   if ((aab (y0.works.set y1.worker.toNat (aab y0.works y1.worker)) y1.worker).up) ≠ y1.level then
   some ((false, ()), (({ y0 with tasks := (y0.tasks.set y1.task.toNat (aaa y0.tasks y1.task)).set ((aab (y0.works.set y1.worker.toNat (aab y0.works y1.worker)) y1.worker).walk).toNat (aaa (y0.tasks.set y1.task.toNat (aaa y0.tasks y1.task)) ((aab (y0.works.set y1.worker.toNat (aab y0.works y1.worker)) y1.worker).walk)), works := (y0.works.set y1.worker.toNat (aab y0.works y1.worker)).set y1.worker.toNat (aab (y0.works.set y1.worker.toNat (aab y0.works y1.worker)) y1.worker) } : SaV), ()))
   else
   if y1.level = y1.level then
   some ((true, ()), (({ y0 with tasks := ((y0.tasks.set y1.task.toNat (aaa y0.tasks y1.task)).set ((aab (y0.works.set y1.worker.toNat (aab y0.works y1.worker)) y1.worker).walk).toNat (aaa (y0.tasks.set y1.task.toNat (aaa y0.tasks y1.task)) ((aab (y0.works.set y1.worker.toNat (aab y0.works y1.worker)) y1.worker).walk))).set y1.task.toNat ({ aaa ((y0.tasks.set y1.task.toNat (aaa y0.tasks y1.task)).set ((aab (y0.works.set y1.worker.toNat (aab y0.works y1.worker)) y1.worker).walk).toNat (aaa (y0.tasks.set y1.task.toNat (aaa y0.tasks y1.task)) ((aab (y0.works.set y1.worker.toNat (aab y0.works y1.worker)) y1.worker).walk))) y1.task with view := { (aaa ((y0.tasks.set y1.task.toNat (aaa y0.tasks y1.task)).set ((aab (y0.works.set y1.worker.toNat (aab y0.works y1.worker)) y1.worker).walk).toNat (aaa (y0.tasks.set y1.task.toNat (aaa y0.tasks y1.task)) ((aab (y0.works.set y1.worker.toNat (aab y0.works y1.worker)) y1.worker).walk))) y1.task).view with level := y1.level } } : TkV), works := (y0.works.set y1.worker.toNat (aab y0.works y1.worker)).set y1.worker.toNat ({ aab (y0.works.set y1.worker.toNat (aab y0.works y1.worker)) y1.worker with up := y1.level } : WlV) } : SaV), ()))
   else none
   else
   if y1.level = y1.level then
   some ((true, ()), (({ y0 with tasks := ((y0.tasks.set y1.task.toNat (aaa y0.tasks y1.task)).set ((aab (y0.works.set y1.worker.toNat (aab y0.works y1.worker)) y1.worker).walk).toNat (aaa (y0.tasks.set y1.task.toNat (aaa y0.tasks y1.task)) ((aab (y0.works.set y1.worker.toNat (aab y0.works y1.worker)) y1.worker).walk))).set y1.task.toNat ({ aaa ((y0.tasks.set y1.task.toNat (aaa y0.tasks y1.task)).set ((aab (y0.works.set y1.worker.toNat (aab y0.works y1.worker)) y1.worker).walk).toNat (aaa (y0.tasks.set y1.task.toNat (aaa y0.tasks y1.task)) ((aab (y0.works.set y1.worker.toNat (aab y0.works y1.worker)) y1.worker).walk))) y1.task with view := { (aaa ((y0.tasks.set y1.task.toNat (aaa y0.tasks y1.task)).set ((aab (y0.works.set y1.worker.toNat (aab y0.works y1.worker)) y1.worker).walk).toNat (aaa (y0.tasks.set y1.task.toNat (aaa y0.tasks y1.task)) ((aab (y0.works.set y1.worker.toNat (aab y0.works y1.worker)) y1.worker).walk))) y1.task).view with level := y1.level } } : TkV), works := (y0.works.set y1.worker.toNat (aab y0.works y1.worker)).set y1.worker.toNat ({ aab (y0.works.set y1.worker.toNat (aab y0.works y1.worker)) y1.worker with up := y1.level } : WlV) } : SaV), ()))
   else none
   else none
   )
   else
   self3 ((aaa y0.tasks x1.1).view.parent, wi (x1.2.1 + 1), ())
   else none
   else
   some (Sum.inl (x1.1, x1.2.1, ()))
   else
   some (Sum.inl (x1.1, x1.2.1, ()))
   else
   some (Sum.inl (x1.1, x1.2.1, ()))
   ) 18446744073709551616 (y1.task, 0, ())).bind fun z2 => match z2 with
   | .inr o4 => some o4
   | .inl z2 =>
   some ((false, ()), (({ y0 with works := y0.works.set y1.worker.toNat (aab y0.works y1.worker) } : SaV), ()))
   else
   if y0.c.age < 1 then
   some ((false, ()), (y0, ()))
   else
   if 0 ≤ y1.worker then
   if y1.worker < ((y0.works.length : Nat) : Int) then
   if 0 ≤ y1.worker ∧ y1.worker < ((y0.works.length : Nat) : Int) then
   if ((((aab y0.works y1.worker).stack).length : Nat) : Int) = 0 then
   if 0 ≤ y1.worker ∧ y1.worker < (((y0.works.set y1.worker.toNat (aab y0.works y1.worker)).length : Nat) : Int) then
   if ¬ (((aab (y0.works.set y1.worker.toNat (aab y0.works y1.worker)) y1.worker).walk) = (-1)) then
   some ((false, ()), (({ y0 with works := y0.works.set y1.worker.toNat (aab y0.works y1.worker) } : SaV), ()))
   else
   if ((aaa y0.tasks y1.task).view.phase) = 0 then
   some ((false, ()), (({ y0 with tasks := y0.tasks.set y1.task.toNat (aaa y0.tasks y1.task), works := y0.works.set y1.worker.toNat (aab y0.works y1.worker) } : SaV), ()))
   else
   if y1.level ≠ (wi (((aaa y0.tasks y1.task).view.level) + 1)) then
   some ((false, ()), (({ y0 with tasks := y0.tasks.set y1.task.toNat (aaa y0.tasks y1.task), works := y0.works.set y1.worker.toNat (aab y0.works y1.worker) } : SaV), ()))
   else
   some ((true, ()), (({ y0 with tasks := y0.tasks.set y1.task.toNat ({ aaa y0.tasks y1.task with view := { (aaa y0.tasks y1.task).view with level := y1.level } } : TkV), works := y0.works.set y1.worker.toNat (aab y0.works y1.worker) } : SaV), ()))
   else none
   else
   some ((false, ()), (({ y0 with works := y0.works.set y1.worker.toNat (aab y0.works y1.worker) } : SaV), ()))
   else none
   else
   some ((false, ()), (y0, ()))
   else
   some ((false, ()), (y0, ()))
  else none
 else none
noncomputable abbrev adi : Con SR1 := ⟨93, [.ref 66, .val 2], [.sh .b], fun x => adK x.1 x.2.1⟩
noncomputable def ae8 : List (Nat × Func) := [(104, Tryz.f104), (87, Tryz.f87), (94, Tryz.f94)]
theorem ae9 : CO Tryz.prog adi := aas aar Tryz.func93 [] trivial ae8 ⟨Tryz.func104, Tryz.func87, Tryz.func94, trivial⟩ (fun f => (get [(104, [(2, .loopR [.rg 1 sI_, .rg 7 sI_] 18446744073709551616 0)])] f).getD []) [] fun x => by kernel_rfl
noncomputable def aaH (y0 : SaV) (y1 : Ev) : Option ((Bool × Unit) × (SaV × Unit)) :=
 ((
  if y1.kind = 1 then
   some (decide (y1.kind = 1), ())
  else
  some (decide (y1.kind = 2), ())
 ) : Option (Bool × Unit)).bind fun z1 =>
 if z1.1 = true then
  (adL y0 y1).bind fun r2 =>
  some ((r2.1.1, ()), (r2.2.1, ()))
 else
 ((
  if y1.kind = 3 then
   some (decide (y1.kind = 3), ())
  else
  some (decide (y1.kind = 4), ())
 ) : Option (Bool × Unit)).bind fun z3 =>
 if z3.1 = true then
  (aaP y0 y1).bind fun r4 =>
  some ((r4.1.1, ()), (r4.2.1, ()))
 else
 ((
  if y1.kind = 6 then
   some (decide (y1.kind = 6), ())
  else
  some (decide (y1.kind = 8), ())
 ) : Option (Bool × Unit)).bind fun z5 =>
 if z5.1 = true then
  (aaK y0 y1).bind fun r6 =>
  some ((r6.1.1, ()), (r6.2.1, ()))
 else
 ((
  if y1.kind = 5 then
   some (decide (y1.kind = 5), ())
  else
  some (decide (y1.kind = 9), ())
 ) : Option (Bool × Unit)).bind fun z7 =>
 if z7.1 = true then
  (abw y0 y1).bind fun r8 =>
  some ((r8.1.1, ()), (r8.2.1, ()))
 else
 if y1.kind = 10 then
  (aaM y0 y1).bind fun r9 =>
  some ((r9.1.1, ()), (r9.2.1, ()))
 else
 ((
  if y1.kind = 7 then
   some (decide (y1.kind = 7), ())
  else
  if y1.kind = 11 then
   some (decide (y1.kind = 11), ())
  else
  some (decide (y1.kind = 12), ())
 ) : Option (Bool × Unit)).bind fun z10 =>
 if z10.1 = true then
  (adK y0 y1).bind fun r11 =>
  some ((r11.1.1, ()), (r11.2.1, ()))
 else
 if y1.kind = 13 then
  if 0 ≤ y1.worker then
   if y1.worker < ((y0.works.length : Nat) : Int) then
   if 0 ≤ y1.worker ∧ y1.worker < ((y0.works.length : Nat) : Int) then
   if ((((aab y0.works y1.worker).stack).length : Nat) : Int) = 0 then
   if 0 ≤ y1.worker ∧ y1.worker < (((y0.works.set y1.worker.toNat (aab y0.works y1.worker)).length : Nat) : Int) then
   if ((aab (y0.works.set y1.worker.toNat (aab y0.works y1.worker)) y1.worker).walk) = (-1) then
   (aa6 y0.queue y0.c y1).bind fun r12 =>
   some ((r12.1.1, ()), (({ y0 with works := y0.works.set y1.worker.toNat (aab y0.works y1.worker), queue := r12.2.1 } : SaV), ()))
   else
   some ((false, ()), (({ y0 with works := y0.works.set y1.worker.toNat (aab y0.works y1.worker) } : SaV), ()))
   else none
   else
   some ((false, ()), (({ y0 with works := y0.works.set y1.worker.toNat (aab y0.works y1.worker) } : SaV), ()))
   else none
   else
   some ((false, ()), (y0, ()))
  else
  some ((false, ()), (y0, ()))
 else
 if y1.kind = 14 then
  if 0 ≤ y1.worker then
   if y1.worker < ((y0.works.length : Nat) : Int) then
   if 0 ≤ y1.worker ∧ y1.worker < ((y0.works.length : Nat) : Int) then
   if ((((aab y0.works y1.worker).stack).length : Nat) : Int) = 0 then
   if 0 ≤ y1.worker ∧ y1.worker < (((y0.works.set y1.worker.toNat (aab y0.works y1.worker)).length : Nat) : Int) then
   if ((aab (y0.works.set y1.worker.toNat (aab y0.works y1.worker)) y1.worker).walk) = (-1) then
   if y1.other ≠ y1.worker then
   if 0 ≤ y1.other then
   if y1.other < y0.c.workers then
   if 0 ≤ y1.task ∧ y1.task < ((y0.tasks.length : Nat) : Int) then
   some ((decide (((aaa y0.tasks y1.task).view.phase) ≠ 0), ()), (({ y0 with tasks := y0.tasks.set y1.task.toNat (aaa y0.tasks y1.task), works := y0.works.set y1.worker.toNat (aab y0.works y1.worker) } : SaV), ()))
   else none
   else
   some ((false, ()), (({ y0 with works := y0.works.set y1.worker.toNat (aab y0.works y1.worker) } : SaV), ()))
   else
   some ((false, ()), (({ y0 with works := y0.works.set y1.worker.toNat (aab y0.works y1.worker) } : SaV), ()))
   else
   some ((false, ()), (({ y0 with works := y0.works.set y1.worker.toNat (aab y0.works y1.worker) } : SaV), ()))
   else
   some ((false, ()), (({ y0 with works := y0.works.set y1.worker.toNat (aab y0.works y1.worker) } : SaV), ()))
   else none
   else
   some ((false, ()), (({ y0 with works := y0.works.set y1.worker.toNat (aab y0.works y1.worker) } : SaV), ()))
   else none
   else
   some ((false, ()), (y0, ()))
  else
  some ((false, ()), (y0, ()))
 else
 if y1.kind = 15 then
  if 0 ≤ y1.task ∧ y1.task < ((y0.tasks.length : Nat) : Int) then
   if ((aaa y0.tasks y1.task).view.phase) ≠ 0 then
   some ((decide (((aaa y0.tasks y1.task).view.phase) ≠ 1), ()), (({ y0 with tasks := y0.tasks.set y1.task.toNat (aaa y0.tasks y1.task) } : SaV), ()))
   else
   some ((false, ()), (({ y0 with tasks := y0.tasks.set y1.task.toNat (aaa y0.tasks y1.task) } : SaV), ()))
  else none
 else
 if y1.kind = 16 then
  ((
   if 0 ≤ y1.worker then
   if y1.worker < ((y0.works.length : Nat) : Int) then
   if 0 ≤ y1.worker ∧ y1.worker < ((y0.works.length : Nat) : Int) then
   if ((((aab y0.works y1.worker).stack).length : Nat) : Int) = 0 then
   if 0 ≤ y1.worker ∧ y1.worker < (((y0.works.set y1.worker.toNat (aab y0.works y1.worker)).length : Nat) : Int) then
   if y1.worker = y1.worker then
   if 0 ≤ y1.worker ∧ y1.worker < (((y0.works.set y1.worker.toNat (aab y0.works y1.worker)).length : Nat) : Int) then
   some (({ y0 with works := (y0.works.set y1.worker.toNat (aab y0.works y1.worker)).set y1.worker.toNat ({ aab (y0.works.set y1.worker.toNat (aab y0.works y1.worker)) y1.worker with sleeps := decide (((aab (y0.works.set y1.worker.toNat (aab y0.works y1.worker)) y1.worker).walk) = (-1)) } : WlV) } : SaV), ())
   else none
   else none
   else none
   else
   if y1.worker = y1.worker then
   if 0 ≤ y1.worker ∧ y1.worker < (((y0.works.set y1.worker.toNat (aab y0.works y1.worker)).length : Nat) : Int) then
   some (({ y0 with works := (y0.works.set y1.worker.toNat (aab y0.works y1.worker)).set y1.worker.toNat ({ aab (y0.works.set y1.worker.toNat (aab y0.works y1.worker)) y1.worker with sleeps := false } : WlV) } : SaV), ())
   else none
   else none
   else none
   else
   if y1.worker = y1.worker then
   if 0 ≤ y1.worker ∧ y1.worker < ((y0.works.length : Nat) : Int) then
   some (({ y0 with works := y0.works.set y1.worker.toNat ({ aab y0.works y1.worker with sleeps := false } : WlV) } : SaV), ())
   else none
   else none
   else
   if y1.worker = y1.worker then
   if 0 ≤ y1.worker ∧ y1.worker < ((y0.works.length : Nat) : Int) then
   some (({ y0 with works := y0.works.set y1.worker.toNat ({ aab y0.works y1.worker with sleeps := false } : WlV) } : SaV), ())
   else none
   else none
  ) : Option (SaV × Unit)).bind fun z13 =>
  if 0 ≤ y1.worker ∧ y1.worker < ((z13.1.works.length : Nat) : Int) then
   some (((aab z13.1.works y1.worker).sleeps, ()), (({ z13.1 with works := z13.1.works.set y1.worker.toNat (aab z13.1.works y1.worker) } : SaV), ()))
  else none
 else
 if y1.kind = 17 then
  if 0 ≤ y1.worker ∧ y1.worker < ((y0.works.length : Nat) : Int) then
   if y1.other = 1 then
   some ((true, ()), (({ y0 with works := y0.works.set y1.worker.toNat ({ aab y0.works y1.worker with sleeps := false } : WlV) } : SaV), ()))
   else
   some ((decide (y1.other = 2), ()), (({ y0 with works := y0.works.set y1.worker.toNat ({ aab y0.works y1.worker with sleeps := false } : WlV) } : SaV), ()))
  else none
 else
 if y1.kind = 18 then
  if 0 ≤ y1.other then
   some ((decide (y1.other < y0.c.workers), ()), (y0, ()))
  else
  some ((false, ()), (y0, ()))
 else
 if 0 ≤ y1.task ∧ y1.task < ((y0.tasks.length : Nat) : Int) then
  some ((decide (((aaa y0.tasks y1.task).view.phase) ≠ 0), ()), (({ y0 with tasks := y0.tasks.set y1.task.toNat (aaa y0.tasks y1.task) } : SaV), ()))
 else none
noncomputable abbrev adl : Con SR1 := ⟨79, [.ref 66, .val 2], [.sh .b], fun x => aaH x.1 x.2.1⟩
noncomputable def afd : List (Nat × Func) := [(94, Tryz.f94)]
theorem afe : CO Tryz.prog adl := aas aar Tryz.func79 [adj, adh, adr, adk, acT, adi, abZ] ⟨afa, ae6, afH, afb, aeT, ae9, acV, trivial⟩ afd ⟨Tryz.func94, trivial⟩ (fun _ => []) [(4, .cut [.rg 8 .b] [0, 6]), (7, .cut [.rg 14 .b] [0, 6]), (10, .cut [.rg 20 .b] [0, 6]), (13, .cut [.rg 26 .b] [0, 6]), (19, .cut [.rg 37 .b] [0, 6]), (29, .cut [.ob 0 66] [6])] fun x => by kernel_rfl
noncomputable def aal (y0 : SaV) (y1 : Ev) : Option ((Bool × Unit) × (SaV × Unit)) :=
 (aaL y0 y1).bind fun r1 =>
 if (!r1.1.1) = true then
  some ((false, ()), (r1.2.1, ()))
 else
 (aaH r1.2.1 y1).bind fun r2 =>
 if (!r2.1.1) = true then
  some ((false, ()), (r2.2.1, ()))
 else
 if y1.worker < r2.2.1.c.workers then
  if 0 ≤ y1.worker ∧ y1.worker < ((r2.2.1.works.length : Nat) : Int) then
   some ((true, ()), (({ r2.2.1 with works := r2.2.1.works.set y1.worker.toNat ({ aab r2.2.1.works y1.worker with last := y1 } : WlV) } : SaV), ()))
  else none
 else
 some ((true, ()), (r2.2.1, ()))
noncomputable abbrev adQ : Con SR1 := ⟨57, [.ref 66, .val 2], [.sh .b], fun x => aal x.1 x.2.1⟩
theorem agf : CO Tryz.prog adQ := aas aar Tryz.func57 [adt, adl] ⟨afK, afe, trivial⟩ [] trivial (fun _ => []) [] fun x => by kernel_rfl
noncomputable def acf (y0 : Cfg) (y1 : List Ev) : Option ((List VwV × Int × Int × Unit) × (Unit)) :=
 (aih y0).bind fun r1 =>
 if r1.1.1 ≠ 0 then
  some (([], 0, r1.1.1, ()), (()))
 else
 (abj y0).bind fun r2 =>
 (lpF (σ := Int × Int × Int × SaV × Unit) (β := Int × Int × Int × SaV × Unit) (fun self5 x3 =>
  if x3.2.2.1 < ((y1.length : Nat) : Int) then
   if 0 ≤ x3.2.2.1 ∧ x3.2.2.1 < ((y1.length : Nat) : Int) then
   (aal x3.2.2.2.1 (ax5 y1 x3.2.2.1)).bind fun r6 =>
   if (!r6.1.1) = true then
   some (x3.2.2.1, 6, x3.2.2.1, r6.2.1, ())
   else
   self5 (x3.1, x3.2.1, wi (x3.2.2.1 + 1), r6.2.1, ())
   else none
  else
  some (x3.1, x3.2.1, x3.2.2.1, x3.2.2.2.1, ())
 ) 18446744073709551616 (((y1.length : Nat) : Int), 0, 0, r2.1.1, ())).bind fun z4 =>
 (abj y0).bind fun r7 =>
 (lpF (σ := Int × SaV × Unit) (β := Int × SaV × Unit) (fun self10 x8 =>
  if x8.1 < z4.1 then
   if 0 ≤ x8.1 ∧ x8.1 < ((y1.length : Nat) : Int) then
   (aal x8.2.1 (ax5 y1 x8.1)).bind fun r11 =>
   self10 (wi (x8.1 + 1), r11.2.1, ())
   else none
  else
  some (x8.1, x8.2.1, ())
 ) 18446744073709551616 (0, r7.1.1, ())).bind fun z9 =>
 (lpF (σ := List VwV × Int × SaV × Unit) (β := List VwV × Int × SaV × Unit) (fun self14 x12 =>
  if x12.2.1 < ((x12.2.2.1.tasks.length : Nat) : Int) then
   if 0 ≤ x12.2.1 ∧ x12.2.1 < ((x12.2.2.1.tasks.length : Nat) : Int) then
   if (((x12.1.length + ([(aaa x12.2.2.1.tasks x12.2.1).view] : List VwV).length : Nat)) : Int) < 1000000000000 then
   self14 (x12.1 ++ ([(aaa x12.2.2.1.tasks x12.2.1).view]), wi (x12.2.1 + 1), x12.2.2.1, ())
   else none
   else none
  else
  some (x12.1, x12.2.1, x12.2.2.1, ())
 ) 18446744073709551616 ([], 0, z9.2.1, ())).bind fun z13 =>
 some ((z13.1, z4.1, z4.2.1, ()), (()))
noncomputable abbrev ad2 : Con SR1 := ⟨39, [.val 13, .sh (.ro 2)], [.sh (.row 62), .sh sI_, .sh sI_], fun x => acf x.1 x.2.1⟩
theorem agQ : CO Tryz.prog ad2 := aas aar Tryz.func39 [akc, aff, adQ] ⟨alF, air, agf, trivial⟩ [] trivial (fun _ => []) [(18, .loop [.rg 13 (.row 62), .rg 14 sI_, .ob 1000010 66] 18446744073709551616 4), (7, .loop [.rg 8 sI_, .rg 9 sI_, .rg 11 sI_, .rg 10 (.own 66)] 18446744073709551616 0), (13, .loop [.rg 12 sI_, .rg 10 (.own 66)] 18446744073709551616 2)] fun x => by kernel_rfl
noncomputable def ab1 (y0 : Cfg) (y1 : List Ev) : Option ((List Int × Int × Unit) × (Unit)) :=
 (acf y0 y1).bind fun r1 =>
 (lpF (σ := List Int × Int × Unit) (β := List Int × Int × Unit) (fun self4 x2 =>
  if x2.2.1 < ((r1.1.1.length : Nat) : Int) then
   if 0 ≤ x2.2.1 ∧ x2.2.1 < ((r1.1.1.length : Nat) : Int) then
   if (((x2.1.length + ([(avp r1.1.1 x2.2.1).phase] : List Int).length : Nat)) : Int) < 1000000000000 then
   self4 (x2.1 ++ ([(avp r1.1.1 x2.2.1).phase]), wi (x2.2.1 + 1), ())
   else none
   else none
  else
  some (x2.1, x2.2.1, ())
 ) 18446744073709551616 ([], 0, ())).bind fun z3 =>
 some ((z3.1, r1.1.2.1, ()), (()))
noncomputable abbrev aeN : Con SR1 := ⟨19, [.val 13, .sh (.ro 2)], [.sh (.row 1), .sh sI_], fun x => ab1 x.1 x.2.1⟩
theorem ahG : CO Tryz.prog aeN := aas aar Tryz.func19 [ad2] ⟨agQ, trivial⟩ [] trivial (fun _ => []) [(4, .loop [.rg 9 (.row 1), .rg 10 sI_] 18446744073709551616 0)] fun x => by kernel_rfl
theorem abM {α β : Type} (a : α) (f : α → Option β) : (some a).bind f = f a := rfl
structure LenOk (c : Cfg) : Prop where
  ps : c.progs.length ≤ 1000000
  pl : ∀ p ∈ c.progs, p.length ≤ 1000000
  ss : c.subs.length ≤ 1000000
theorem aoF {lv np : Int} : ∀ {ps : List (List Ins)}, aaO lv np ps = 0 → ∀ p ∈ ps, p.length ≤ 32
  | [], _, p, h => by cases h
  | q :: ps, h, p, hm => by
    unfold aaO at h
    split at h
    · omega
    · split at h
      · rcases List.mem_cons.1 hm with e | e
        · subst e; omega
        · exact aoF h p e
      · omega
theorem alq {c : Cfg} (h : ab5 c = 0) : ahn c = true ∧ c.progs.length ≤ 32 ∧ (∀ p ∈ c.progs, p.length ≤ 32) ∧ c.subs.length ≤ 64 := by
  unfold ab5 at h
  split at h
  · omega
  · rename_i hn
    split at h
    · omega
    · rename_i hp
      have hp0 : abR c = 0 := by omega
      unfold abR at hp0
      split at hp0
      · omega
      · rename_i hl
        simp only [inB, Bool.not_eq_true', Bool.and_eq_false_iff, decide_eq_false_iff_not, not_or, Classical.not_not, Bool.not_eq_false, Bool.and_eq_true, decide_eq_true_eq] at hl
        refine ⟨by simpa using hn, by omega, aoF hp0, ?_⟩
        unfold adH at h
        split at h
        · omega
        · omega
theorem LenOk.of {c : Cfg} (h : ab5 c = 0) : LenOk c := by
  obtain ⟨_, h1, h2, h3⟩ := alq h
  exact ⟨by omega, fun p hp => by have := h2 p hp; omega, by omega⟩
abbrev ClS := Int × Int × Int × Int × Int × Int × Int × Int × Int × List (List Ins) × List Sub × Unit
def clS (c : Cfg) : ClS := (c.workers, c.levels, c.classes, c.tasks, c.deque, c.heap, c.batch, c.age, c.patience, c.progs, c.subs, ())
theorem asd {α : Type} {xs : List α} {i : Nat} {x : α} (h : xs[i]? = some x) : xs.set i x = xs := by
  obtain ⟨hlt, rfl⟩ := List.getElem?_eq_some_iff.1 h
  simp
theorem avm {c : Cfg} (h : LenOk c) : afC c = some ((c, ()), ()) := by
  have hg : abi (afC c) fun o => o.1.1 = c := by
    unfold afC
    have e0 : agK c.progs = some ((c.progs, ()), ()) := by unfold agK; rw [if_pos h.ps]
    rw [e0, abM]
    refine abi.bind (P := fun z => z.2.1 = clS c) (af6 (fun x => x.2.1 = clS c ∧ 0 ≤ x.1 ∧ x.1 ≤ (c.progs.length : Int)) (fun x => ((c.progs.length : Int) - x.1).toNat) (fun self x ⟨q0, q1, q2⟩ ih => ?_) _ _ ⟨rfl, Int.le_refl 0, by show (0 : Int) ≤ _; omega⟩ (by show ((c.progs.length : Int) - 0).toNat < _; have := h.ps; omega)) fun z hz => ?_
    rotate_left
    · obtain ⟨i, s, u⟩ := x
      simp only at q0 q1 q2
      subst q0
      refine abi.ite (fun hlt => ?_) fun _ => .some_ rfl
      have hin : 0 ≤ i ∧ i < ((c.progs.length : Nat) : Int) := ⟨q1, hlt⟩
      refine abi.guard (show 0 ≤ i ∧ i < (((clS c).2.2.2.2.2.2.2.2.2.1.length : Nat) : Int) from hin) fun _ => ?_
      have hm := h.pl _ (avo (d := (dfR 18 : List Ins)) hin)
      have e1 : aiq (atR (clS c).2.2.2.2.2.2.2.2.2.1 i) = some ((atR c.progs i, ()), ()) := by
        unfold aiq; exact if_pos hm
      rw [e1, abM]
      refine abi.guard (show 0 ≤ i ∧ i < (((clS c).2.2.2.2.2.2.2.2.2.1.length : Nat) : Int) from hin) fun _ => ?_
      have e2 : wi (i + 1) = i + 1 := acp (abc (by have := h.ps; omega))
      have e3 : c.progs.set i.toNat (atR c.progs i) = c.progs := asd (aej hin)
      rw [e2]
      refine ih _ ⟨?_, by show 0 ≤ i + 1; omega, by show i + 1 ≤ _; omega⟩ (by show ((c.progs.length : Int) - (i + 1)).toNat < ((c.progs.length : Int) - i).toNat; omega)
      show (c.workers, c.levels, c.classes, c.tasks, c.deque, c.heap, c.batch, c.age, c.patience, c.progs.set i.toNat (atR c.progs i), c.subs, ()) = clS c
      rw [e3]; rfl
    · rw [hz]
      have e4 : agJ (clS c).2.2.2.2.2.2.2.2.2.2.1 = some ((c.subs, ()), ()) := by unfold agJ; exact if_pos h.ss
      rw [e4, abM]
      exact .some_ rfl
  obtain ⟨o, e, ho⟩ := hg
  rw [e]
  obtain ⟨⟨o1, ⟨⟩⟩, ⟨⟩⟩ := o
  simp only at ho
  rw [ho]
def auV (c : Cfg) : LayV := { workers := c.workers, levels := c.levels, classes := c.classes, tasks := c.tasks, deque := c.deque, heap := c.heap, sleepers := 4 + c.heap, epochs := 4 + c.heap + c.classes, bitmaps := 4 + c.heap + c.classes + c.workers, queues := 4 + c.heap + c.classes + c.workers + c.workers, table := 4 + c.heap + c.classes + c.workers + c.workers + c.workers * c.levels * (2 + c.deque) }
def aeQ (c : Cfg) : Int := (auV c).table + 5 * c.tasks
theorem aAK {a b A B : Int} (ha : 0 ≤ a) (hA : a ≤ A) (hb : 0 ≤ b) (hB : b ≤ B) : 0 ≤ a * b ∧ a * b ≤ A * B :=
  ⟨Int.mul_nonneg ha hb, Int.le_trans (Int.mul_le_mul_of_nonneg_right hA hb) (Int.mul_le_mul_of_nonneg_left hB (Int.le_trans ha hA))⟩
theorem aqz {c : Cfg} (h : ahn c = true) : (0 ≤ c.workers * c.levels ∧ c.workers * c.levels ≤ 1024) ∧ (0 ≤ c.workers * c.levels * (2 + c.deque) ∧ c.workers * c.levels * (2 + c.deque) ≤ 67584) := by
  have hs := afy h
  have h1 := aAK (a := c.workers) (b := c.levels) (A := 16) (B := 64) (by omega) (by omega) (by omega) (by omega)
  have h2 := aAK (a := c.workers * c.levels) (b := 2 + c.deque) (A := 1024) (B := 66) h1.1 (by omega) (by omega) (by omega)
  omega
theorem as2 {c : Cfg} (h : ab5 c = 0) : ajN c = some ((auV c, 0, ()), ()) := by
  have hn := (alq h).1
  have hs := afy hn
  have ht := aqz hn
  unfold ajN an7
  rw [abM]
  have e0 : ¬ ab5 c ≠ 0 := by omega
  simp only [if_neg e0]
  have e1 : wi (4 + c.heap) = 4 + c.heap := acp (abc (by omega))
  have e2 : wi (4 + c.heap + c.classes) = 4 + c.heap + c.classes := acp (abc (by omega))
  have e3 : wi (4 + c.heap + c.classes + c.workers) = 4 + c.heap + c.classes + c.workers := acp (abc (by omega))
  have e4 : wi (4 + c.heap + c.classes + c.workers + c.workers) = 4 + c.heap + c.classes + c.workers + c.workers := acp (abc (by omega))
  have e5 : wi (c.workers * c.levels) = c.workers * c.levels := acp (abc (by omega))
  have e6 : wi (2 + c.deque) = 2 + c.deque := acp (abc (by omega))
  have e7 : wi (c.workers * c.levels * (2 + c.deque)) = c.workers * c.levels * (2 + c.deque) := acp (abc (by omega))
  have e8 : wi (4 + c.heap + c.classes + c.workers + c.workers + c.workers * c.levels * (2 + c.deque)) = 4 + c.heap + c.classes + c.workers + c.workers + c.workers * c.levels * (2 + c.deque) := acp (abc (by omega))
  simp only [e1, e2, e3, e4, e5, e6, e7, e8]
  rfl
def avG : RecP := ⟨0, -1, 0, 0, -1, [], false⟩
def avV (c : Cfg) : EnvP := ⟨c, auV c, ⟨List.replicate (aeQ c).toNat 0, ⟨0, 0, 0, 0⟩, 0⟩, ⟨0, 0⟩, List.replicate c.tasks.toNat avG, []⟩
theorem ay1 {c : Cfg} (h : ab5 c = 0) : agB c = some ((avV c, 0, ()), ()) := by
  have hn := (alq h).1
  have hs := afy hn
  have ht := aqz hn
  have hg : abi (agB c) fun o => o.1.1 = avV c ∧ o.1.2.1 = 0 := by
    unfold agB
    rw [as2 h, abM]
    refine abi.ite (fun e => absurd rfl e) fun _ => ?_
    have c1 : wi (5 * c.tasks) = 5 * c.tasks := acp (abc (by omega))
    have c2 : wi ((auV c).table + 5 * c.tasks) = aeQ c := acp (abc (by unfold auV; simp only; omega))
    have e1 : aq3 (auV c) = some ((aeQ c, ()), ()) := by
      unfold aq3
      have : wi (5 * (auV c).tasks) = 5 * c.tasks := c1
      rw [this, c2]
    rw [e1, abM]
    have hc : 0 ≤ aeQ c ∧ aeQ c ≤ 131072 := by unfold aeQ auV; simp only; omega
    have e2 : ag1 (aeQ c) = some ((⟨⟨0, 0, 0, 0, 0, 0, 0, 0, 0, [], []⟩, ⟨0, 0, 0, 0, 0, 0, 0, 0, 0, 0, 0⟩, ⟨List.replicate (aeQ c).toNat 0, ⟨0, 0, 0, 0⟩, 0⟩, ⟨0, 0⟩, [], []⟩, ()), ()) := by
      unfold ag1 alV an5
      have i1 : (if aeQ c < 0 then (0 : Int) else aeQ c) = aeQ c := if_neg (by omega)
      have i2 : (if 131072 < aeQ c then (131072 : Int) else aeQ c) = aeQ c := if_neg (by omega)
      have i3 : 0 ≤ aeQ c ∧ aeQ c ≤ 1099511627776 := by omega
      simp only [i1, i2, if_true, if_pos i3, abM]
    rw [e2, abM, avm (.of h), abM]
    simp only [if_true]
    refine abi.bind (P := fun z => z.2.1 = avV c) (af6 (fun x => 0 ≤ x.1 ∧ x.1 ≤ c.tasks ∧ x.2.1 = { avV c with recs := List.replicate x.1.toNat avG }) (fun x => (c.tasks - x.1).toNat) (fun self x ⟨q0, q1, q2⟩ ih => ?_) _ _ ⟨Int.le_refl 0, by show (0 : Int) ≤ _; omega, rfl⟩ (by show (c.tasks - 0).toNat < _; omega)) fun z hz => .some_ ⟨hz, rfl⟩
    obtain ⟨i, e, u⟩ := x
    simp only at q0 q1 q2
    subst q2
    refine abi.ite (fun hlt => ?_) fun hge => .some_ ?_
    · have hl : (List.replicate i.toNat avG).length = i.toNat := List.length_replicate
      refine abi.guard ?_ fun _ => ?_
      · show (((List.replicate i.toNat avG).length + 1 : Nat) : Int) < 100000000000
        rw [hl]
        have hlt' : i < c.tasks := hlt
        omega
      · have hlt' : i < c.tasks := hlt
        have e2 : wi (i + 1) = i + 1 := acp (abc (by omega))
        rw [e2]
        refine ih _ ⟨by show 0 ≤ i + 1; omega, by show i + 1 ≤ _; omega, ?_⟩ (by show (c.tasks - (i + 1)).toNat < (c.tasks - i).toNat; omega)
        show ({ avV c with recs := List.replicate i.toNat avG ++ [avG] } : EnvP) = { avV c with recs := List.replicate (i + 1).toNat avG }
        have e3 : (i + 1).toNat = i.toNat + 1 := by omega
        rw [e3, List.replicate_succ']
    · show ({ avV c with recs := List.replicate i.toNat avG } : EnvP) = avV c
      have : i = c.tasks := by have hge' : ¬ i < c.tasks := hge; omega
      rw [this]; rfl
  obtain ⟨o, e, ho1, ho2⟩ := hg
  rw [e]
  obtain ⟨⟨o1, o2, ⟨⟩⟩, ⟨⟩⟩ := o
  simp only at ho1 ho2
  rw [ho1, ho2]
end
section
open Go Go.RowKit
set_option maxRecDepth 1000000
variable [Tb]
def amE (P : List Ins) (kids : List Int) (j : Nat) : Prop :=
  ∃ i, P[j]? = some i ∧ i.op ≠ 1 ∧ (i.op = 2 → 0 ≤ i.a ∧ ((kids.length : Int) ≤ i.a ∨ aaf kids i.a = -1))
def av9 (P : List Ins) (kids : List Int) (j : Nat) : Prop :=
  ∃ i, P[j]? = some i ∧ (i.op = 1 ∨ i.op = 2 ∧ (0 ≤ i.a ∧ i.a < (kids.length : Int)) ∧ aaf kids i.a ≠ -1)
def anl (ts : List TkV) (t : Nat) (tk : TkV) (j : Nat) : List TkV := ts.set t { tk with pc := (j : Int) }
section
variable {s : SaV} {t : Nat} {tk : TkV} {P : List Ins} {n j : Nat}
theorem avY (ht : t < s.tasks.length) : aaa (anl s.tasks t tk j) (t : Int) = { tk with pc := (j : Int) } := by
  show (((s.tasks.set t _)[((t : Int)).toNat]?).getD _) = _
  rw [Int.toNat_natCast, List.getElem?_set_self ht]
  rfl
theorem at2 (u : TkV) : (anl s.tasks t tk j).set ((t : Int)).toNat u = s.tasks.set t u := by
  unfold anl
  rw [Int.toNat_natCast, List.set_set]
theorem aln {P : List Ins} {j : Nat} {i : Ins} (h : P[j]? = some i) : abb P (j : Int) = i := by
  show ((P[((j : Int)).toNat]?).getD _) = _
  rw [Int.toNat_natCast, h]; rfl
abbrev PrS := List TkV × Ins × Unit
abbrev PrO := PrS ⊕ ((Ins × Bool × Unit) × (SaV × Unit))
theorem amX (ht : t < s.tasks.length) (hk : s.tasks[t]? = some tk) (hp : 0 ≤ tk.prog ∧ tk.prog < ((s.c.progs.length : Nat) : Int)) (hP : atL [] s.c.progs tk.prog = P) (hn : P.length ≤ 1000000)
    {m : Nat} (hm : tk.pc = (m : Int)) (hmn : m ≤ n) (hle : n ≤ P.length) (hs : ∀ j, m ≤ j → j < n → amE P tk.kids j) :
    (n = P.length → aak s (t : Int) = some ((⟨0, 0, 0⟩, false, ()), ({ s with tasks := anl s.tasks t tk n }, ()))) ∧
    (∀ i, P[n]? = some i → av9 P tk.kids n → aak s (t : Int) = some ((i, true, ()), ({ s with tasks := anl s.tasks t tk n }, ()))) := by
  have hat : aaa s.tasks (t : Int) = tk := by
    show ((s.tasks[((t : Int)).toNat]?).getD _) = _
    rw [Int.toNat_natCast, hk]; rfl
  have h0 : s.tasks.set ((t : Int)).toNat (aaa s.tasks (t : Int)) = anl s.tasks t tk m := by
    unfold anl
    rw [hat, Int.toNat_natCast, ← hm]
  have hin : 0 ≤ (t : Int) ∧ (t : Int) < ((s.tasks.length : Nat) : Int) := by omega
  unfold aak
  rw [if_pos hin, hat, if_pos hp, hP]
  rw [hat] at h0
  rw [h0]
  have run : ∀ (d : Nat) (j k : Nat) (z : Ins) (F : (PrS → Option PrO) → PrS → Option PrO), F = (fun self3 x1 =>
    if ((aaa x1.1 (t : Int)).pc) < ((P.length : Nat) : Int) then
     if 0 ≤ (aaa x1.1 (t : Int)).pc ∧ (aaa x1.1 (t : Int)).pc < ((P.length : Nat) : Int) then
      if ((abb P ((aaa x1.1 (t : Int)).pc)).op) = 1 then
       Option.map Sum.inr (
        some ((abb P ((aaa x1.1 (t : Int)).pc), true, ()), (({ s with tasks := x1.1 } : SaV), ()))
       )
      else
      if ((abb P ((aaa x1.1 (t : Int)).pc)).op) = 2 then
       if ((abb P ((aaa x1.1 (t : Int)).pc)).a) < ((((aaa x1.1 (t : Int)).kids).length : Nat) : Int) then
        if 0 ≤ (abb P ((aaa x1.1 (t : Int)).pc)).a ∧ (abb P ((aaa x1.1 (t : Int)).pc)).a < ((((aaa x1.1 (t : Int)).kids).length : Nat) : Int) then
         if (aaf ((aaa x1.1 (t : Int)).kids) ((abb P ((aaa x1.1 (t : Int)).pc)).a)) ≠ (-1) then
          Option.map Sum.inr (
           some ((abb P ((aaa x1.1 (t : Int)).pc), true, ()), (({ s with tasks := x1.1.set ((t : Int)).toNat (aaa x1.1 (t : Int)) } : SaV), ()))
          )
         else
         self3 (x1.1.set ((t : Int)).toNat ({ aaa x1.1 (t : Int) with pc := wi (((aaa x1.1 (t : Int)).pc) + 1) } : TkV), x1.2.1, ())
        else none
       else
       self3 (x1.1.set ((t : Int)).toNat ({ aaa x1.1 (t : Int) with pc := wi (((aaa x1.1 (t : Int)).pc) + 1) } : TkV), x1.2.1, ())
      else
      self3 (x1.1.set ((t : Int)).toNat ({ aaa x1.1 (t : Int) with pc := wi (((aaa x1.1 (t : Int)).pc) + 1) } : TkV), x1.2.1, ())
     else none
    else
    some (Sum.inl (x1.1, x1.2.1, ()))) → d = n - j → m ≤ j → j ≤ n → d < k →
      (n = P.length → lpF F k (anl s.tasks t tk j, z, ()) = some (.inl (anl s.tasks t tk n, z, ()))) ∧
      (∀ i, P[n]? = some i → av9 P tk.kids n → lpF F k (anl s.tasks t tk j, z, ()) = some (.inr ((i, true, ()), ({ s with tasks := anl s.tasks t tk n }, ())))) := by
    intro d
    induction d with
    | zero =>
      intro j k z F hF hd hmj hjn hk
      obtain ⟨k, rfl⟩ : ∃ k', k = k' + 1 := ⟨k - 1, by omega⟩
      obtain rfl : j = n := by omega
      have e1 : lpF F (k + 1) (anl s.tasks t tk j, z, ()) = F (lpF F k) (anl s.tasks t tk j, z, ()) := rfl
      rw [e1, hF]
      dsimp only
      rw [avY ht]
      refine ⟨fun hl => ?_, fun i hi hst => ?_⟩
      · rw [if_neg (by show ¬ (j : Int) < ((P.length : Nat) : Int); omega)]
      · have hj : j < P.length := (List.getElem?_eq_some_iff.1 hi).1
        have hg : 0 ≤ (j : Int) ∧ (j : Int) < ((P.length : Nat) : Int) := by omega
        rw [if_pos (by exact hg.2), if_pos (by exact hg)]
        dsimp only
        rw [aln hi]
        obtain ⟨i', hi', hc⟩ := hst
        obtain rfl : i = i' := Option.some.inj (hi.symm.trans hi')
        rcases hc with hc | ⟨hc, ha, hne⟩
        · rw [if_pos hc]; rfl
        · rw [if_neg (by omega), if_pos hc, if_pos ha.2, if_pos ha, if_pos hne]
          have e2 : (anl s.tasks t tk j).set ((t : Int)).toNat { tk with pc := (j : Int) } = anl s.tasks t tk j := by
            rw [at2]; rfl
          rw [e2]; rfl
    | succ d ih =>
      intro j k z F hF hd hmj hjn hk
      obtain ⟨k, rfl⟩ : ∃ k', k = k' + 1 := ⟨k - 1, by omega⟩
      have ih' := ih (j + 1) k z F hF (by omega) (by omega) (by omega) (by omega)
      have e1 : lpF F (k + 1) (anl s.tasks t tk j, z, ()) = lpF F k (anl s.tasks t tk (j + 1), z, ()) := by
        have e1 : lpF F (k + 1) (anl s.tasks t tk j, z, ()) = F (lpF F k) (anl s.tasks t tk j, z, ()) := rfl
        rw [e1]
        generalize lpF F k = self
        rw [hF]
        dsimp only
        rw [avY ht]
        have hj : j < P.length := by omega
        have hg : 0 ≤ (j : Int) ∧ (j : Int) < ((P.length : Nat) : Int) := by omega
        rw [if_pos (by exact hg.2), if_pos (by exact hg)]
        dsimp only
        obtain ⟨i, hi, h1, h2⟩ := hs j hmj (by omega)
        have e2 : wi ((j : Int) + 1) = ((j + 1 : Nat) : Int) := (acp (abc (by omega))).trans (by omega)
        rw [aln hi, if_neg h1, e2]
        simp only [at2]
        by_cases h3 : i.op = 2
        · rw [if_pos h3]
          obtain ⟨h4, h5⟩ := h2 h3
          by_cases h6 : i.a < ((tk.kids.length : Nat) : Int)
          · rcases h5 with h5 | h5
            · omega
            · rw [if_pos h6, if_pos ⟨h4, h6⟩, if_neg (fun h => h h5)]; rfl
          · rw [if_neg h6]; rfl
        · rw [if_neg h3]; rfl
      rw [e1]
      exact ih'
  obtain ⟨r1, r2⟩ := run (n - m) m 18446744073709551616 ⟨0, 0, 0⟩ _ rfl rfl (Nat.le_refl _) hmn (by omega)
  refine ⟨fun hl => ?_, fun i hi hst => ?_⟩
  · rw [r1 hl]; rfl
  · rw [r2 i hi hst]; rfl
end
noncomputable def afM : List Ev → SaV → Option SaV
  | [], s => some s
  | e :: l, s => (aal s e).bind fun o => if o.1.1 = true then afM l o.2.1 else none
theorem ao4 {e : Ev} : ∀ {l : List Ev} {s : SaV}, afM (l ++ [e]) s = (afM l s).bind fun s' => afM [e] s'
  | [], s => by
    show afM [e] s = _
    rfl
  | x :: l, s => by
    have e1 : ∀ l' : List Ev, afM (x :: l') s = (aal s x).bind fun o => if o.1.1 = true then afM l' o.2.1 else none := fun _ => rfl
    show afM (x :: (l ++ [e])) s = _
    rw [e1, e1]
    cases aal s x with
    | none => rfl
    | some o =>
      rw [abM, abM]
      by_cases h : o.1.1 = true
      · rw [if_pos h, if_pos h]; exact ao4
      · rw [if_neg h, if_neg h]; rfl
def cJ (p q : List Ins) (d : Int) : Cfg := ⟨1, 2, 1, 12, d, 1, 1, 0, 1, [p, q], [⟨0, 0, 0⟩]⟩
def tkA : TkV := ⟨⟨0, -1, -1, -1, -1⟩, 0, 0, []⟩
def t0J (ph wk ot pc : Int) (kids : List Int) : TkV := ⟨⟨ph, 0, -1, wk, ot⟩, 0, pc, kids⟩
def kdJ (lvl ph wk pc : Int) : TkV := ⟨⟨ph, lvl, 0, wk, -1⟩, 1, pc, []⟩
def wJ (st : List Int) (walk low up : Int) (last : Ev) : WlV := ⟨st, walk, low, up, false, last⟩
def mJ (p q : List Ins) (d : Int) (t0 : TkV) (ks : List TkV) (w : WlV) : SaV := ⟨cJ p q d, t0 :: (ks ++ List.replicate (11 - ks.length) tkA), [w], ⟨[⟨0, 0, 0⟩], 1⟩, 1⟩
def acy (k : Nat) : List Int := (List.range k).map fun i : Nat => (i : Int) + 1
theorem ap3 (s : SaV) (w t o l : Int) : aaH s ⟨3, w, t, o, l⟩ = (aaP s ⟨3, w, t, o, l⟩).bind fun r => some ((r.1.1, ()), (r.2.1, ())) := by kernel_rfl
theorem ap6 (s : SaV) (w t o l : Int) : aaH s ⟨6, w, t, o, l⟩ = (aaK s ⟨6, w, t, o, l⟩).bind fun r => some ((r.1.1, ()), (r.2.1, ())) := by kernel_rfl
theorem ap8 (s : SaV) (w t o l : Int) : aaH s ⟨8, w, t, o, l⟩ = (aaK s ⟨8, w, t, o, l⟩).bind fun r => some ((r.1.1, ()), (r.2.1, ())) := by kernel_rfl
theorem aAQ (s : SaV) (w t o l : Int) : aaH s ⟨10, w, t, o, l⟩ = (aaM s ⟨10, w, t, o, l⟩).bind fun r => some ((r.1.1, ()), (r.2.1, ())) := by kernel_rfl
theorem att {s s' : SaV} {e : Ev} (h1 : aaL s e = some ((true, ()), (s, ()))) (h2 : aaH s e = some ((true, ()), (s', ()))) (h3 : e.worker < s'.c.workers) (h4 : 0 ≤ e.worker ∧ e.worker < ((s'.works.length : Nat) : Int)) :
    aal s e = some ((true, ()), ({ s' with works := s'.works.set e.worker.toNat { aab s'.works e.worker with last := e } }, ())) := by
  unfold aal
  rw [h1, abM]
  show (if (!true) = true then _ else (aaH s e).bind _) = _
  rw [if_neg (by decide), h2, abM]
  show (if (!true) = true then _ else if e.worker < s'.c.workers then _ else _) = _
  rw [if_neg (by decide), if_pos h3, if_pos h4]
section
variable {p q : List Ins} {d b walk low up pc m : Int} {last : Ev} {ks : List TkV} {n : Nat} {t0 : TkV}
theorem aol {st : List Int} {x : Int} (hx : st = [x] ∨ ∃ y, st = [y, x]) : aav (mJ p q d t0 ks (wJ st walk low up last)) 0 x = some ((true, ()), (mJ p q d t0 ks (wJ st walk low up last), ())) := by
  have key : ∀ b : Bool, b = true → some ((b, ()), (mJ p q d t0 ks (wJ st walk low up last), ())) = some ((true, ()), (mJ p q d t0 ks (wJ st walk low up last), ())) := fun b h => by rw [h]
  rcases hx with rfl | ⟨y, rfl⟩
  · exact Eq.trans (by kernel_rfl) (key (decide (x = x)) (decide_eq_true rfl))
  · exact Eq.trans (by kernel_rfl) (key (decide (x = x)) (decide_eq_true rfl))
theorem auA {kids : List Int} {ph wk ot : Int} {mm nn : Nat} {w : WlV} (hn : p.length ≤ 1000000) (hmn : mm ≤ nn) (hle : nn ≤ p.length) (hs : ∀ j, mm ≤ j → j < nn → amE p kids j) :
    (nn = p.length → aak (mJ p q d (t0J ph wk ot (mm : Int) kids) ks w) 0 = some ((⟨0, 0, 0⟩, false, ()), (mJ p q d (t0J ph wk ot (nn : Int) kids) ks w, ()))) ∧
    (∀ i, p[nn]? = some i → av9 p kids nn → aak (mJ p q d (t0J ph wk ot (mm : Int) kids) ks w) 0 = some ((i, true, ()), (mJ p q d (t0J ph wk ot (nn : Int) kids) ks w, ()))) := by
  have h := amX (s := mJ p q d (t0J ph wk ot (mm : Int) kids) ks w) (t := 0) (tk := t0J ph wk ot (mm : Int) kids) (P := p) (n := nn) (m := mm) (by show 0 < _ + 1; omega) rfl ⟨by show (0 : Int) ≤ 0; decide, by show (0 : Int) < 2; decide⟩ rfl hn rfl hmn hle hs
  exact h
theorem avc {k mm nn : Nat} (hk : ks.length = k) (hk5 : k ≤ 5) (hb : b = 0 ∨ b = 1) (hn : p.length ≤ 1000000) (hmn : mm ≤ nn) (hs : ∀ j, mm ≤ j → j < nn → amE p (acy k) j) (hi : p[nn]? = some ⟨1, 1, b⟩) :
    aal (mJ p q d (t0J 2 0 (-1) (mm : Int) (acy k)) ks (wJ [0] walk low up last)) ⟨3, 0, (k : Int) + 1, 0, b⟩ = some ((true, ()), (mJ p q d (t0J 2 0 (-1) (wi ((nn : Int) + 1)) (acy (k + 1))) (ks ++ [kdJ b 1 (-1) 0]) (wJ [0] walk low up ⟨3, 0, (k : Int) + 1, 0, b⟩), ())) := by
  have hle : nn < p.length := (List.getElem?_eq_some_iff.1 hi).1
  have hP := (auA (p := p) (q := q) (d := d) (ks := ks) (ph := 2) (wk := 0) (ot := -1) (kids := acy k) (mm := mm) (nn := nn) (w := wJ [0] walk low up last) hn hmn (by omega) hs).2 _ hi ⟨_, hi, .inl rfl⟩
  have hT := aol (p := p) (q := q) (d := d) (t0 := t0J 2 0 (-1) (mm : Int) (acy k)) (ks := ks) (walk := walk) (low := low) (up := up) (last := last) (st := [0]) (x := 0) (.inl rfl)
  have hS : aaP (mJ p q d (t0J 2 0 (-1) (mm : Int) (acy k)) ks (wJ [0] walk low up last)) ⟨3, 0, (k : Int) + 1, 0, b⟩ = some ((true, ()), (mJ p q d (t0J 2 0 (-1) (wi ((nn : Int) + 1)) (acy (k + 1))) (ks ++ [kdJ b 1 (-1) 0]) (wJ [0] walk low up last), ())) := by
    unfold aaP
    rw [if_neg (show ¬ (3 : Int) = 4 by decide)]
    show (aav _ 0 0).bind _ = _
    rw [hT, abM]
    show (if (!true) = true then _ else _) = _
    rw [if_neg (by decide)]
    show (aak _ 0).bind _ = _
    rw [hP, abM]
    clear hP hT hs hi hle hn hmn
    rcases hb with rfl | rfl <;> subst hk
    all_goals rcases ks with _ | ⟨x1, _ | ⟨x2, _ | ⟨x3, _ | ⟨x4, _ | ⟨x5, _ | ⟨x6, ks⟩⟩⟩⟩⟩⟩
    all_goals first | (exfalso; simp only [List.length_cons] at hk5; omega) | kernel_rfl
  have hF : aaL (mJ p q d (t0J 2 0 (-1) (mm : Int) (acy k)) ks (wJ [0] walk low up last)) ⟨3, 0, (k : Int) + 1, 0, b⟩ = some ((true, ()), (mJ p q d (t0J 2 0 (-1) (mm : Int) (acy k)) ks (wJ [0] walk low up last), ())) := by
    clear hP hT hS hs hi hle hn hmn
    rcases hb with rfl | rfl <;> subst hk
    all_goals rcases ks with _ | ⟨x1, _ | ⟨x2, _ | ⟨x3, _ | ⟨x4, _ | ⟨x5, _ | ⟨x6, ks⟩⟩⟩⟩⟩⟩
    all_goals first | (exfalso; simp only [List.length_cons] at hk5; omega) | kernel_rfl
  have hA := ap3 (mJ p q d (t0J 2 0 (-1) (mm : Int) (acy k)) ks (wJ [0] walk low up last)) 0 ((k : Int) + 1) 0 b
  rw [hS, abM] at hA
  exact att hF hA (by show (0 : Int) < 1; decide) ⟨by show (0 : Int) ≤ 0; decide, by show (0 : Int) < 1; decide⟩
theorem avb {k : Nat} (hk : ks.length = k) (hk5 : k ≤ 5) {w0 o0 l0 : Int} :
    aal (mJ p q d t0 (ks ++ [kdJ b 1 (-1) 0]) (wJ [0] walk low up ⟨3, w0, (k : Int) + 1, o0, l0⟩)) ⟨5, 0, (k : Int) + 1, 0, 0⟩ = some ((true, ()), (mJ p q d t0 (ks ++ [kdJ b 2 0 0]) (wJ [0, (k : Int) + 1] walk low up ⟨5, 0, (k : Int) + 1, 0, 0⟩), ())) := by
  subst hk
  rcases ks with _ | ⟨x1, _ | ⟨x2, _ | ⟨x3, _ | ⟨x4, _ | ⟨x5, _ | ⟨x6, ks⟩⟩⟩⟩⟩⟩
  all_goals first | (exfalso; simp only [List.length_cons] at hk5; omega) | kernel_rfl
theorem axI {k : Nat} (hk : ks.length = k) (hk5 : k ≤ 5) (hq : q.length ≤ 1000000) (hs : ∀ j, 0 ≤ j → j < q.length → amE q [] j) :
    aal (mJ p q d t0 (ks ++ [kdJ b 2 0 0]) (wJ [0, (k : Int) + 1] walk low up last)) ⟨10, 0, (k : Int) + 1, 0, 0⟩ = some ((true, ()), (mJ p q d t0 (ks ++ [kdJ b 4 (-1) ((q.length : Nat) : Int)]) (wJ [0] walk low up ⟨10, 0, (k : Int) + 1, 0, 0⟩), ())) := by
  have hlen : (mJ p q d t0 (ks ++ [kdJ b 2 0 0]) (wJ [0, (k : Int) + 1] walk low up last)).tasks[k + 1]? = some (kdJ b 2 0 0) := by
    show ((ks ++ [kdJ b 2 0 0]) ++ _)[k]? = _
    rw [List.getElem?_append_left (by rw [List.length_append]; show k < ks.length + 1; omega), List.getElem?_append_right (by omega), hk, Nat.sub_self]
    rfl
  have hP := (amX (s := mJ p q d t0 (ks ++ [kdJ b 2 0 0]) (wJ [0, (k : Int) + 1] walk low up last)) (t := k + 1) (tk := kdJ b 2 0 0) (P := q) (n := q.length) (m := 0) (List.getElem?_eq_some_iff.1 hlen).1 hlen ⟨by show (0 : Int) ≤ 1; decide, by show (1 : Int) < 2; decide⟩ rfl hq rfl (Nat.zero_le _) (Nat.le_refl _) hs).1 rfl
  have e1 : ((k + 1 : Nat) : Int) = (k : Int) + 1 := rfl
  rw [e1] at hP
  have e2 : ({ mJ p q d t0 (ks ++ [kdJ b 2 0 0]) (wJ [0, (k : Int) + 1] walk low up last) with tasks := anl (mJ p q d t0 (ks ++ [kdJ b 2 0 0]) (wJ [0, (k : Int) + 1] walk low up last)).tasks (k + 1) (kdJ b 2 0 0) q.length } : SaV) = mJ p q d t0 (ks ++ [kdJ b 2 0 ((q.length : Nat) : Int)]) (wJ [0, (k : Int) + 1] walk low up last) := by
    clear hP hlen hs hq e1
    generalize q.length = N
    subst hk
    rcases ks with _ | ⟨x1, _ | ⟨x2, _ | ⟨x3, _ | ⟨x4, _ | ⟨x5, _ | ⟨x6, ks⟩⟩⟩⟩⟩⟩
    all_goals first | (exfalso; simp only [List.length_cons] at hk5; omega) | kernel_rfl
  rw [e2] at hP
  have hT := aol (p := p) (q := q) (d := d) (t0 := t0) (ks := ks ++ [kdJ b 2 0 0]) (walk := walk) (low := low) (up := up) (last := last) (st := [0, (k : Int) + 1]) (x := (k : Int) + 1) (.inr ⟨0, rfl⟩)
  have hS : aaM (mJ p q d t0 (ks ++ [kdJ b 2 0 0]) (wJ [0, (k : Int) + 1] walk low up last)) ⟨10, 0, (k : Int) + 1, 0, 0⟩ = some ((true, ()), (mJ p q d t0 (ks ++ [kdJ b 4 (-1) ((q.length : Nat) : Int)]) (wJ [0] walk low up last), ())) := by
    unfold aaM
    show (aav _ 0 ((k : Int) + 1)).bind _ = _
    rw [hT, abM]
    show (if (!true) = true then _ else _) = _
    rw [if_neg (by decide)]
    show (aak _ ((k : Int) + 1)).bind _ = _
    rw [hP, abM]
    clear hP hT hlen hs hq e1 e2
    generalize hN : q.length = N
    clear hN
    subst hk
    rcases ks with _ | ⟨x1, _ | ⟨x2, _ | ⟨x3, _ | ⟨x4, _ | ⟨x5, _ | ⟨x6, ks⟩⟩⟩⟩⟩⟩
    all_goals first | (exfalso; simp only [List.length_cons] at hk5; omega) | kernel_rfl
  have hF : aaL (mJ p q d t0 (ks ++ [kdJ b 2 0 0]) (wJ [0, (k : Int) + 1] walk low up last)) ⟨10, 0, (k : Int) + 1, 0, 0⟩ = some ((true, ()), (mJ p q d t0 (ks ++ [kdJ b 2 0 0]) (wJ [0, (k : Int) + 1] walk low up last), ())) := by
    clear hP hT hS hlen hs hq e1 e2
    subst hk
    rcases ks with _ | ⟨x1, _ | ⟨x2, _ | ⟨x3, _ | ⟨x4, _ | ⟨x5, _ | ⟨x6, ks⟩⟩⟩⟩⟩⟩
    all_goals first | (exfalso; simp only [List.length_cons] at hk5; omega) | kernel_rfl
  have hA := aAQ (mJ p q d t0 (ks ++ [kdJ b 2 0 0]) (wJ [0, (k : Int) + 1] walk low up last)) 0 ((k : Int) + 1) 0 0
  rw [hS, abM] at hA
  exact att hF hA (by show (0 : Int) < 1; decide) ⟨by show (0 : Int) ≤ 0; decide, by show (0 : Int) < 1; decide⟩
theorem axJ {k mm : Nat} (hk : ks.length = k) (hk5 : k ≤ 6) (hn : p.length ≤ 1000000) (hmn : mm ≤ p.length) (hs : ∀ j, mm ≤ j → j < p.length → amE p (acy k) j) :
    aal (mJ p q d (t0J 2 0 (-1) (mm : Int) (acy k)) ks (wJ [0] walk low up last)) ⟨10, 0, 0, 0, 0⟩ = some ((true, ()), (mJ p q d (t0J 4 (-1) (-1) ((p.length : Nat) : Int) (acy k)) ks (wJ [] walk low up ⟨10, 0, 0, 0, 0⟩), ())) := by
  have hP := (auA (p := p) (q := q) (d := d) (ks := ks) (ph := 2) (wk := 0) (ot := -1) (kids := acy k) (mm := mm) (nn := p.length) (w := wJ [0] walk low up last) hn hmn (Nat.le_refl _) hs).1 rfl
  have hT := aol (p := p) (q := q) (d := d) (t0 := t0J 2 0 (-1) (mm : Int) (acy k)) (ks := ks) (walk := walk) (low := low) (up := up) (last := last) (st := [0]) (x := 0) (.inl rfl)
  have hS : aaM (mJ p q d (t0J 2 0 (-1) (mm : Int) (acy k)) ks (wJ [0] walk low up last)) ⟨10, 0, 0, 0, 0⟩ = some ((true, ()), (mJ p q d (t0J 4 (-1) (-1) ((p.length : Nat) : Int) (acy k)) ks (wJ [] walk low up last), ())) := by
    unfold aaM
    show (aav _ 0 0).bind _ = _
    rw [hT, abM]
    show (if (!true) = true then _ else _) = _
    rw [if_neg (by decide)]
    show (aak _ 0).bind _ = _
    rw [hP, abM]
    clear hP hT hs hn hmn
    generalize hN : p.length = N
    clear hN
    subst hk
    rcases ks with _ | ⟨x1, _ | ⟨x2, _ | ⟨x3, _ | ⟨x4, _ | ⟨x5, _ | ⟨x6, _ | ⟨x7, ks⟩⟩⟩⟩⟩⟩⟩
    all_goals first | (exfalso; simp only [List.length_cons] at hk5; omega) | kernel_rfl
  have hF : aaL (mJ p q d (t0J 2 0 (-1) (mm : Int) (acy k)) ks (wJ [0] walk low up last)) ⟨10, 0, 0, 0, 0⟩ = some ((true, ()), (mJ p q d (t0J 2 0 (-1) (mm : Int) (acy k)) ks (wJ [0] walk low up last), ())) := by
    clear hP hT hS hs hn hmn
    subst hk
    rcases ks with _ | ⟨x1, _ | ⟨x2, _ | ⟨x3, _ | ⟨x4, _ | ⟨x5, _ | ⟨x6, _ | ⟨x7, ks⟩⟩⟩⟩⟩⟩⟩
    all_goals first | (exfalso; simp only [List.length_cons] at hk5; omega) | kernel_rfl
  have hA := aAQ (mJ p q d (t0J 2 0 (-1) (mm : Int) (acy k)) ks (wJ [0] walk low up last)) 0 0 0 0
  rw [hS, abM] at hA
  exact att hF hA (by show (0 : Int) < 1; decide) ⟨by show (0 : Int) ≤ 0; decide, by show (0 : Int) < 1; decide⟩
theorem ats {k : Nat} (hk : ks.length = k) (hk5 : k ≤ 6) {ph wk ot pc : Int} {kids st : List Int} :
    aal (mJ p q d (t0J ph wk ot pc kids) ks (wJ st 0 0 (-1) last)) ⟨7, 0, 0, 0, 0⟩ = some ((true, ()), (mJ p q d (t0J ph wk ot pc kids) ks (wJ st (-1) 0 (-1) ⟨7, 0, 0, 0, 0⟩), ())) := by
  subst hk
  rcases ks with _ | ⟨x1, _ | ⟨x2, _ | ⟨x3, _ | ⟨x4, _ | ⟨x5, _ | ⟨x6, _ | ⟨x7, ks⟩⟩⟩⟩⟩⟩⟩
  all_goals first | (exfalso; simp only [List.length_cons] at hk5; omega) | kernel_rfl
theorem avd {k mm nn i : Nat} {u : TkV} (hk : ks.length = k) (hk5 : k ≤ 6) (hu : ks[i]? = some u) (hph : u.view.phase = 1) (hn : p.length ≤ 1000000) (hmn : mm ≤ nn) (hs : ∀ j, mm ≤ j → j < nn → amE p (acy k) j) (hi : p[nn]? = some ⟨2, (i : Int), 0⟩) :
    aal (mJ p q d (t0J 2 0 (-1) (mm : Int) (acy k)) ks (wJ [0] walk low up last)) ⟨6, 0, 0, (i : Int) + 1, 0⟩ = some ((true, ()), (mJ p q d (t0J 3 (-1) ((i : Int) + 1) (wi ((nn : Int) + 1)) (acy k)) ks (wJ [] 0 0 (-1) ⟨6, 0, 0, (i : Int) + 1, 0⟩), ())) := by
  have hle : nn < p.length := (List.getElem?_eq_some_iff.1 hi).1
  have hik : i < k := by rw [← hk]; exact (List.getElem?_eq_some_iff.1 hu).1
  have hid : aaf (acy k) (i : Int) = (i : Int) + 1 := by
    show (((acy k)[((i : Int)).toNat]?).getD _) = _
    rw [Int.toNat_natCast]
    unfold acy
    rw [List.getElem?_map, List.getElem?_range hik]; rfl
  have hil : (acy k).length = k := by unfold acy; simp
  have hP := (auA (p := p) (q := q) (d := d) (ks := ks) (ph := 2) (wk := 0) (ot := -1) (kids := acy k) (mm := mm) (nn := nn) (w := wJ [0] walk low up last) hn hmn (by omega) hs).2 _ hi ⟨_, hi, .inr ⟨rfl, ⟨by show 0 ≤ (i : Int); omega, by show (i : Int) < _; rw [hil]; omega⟩, by show aaf _ (i : Int) ≠ -1; rw [hid]; omega⟩⟩
  have hT := aol (p := p) (q := q) (d := d) (t0 := t0J 2 0 (-1) (mm : Int) (acy k)) (ks := ks) (walk := walk) (low := low) (up := up) (last := last) (st := [0]) (x := 0) (.inl rfl)
  obtain ⟨⟨u1, u2, u3, u4, u5⟩, u6, u7, u8⟩ := u
  obtain rfl : u1 = 1 := hph
  have hS : aaK (mJ p q d (t0J 2 0 (-1) (mm : Int) (acy k)) ks (wJ [0] walk low up last)) ⟨6, 0, 0, (i : Int) + 1, 0⟩ = some ((true, ()), (mJ p q d (t0J 3 (-1) ((i : Int) + 1) (wi ((nn : Int) + 1)) (acy k)) ks (wJ [] 0 0 (-1) last), ())) := by
    unfold aaK
    show (aav _ 0 0).bind _ = _
    rw [hT, abM]
    show (if (!true) = true then _ else _) = _
    rw [if_neg (by decide)]
    show (aak _ 0).bind _ = _
    rw [hP, abM]
    clear hP hT hs hi hle hn hmn hid hil
    subst hk
    rcases ks with _ | ⟨x1, _ | ⟨x2, _ | ⟨x3, _ | ⟨x4, _ | ⟨x5, _ | ⟨x6, _ | ⟨x7, ks⟩⟩⟩⟩⟩⟩⟩
    all_goals first | (exfalso; simp only [List.length_cons] at hk5; omega) | skip
    all_goals rcases i with _ | _ | _ | _ | _ | _ | i
    all_goals first | (exfalso; simp only [List.length_cons, List.length_nil] at hik; omega) | skip
    all_goals (have hx := Option.some.inj hu; clear hu; subst hx; show _ = _; kernel_rfl)
  have hF : aaL (mJ p q d (t0J 2 0 (-1) (mm : Int) (acy k)) ks (wJ [0] walk low up last)) ⟨6, 0, 0, (i : Int) + 1, 0⟩ = some ((true, ()), (mJ p q d (t0J 2 0 (-1) (mm : Int) (acy k)) ks (wJ [0] walk low up last), ())) := by
    clear hP hT hS hs hi hle hn hmn hid hil
    subst hk
    rcases ks with _ | ⟨x1, _ | ⟨x2, _ | ⟨x3, _ | ⟨x4, _ | ⟨x5, _ | ⟨x6, _ | ⟨x7, ks⟩⟩⟩⟩⟩⟩⟩
    all_goals first | (exfalso; simp only [List.length_cons] at hk5; omega) | skip
    all_goals rcases i with _ | _ | _ | _ | _ | _ | i
    all_goals first | (exfalso; simp only [List.length_cons, List.length_nil] at hik; omega) | skip
    all_goals (clear hu; show _ = _; kernel_rfl)
  have hA := ap6 (mJ p q d (t0J 2 0 (-1) (mm : Int) (acy k)) ks (wJ [0] walk low up last)) 0 0 ((i : Int) + 1) 0
  rw [hS, abM] at hA
  exact att hF hA (by show (0 : Int) < 1; decide) ⟨by show (0 : Int) ≤ 0; decide, by show (0 : Int) < 1; decide⟩
theorem axH {k mm nn i : Nat} {u : TkV} (hk : ks.length = k) (hk5 : k ≤ 6) (hu : ks[i]? = some u) (hph : u.view.phase = 4) (hn : p.length ≤ 1000000) (hmn : mm ≤ nn) (hs : ∀ j, mm ≤ j → j < nn → amE p (acy k) j) (hi : p[nn]? = some ⟨2, (i : Int), 0⟩) :
    aal (mJ p q d (t0J 2 0 (-1) (mm : Int) (acy k)) ks (wJ [0] walk low up last)) ⟨8, 0, 0, (i : Int) + 1, 0⟩ = some ((true, ()), (mJ p q d (t0J 2 0 (-1) (wi ((nn : Int) + 1)) (acy k)) ks (wJ [0] walk low up ⟨8, 0, 0, (i : Int) + 1, 0⟩), ())) := by
  have hle : nn < p.length := (List.getElem?_eq_some_iff.1 hi).1
  have hik : i < k := by rw [← hk]; exact (List.getElem?_eq_some_iff.1 hu).1
  have hid : aaf (acy k) (i : Int) = (i : Int) + 1 := by
    show (((acy k)[((i : Int)).toNat]?).getD _) = _
    rw [Int.toNat_natCast]
    unfold acy
    rw [List.getElem?_map, List.getElem?_range hik]; rfl
  have hil : (acy k).length = k := by unfold acy; simp
  have hP := (auA (p := p) (q := q) (d := d) (ks := ks) (ph := 2) (wk := 0) (ot := -1) (kids := acy k) (mm := mm) (nn := nn) (w := wJ [0] walk low up last) hn hmn (by omega) hs).2 _ hi ⟨_, hi, .inr ⟨rfl, ⟨by show 0 ≤ (i : Int); omega, by show (i : Int) < _; rw [hil]; omega⟩, by show aaf _ (i : Int) ≠ -1; rw [hid]; omega⟩⟩
  have hT := aol (p := p) (q := q) (d := d) (t0 := t0J 2 0 (-1) (mm : Int) (acy k)) (ks := ks) (walk := walk) (low := low) (up := up) (last := last) (st := [0]) (x := 0) (.inl rfl)
  obtain ⟨⟨u1, u2, u3, u4, u5⟩, u6, u7, u8⟩ := u
  obtain rfl : u1 = 4 := hph
  have hS : aaK (mJ p q d (t0J 2 0 (-1) (mm : Int) (acy k)) ks (wJ [0] walk low up last)) ⟨8, 0, 0, (i : Int) + 1, 0⟩ = some ((true, ()), (mJ p q d (t0J 2 0 (-1) (wi ((nn : Int) + 1)) (acy k)) ks (wJ [0] walk low up last), ())) := by
    unfold aaK
    show (aav _ 0 0).bind _ = _
    rw [hT, abM]
    show (if (!true) = true then _ else _) = _
    rw [if_neg (by decide)]
    show (aak _ 0).bind _ = _
    rw [hP, abM]
    clear hP hT hs hi hle hn hmn hid hil
    subst hk
    rcases ks with _ | ⟨x1, _ | ⟨x2, _ | ⟨x3, _ | ⟨x4, _ | ⟨x5, _ | ⟨x6, _ | ⟨x7, ks⟩⟩⟩⟩⟩⟩⟩
    all_goals first | (exfalso; simp only [List.length_cons] at hk5; omega) | skip
    all_goals rcases i with _ | _ | _ | _ | _ | _ | i
    all_goals first | (exfalso; simp only [List.length_cons, List.length_nil] at hik; omega) | skip
    all_goals (have hx := Option.some.inj hu; clear hu; subst hx; show _ = _; kernel_rfl)
  have hF : aaL (mJ p q d (t0J 2 0 (-1) (mm : Int) (acy k)) ks (wJ [0] walk low up last)) ⟨8, 0, 0, (i : Int) + 1, 0⟩ = some ((true, ()), (mJ p q d (t0J 2 0 (-1) (mm : Int) (acy k)) ks (wJ [0] walk low up last), ())) := by
    clear hP hT hS hs hi hle hn hmn hid hil
    subst hk
    rcases ks with _ | ⟨x1, _ | ⟨x2, _ | ⟨x3, _ | ⟨x4, _ | ⟨x5, _ | ⟨x6, _ | ⟨x7, ks⟩⟩⟩⟩⟩⟩⟩
    all_goals first | (exfalso; simp only [List.length_cons] at hk5; omega) | skip
    all_goals rcases i with _ | _ | _ | _ | _ | _ | i
    all_goals first | (exfalso; simp only [List.length_cons, List.length_nil] at hik; omega) | skip
    all_goals (clear hu; show _ = _; kernel_rfl)
  have hA := ap8 (mJ p q d (t0J 2 0 (-1) (mm : Int) (acy k)) ks (wJ [0] walk low up last)) 0 0 ((i : Int) + 1) 0
  rw [hS, abM] at hA
  exact att hF hA (by show (0 : Int) < 1; decide) ⟨by show (0 : Int) ≤ 0; decide, by show (0 : Int) < 1; decide⟩
theorem ave (p q : List Ins) (d : Int) : ∃ s0, abj (cJ p q d) = some ((s0, ()), ()) ∧ afM [⟨1, 1, 0, 0, 0⟩, ⟨5, 0, 0, 0, 0⟩] s0 = some (mJ p q d (t0J 2 0 (-1) 0 []) [] (wJ [0] (-1) 0 0 ⟨5, 0, 0, 0, 0⟩)) :=
  ⟨⟨cJ p q d, List.replicate 12 tkA, [⟨[], -1, 0, 0, false, ⟨0, 0, 0, 0, 0⟩⟩], ⟨[], 0⟩, 0⟩, by kernel_rfl, by kernel_rfl⟩
end
end
end Go.Proofs.YtlcelajkhklkbaaGreat
