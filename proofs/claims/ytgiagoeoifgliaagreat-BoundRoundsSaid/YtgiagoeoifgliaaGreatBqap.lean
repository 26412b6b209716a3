/- The program's machines in the evaluator's form. The program's machines in the evaluator's form: all. Walk: script.Rounds, for every list of entries: what it answers is a fold over the entries, the set of places as a datum. Walk: script.Rounds, for every list of entries. script.place in the evaluator's form. script.Rounds in the evaluator's words. What BoundRounds calls, in the evaluator's form. -/
import Derived.Test.YtgiagoeoifgliaaGreatBqao
import Derived.Test.YtgiagoeoifgliaaGreatRows
import Derived.Test.YtgiagoeoifgliaaGreatBqaa
import Derived.Maps.OwnSet
import Derived.WalkMore
import Derived.Handy
import Derived.Carry
import Derived.Test.YtgiagoeoifgliaaGreatBqai
import Derived.Test.YtgiagoeoifgliaaGreatBqaj
set_option linter.all false
namespace Go.Proofs.YtgiagoeoifgliaaGreat
section
open Go Go.RowKit
set_option maxRecDepth 100000
variable [Tb]
noncomputable def clientClientAccess_a (y0 : (ClientV MV)) (y1 : EnvP) : Option ((Bool × Unit) × ((ClientV MV) × EnvP × Unit)) :=
 if 0 ≤ y0.i ∧ y0.i < ((y0.subs.length : Nat) : Int) then
  agr (
   if y1.l.workers = y1.l.workers then
   if y1.l.levels = y1.l.levels then
   if y1.l.classes = y1.l.classes then
   if y1.l.tasks = y1.l.tasks then
   if y1.l.deque = y1.l.deque then
   if y1.l.heap = y1.l.heap then
   if y1.l.sleepers = y1.l.sleepers then
   if y1.l.epochs = y1.l.epochs then
   if y1.l.bitmaps = y1.l.bitmaps then
   if y1.l.queues = y1.l.queues then
   if y1.l.table = y1.l.table then
   if ((atK4 y0.subs y0.i).prog) = ((atK4 y0.subs y0.i).prog) then
   if ((atK4 y0.subs y0.i).level) = ((atK4 y0.subs y0.i).level) then
   if ((atK4 y0.subs y0.i).deadline) = ((atK4 y0.subs y0.i).deadline) then
   if y0.i = y0.i then
   if y1.l.workers = y1.l.workers then
   if y1.l.levels = y1.l.levels then
   if y1.l.classes = y1.l.classes then
   if y1.l.tasks = y1.l.tasks then
   if y1.l.deque = y1.l.deque then
   if y1.l.heap = y1.l.heap then
   if y1.l.sleepers = y1.l.sleepers then
   if y1.l.epochs = y1.l.epochs then
   if y1.l.bitmaps = y1.l.bitmaps then
   if y1.l.queues = y1.l.queues then
   if y1.l.table = y1.l.table then
   if ((atK4 y0.subs y0.i).prog) = ((atK4 y0.subs y0.i).prog) then
   if ((atK4 y0.subs y0.i).level) = ((atK4 y0.subs y0.i).level) then
   if ((atK4 y0.subs y0.i).deadline) = ((atK4 y0.subs y0.i).deadline) then
   if y0.i = y0.i then
   if y1.l.workers = y1.l.workers then
   if y1.l.levels = y1.l.levels then
   if y1.l.classes = y1.l.classes then
   if y1.l.tasks = y1.l.tasks then
   if y1.l.deque = y1.l.deque then
   if y1.l.heap = y1.l.heap then
   if y1.l.sleepers = y1.l.sleepers then
   if y1.l.epochs = y1.l.epochs then
   if y1.l.bitmaps = y1.l.bitmaps then
   if y1.l.queues = y1.l.queues then
   if y1.l.table = y1.l.table then
   if y0.line = 2 then
   (pLSize y1.l).bind fun r15 =>
   if y1.c.heap = y1.c.heap then
   (pLoad y1.m r15.1.1).bind fun r16 =>
   if y1.c.heap = y1.c.heap then
   if y1.c.heap ≤ (wi (r16.1.1)) then
   (clientClientReject y0 ({ y1 with m := r16.2.1 } : EnvP) 1).bind fun r17 =>
   some ((r17.1.1, ()), (r17.2.1, r17.2.2.1, ()))
   else
   (clientClientTo y0 (wi (y0.line + 1))).bind fun r18 =>
   some ((r18.1.1, ()), (r18.2.1, ({ y1 with m := r16.2.1 } : EnvP), ()))
   else none
   else none
   else
   if y0.line = 4 then
   (pLevel y1.l y0.id).bind fun r19 =>
   if ((atK4 y0.subs y0.i).level) = ((atK4 y0.subs y0.i).level) then
   (pStore y1.m r19.1.1 (wu ((atK4 y0.subs y0.i).level))).bind fun r20 =>
   (clientClientTo y0 (wi (y0.line + 1))).bind fun r21 =>
   some ((r21.1.1, ()), (r21.2.1, ({ y1 with m := r20.2.1 } : EnvP), ()))
   else none
   else
   if y0.line = 5 then
   (pSince y1.l y0.id).bind fun r22 =>
   (pNow y1.k).bind fun r23 =>
   (pStore y1.m r22.1.1 (wu (r23.1.1))).bind fun r24 =>
   (clientClientTo y0 (wi (y0.line + 1))).bind fun r25 =>
   some ((r25.1.1, ()), (r25.2.1, ({ y1 with m := r24.2.1, k := r23.2.1 } : EnvP), ()))
   else
   (pState y1.l y0.id).bind fun r26 =>
   (pStore y1.m r26.1.1 1).bind fun r27 =>
   (clientClientTo y0 (wi (y0.line + 1))).bind fun r28 =>
   some ((r28.1.1, ()), (r28.2.1, ({ y1 with m := r27.2.1 } : EnvP), ()))
   else none
   else none
   else none
   else none
   else none
   else none
   else none
   else none
   else none
   else none
   else none
   else none
   else none
   else none
   else none
   else none
   else none
   else none
   else none
   else none
   else none
   else none
   else none
   else none
   else none
   else none
   else none
   else none
   else none
   else none
   else none
   else none
   else none
   else none
   else none
   else none
   else none
   else none
   else none
   else none
   else none
  ) (
   if y1.l.workers = y1.l.workers then
   if y1.l.levels = y1.l.levels then
   if y1.l.classes = y1.l.classes then
   if y1.l.tasks = y1.l.tasks then
   if y1.l.deque = y1.l.deque then
   if y1.l.heap = y1.l.heap then
   if y1.l.sleepers = y1.l.sleepers then
   if y1.l.epochs = y1.l.epochs then
   if y1.l.bitmaps = y1.l.bitmaps then
   if y1.l.queues = y1.l.queues then
   if y1.l.table = y1.l.table then
   if ((atK4 y0.subs y0.i).prog) = ((atK4 y0.subs y0.i).prog) then
   if ((atK4 y0.subs y0.i).level) = ((atK4 y0.subs y0.i).level) then
   if ((atK4 y0.subs y0.i).deadline) = ((atK4 y0.subs y0.i).deadline) then
   if y0.i = y0.i then
   if y1.l.workers = y1.l.workers then
   if y1.l.levels = y1.l.levels then
   if y1.l.classes = y1.l.classes then
   if y1.l.tasks = y1.l.tasks then
   if y1.l.deque = y1.l.deque then
   if y1.l.heap = y1.l.heap then
   if y1.l.sleepers = y1.l.sleepers then
   if y1.l.epochs = y1.l.epochs then
   if y1.l.bitmaps = y1.l.bitmaps then
   if y1.l.queues = y1.l.queues then
   if y1.l.table = y1.l.table then
   if ((atK4 y0.subs y0.i).prog) = ((atK4 y0.subs y0.i).prog) then
   if ((atK4 y0.subs y0.i).level) = ((atK4 y0.subs y0.i).level) then
   if ((atK4 y0.subs y0.i).deadline) = ((atK4 y0.subs y0.i).deadline) then
   if y0.i = y0.i then
   if y1.l.workers = y1.l.workers then
   if y1.l.levels = y1.l.levels then
   if y1.l.classes = y1.l.classes then
   if y1.l.tasks = y1.l.tasks then
   if y1.l.deque = y1.l.deque then
   if y1.l.heap = y1.l.heap then
   if y1.l.sleepers = y1.l.sleepers then
   if y1.l.epochs = y1.l.epochs then
   if y1.l.bitmaps = y1.l.bitmaps then
   if y1.l.queues = y1.l.queues then
   if y1.l.table = y1.l.table then
   if y0.line = 2 then
   (pLSize y1.l).bind fun r1 =>
   if y1.c.heap = y1.c.heap then
   (pLoad y1.m r1.1.1).bind fun r2 =>
   if y1.c.heap = y1.c.heap then
   if y1.c.heap ≤ (wi (r2.1.1)) then
   (clientClientReject y0 ({ y1 with m := r2.2.1 } : EnvP) 1).bind fun r3 =>
   some ((r3.1.1, ()), (r3.2.1, r3.2.2.1, ()))
   else
   (clientClientTo y0 (wi (y0.line + 1))).bind fun r4 =>
   some ((r4.1.1, ()), (r4.2.1, ({ y1 with m := r2.2.1 } : EnvP), ()))
   else none
   else none
   else
   if y0.line = 4 then
   (pLevel y1.l y0.id).bind fun r5 =>
   if ((atK4 y0.subs y0.i).level) = ((atK4 y0.subs y0.i).level) then
   (pStore y1.m r5.1.1 (wu ((atK4 y0.subs y0.i).level))).bind fun r6 =>
   (clientClientTo y0 (wi (y0.line + 1))).bind fun r7 =>
   some ((r7.1.1, ()), (r7.2.1, ({ y1 with m := r6.2.1 } : EnvP), ()))
   else none
   else
   if y0.line = 5 then
   (pSince y1.l y0.id).bind fun r8 =>
   (pNow y1.k).bind fun r9 =>
   (pStore y1.m r8.1.1 (wu (r9.1.1))).bind fun r10 =>
   (clientClientTo y0 (wi (y0.line + 1))).bind fun r11 =>
   some ((r11.1.1, ()), (r11.2.1, ({ y1 with m := r10.2.1, k := r9.2.1 } : EnvP), ()))
   else
   (pState y1.l y0.id).bind fun r12 =>
   (pStore y1.m r12.1.1 1).bind fun r13 =>
   (clientClientTo y0 (wi (y0.line + 1))).bind fun r14 =>
   some ((r14.1.1, ()), (r14.2.1, ({ y1 with m := r13.2.1 } : EnvP), ()))
   else none
   else none
   else none
   else none
   else none
   else none
   else none
   else none
   else none
   else none
   else none
   else none
   else none
   else none
   else none
   else none
   else none
   else none
   else none
   else none
   else none
   else none
   else none
   else none
   else none
   else none
   else none
   else none
   else none
   else none
   else none
   else none
   else none
   else none
   else none
   else none
   else none
   else none
   else none
   else none
   else none
  )
 else none
noncomputable abbrev clientClientAccess_a_k : Con SR1 := ⟨206, [.ref 30, .ref 27], [.sh .b], fun x => clientClientAccess_a x.1 x.2.1⟩
theorem clientClientAccess_a_ok : CO Tryz.prog clientClientAccess_a_k := co_fn mixed Tryz.func206 [pLSize_k, pLoad_k, clientClientReject_k, clientClientTo_k, pLevel_k, pStore_k, pSince_k, pNow_k, pState_k] ⟨pLSize_ok, pLoad_ok, clientClientReject_ok, clientClientTo_ok, pLevel_ok, pStore_ok, pSince_ok, pNow_ok, pState_ok, trivial⟩ [] trivial (fun _ => []) [] fun x => by kernel_rfl
noncomputable def clientClientAccess (y0 : (ClientV MV)) (y1 : EnvP) : Option ((Bool × Unit) × ((ClientV MV) × EnvP × Unit)) :=
 if 0 ≤ y0.i ∧ y0.i < ((y0.subs.length : Nat) : Int) then
  if y0.line = 2 then
   (pLSize y1.l).bind fun r1 =>
   (pLoad y1.m r1.1.1).bind fun r2 =>
   if y1.c.heap ≤ (wi (r2.1.1)) then
   (clientClientReject y0 ({ y1 with m := r2.2.1 } : EnvP) 1).bind fun r3 =>
   some ((r3.1.1, ()), (r3.2.1, r3.2.2.1, ()))
   else
   (clientClientTo y0 (wi (y0.line + 1))).bind fun r4 =>
   some ((r4.1.1, ()), (r4.2.1, ({ y1 with m := r2.2.1 } : EnvP), ()))
  else
  if y0.line = 4 then
   (pLevel y1.l y0.id).bind fun r5 =>
   (pStore y1.m r5.1.1 (wu ((atK4 y0.subs y0.i).level))).bind fun r6 =>
   (clientClientTo y0 (wi (y0.line + 1))).bind fun r7 =>
   some ((r7.1.1, ()), (r7.2.1, ({ y1 with m := r6.2.1 } : EnvP), ()))
  else
  if y0.line = 5 then
   (pSince y1.l y0.id).bind fun r8 =>
   (pNow y1.k).bind fun r9 =>
   (pStore y1.m r8.1.1 (wu (r9.1.1))).bind fun r10 =>
   (clientClientTo y0 (wi (y0.line + 1))).bind fun r11 =>
   some ((r11.1.1, ()), (r11.2.1, ({ y1 with m := r10.2.1, k := r9.2.1 } : EnvP), ()))
  else
  (pState y1.l y0.id).bind fun r12 =>
  (pStore y1.m r12.1.1 1).bind fun r13 =>
  (clientClientTo y0 (wi (y0.line + 1))).bind fun r14 =>
  some ((r14.1.1, ()), (r14.2.1, ({ y1 with m := r13.2.1 } : EnvP), ()))
 else none
noncomputable abbrev clientClientAccess_k : Con SR1 := ⟨206, [.ref 30, .ref 27], [.sh .b], fun x => clientClientAccess x.1 x.2.1⟩
theorem clientClientAccess_eq (y0 : (ClientV MV)) (y1 : EnvP) : clientClientAccess_a y0 y1 = clientClientAccess y0 y1 := by
  unfold clientClientAccess_a clientClientAccess
  simp only [if_true, agr_self, bind_guard]
theorem clientClientAccess_ok : CO Tryz.prog clientClientAccess_k := co_as clientClientAccess_a_ok fun x out hx => (show clientClientAccess_a_k.spec x = some out from (clientClientAccess_eq x.1 x.2.1).trans hx)
noncomputable def clientClientNext (y0 : (ClientV MV)) : Option ((Bool × Unit) × ((ClientV MV) × Unit)) :=
 (clientClientTo ({ y0 with i := wi (y0.i + 1), accepted := false } : (ClientV MV)) 1).bind fun r1 =>
 (clientClientOver r1.2.1).bind fun r2 =>
 some ((r2.1.1, ()), (r2.2.1, ()))
noncomputable abbrev clientClientNext_k : Con SR1 := ⟨216, [.ref 30], [.sh .b], fun x => clientClientNext x.1⟩
theorem clientClientNext_ok : CO Tryz.prog clientClientNext_k := co_fn mixed Tryz.func216 [clientClientTo_k, clientClientOver_k] ⟨clientClientTo_ok, clientClientOver_ok, trivial⟩ [] trivial (fun _ => []) [] fun x => by kernel_rfl
noncomputable def clientClientAfter (y0 : (ClientV MV)) (y1 : EnvP) (y2 : Int) (y3 : Int) : Option ((Bool × Unit) × ((ClientV MV) × EnvP × Unit)) :=
 if 0 ≤ y0.i ∧ y0.i < ((y0.subs.length : Nat) : Int) then
  if ((atK4 y0.subs y0.i).prog) = ((atK4 y0.subs y0.i).prog) then
   if ((atK4 y0.subs y0.i).level) = ((atK4 y0.subs y0.i).level) then
   if ((atK4 y0.subs y0.i).deadline) = ((atK4 y0.subs y0.i).deadline) then
   if y0.i = y0.i then
   if y0.line = 3 then
   if y2 = 3 then
   (clientClientReject y0 y1 2).bind fun r1 =>
   some ((r1.1.1, ()), (r1.2.1, r1.2.2.1, ()))
   else
   if 0 ≤ y3 ∧ y3 < ((y1.recs.length : Nat) : Int) then
   (clientClientTo ({ y0 with id := y3 } : (ClientV MV)) (wi (y0.line + 1))).bind fun r2 =>
   some ((r2.1.1, ()), (r2.2.1, ({ y1 with recs := y1.recs.set y3.toNat (⟨(atK4 y0.subs y0.i).prog, (-1), 0, 0, (-1), [], false⟩ : RecP) } : EnvP), ()))
   else none
   else
   if y0.line = 6 then
   if y2 ≠ 0 then
   (clientClientTo y0 8).bind fun r3 =>
   some ((r3.1.1, ()), (r3.2.1, y1, ()))
   else
   (pEmit y1 (⟨1, y0.me, y0.id, y0.i, (atK4 y0.subs y0.i).level⟩ : Ev)).bind fun r4 =>
   (clientClientTo ({ y0 with accepted := true } : (ClientV MV)) (wi (y0.line + 1))).bind fun r5 =>
   some ((r5.1.1, ()), (r5.2.1, r4.2.1, ()))
   else
   if y0.line = 8 then
   if (!y0.accepted) = true then
   (clientClientNext y0).bind fun r6 =>
   some ((r6.1.1, ()), (r6.2.1, y1, ()))
   else
   (clientClientTo y0 (wi (y0.line + 1))).bind fun r7 =>
   some ((r7.1.1, ()), (r7.2.1, y1, ()))
   else
   if y0.line = 9 then
   (clientClientNext y0).bind fun r8 =>
   some ((r8.1.1, ()), (r8.2.1, y1, ()))
   else
   (clientClientTo y0 (wi (y0.line + 1))).bind fun r9 =>
   some ((r9.1.1, ()), (r9.2.1, y1, ()))
   else none
   else none
   else none
  else none
 else none
noncomputable abbrev clientClientAfter_k : Con SR1 := ⟨207, [.ref 30, .ref 27, .sh sI_, .sh sI_], [.sh .b], fun x => clientClientAfter x.1 x.2.1 x.2.2.1 x.2.2.2.1⟩
theorem clientClientAfter_ok : CO Tryz.prog clientClientAfter_k := co_fn mixed Tryz.func207 [clientClientReject_k, clientClientTo_k, pEmit_k, clientClientNext_k] ⟨clientClientReject_ok, clientClientTo_ok, pEmit_ok, clientClientNext_ok, trivial⟩ [] trivial (fun _ => []) [] fun x => by kernel_rfl
noncomputable def clientClientStep (y0 : (ClientV MV)) (y1 : EnvP) : Option ((Bool × Unit) × ((ClientV MV) × EnvP × Unit)) :=
 (clientClientOver y0).bind fun r1 =>
 if r1.1.1 = true then
  some ((true, ()), (r1.2.1, y1, ()))
 else
 if r1.2.1.fresh = true then
  (clientClientMachines r1.2.1).bind fun r2 =>
  if (SR1.spl r2.1.1).isNone = true then
   (clientClientAccess ({ r2.2.1 with inside := r2.1.1, fresh := false } : (ClientV MV)) y1).bind fun r3 =>
   some ((r3.1.1, ()), (r3.2.1, r3.2.2.1, ()))
  else
  (stepD3 r2.1.1 y1).bind fun r4 =>
  if (!r4.1.1) = true then
   some ((false, ()), (({ r2.2.1 with inside := r4.2.1, fresh := false } : (ClientV MV)), r4.2.2.1, ()))
  else
  (resultD3 r4.2.1).bind fun r5 =>
  (clientClientAfter ({ r2.2.1 with inside := r5.2.1, fresh := false } : (ClientV MV)) r4.2.2.1 r5.1.1 r5.1.2.1).bind fun r6 =>
  some ((r6.1.1, ()), (r6.2.1, r6.2.2.1, ()))
 else
 if (SR1.spl r1.2.1.inside).isNone = true then
  (clientClientAccess r1.2.1 y1).bind fun r7 =>
  some ((r7.1.1, ()), (r7.2.1, r7.2.2.1, ()))
 else
 (stepD3 r1.2.1.inside y1).bind fun r8 =>
 if (!r8.1.1) = true then
  some ((false, ()), (({ r1.2.1 with inside := r8.2.1 } : (ClientV MV)), r8.2.2.1, ()))
 else
 (resultD3 r8.2.1).bind fun r9 =>
 (clientClientAfter ({ r1.2.1 with inside := r9.2.1 } : (ClientV MV)) r8.2.2.1 r9.1.1 r9.1.2.1).bind fun r10 =>
 some ((r10.1.1, ()), (r10.2.1, r10.2.2.1, ()))
noncomputable abbrev clientClientStep_k : Con SR1 := ⟨204, [.ref 30, .ref 27], [.sh .b], fun x => clientClientStep x.1 x.2.1⟩
theorem clientClientStep_ok : CO Tryz.prog clientClientStep_k := co_fn mixed Tryz.func204 [clientClientOver_k, clientClientMachines_k, clientClientAccess_k, stepD3_k, resultD3_k, clientClientAfter_k] ⟨clientClientOver_ok, clientClientMachines_ok, clientClientAccess_ok, stepD3_ok, resultD3_ok, clientClientAfter_ok, trivial⟩ [] trivial (fun _ => []) [] fun x => by kernel_rfl
noncomputable def takeTake (y0 : Int) : Option ((MV × Unit) × (Unit)) :=
 (levelsPop y0).bind fun r1 =>
 some ((MV.take (⟨⟨false, 0, 0⟩, y0, false, r1.1.1⟩ : (TakeV MV)), ()), (()))
noncomputable abbrev takeTake_k : Con SR1 := ⟨125, [.sh sI_], [.sh .mach], fun x => takeTake x.1⟩
theorem takeTake_ok : CO Tryz.prog takeTake_k := co_fn mixed Tryz.func125 [levelsPop_k] ⟨levelsPop_ok, trivial⟩ [] trivial (fun _ => []) [] fun x => by kernel_rfl
noncomputable def workerWorkerTo (y0 : (WorkerV MV)) (y1 : Int) (y2 : MV) : Option ((Unit) × ((WorkerV MV) × Unit)) :=
 some ((()), (({ y0 with line := y1, inside := y2 } : (WorkerV MV)), ()))
noncomputable abbrev workerWorkerTo_k : Con SR1 := ⟨124, [.ref 31, .sh sI_, .sh .mach], [], fun x => workerWorkerTo x.1 x.2.1 x.2.2.1⟩
theorem workerWorkerTo_ok : CO Tryz.prog workerWorkerTo_k := co_fn mixed Tryz.func124 [] trivial [] trivial (fun _ => []) [] fun x => by kernel_rfl
noncomputable def agingSweep (y0 : Int) (y1 : Int) : Option ((MV × Unit) × (Unit)) :=
 some ((MV.sweep (⟨⟨false, 0, 0⟩, y0, y1, 1, 0, MV.nil⟩ : (SweepV MV)), ()), (()))
noncomputable abbrev agingSweep_k : Con SR1 := ⟨126, [.sh sI_, .sh sI_], [.sh .mach], fun x => agingSweep x.1 x.2.1⟩
theorem agingSweep_ok : CO Tryz.prog agingSweep_k := co_fn mixed Tryz.func126 [] trivial [] trivial (fun _ => []) [] fun x => by kernel_rfl
noncomputable def workerWorkerStart (y0 : (WorkerV MV)) (y1 : EnvP) : Option ((Unit) × ((WorkerV MV) × EnvP × Unit)) :=
 if y1.c.age = 0 then
  (takeTake y0.worker).bind fun r1 =>
  (workerWorkerTo y0 2 r1.1.1).bind fun r2 =>
  some ((()), (r2.2.1, y1, ()))
 else
 (pMod y0.worker y1.c.tasks).bind fun r3 =>
 if y1.c.tasks = y1.c.tasks then
  if y0.cursor = y0.cursor then
   if y0.worker = y0.worker then
   (pMod (wi (r3.1.1 + y0.cursor)) y1.c.tasks).bind fun r4 =>
   if y0.worker = y0.worker then
   (agingSweep y0.worker r4.1.1).bind fun r5 =>
   (workerWorkerTo y0 1 r5.1.1).bind fun r6 =>
   some ((()), (r6.2.1, y1, ()))
   else none
   else none
  else none
 else none
noncomputable abbrev workerWorkerStart_k : Con SR1 := ⟨83, [.ref 31, .ref 27], [], fun x => workerWorkerStart x.1 x.2.1⟩
theorem workerWorkerStart_ok : CO Tryz.prog workerWorkerStart_k := co_fn mixed Tryz.func83 [takeTake_k, workerWorkerTo_k, pMod_k, agingSweep_k] ⟨takeTake_ok, workerWorkerTo_ok, pMod_ok, agingSweep_ok, trivial⟩ [] trivial (fun _ => []) [] fun x => by kernel_rfl
noncomputable def runnerRun (y0 : Int) (y1 : Int) : Option ((MV × Unit) × (Unit)) :=
 some ((MV.run (⟨⟨false, 0, 0⟩, y0, [y1], 0, MV.nil, 0, 0, 0, 0⟩ : (RunV MV)), ()), (()))
noncomputable abbrev runnerRun_k : Con SR1 := ⟨15, [.sh sI_, .sh sI_], [.sh .mach], fun x => runnerRun x.1 x.2.1⟩
theorem runnerRun_ok : CO Tryz.prog runnerRun_k := co_fn mixed Tryz.func15 [] trivial [] trivial (fun _ => []) [] fun x => by kernel_rfl
noncomputable def workerWorkerRun (y0 : (WorkerV MV)) (y1 : Int) : Option ((Unit) × ((WorkerV MV) × Unit)) :=
 (runnerRun y0.worker y1).bind fun r1 =>
 (workerWorkerTo ({ y0 with x := y1 } : (WorkerV MV)) 7 r1.1.1).bind fun r2 =>
 some ((()), (r2.2.1, ()))
noncomputable abbrev workerWorkerRun_k : Con SR1 := ⟨86, [.ref 31, .sh sI_], [], fun x => workerWorkerRun x.1 x.2.1⟩
theorem workerWorkerRun_ok : CO Tryz.prog workerWorkerRun_k := co_fn mixed Tryz.func86 [runnerRun_k, workerWorkerTo_k] ⟨runnerRun_ok, workerWorkerTo_ok, trivial⟩ [] trivial (fun _ => []) [] fun x => by kernel_rfl
noncomputable def drainDrain (y0 : Int) : Option ((MV × Unit) × (Unit)) :=
 some ((MV.drain (⟨⟨false, 0, 0⟩, y0, 1, MV.nil, 0, false, 0, 0, 0⟩ : (DrainV MV)), ()), (()))
noncomputable abbrev drainDrain_k : Con SR1 := ⟨128, [.sh sI_], [.sh .mach], fun x => drainDrain x.1⟩
theorem drainDrain_ok : CO Tryz.prog drainDrain_k := co_fn mixed Tryz.func128 [] trivial [] trivial (fun _ => []) [] fun x => by kernel_rfl
noncomputable def workerWorkerClaim (y0 : (WorkerV MV)) (y1 : Int) : Option ((Unit) × ((WorkerV MV) × Unit)) :=
 (tableClaim y0.worker y1).bind fun r1 =>
 (workerWorkerTo ({ y0 with x := y1 } : (WorkerV MV)) 6 r1.1.1).bind fun r2 =>
 some ((()), (r2.2.1, ()))
noncomputable abbrev workerWorkerClaim_k : Con SR1 := ⟨129, [.ref 31, .sh sI_], [], fun x => workerWorkerClaim x.1 x.2.1⟩
theorem workerWorkerClaim_ok : CO Tryz.prog workerWorkerClaim_k := co_fn mixed Tryz.func129 [tableClaim_k, workerWorkerTo_k] ⟨tableClaim_ok, workerWorkerTo_ok, trivial⟩ [] trivial (fun _ => []) [] fun x => by kernel_rfl
noncomputable def parkSleep (y0 : Int) : Option ((MV × Unit) × (Unit)) :=
 some ((MV.sleep (⟨⟨false, 0, 0⟩, y0, 1, 0, 0, 0⟩ : SleepV), ()), (()))
noncomputable abbrev parkSleep_k : Con SR1 := ⟨131, [.sh sI_], [.sh .mach], fun x => parkSleep x.1⟩
theorem parkSleep_ok : CO Tryz.prog parkSleep_k := co_fn mixed Tryz.func131 [] trivial [] trivial (fun _ => []) [] fun x => by kernel_rfl
noncomputable def probeProbe (y0 : Int) : Option ((MV × Unit) × (Unit)) :=
 some ((MV.probe (⟨⟨false, 0, 0⟩, y0, false, 0, 0, ⟨0, 0, 0, 0, 0, 0, 0, 0, 0, 0, 0, 0, 0, 0, 0, 0⟩⟩ : ProbeV), ()), (()))
noncomputable abbrev probeProbe_k : Con SR1 := ⟨150, [.sh sI_], [.sh .mach], fun x => probeProbe x.1⟩
theorem probeProbe_ok : CO Tryz.prog probeProbe_k := co_fn mixed Tryz.func150 [] trivial [] trivial (fun _ => []) [] fun x => by kernel_rfl
noncomputable def workerWorkerIdle (y0 : (WorkerV MV)) (y1 : EnvP) : Option ((Unit) × ((WorkerV MV) × EnvP × Unit)) :=
 if y1.c.workers = 1 then
  (parkSleep y0.worker).bind fun r1 =>
  (workerWorkerTo y0 8 r1.1.1).bind fun r2 =>
  some ((()), (r2.2.1, y1, ()))
 else
 (probeProbe y0.worker).bind fun r3 =>
 (workerWorkerTo y0 4 r3.1.1).bind fun r4 =>
 some ((()), (r4.2.1, y1, ()))
noncomputable abbrev workerWorkerIdle_k : Con SR1 := ⟨130, [.ref 31, .ref 27], [], fun x => workerWorkerIdle x.1 x.2.1⟩
theorem workerWorkerIdle_ok : CO Tryz.prog workerWorkerIdle_k := co_fn mixed Tryz.func130 [parkSleep_k, workerWorkerTo_k, probeProbe_k] ⟨parkSleep_ok, workerWorkerTo_ok, probeProbe_ok, trivial⟩ [] trivial (fun _ => []) [] fun x => by kernel_rfl
noncomputable def thiefSteal (y0 : QV) : Option ((MV × Unit) × (Unit)) :=
 some ((MV.steal (⟨⟨false, 0, 0⟩, y0, 1, 0, 0⟩ : StealV), ()), (()))
noncomputable abbrev thiefSteal_k : Con SR1 := ⟨132, [.val 14], [.sh .mach], fun x => thiefSteal x.1⟩
theorem thiefSteal_ok : CO Tryz.prog thiefSteal_k := co_fn mixed Tryz.func132 [] trivial [] trivial (fun _ => []) [] fun x => by kernel_rfl
noncomputable def workerWorkerFound (y0 : (WorkerV MV)) (y1 : EnvP) (y2 : Int) (y3 : Int) : Option ((Unit) × ((WorkerV MV) × EnvP × Unit)) :=
 if y0.line = 1 then
  (takeTake y0.worker).bind fun r1 =>
  (workerWorkerTo ({ y0 with cursor := wi (y0.cursor + 1) } : (WorkerV MV)) 2 r1.1.1).bind fun r2 =>
  some ((()), (r2.2.1, y1, ()))
 else
 if y0.line = 2 then
  if y2 = 1 then
   (workerWorkerRun y0 y3).bind fun r3 =>
   some ((()), (r3.2.1, y1, ()))
  else
  if y0.line = 2 then
   (drainDrain y0.worker).bind fun r4 =>
   (workerWorkerTo y0 3 r4.1.1).bind fun r5 =>
   some ((()), (r5.2.1, y1, ()))
  else
  if y0.line = 3 then
   if y2 = 1 then
   (workerWorkerClaim y0 y3).bind fun r6 =>
   some ((()), (r6.2.1, y1, ()))
   else
   if y0.line = 3 then
   if y2 = 0 then
   (takeTake y0.worker).bind fun r7 =>
   (workerWorkerTo y0 2 r7.1.1).bind fun r8 =>
   some ((()), (r8.2.1, y1, ()))
   else
   if y0.line = 3 then
   (workerWorkerIdle y0 y1).bind fun r9 =>
   some ((()), (r9.2.1, r9.2.2.1, ()))
   else
   if y2 = 2 then
   (parkSleep y0.worker).bind fun r10 =>
   (workerWorkerTo y0 8 r10.1.1).bind fun r11 =>
   some ((()), (r11.2.1, y1, ()))
   else
   (pQueue y1.l (wi (Int.tdiv y3 64)) (Int.tmod y3 64)).bind fun r12 =>
   (thiefSteal r12.1.1).bind fun r13 =>
   (workerWorkerTo ({ y0 with victim := wi (Int.tdiv y3 64), level := (Int.tmod y3 64) } : (WorkerV MV)) 5 r13.1.1).bind fun r14 =>
   some ((()), (r14.2.1, y1, ()))
   else
   if y0.line = 3 then
   (workerWorkerIdle y0 y1).bind fun r15 =>
   some ((()), (r15.2.1, r15.2.2.1, ()))
   else
   if y2 = 2 then
   (parkSleep y0.worker).bind fun r16 =>
   (workerWorkerTo y0 8 r16.1.1).bind fun r17 =>
   some ((()), (r17.2.1, y1, ()))
   else
   (pQueue y1.l (wi (Int.tdiv y3 64)) (Int.tmod y3 64)).bind fun r18 =>
   (thiefSteal r18.1.1).bind fun r19 =>
   (workerWorkerTo ({ y0 with victim := wi (Int.tdiv y3 64), level := (Int.tmod y3 64) } : (WorkerV MV)) 5 r19.1.1).bind fun r20 =>
   some ((()), (r20.2.1, y1, ()))
  else
  if y0.line = 3 then
   if y2 = 0 then
   (takeTake y0.worker).bind fun r21 =>
   (workerWorkerTo y0 2 r21.1.1).bind fun r22 =>
   some ((()), (r22.2.1, y1, ()))
   else
   if y0.line = 3 then
   (workerWorkerIdle y0 y1).bind fun r23 =>
   some ((()), (r23.2.1, r23.2.2.1, ()))
   else
   if y2 = 2 then
   (parkSleep y0.worker).bind fun r24 =>
   (workerWorkerTo y0 8 r24.1.1).bind fun r25 =>
   some ((()), (r25.2.1, y1, ()))
   else
   (pQueue y1.l (wi (Int.tdiv y3 64)) (Int.tmod y3 64)).bind fun r26 =>
   (thiefSteal r26.1.1).bind fun r27 =>
   (workerWorkerTo ({ y0 with victim := wi (Int.tdiv y3 64), level := (Int.tmod y3 64) } : (WorkerV MV)) 5 r27.1.1).bind fun r28 =>
   some ((()), (r28.2.1, y1, ()))
  else
  if y0.line = 3 then
   (workerWorkerIdle y0 y1).bind fun r29 =>
   some ((()), (r29.2.1, r29.2.2.1, ()))
  else
  if y2 = 2 then
   (parkSleep y0.worker).bind fun r30 =>
   (workerWorkerTo y0 8 r30.1.1).bind fun r31 =>
   some ((()), (r31.2.1, y1, ()))
  else
  (pQueue y1.l (wi (Int.tdiv y3 64)) (Int.tmod y3 64)).bind fun r32 =>
  (thiefSteal r32.1.1).bind fun r33 =>
  (workerWorkerTo ({ y0 with victim := wi (Int.tdiv y3 64), level := (Int.tmod y3 64) } : (WorkerV MV)) 5 r33.1.1).bind fun r34 =>
  some ((()), (r34.2.1, y1, ()))
 else
 if y0.line = 2 then
  (drainDrain y0.worker).bind fun r35 =>
  (workerWorkerTo y0 3 r35.1.1).bind fun r36 =>
  some ((()), (r36.2.1, y1, ()))
 else
 if y0.line = 3 then
  if y2 = 1 then
   (workerWorkerClaim y0 y3).bind fun r37 =>
   some ((()), (r37.2.1, y1, ()))
  else
  if y0.line = 3 then
   if y2 = 0 then
   (takeTake y0.worker).bind fun r38 =>
   (workerWorkerTo y0 2 r38.1.1).bind fun r39 =>
   some ((()), (r39.2.1, y1, ()))
   else
   if y0.line = 3 then
   (workerWorkerIdle y0 y1).bind fun r40 =>
   some ((()), (r40.2.1, r40.2.2.1, ()))
   else
   if y2 = 2 then
   (parkSleep y0.worker).bind fun r41 =>
   (workerWorkerTo y0 8 r41.1.1).bind fun r42 =>
   some ((()), (r42.2.1, y1, ()))
   else
   (pQueue y1.l (wi (Int.tdiv y3 64)) (Int.tmod y3 64)).bind fun r43 =>
   (thiefSteal r43.1.1).bind fun r44 =>
   (workerWorkerTo ({ y0 with victim := wi (Int.tdiv y3 64), level := (Int.tmod y3 64) } : (WorkerV MV)) 5 r44.1.1).bind fun r45 =>
   some ((()), (r45.2.1, y1, ()))
  else
  if y0.line = 3 then
   (workerWorkerIdle y0 y1).bind fun r46 =>
   some ((()), (r46.2.1, r46.2.2.1, ()))
  else
  if y2 = 2 then
   (parkSleep y0.worker).bind fun r47 =>
   (workerWorkerTo y0 8 r47.1.1).bind fun r48 =>
   some ((()), (r48.2.1, y1, ()))
  else
  (pQueue y1.l (wi (Int.tdiv y3 64)) (Int.tmod y3 64)).bind fun r49 =>
  (thiefSteal r49.1.1).bind fun r50 =>
  (workerWorkerTo ({ y0 with victim := wi (Int.tdiv y3 64), level := (Int.tmod y3 64) } : (WorkerV MV)) 5 r50.1.1).bind fun r51 =>
  some ((()), (r51.2.1, y1, ()))
 else
 if y0.line = 3 then
  if y2 = 0 then
   (takeTake y0.worker).bind fun r52 =>
   (workerWorkerTo y0 2 r52.1.1).bind fun r53 =>
   some ((()), (r53.2.1, y1, ()))
  else
  if y0.line = 3 then
   (workerWorkerIdle y0 y1).bind fun r54 =>
   some ((()), (r54.2.1, r54.2.2.1, ()))
  else
  if y2 = 2 then
   (parkSleep y0.worker).bind fun r55 =>
   (workerWorkerTo y0 8 r55.1.1).bind fun r56 =>
   some ((()), (r56.2.1, y1, ()))
  else
  (pQueue y1.l (wi (Int.tdiv y3 64)) (Int.tmod y3 64)).bind fun r57 =>
  (thiefSteal r57.1.1).bind fun r58 =>
  (workerWorkerTo ({ y0 with victim := wi (Int.tdiv y3 64), level := (Int.tmod y3 64) } : (WorkerV MV)) 5 r58.1.1).bind fun r59 =>
  some ((()), (r59.2.1, y1, ()))
 else
 if y0.line = 3 then
  (workerWorkerIdle y0 y1).bind fun r60 =>
  some ((()), (r60.2.1, r60.2.2.1, ()))
 else
 if y2 = 2 then
  (parkSleep y0.worker).bind fun r61 =>
  (workerWorkerTo y0 8 r61.1.1).bind fun r62 =>
  some ((()), (r62.2.1, y1, ()))
 else
 (pQueue y1.l (wi (Int.tdiv y3 64)) (Int.tmod y3 64)).bind fun r63 =>
 (thiefSteal r63.1.1).bind fun r64 =>
 (workerWorkerTo ({ y0 with victim := wi (Int.tdiv y3 64), level := (Int.tmod y3 64) } : (WorkerV MV)) 5 r64.1.1).bind fun r65 =>
 some ((()), (r65.2.1, y1, ()))
noncomputable abbrev workerWorkerFound_k : Con SR1 := ⟨84, [.ref 31, .ref 27, .sh sI_, .sh sI_], [], fun x => workerWorkerFound x.1 x.2.1 x.2.2.1 x.2.2.2.1⟩
theorem workerWorkerFound_ok : CO Tryz.prog workerWorkerFound_k := co_fn mixed Tryz.func84 [takeTake_k, workerWorkerTo_k, workerWorkerRun_k, drainDrain_k, workerWorkerClaim_k, workerWorkerIdle_k, parkSleep_k, pQueue_k, thiefSteal_k] ⟨takeTake_ok, workerWorkerTo_ok, workerWorkerRun_ok, drainDrain_ok, workerWorkerClaim_ok, workerWorkerIdle_ok, parkSleep_ok, pQueue_ok, thiefSteal_ok, trivial⟩ [] trivial (fun _ => []) [] fun x => by kernel_rfl
noncomputable def workerWorkerLoop (y0 : (WorkerV MV)) : Option ((Unit) × ((WorkerV MV) × Unit)) :=
 some ((()), (({ y0 with line := 0, inside := MV.nil } : (WorkerV MV)), ()))
noncomputable abbrev workerWorkerLoop_k : Con SR1 := ⟨87, [.ref 31], [], fun x => workerWorkerLoop x.1⟩
theorem workerWorkerLoop_ok : CO Tryz.prog workerWorkerLoop_k := co_fn mixed Tryz.func87 [] trivial [] trivial (fun _ => []) [] fun x => by kernel_rfl
noncomputable def workerWorkerStolen (y0 : (WorkerV MV)) (y1 : EnvP) (y2 : Int) (y3 : Int) : Option ((Unit) × ((WorkerV MV) × EnvP × Unit)) :=
 if y2 = 1 then
  (pEmit y1 ({ y0 with kind := 14, task := y3, other := y0.victim } : Ev)).bind fun r1 =>
  (workerWorkerClaim y0 y3).bind fun r2 =>
  some ((()), (r2.2.1, r1.2.1, ()))
 else
 if y2 = 2 then
  (pBitmap y1.l y0.victim).bind fun r3 =>
  if y0.level = y0.level then
   if y0.victim = y0.victim then
   if y1.l.workers = y1.l.workers then
   if y1.l.levels = y1.l.levels then
   if y1.l.classes = y1.l.classes then
   if y1.l.tasks = y1.l.tasks then
   if y1.l.deque = y1.l.deque then
   if y1.l.heap = y1.l.heap then
   if y1.l.sleepers = y1.l.sleepers then
   if y1.l.epochs = y1.l.epochs then
   if y1.l.bitmaps = y1.l.bitmaps then
   if y1.l.queues = y1.l.queues then
   if y1.l.table = y1.l.table then
   if y0.level = y0.level then
   (pQueue y1.l y0.victim y0.level).bind fun r4 =>
   if y0.level = y0.level then
   (bitmapClear r3.1.1 y0.level r4.1.1).bind fun r5 =>
   (workerWorkerTo y0 9 r5.1.1).bind fun r6 =>
   some ((()), (r6.2.1, y1, ()))
   else none
   else none
   else none
   else none
   else none
   else none
   else none
   else none
   else none
   else none
   else none
   else none
   else none
   else none
  else none
 else
 (workerWorkerLoop y0).bind fun r7 =>
 some ((()), (r7.2.1, y1, ()))
noncomputable abbrev workerWorkerStolen_k : Con SR1 := ⟨85, [.ref 31, .ref 27, .sh sI_, .sh sI_], [], fun x => workerWorkerStolen x.1 x.2.1 x.2.2.1 x.2.2.2.1⟩
theorem workerWorkerStolen_ok : CO Tryz.prog workerWorkerStolen_k := co_fn mixed Tryz.func85 [pEmit_k, workerWorkerClaim_k, pBitmap_k, pQueue_k, bitmapClear_k, workerWorkerTo_k, workerWorkerLoop_k] ⟨pEmit_ok, workerWorkerClaim_ok, pBitmap_ok, pQueue_ok, bitmapClear_ok, workerWorkerTo_ok, workerWorkerLoop_ok, trivial⟩ [] trivial (fun _ => []) [] fun x => by kernel_rfl
noncomputable def workerWorkerStep (y0 : (WorkerV MV)) (y1 : EnvP) : Option ((Bool × Unit) × ((WorkerV MV) × EnvP × Unit)) :=
 if y0.line = 0 then
  (workerWorkerStart y0 y1).bind fun r1 =>
  (stepD3 r1.2.1.inside r1.2.2.1).bind fun r2 =>
  if (!r2.1.1) = true then
   some ((false, ()), (({ r1.2.1 with inside := r2.2.1 } : (WorkerV MV)), r2.2.2.1, ()))
  else
  (resultD3 r2.2.1).bind fun r3 =>
  if r1.2.1.line ≤ 4 then
   (workerWorkerFound ({ r1.2.1 with inside := r3.2.1 } : (WorkerV MV)) r2.2.2.1 r3.1.1 r3.1.2.1).bind fun r4 =>
   some ((false, ()), (r4.2.1, r4.2.2.1, ()))
  else
  if r1.2.1.line = 5 then
   (workerWorkerStolen ({ r1.2.1 with inside := r3.2.1 } : (WorkerV MV)) r2.2.2.1 r3.1.1 r3.1.2.1).bind fun r5 =>
   some ((false, ()), (r5.2.1, r5.2.2.1, ()))
  else
  if r1.2.1.line = 6 then
   if r3.1.1 = 1 then
   (workerWorkerRun ({ r1.2.1 with inside := r3.2.1 } : (WorkerV MV)) r1.2.1.x).bind fun r6 =>
   some ((false, ()), (r6.2.1, r2.2.2.1, ()))
   else
   (workerWorkerLoop ({ r1.2.1 with inside := r3.2.1 } : (WorkerV MV))).bind fun r7 =>
   some ((false, ()), (r7.2.1, r2.2.2.1, ()))
  else
  (workerWorkerLoop ({ r1.2.1 with inside := r3.2.1 } : (WorkerV MV))).bind fun r8 =>
  some ((false, ()), (r8.2.1, r2.2.2.1, ()))
 else
 (stepD3 y0.inside y1).bind fun r9 =>
 if (!r9.1.1) = true then
  some ((false, ()), (({ y0 with inside := r9.2.1 } : (WorkerV MV)), r9.2.2.1, ()))
 else
 (resultD3 r9.2.1).bind fun r10 =>
 if y0.line ≤ 4 then
  (workerWorkerFound ({ y0 with inside := r10.2.1 } : (WorkerV MV)) r9.2.2.1 r10.1.1 r10.1.2.1).bind fun r11 =>
  some ((false, ()), (r11.2.1, r11.2.2.1, ()))
 else
 if y0.line = 5 then
  (workerWorkerStolen ({ y0 with inside := r10.2.1 } : (WorkerV MV)) r9.2.2.1 r10.1.1 r10.1.2.1).bind fun r12 =>
  some ((false, ()), (r12.2.1, r12.2.2.1, ()))
 else
 if y0.line = 6 then
  if r10.1.1 = 1 then
   (workerWorkerRun ({ y0 with inside := r10.2.1 } : (WorkerV MV)) y0.x).bind fun r13 =>
   some ((false, ()), (r13.2.1, r9.2.2.1, ()))
  else
  (workerWorkerLoop ({ y0 with inside := r10.2.1 } : (WorkerV MV))).bind fun r14 =>
  some ((false, ()), (r14.2.1, r9.2.2.1, ()))
 else
 (workerWorkerLoop ({ y0 with inside := r10.2.1 } : (WorkerV MV))).bind fun r15 =>
 some ((false, ()), (r15.2.1, r9.2.2.1, ()))
noncomputable abbrev workerWorkerStep_k : Con SR1 := ⟨37, [.ref 31, .ref 27], [.sh .b], fun x => workerWorkerStep x.1 x.2.1⟩
theorem workerWorkerStep_ok : CO Tryz.prog workerWorkerStep_k := co_fn mixed Tryz.func37 [workerWorkerStart_k, stepD3_k, resultD3_k, workerWorkerFound_k, workerWorkerStolen_k, workerWorkerRun_k, workerWorkerLoop_k] ⟨workerWorkerStart_ok, stepD3_ok, resultD3_ok, workerWorkerFound_ok, workerWorkerStolen_ok, workerWorkerRun_ok, workerWorkerLoop_ok, trivial⟩ [] trivial (fun _ => []) [] fun x => by kernel_rfl
noncomputable def configClone (y0 : Cfg) : Option ((Cfg × Unit) × (Unit)) :=
 (cloneRows y0.progs).bind fun r1 =>
 (lpF (σ := Int × (Int × Int × Int × Int × Int × Int × Int × Int × Int × List (List Ins) × List Sub × Unit) × Unit) (β := Int × (Int × Int × Int × Int × Int × Int × Int × Int × Int × List (List Ins) × List Sub × Unit) × Unit) (fun self4 x2 =>
  if x2.1 < ((r1.1.1.length : Nat) : Int) then
   if 0 ≤ x2.1 ∧ x2.1 < ((x2.2.1.2.2.2.2.2.2.2.2.2.1.length : Nat) : Int) then
   (cloneIns (atK18 x2.2.1.2.2.2.2.2.2.2.2.2.1 x2.1)).bind fun r5 =>
   if 0 ≤ x2.1 ∧ x2.1 < ((x2.2.1.2.2.2.2.2.2.2.2.2.1.length : Nat) : Int) then
   self4 (wi (x2.1 + 1), (x2.2.1.1, x2.2.1.2.1, x2.2.1.2.2.1, x2.2.1.2.2.2.1, x2.2.1.2.2.2.2.1, x2.2.1.2.2.2.2.2.1, x2.2.1.2.2.2.2.2.2.1, x2.2.1.2.2.2.2.2.2.2.1, x2.2.1.2.2.2.2.2.2.2.2.1, x2.2.1.2.2.2.2.2.2.2.2.2.1.set x2.1.toNat r5.1.1, x2.2.1.2.2.2.2.2.2.2.2.2.2.1, ()), ())
   else none
   else none
  else
  some (x2.1, (x2.2.1.1, x2.2.1.2.1, x2.2.1.2.2.1, x2.2.1.2.2.2.1, x2.2.1.2.2.2.2.1, x2.2.1.2.2.2.2.2.1, x2.2.1.2.2.2.2.2.2.1, x2.2.1.2.2.2.2.2.2.2.1, x2.2.1.2.2.2.2.2.2.2.2.1, x2.2.1.2.2.2.2.2.2.2.2.2.1, x2.2.1.2.2.2.2.2.2.2.2.2.2.1, ()), ())
 ) 18446744073709551616 (0, (y0.workers, y0.levels, y0.classes, y0.tasks, y0.deque, y0.heap, y0.batch, y0.age, y0.patience, r1.1.1, y0.subs, ()), ())).bind fun z3 =>
 (cloneSubs z3.2.1.2.2.2.2.2.2.2.2.2.2.1).bind fun r6 =>
 some (((⟨z3.2.1.1, z3.2.1.2.1, z3.2.1.2.2.1, z3.2.1.2.2.2.1, z3.2.1.2.2.2.2.1, z3.2.1.2.2.2.2.2.1, z3.2.1.2.2.2.2.2.2.1, z3.2.1.2.2.2.2.2.2.2.1, z3.2.1.2.2.2.2.2.2.2.2.1, z3.2.1.2.2.2.2.2.2.2.2.2.1, r6.1.1⟩ : Cfg), ()), (()))
noncomputable abbrev configClone_k : Con SR1 := ⟨79, [.val 13], [.val 13], fun x => configClone x.1⟩
theorem configClone_ok : CO Tryz.prog configClone_k := co_fn mixed Tryz.func79 [cloneRows_k, cloneIns_k, cloneSubs_k] ⟨cloneRows_ok, cloneIns_ok, cloneSubs_ok, trivial⟩ [] trivial (fun _ => []) [(3, .loop [.rg 11 sI_, .cs 11 [sI_, sI_, sI_, sI_, sI_, sI_, sI_, sI_, sI_, (.row 18), (.ro 4)]] 18446744073709551616 0)] fun x => by kernel_rfl
noncomputable def layoutNew (y0 : Cfg) : Option ((LayV × Int × Unit) × (Unit)) :=
 (cfgCheck y0).bind fun r1 =>
 if r1.1.1 ≠ 0 then
  some (((⟨0, 0, 0, 0, 0, 0, 0, 0, 0, 0, 0⟩ : LayV), r1.1.1, ()), (()))
 else
 some ((({ y0 with sleepers := wi (4 + y0.heap), epochs := wi ((wi (4 + y0.heap)) + y0.classes), bitmaps := wi ((wi ((wi (4 + y0.heap)) + y0.classes)) + y0.workers), queues := wi ((wi ((wi ((wi (4 + y0.heap)) + y0.classes)) + y0.workers)) + y0.workers), table := wi ((wi ((wi ((wi ((wi (4 + y0.heap)) + y0.classes)) + y0.workers)) + y0.workers)) + (wi ((wi (y0.workers * y0.levels)) * (wi (2 + y0.deque))))) } : LayV), 0, ()), (()))
noncomputable abbrev layoutNew_k : Con SR1 := ⟨76, [.val 13], [.val 24, .sh sI_], fun x => layoutNew x.1⟩
theorem layoutNew_ok : CO Tryz.prog layoutNew_k := co_fn mixed Tryz.func76 [cfgCheck_k] ⟨cfgCheck_ok, trivial⟩ [] trivial (fun _ => []) [] fun x => by kernel_rfl
noncomputable def memoryNew (y0 : Int) : Option ((MemV × Unit) × (Unit)) :=
 if (if 131072 < (if y0 < 0 then 0 else y0) then 131072 else (if y0 < 0 then 0 else y0)) = (if 131072 < (if y0 < 0 then 0 else y0) then 131072 else (if y0 < 0 then 0 else y0)) then
  if 0 ≤ (if 131072 < (if y0 < 0 then 0 else y0) then 131072 else (if y0 < 0 then 0 else y0)) ∧ (if 131072 < (if y0 < 0 then 0 else y0) then 131072 else (if y0 < 0 then 0 else y0)) ≤ 1099511627776 then
   some (((⟨List.replicate ((if 131072 < (if y0 < 0 then 0 else y0) then 131072 else (if y0 < 0 then 0 else y0)) : Int).toNat (0 : Int), ⟨0, 0, 0, 0⟩, 0⟩ : MemV), ()), (()))
  else none
 else none
noncomputable abbrev memoryNew_k : Con SR1 := ⟨119, [.sh sI_], [.sh (.own 9)], fun x => memoryNew x.1⟩
theorem memoryNew_ok : CO Tryz.prog memoryNew_k := co_fn mixed Tryz.func119 [] trivial [] trivial (fun _ => []) [] fun x => by kernel_rfl
noncomputable def clockNew  : Option ((ClkV × Unit) × (Unit)) :=
 some (((⟨0, 0⟩ : ClkV), ()), (()))
noncomputable abbrev clockNew_k : Con SR1 := ⟨120, [], [.sh (.own 25)], fun x => clockNew ⟩
theorem clockNew_ok : CO Tryz.prog clockNew_k := co_fn mixed Tryz.func120 [] trivial [] trivial (fun _ => []) [] fun x => by kernel_rfl
noncomputable def machineBare (y0 : Int) : Option ((EnvP × Unit) × (Unit)) :=
 (memoryNew y0).bind fun r1 =>
 (clockNew).bind fun r2 =>
 some (((⟨⟨0, 0, 0, 0, 0, 0, 0, 0, 0, [], []⟩, ⟨0, 0, 0, 0, 0, 0, 0, 0, 0, 0, 0⟩, r1.1.1, r2.1.1, [], []⟩ : EnvP), ()), (()))
noncomputable abbrev machineBare_k : Con SR1 := ⟨77, [.sh sI_], [.sh (.own 27)], fun x => machineBare x.1⟩
theorem machineBare_ok : CO Tryz.prog machineBare_k := co_fn mixed Tryz.func77 [memoryNew_k, clockNew_k] ⟨memoryNew_ok, clockNew_ok, trivial⟩ [] trivial (fun _ => []) [] fun x => by kernel_rfl
noncomputable def clientNew (y0 : Cfg) : Option (((ClientV MV) × Unit) × (Unit)) :=
 (configClone y0).bind fun r1 =>
 if y0.workers = y0.workers then
  some (((⟨r1.1.1.subs, y0.workers, 0, 1, MV.nil, true, 0, false⟩ : (ClientV MV)), ()), (()))
 else none
noncomputable abbrev clientNew_k : Con SR1 := ⟨113, [.val 13], [.sh (.own 30)], fun x => clientNew x.1⟩
theorem clientNew_ok : CO Tryz.prog clientNew_k := co_fn mixed Tryz.func113 [configClone_k] ⟨configClone_ok, trivial⟩ [] trivial (fun _ => []) [] fun x => by kernel_rfl
noncomputable def workerNew (y0 : Int) : Option (((WorkerV MV) × Unit) × (Unit)) :=
 some (((⟨y0, 0, 0, MV.nil, 0, 0, 0⟩ : (WorkerV MV)), ()), (()))
noncomputable abbrev workerNew_k : Con SR1 := ⟨34, [.sh sI_], [.sh (.own 31)], fun x => workerNew x.1⟩
theorem workerNew_ok : CO Tryz.prog workerNew_k := co_fn mixed Tryz.func34 [] trivial [] trivial (fun _ => []) [] fun x => by kernel_rfl
noncomputable def clientClientStatus (y0 : (ClientV MV)) : Option ((Int × Unit) × ((ClientV MV) × Unit)) :=
 (clientClientOver y0).bind fun r1 =>
 if r1.1.1 = true then
  some ((4, ()), (r1.2.1, ()))
 else
 if r1.2.1.line = 1 then
  some ((0, ()), (r1.2.1, ()))
 else
 some ((2, ()), (r1.2.1, ()))
noncomputable abbrev clientClientStatus_k : Con SR1 := ⟨104, [.ref 30], [.sh sI_], fun x => clientClientStatus x.1⟩
theorem clientClientStatus_ok : CO Tryz.prog clientClientStatus_k := co_fn mixed Tryz.func104 [clientClientOver_k] ⟨clientClientOver_ok, trivial⟩ [] trivial (fun _ => []) [] fun x => by kernel_rfl
noncomputable def workerWorkerStatus (y0 : (WorkerV MV)) : Option ((Int × Unit) × ((WorkerV MV) × Unit)) :=
 if y0.line = 0 then
  some ((0, ()), (y0, ()))
 else
 if y0.line = 7 then
  some ((2, ()), (y0, ()))
 else
 if y0.line = 8 then
  (parkAsleep y0.inside).bind fun r1 =>
  if r1.1.1 = true then
   some ((3, ()), (({ y0 with inside := r1.2.1 } : (WorkerV MV)), ()))
  else
  some ((1, ()), (({ y0 with inside := r1.2.1 } : (WorkerV MV)), ()))
 else
 some ((1, ()), (y0, ()))
noncomputable abbrev workerWorkerStatus_k : Con SR1 := ⟨38, [.ref 31], [.sh sI_], fun x => workerWorkerStatus x.1⟩
theorem workerWorkerStatus_ok : CO Tryz.prog workerWorkerStatus_k := co_fn mixed Tryz.func38 [parkAsleep_k] ⟨parkAsleep_ok, trivial⟩ [] trivial (fun _ => []) [] fun x => by kernel_rfl
noncomputable def r5number (r : CodV) (k : Int) : Option ((Int × Unit) × (CodV × Unit)) :=
 if r.at_ < ((r.inn.length : Nat) : Int) then
  if 0 ≤ r.at_ ∧ r.at_ < ((r.inn.length : Nat) : Int) then
   if k ≠ 0 then
   some (((Int.tmod (wi (atK17 r.inn r.at_)) k), ()), (({ r with at_ := wi (r.at_ + 1) } : CodV), ()))
   else none
  else none
 else
 some ((0, ()), (({ r with at_ := wi (r.at_ + 1) } : CodV), ()))
noncomputable abbrev r5number_k : Con SR1 := ⟨118, [.ref 19, .sh sI_], [.sh sI_], fun x => r5number x.1 x.2.1⟩
theorem r5number_ok : CO Tryz.prog r5number_k := co_fn mixed Tryz.func118 [] trivial [] trivial (fun _ => []) [] fun x => by kernel_rfl
noncomputable def r5decode (b : List Int) : Option ((Cfg × Unit) × (Unit)) :=
 (r5number (⟨b, [], 0, false⟩ : CodV) 4).bind fun r1 =>
 (r5number r1.2.1 4).bind fun r2 =>
 (r5number r2.2.1 (if wi (1 + r2.1.1) < 3 then wi (1 + r2.1.1) else 3)).bind fun r3 =>
 (r5number r3.2.1 12).bind fun r4 =>
 (r5number r4.2.1 4).bind fun r5 =>
 (r5number r5.2.1 4).bind fun r6 =>
 (r5number r6.2.1 (wi (1 + r5.1.1))).bind fun r7 =>
 (r5number r7.2.1 6).bind fun r8 =>
 (r5number r8.2.1 8).bind fun r9 =>
 (r5number r9.2.1 4).bind fun r10 =>
 (lpF (σ := Int × CodV × Cfg × Unit) (β := Int × CodV × Cfg × Unit) (fun self13 x11 =>
  if x11.1 < (wi (1 + r10.1.1)) then
   (r5number x11.2.1 6).bind fun r14 =>
   (lpF (σ := List Ins × Int × CodV × Unit) (β := List Ins × Int × CodV × Unit) (fun self17 x15 =>
   if 0 < x15.2.1 then
   (r5number x15.2.2.1 3).bind fun r18 =>
   if r18.1.1 = 0 then
   (r5number r18.2.1 4).bind fun r19 =>
   if (((x15.1.length + ([(⟨r18.1.1, wi (1 + r19.1.1), 0⟩ : Ins)] : List Ins).length : Nat)) : Int) < 1000000000000 then
   self17 (x15.1 ++ ([(⟨r18.1.1, wi (1 + r19.1.1), 0⟩ : Ins)]), wi (x15.2.1 - 1), r19.2.1, ())
   else none
   else
   if r18.1.1 = 1 then
   (r5number r18.2.1 (wi (1 + r10.1.1))).bind fun r20 =>
   (r5number r20.2.1 x11.2.2.1.levels).bind fun r21 =>
   if (((x15.1.length + ([(⟨r18.1.1, r20.1.1, r21.1.1⟩ : Ins)] : List Ins).length : Nat)) : Int) < 1000000000000 then
   self17 (x15.1 ++ ([(⟨r18.1.1, r20.1.1, r21.1.1⟩ : Ins)]), wi (x15.2.1 - 1), r21.2.1, ())
   else none
   else
   (r5number r18.2.1 4).bind fun r22 =>
   if (((x15.1.length + ([(⟨r18.1.1, r22.1.1, 0⟩ : Ins)] : List Ins).length : Nat)) : Int) < 1000000000000 then
   self17 (x15.1 ++ ([(⟨r18.1.1, r22.1.1, 0⟩ : Ins)]), wi (x15.2.1 - 1), r22.2.1, ())
   else none
   else
   some (x15.1, x15.2.1, x15.2.2.1, ())
   ) 18446744073709551616 ([], r14.1.1, r14.2.1, ())).bind fun z16 =>
   if (((x11.2.2.1.progs.length + ([z16.1] : List (List Ins)).length : Nat)) : Int) < 100000000000 then
   self13 (wi (x11.1 + 1), z16.2.2.1, ({ x11.2.2.1 with progs := x11.2.2.1.progs ++ ([z16.1]) } : Cfg), ())
   else none
  else
  some (x11.1, x11.2.1, x11.2.2.1, ())
 ) 18446744073709551616 (0, r10.2.1, (⟨wi (1 + r1.1.1), wi (1 + r2.1.1), wi (1 + r3.1.1), wi (1 + r4.1.1), wi (1 + r5.1.1), wi (1 + r6.1.1), wi (1 + r7.1.1), r8.1.1, wi (1 + r9.1.1), [], []⟩ : Cfg), ())).bind fun z12 =>
 (r5number z12.2.1 6).bind fun r23 =>
 (lpF (σ := Int × CodV × Cfg × Unit) (β := Int × CodV × Cfg × Unit) (fun self26 x24 =>
  if 0 < x24.1 then
   (r5number x24.2.1 (wi (1 + r10.1.1))).bind fun r27 =>
   (r5number r27.2.1 x24.2.2.1.levels).bind fun r28 =>
   (r5number r28.2.1 16).bind fun r29 =>
   if (((x24.2.2.1.subs.length + ([(⟨r27.1.1, r28.1.1, r29.1.1⟩ : Sub)] : List Sub).length : Nat)) : Int) < 1000000000000 then
   self26 (wi (x24.1 - 1), r29.2.1, ({ x24.2.2.1 with subs := x24.2.2.1.subs ++ ([(⟨r27.1.1, r28.1.1, r29.1.1⟩ : Sub)]) } : Cfg), ())
   else none
  else
  some (x24.1, x24.2.1, x24.2.2.1, ())
 ) 18446744073709551616 (r23.1.1, r23.2.1, z12.2.2.1, ())).bind fun z25 =>
 some ((z25.2.2.1, ()), (()))
noncomputable abbrev r5decode_k : Con SR1 := ⟨75, [.sh (.ro 17)], [.val 13], fun x => r5decode x.1⟩
theorem r5decode_ok : CO Tryz.prog r5decode_k := co_fn mixed Tryz.func75 [r5number_k] ⟨r5number_ok, trivial⟩ [] trivial (fun _ => []) [(12, .loop [.rg 6 sI_, .rg 3 (.own 19), .rg 4 (.own 20)] 18446744073709551616 0), (16, .loop [.rg 7 (.row 3), .rg 8 sI_, .rg 3 (.own 19)] 18446744073709551616 2), (29, .loop [.rg 10 sI_, .rg 3 (.own 19), .rg 4 (.own 20)] 18446744073709551616 5)] fun x => by kernel_rfl
noncomputable def kconfig (b : List Int) : Option ((Cfg × Unit) × (Unit)) :=
 (r5decode b).bind fun r1 =>
 some ((r1.1.1, ()), (()))
noncomputable abbrev kconfig_k : Con SR1 := ⟨32, [.sh (.ro 17)], [.val 13], fun x => kconfig x.1⟩
theorem kconfig_ok : CO Tryz.prog kconfig_k := co_fn mixed Tryz.func32 [r5decode_k] ⟨r5decode_ok, trivial⟩ [] trivial (fun _ => []) [] fun x => by kernel_rfl
noncomputable def kshort (b : List Int) (l : List (List Int)) : Option ((Bool × Unit) × (Unit)) :=
 (lpF (σ := Int × Unit) (β := (Int × Unit) ⊕ ((Bool × Unit) × (Unit))) (fun self3 x1 =>
  if x1.1 < ((l.length : Nat) : Int) then
   if 0 ≤ x1.1 ∧ x1.1 < ((l.length : Nat) : Int) then
   if 400 < (((atL [] l x1.1).length : Nat) : Int) then
   Option.map Sum.inr (
   some ((false, ()), (()))
   )
   else
   self3 (wi (x1.1 + 1), ())
   else none
  else
  some (Sum.inl (x1.1, ()))
 ) 18446744073709551616 (0, ())).bind fun z2 => match z2 with
 | .inr o4 => some o4
 | .inl z2 =>
 some ((decide (((b.length : Nat) : Int) ≤ 400), ()), (()))
noncomputable abbrev kshort_k : Con SR1 := ⟨16, [.sh (.ro 17), .sh (.rr 1)], [.sh .b], fun x => kshort x.1 x.2.1⟩
theorem kshort_ok : CO Tryz.prog kshort_k := co_fn mixed Tryz.func16 [] trivial [] trivial (fun _ => []) [(2, .loopR [.rg 5 sI_] 18446744073709551616 0)] fun x => by kernel_rfl
noncomputable def machineNew (y0 : Cfg) : Option ((EnvP × Int × Unit) × (Unit)) :=
 (layoutNew y0).bind fun r1 =>
 if r1.1.2.1 ≠ 0 then
  none
 else
 (pCells r1.1.1).bind fun r2 =>
 (machineBare r2.1.1).bind fun r3 =>
 (configClone y0).bind fun r4 =>
 if r1.1.1.workers = r1.1.1.workers then
  if r1.1.1.levels = r1.1.1.levels then
   if r1.1.1.classes = r1.1.1.classes then
   if r1.1.1.tasks = r1.1.1.tasks then
   if r1.1.1.deque = r1.1.1.deque then
   if r1.1.1.heap = r1.1.1.heap then
   if r1.1.1.sleepers = r1.1.1.sleepers then
   if r1.1.1.epochs = r1.1.1.epochs then
   if r1.1.1.bitmaps = r1.1.1.bitmaps then
   if r1.1.1.queues = r1.1.1.queues then
   if r1.1.1.table = r1.1.1.table then
   if r1.1.1.workers = r1.1.1.workers then
   if r1.1.1.levels = r1.1.1.levels then
   if r1.1.1.classes = r1.1.1.classes then
   if r1.1.1.tasks = r1.1.1.tasks then
   if r1.1.1.deque = r1.1.1.deque then
   if r1.1.1.heap = r1.1.1.heap then
   if r1.1.1.sleepers = r1.1.1.sleepers then
   if r1.1.1.epochs = r1.1.1.epochs then
   if r1.1.1.bitmaps = r1.1.1.bitmaps then
   if r1.1.1.queues = r1.1.1.queues then
   if r1.1.1.table = r1.1.1.table then
   (lpF (σ := Int × EnvP × Unit) (β := Int × EnvP × Unit) (fun self7 x5 =>
   if x5.1 < y0.tasks then
   if (((x5.2.1.recs.length + ([(⟨0, (-1), 0, 0, (-1), [], false⟩ : RecP)] : List RecP).length : Nat)) : Int) < 100000000000 then
   self7 (wi (x5.1 + 1), ({ x5.2.1 with recs := x5.2.1.recs ++ ([(⟨0, (-1), 0, 0, (-1), [], false⟩ : RecP)]) } : EnvP), ())
   else none
   else
   some (x5.1, x5.2.1, ())
   ) 18446744073709551616 (0, ({ r3.1.1 with c := r4.1.1, l := r1.1.1 } : EnvP), ())).bind fun z6 =>
   some ((z6.2.1, 0, ()), (()))
   else none
   else none
   else none
   else none
   else none
   else none
   else none
   else none
   else none
   else none
   else none
   else none
   else none
   else none
   else none
   else none
   else none
   else none
   else none
   else none
  else none
 else none
noncomputable abbrev machineNew_k : Con SR1 := ⟨33, [.val 13], [.sh (.own 27), .sh sI_], fun x => machineNew x.1⟩
theorem machineNew_ok : CO Tryz.prog machineNew_k := co_fn mixed Tryz.func33 [layoutNew_k, pCells_k, machineBare_k, configClone_k] ⟨layoutNew_ok, pCells_ok, machineBare_ok, configClone_ok, trivial⟩ [] trivial (fun _ => []) [(7, .loop [.rg 29 sI_, .rg 6 (.own 27)] 18446744073709551616 0)] fun x => by kernel_rfl
noncomputable def memoryMemoryCount (y0 : MemV) : Option ((Int × Unit) × (MemV × Unit)) :=
 some ((y0.count, ()), (y0, ()))
noncomputable abbrev memoryMemoryCount_k : Con SR1 := ⟨27, [.ref 9], [.sh sI_], fun x => memoryMemoryCount x.1⟩
theorem memoryMemoryCount_ok : CO Tryz.prog memoryMemoryCount_k := co_fn mixed Tryz.func27 [] trivial [] trivial (fun _ => []) [] fun x => by kernel_rfl
noncomputable def scriptMachine (y0 : EntV) (y1 : Int) : Option ((Int × Unit) × (Unit)) :=
 if y0.kind ≠ 0 then
  some (((-1), ()), (()))
 else
 if y1 < 1 then
  some (((-1), ()), (()))
 else
 if y1 ≠ 0 then
  if (Int.tmod y0.value y1) < 0 then
   some ((wi ((Int.tmod y0.value y1) + y1), ()), (()))
  else
  some (((Int.tmod y0.value y1), ()), (()))
 else none
noncomputable abbrev scriptMachine_k : Con SR1 := ⟨94, [.val 5, .sh sI_], [.sh sI_], fun x => scriptMachine x.1 x.2.1⟩
theorem scriptMachine_ok : CO Tryz.prog scriptMachine_k := co_fn mixed Tryz.func94 [] trivial [] trivial (fun _ => []) [] fun x => by kernel_rfl
noncomputable def clockClockTick (y0 : ClkV) : Option ((Unit) × (ClkV × Unit)) :=
 some ((()), ((⟨wi (y0.now + 1), y0.draw⟩ : ClkV), ()))
noncomputable abbrev clockClockTick_k : Con SR1 := ⟨95, [.ref 25], [], fun x => clockClockTick x.1⟩
theorem clockClockTick_ok : CO Tryz.prog clockClockTick_k := co_fn mixed Tryz.func95 [] trivial [] trivial (fun _ => []) [] fun x => by kernel_rfl
noncomputable def clockClockSet (y0 : ClkV) (y1 : Int) : Option ((Unit) × (ClkV × Unit)) :=
 some ((()), ((⟨y0.now, y1⟩ : ClkV), ()))
noncomputable abbrev clockClockSet_k : Con SR1 := ⟨96, [.ref 25, .sh sI_], [], fun x => clockClockSet x.1 x.2.1⟩
theorem clockClockSet_ok : CO Tryz.prog clockClockSet_k := co_fn mixed Tryz.func96 [] trivial [] trivial (fun _ => []) [] fun x => by kernel_rfl
noncomputable def memoryMemoryLast (y0 : MemV) : Option ((AccV × Unit) × (MemV × Unit)) :=
 some ((y0.last, ()), (y0, ()))
noncomputable abbrev memoryMemoryLast_k : Con SR1 := ⟨97, [.ref 9], [.val 60], fun x => memoryMemoryLast x.1⟩
theorem memoryMemoryLast_ok : CO Tryz.prog memoryMemoryLast_k := co_fn mixed Tryz.func97 [] trivial [] trivial (fun _ => []) [] fun x => by kernel_rfl
end
section
open Go Go.RowKit
set_option maxRecDepth 100000
end
section
open Go Go.RowKit Go.Maps Go.MapKept Go.ChangeMaps Go.WideShapes
open Go.WideElems (Fit rd rg pl rd_val elemAt)
open Go.Maps (Keyed IsMap Tidy)
def rndStep (k p : Int) (s : DataW Unit × Int) : DataW Unit × Int :=
  if p < 0 then s else if (Maps.size (s.1.put (.int .i64 p) (.lit (.bool true))) : Int) ≤ k then (s.1.put (.int .i64 p) (.lit (.bool true)), s.2) else (.map [], s.2 + 1)
def rndF (k : Int) (ps : List Int) (j : Nat) : DataW Unit × Int := (ps.take j).foldl (fun s p => rndStep k p s) (.map [], 0)
theorem rndF_succ (k : Int) (ps : List Int) (j : Nat) (h : j < ps.length) : rndF k ps (j + 1) = rndStep k ps[j] (rndF k ps j) := by
  unfold rndF
  rw [List.take_succ_eq_append_getElem h, List.foldl_append]
  rfl
theorem rndF_le (k : Int) (ps : List Int) : ∀ j : Nat, 0 ≤ (rndF k ps j).2 ∧ (rndF k ps j).2 ≤ j
  | 0 => ⟨Int.le_refl 0, Int.le_refl 0⟩
  | j + 1 => by
    have h := rndF_le k ps j
    by_cases hj : j < ps.length
    · rw [rndF_succ k ps j hj]
      unfold rndStep
      split
      · omega
      · split
        · simp only; omega
        · simp only; omega
    · have e : rndF k ps (j + 1) = rndF k ps j := by
        unfold rndF
        rw [List.take_of_length_le (by omega), List.take_of_length_le (by omega)]
      rw [e]; omega
section
variable {H : Type} {P : Program} {w : World}
theorem wpList_clear_own {ops : Array Oper} {rest : List Oper} {o : Oper} {a : Act} {Q : Exit → Act → World → Prop} (hg : o.guard = none) (m : Operand) (t : TypeId) (hop : o.op = Op.call { callee := Callee.builtin Builtin.clear, args := #[m], argTypes := #[t] })
    (k e : TypeId) (ht : P.underlying t = some (.map k e)) (R : Value → Option (DataW H × List MemPlace)) (b n : Nat) (D : DataW H) (hm : a.eval m = .map (some b)) (hown : w.ownsMap P k R b n D)
    (hK : ∀ w', w'.ownsMap P k R b 0 (.map []) → w.grownBy w' (some b) → wpList P ops Q rest (a.put o.dst (.tuple #[])) w') :
    wpList P ops Q (o :: rest) a w := by
  refine wpList_plain hg fun K' hK' => ?_
  obtain ⟨es, clock, hb, F, hs, rfl⟩ := hown
  have hrun : (Builtin.clear_ #[t] o.type #[.map (some b)]).run P w = .ok (.tuple #[]) (setBlock w b (.map #[] clock)) := by
    simp [Builtin.clear_, run_underlying ht, MapKept.run_getObj_map hb, MapKept.run_setObj_map _ hb, setBlock, Result.andThen]
  unfold Oper.wp
  simp [execOp, hop, resolve, invoke, builtin, hm, hrun, Result.andThen]
  exact hK' _ _ (hK _ ⟨#[], clock, heap_setBlock_same hb _, ⟨by simp, stamped_empty clock, by simp⟩, Nat.le_refl _, rfl⟩ ⟨rfl, rfl, rfl, by simp [setBlock], fun i _ hi => heap_setBlock_other hb _ (fun e => hi (by rw [e]))⟩)
end
theorem grown_below {w w' : World} (h : Below w.heap.size w w') (row : Option Nat) : w.grownBy w' row := ⟨h.os, h.tape, h.output, h.size, fun k hk _ => h.block k hk⟩
theorem lawInt : Keyed Tryz.prog 3 := int_keyed Tryz.underlying3
theorem key_int (p : Int) (hp : (Lit.int .i64 p).wf = true) : keyOf Tryz.prog 3 (.int .i64 p) = some (.int .i64 p) := by
  first
    | exact keyOf_int_mk Tryz.underlying3 hp
    | simp [keyOf, Tryz.underlying3, hp]
end
section
open Go Go.RowKit Go.Maps Go.MapKept Go.ChangeMaps Go.WideShapes
open Go.Maps (Keyed IsMap Tidy)
def encEnt (e : Int × Int) : List Value := [.int .i64 e.1, .int .i64 e.2]
theorem wf_rnd {p : Int} (h : -1 ≤ p ∧ p ≤ 1000000) : (Lit.int .i64 p).wf = true := by
  have h1 : IntKind.i64.min = -9223372036854775808 := by decide
  have h2 : IntKind.i64.max = 9223372036854775807 := by decide
  unfold Lit.wf
  simp only [Bool.and_eq_true, decide_eq_true_eq, h1, h2]
  omega
set_option maxRecDepth 100000 in
set_option maxHeartbeats 4000000 in
theorem rounds_any (A : Option Addr) (cap : Nat) (l : List (Int × Int)) (k : Int) (pl : Int × Int → Int) (w : World) (hl : Sl encEnt 2 w w.heap.size A l) (hlen : l.length ≤ 1000000) (hk : 1 ≤ k ∧ k ≤ 1000000) (hpl : ∀ e, -1 ≤ pl e ∧ pl e ≤ 1000000)
    (hp : ∀ e, ∀ w', Below w.heap.size w w' → Calls Tryz.prog 108 #[.agg #[.int .i64 e.1, .int .i64 e.2], .int .i64 k] w' fun x w'' => x = .returned (.int .i64 (pl e)) ∧ Below w'.heap.size w' w'') :
    Calls Tryz.prog 57 #[.slice A l.length cap, .int .i64 k] w fun x w' => x = .returned (.int .i64 (rndF k (l.map pl) l.length).2) ∧ Below w.heap.size w w' := by
  have hmm := @run_makeMap Tryz.prog
  go_enter Tryz.func57, Tryz.ntmps57
  go_wp2
  go_step3
  go_wp2
  go_step3
  go_wp2
  go_loopw [15, 6] (fun i r wr => ∃ j : Nat, j ≤ l.length ∧ i = .int .i64 j ∧ r = .int .i64 (rndF k (l.map pl) j).2 ∧ wr.ownsMap Tryz.prog 3 (plainElem (H := Unit) Tryz.prog 4) w.heap.size j (rndF k (l.map pl) j).1 ∧ Below w.heap.size w wr) (fun i _ _ => l.length - (intOf i).toNat)
  case atStart => exact ⟨0, Nat.zero_le _, rfl, rfl, World.ownsMap_made _ _ _ _, (Below.refl _ _).alloc (Nat.le_refl _) _⟩
  case round =>
    obtain ⟨j, hj, rfl, rfl, hown, hnx⟩ := hrel
    by_cases hlt : j < l.length
    · obtain ⟨b, o, rfl, hbb, hcc⟩ := hl.at_ hlt
      have c0 : wr.cell? ⟨b, o + j * 2, none⟩ = some (.int .i64 l[j].1) := (hnx.cell (p := ⟨b, o + j * 2 + 0, none⟩) hbb).trans (hcc j hlt 0 _ rfl)
      have c1 : wr.cell? ⟨b, o + j * 2 + 1, none⟩ = some (.int .i64 l[j].2) := (hnx.cell (p := ⟨b, o + j * 2 + 1, none⟩) hbb).trans (hcc j hlt 1 _ rfl)
      have hle := rndF_le k (l.map pl) j
      have hsu := Lib.hid (rndF_succ k (l.map pl) j (by rw [List.length_map]; exact hlt))
      have hpj := hpl l[j]
      have hb1 : Below w.heap.size w (wr.alloc (.cells #[.int .i64 l[j].1, .int .i64 l[j].2] 87)) := hnx.alloc hnx.size _
      have hok1 : ∀ w1, Below (wr.alloc (.cells #[.int .i64 l[j].1, .int .i64 l[j].2] 87)).heap.size (wr.alloc (.cells #[.int .i64 l[j].1, .int .i64 l[j].2] 87)) w1 → w1.ownsMap Tryz.prog 3 (plainElem (H := Unit) Tryz.prog 4) w.heap.size j (rndF k (l.map pl) j).1 := fun w1 h => (hown.alloc _).kept (grown_below h none) (by simp)
      have hbn : ∀ w1, Below (wr.alloc (.cells #[.int .i64 l[j].1, .int .i64 l[j].2] 87)).heap.size (wr.alloc (.cells #[.int .i64 l[j].1, .int .i64 l[j].2] 87)) w1 → Below w.heap.size w w1 := fun w1 h => hb1.trans (h.mono hb1.size)
      have hkey := key_int (pl l[j]) (wf_rnd (by omega))
      by_cases hneg : pl l[j] < 0
      · have e1 : rndF k (l.map pl) (j + 1) = rndF k (l.map pl) j := by
          rw [hsu.out, List.getElem_map]; unfold rndStep; rw [if_pos hneg]
        go_wp2_with (first
          | (go_at_call 108; refine (hp l[j] _ (by exact hb1)).mono ?_; rintro e w1 ⟨rfl, hbp⟩)
          | go_in)
        go_roundw
        case rel => exact ⟨j + 1, by omega, by go_num, by rw [e1], by rw [e1]; exact (hok1 _ hbp).mono (by omega), hbn _ hbp⟩
        case measure => simp [intOf]; omega
      · by_cases hsz : (Maps.size ((rndF k (l.map pl) j).1.put (.int .i64 (pl l[j])) (.lit (.bool true))) : Int) ≤ k
        · have e1 : rndF k (l.map pl) (j + 1) = ((rndF k (l.map pl) j).1.put (.int .i64 (pl l[j])) (.lit (.bool true)), (rndF k (l.map pl) j).2) := by
            rw [hsu.out, List.getElem_map]; unfold rndStep; rw [if_neg hneg, if_pos hsz]
          go_wp2_with (first
            | (go_at_call 108; refine (hp l[j] _ (by exact hb1)).mono ?_; rintro e w1 ⟨rfl, hbp⟩)
            | (at_mapUpdate; refine wpList_mapUpdate_own _ rfl _ _ _ 172 rfl 3 4 lawInt Tryz.underlying172 (plainElem (H := Unit) Tryz.prog 4) w.heap.size j _ rfl (hok1 _ (by assumption)) (by unfold maxLen; omega) _ _ _ rfl rfl hkey _ [] (plainElem_bool Tryz.underlying4 true) ?_; intro w2 hown2 hgrow2)
            | (at_len; refine wpList_len_own _ rfl _ 172 rfl 3 4 Tryz.underlying172 _ w.heap.size (j + 1) _ rfl hown2 ?_)
            | go_in)
          go_roundw
          case rel => exact ⟨j + 1, by omega, by go_num, by rw [e1], by rw [e1]; exact hown2, (hbn _ hbp).grown hgrow2 (hbn _ hbp).size (fun j hj => by cases hj; exact Nat.le_refl _)⟩
          case measure => simp [intOf]; omega
        · have e1 : rndF k (l.map pl) (j + 1) = (.map [], (rndF k (l.map pl) j).2 + 1) := by
            rw [hsu.out, List.getElem_map]; unfold rndStep; rw [if_neg hneg, if_neg hsz]
          go_wp2_with (first
            | (go_at_call 108; refine (hp l[j] _ (by exact hb1)).mono ?_; rintro e w1 ⟨rfl, hbp⟩)
            | (at_mapUpdate; refine wpList_mapUpdate_own _ rfl _ _ _ 172 rfl 3 4 lawInt Tryz.underlying172 (plainElem (H := Unit) Tryz.prog 4) w.heap.size j _ rfl (hok1 _ (by assumption)) (by unfold maxLen; omega) _ _ _ rfl rfl hkey _ [] (plainElem_bool Tryz.underlying4 true) ?_; intro w2 hown2 hgrow2)
            | (at_len; refine wpList_len_own _ rfl _ 172 rfl 3 4 Tryz.underlying172 _ w.heap.size (j + 1) _ rfl hown2 ?_)
            | (refine wpList_clear_own rfl _ 172 rfl 3 4 Tryz.underlying172 _ w.heap.size (j + 1) _ rfl hown2 ?_; intro w3 hown3 hgrow3)
            | go_in)
          go_roundw
          case rel => exact ⟨j + 1, by omega, by go_num, by rw [e1], by rw [e1]; exact hown3.mono (by omega), ((hbn _ hbp).grown hgrow2 (hbn _ hbp).size (fun j hj => by cases hj; exact Nat.le_refl _)).grown hgrow3 (Nat.le_trans (hbn _ hbp).size hgrow2.size) (fun j hj => by cases hj; exact Nat.le_refl _)⟩
          case measure => simp [intOf]; omega
    · have : j = l.length := by omega
      subst this
      go_wp2
      rw [Exit.noGoto_ret]
      go_ret
      exact ⟨rfl, hnx⟩
end
section
open Go Go.RowKit
set_option maxRecDepth 100000
variable [Tb]
noncomputable def scriptPlace (y0 : EntV) (y1 : Int) : Option ((Int × Unit) × (Unit)) :=
 if y0.kind = 1 then
  some ((y1, ()), (()))
 else
 (scriptMachine y0 y1).bind fun r1 =>
 some ((r1.1.1, ()), (()))
noncomputable abbrev scriptPlace_k : Con SR1 := ⟨108, [.val 5, .sh sI_], [.sh sI_], fun x => scriptPlace x.1 x.2.1⟩
theorem scriptPlace_ok : CO Tryz.prog scriptPlace_k := co_fn mixed Tryz.func108 [scriptMachine_k] ⟨scriptMachine_ok, trivial⟩ [] trivial (fun _ => []) [] fun x => by kernel_rfl
end
section
open Go Go.RowKit
set_option maxRecDepth 100000
variable [Tb]
def placeV (k : Int) (e : Int × Int) : Int := if e.1 = 1 then k else if e.1 ≠ 0 then -1 else if Int.tmod e.2 k < 0 then Int.tmod e.2 k + k else Int.tmod e.2 k
theorem placeV_rg {k : Int} (hk : 1 ≤ k ∧ k ≤ 1000000) (e : Int × Int) : -1 ≤ placeV k e ∧ placeV k e ≤ 1000000 := by
  have h1 : Int.tmod e.2 k < k ∧ -k < Int.tmod e.2 k := by
    constructor
    · exact Int.tmod_lt_of_pos _ (by omega)
    · have h2 : Int.tmod (-e.2) k < k := Int.tmod_lt_of_pos _ (by omega)
      rw [Int.neg_tmod] at h2
      omega
  unfold placeV
  repeat' split
  all_goals omega
theorem place_eq {k : Int} (hk : 1 ≤ k ∧ k ≤ 1000000) (e : EntV) : scriptPlace e k = some ((placeV k (e.kind, e.value), ()), ()) := by
  have h1 : Int.tmod e.value k < k ∧ -k < Int.tmod e.value k := by
    constructor
    · exact Int.tmod_lt_of_pos _ (by omega)
    · have h2 : Int.tmod (-e.value) k < k := Int.tmod_lt_of_pos _ (by omega)
      rw [Int.neg_tmod] at h2
      omega
  unfold scriptPlace placeV scriptMachine
  by_cases c1 : e.kind = 1
  · rw [if_pos c1, if_pos c1]
  · rw [if_neg c1, if_neg c1]
    by_cases c2 : e.kind ≠ 0
    · rw [if_pos c2, if_pos c2]; rfl
    · rw [if_neg c2, if_neg c2, if_neg (by omega), if_pos (by omega)]
      by_cases c3 : Int.tmod e.value k < 0
      · rw [if_pos c3, if_pos c3, wi_id (rg_lit (by omega))]; rfl
      · rw [if_neg c3, if_neg c3]; rfl
theorem gl_below {B : Nat} {W w : World} (hg : GlOk B W) (hb : Below B W w) (hB : B ≤ w.heap.size) : GlOk w.heap.size w :=
  ⟨Nat.lt_of_lt_of_le hg.1 hB, fun i hi => (hb.cell (p := ⟨0, i, none⟩) hg.1).trans (hg.2 i hi)⟩
theorem place_calls {k : Int} (hk : 1 ≤ k ∧ k ≤ 1000000) (e : Int × Int) (w : World) (hg : GlOk w.heap.size w) :
    Calls Tryz.prog 108 #[.agg #[.int .i64 e.1, .int .i64 e.2], .int .i64 k] w fun x w' => x = .returned (.int .i64 (placeV k e)) ∧ Below w.heap.size w w' := by
  have hi : ∀ (x : Int) (q : Hp), pcS SR1.kt (.i .i64 x) (.int .i64 x) q := fun x q => pcS_iff.2 (show pcW SR1.kt (obS SR1.kt) (rwS SR1.kt) (.i .i64 x) _ q from rfl)
  have hst : ∀ {A : SProp} {L : List SProp} (q : Hp), (∀ q, A q) → star L q → star (A :: L) q := fun q hA hL => ⟨fun _ _ => none, q, fun _ _ => .inl rfl, by funext x y; rfl, hA _, hL⟩
  have hv : ∀ q : Hp, valS SR1 5 (⟨e.1, e.2⟩ : EntV) (.agg #[.int .i64 e.1, .int .i64 e.2]) q := fun q => ⟨[.int .i64 e.1, .int .i64 e.2], rfl, by
    show star [pcS SR1.kt (.i .i64 e.1) (.int .i64 e.1), pcS SR1.kt (.i .i64 e.2) (.int .i64 e.2)] q
    exact hst q (hi _) (hst q (hi _) trivial)⟩
  have s : Sat w.heap.size w (PreS SR1 [.val 5, .sh sI_] ((⟨e.1, e.2⟩ : EntV), k, ()) [.agg #[.int .i64 e.1, .int .i64 e.2], .int .i64 k] ++ [fun _ => True]) :=
    sat_pureI (sat_pureI (sat_pureI (Sat.nil _ _) fun _ => trivial) (hi k)) hv
  have h0 := scriptPlace_ok ((⟨e.1, e.2⟩ : EntV), k, ()) _ (place_eq hk ⟨e.1, e.2⟩) w.heap.size w hg _ (fun _ => True) w ⟨Below.refl _ _, Nat.le_refl _, s⟩
  rw [callsM_fn rfl] at h0
  refine h0.mono fun x w' ⟨us, he, hb, _, s'⟩ => ?_
  rcases us with _ | ⟨u, _ | ⟨u2, us⟩⟩
  · exact sat_false s'
  · have s2 : Sat w.heap.size w' (pureS (u = .int .i64 (placeV k e)) :: _) := sat_head (pc_cases (f := .i .i64 (placeV k e)) (fun _ h => h) fun _ _ h => h) s'
    obtain ⟨_, _, _, _, _, _, h1, _⟩ := s2
    subst h1
    exact ⟨he, hb⟩
  · exact sat_false s'.drop
def roundsV (l : List EntV) (k : Int) : Int := (rndF k ((l.map fun e => (e.kind, e.value)).map (placeV k)) (l.map fun e => (e.kind, e.value)).length).2
noncomputable def roundsK (l : List EntV) (k : Int) : Option ((Int × Unit) × Unit) := if l.length ≤ 1000000 then if 1 ≤ k ∧ k ≤ 1000000 then some ((roundsV l k, ()), ()) else none else none
noncomputable abbrev roundsK_k : Con SR1 := ⟨57, [.sh (.ro 5), .sh sI_], [.sh sI_], fun x => roundsK x.1 x.2.1⟩
theorem sl_pairs {w : World} {B : Nat} {A : Option Addr} {l : List EntV} (h : Sl (encF SR1.kt 5) 2 w B A l) : Sl encEnt 2 w B A (l.map fun e => (e.kind, e.value)) := by
  refine ⟨by rw [List.length_map]; exact h.1, fun hne => ?_⟩
  obtain ⟨b, o, e, hb, hc⟩ := h.2 (fun h0 => hne (by rw [h0]; rfl))
  refine ⟨b, o, e, hb, fun i x hx j u hu => ?_⟩
  rw [List.getElem?_map] at hx
  rcases hl : l[i]? with _ | y
  · rw [hl] at hx; cases hx
  · rw [hl] at hx
    cases hx
    exact hc i y hl j u hu
theorem roundsK_ok : CO Tryz.prog roundsK_k := fun x out hx B W hg vs F w hw => by
  obtain ⟨hb, hB, hs⟩ := hw
  obtain ⟨l, k, ⟨⟩⟩ := x
  replace hx : roundsK l k = some out := hx
  unfold roundsK at hx
  split at hx
  case isFalse => cases hx
  rename_i hl
  replace hl : List.length (α := EntV) l ≤ 1000000 := hl
  split at hx
  case isFalse => cases hx
  rename_i hk
  cases hx
  show CallsM Tryz.prog roundsK_k.f _ w _
  rw [callsM_fn rfl]
  rcases vs with _ | ⟨v, _ | ⟨u, _ | ⟨v2, vs⟩⟩⟩
  · exact sat_false hs
  · exact sat_false hs.drop
  · replace hs : Sat B w [pcS SR1.kt (.ro 5 l) v, pcS SR1.kt (.i .i64 k) u, F] := hs
    have hs0 := hs
    obtain ⟨hh, Hh, k1, k2, ka, ke, h1, k3, k4, kb, kf, h2, hF⟩ := hs0
    rw [pcS_iff] at h1 h2
    obtain ⟨A, cap, rfl, hr⟩ := h1
    replace h2 : u = .int .i64 k := h2
    subst h2
    have s1 : Sat B w [roS (encF SR1.kt 5) (SR1.kt.sz 5) A cap l, pcS SR1.kt (.i .i64 k) (.int .i64 k), F] := ⟨hh, Hh, k1, k2, ka, ke, hr, k3, k4, kb, kf, pcS_iff.2 (show pcW SR1.kt (obS SR1.kt) (rwS SR1.kt) (.i .i64 k) _ k3 from rfl), hF⟩
    have hsl := sl_pairs (ro_sl s1 List.mem_cons_self).1
    have hgw := gl_below hg hb hB
    have hml : (List.map (fun e : EntV => (e.kind, e.value)) l).length = List.length (α := EntV) l := List.length_map ..
    have hc := rounds_any A cap (List.map (fun e : EntV => (e.kind, e.value)) l) k (placeV k) w hsl (by rw [hml]; exact hl) hk (placeV_rg hk) (fun e w' hb' => place_calls hk e w' (gl_below hgw hb' hb'.size))
    have hv : Value.slice A (List.map (fun e : EntV => (e.kind, e.value)) l).length cap = Value.slice A (List.length (α := EntV) l) cap := by rw [hml]
    rw [hv] at hc
    refine Calls.mono hc fun e w' ⟨he, hb'⟩ => ⟨[.int .i64 (roundsV l k)], by rw [he]; rfl, hb.trans (hb'.mono hB), Nat.le_trans hB hb'.size, ?_⟩
    have hF' : Sat B w' [F] := (hs.drop.drop).below hb'
    exact sat_pureI hF' fun q => pcS_iff.2 (show pcW SR1.kt (obS SR1.kt) (rwS SR1.kt) (.i .i64 (roundsV l k)) _ q from rfl)
  · exact sat_false hs.drop.drop
end
section
open Go Go.RowKit
set_option maxRecDepth 100000
variable [Tb]
noncomputable def r4decode (b : List Int) : Option ((List EntV × Unit) × (Unit)) :=
 (lpF (σ := List EntV × Int × Unit) (β := List EntV × Int × Unit) (fun self3 x1 =>
  if (wi (x1.2.1 + 1)) < ((b.length : Nat) : Int) then
   if ((x1.1.length : Nat) : Int) < 65536 then
   if 0 ≤ x1.2.1 ∧ x1.2.1 < ((b.length : Nat) : Int) then
   if 0 ≤ wi (x1.2.1 + 1) ∧ wi (x1.2.1 + 1) < ((b.length : Nat) : Int) then
   if (atK17 b (wi (x1.2.1 + 1))) = (atK17 b (wi (x1.2.1 + 1))) then
   if (atK17 b x1.2.1) = (atK17 b x1.2.1) then
   if (Int.tmod (wi (atK17 b x1.2.1)) 4) = 1 then
   if (((x1.1.length + ([(⟨(Int.tmod (wi (atK17 b x1.2.1)) 4), 0⟩ : EntV)] : List EntV).length : Nat)) : Int) < 1000000000000 then
   self3 (x1.1 ++ ([(⟨(Int.tmod (wi (atK17 b x1.2.1)) 4), 0⟩ : EntV)]), wi (x1.2.1 + 2), ())
   else none
   else
   if (Int.tmod (wi (atK17 b x1.2.1)) 4) = 3 then
   if (((x1.1.length + ([(⟨(Int.tmod (wi (atK17 b x1.2.1)) 4), 0⟩ : EntV)] : List EntV).length : Nat)) : Int) < 1000000000000 then
   self3 (x1.1 ++ ([(⟨(Int.tmod (wi (atK17 b x1.2.1)) 4), 0⟩ : EntV)]), wi (x1.2.1 + 2), ())
   else none
   else
   if (((x1.1.length + ([(⟨(Int.tmod (wi (atK17 b x1.2.1)) 4), wi (atK17 b (wi (x1.2.1 + 1)))⟩ : EntV)] : List EntV).length : Nat)) : Int) < 1000000000000 then
   self3 (x1.1 ++ ([(⟨(Int.tmod (wi (atK17 b x1.2.1)) 4), wi (atK17 b (wi (x1.2.1 + 1)))⟩ : EntV)]), wi (x1.2.1 + 2), ())
   else none
   else none
   else none
   else none
   else none
   else
   some (x1.1, x1.2.1, ())
  else
  some (x1.1, x1.2.1, ())
 ) 18446744073709551616 ([], 0, ())).bind fun z2 =>
 some ((z2.1, ()), (()))
noncomputable abbrev r4decode_k : Con SR1 := ⟨24, [.sh (.ro 17)], [.sh (.row 5)], fun x => r4decode x.1⟩
theorem r4decode_ok : CO Tryz.prog r4decode_k := co_fn mixed Tryz.func24 [] trivial [] trivial (fun _ => []) [(3, .loop [.rg 3 (.row 5), .rg 4 sI_] 18446744073709551616 0)] fun x => by kernel_rfl
noncomputable def kscript (b : List Int) (n : Int) : Option ((List EntV × Unit) × (Unit)) :=
 (r4decode b).bind fun r1 =>
 if n < ((r1.1.1.length : Nat) : Int) then
  if 0 ≤ n ∧ n ≤ ((r1.1.1.length : Nat) : Int) then
   some ((r1.1.1.take (n : Int).toNat, ()), (()))
  else none
 else
 some ((r1.1.1, ()), (()))
noncomputable abbrev kscript_k : Con SR1 := ⟨43, [.sh (.ro 17), .sh sI_], [.sh (.row 5)], fun x => kscript x.1 x.2.1⟩
theorem kscript_ok : CO Tryz.prog kscript_k := co_fn mixed Tryz.func43 [r4decode_k] ⟨r4decode_ok, trivial⟩ [] trivial (fun _ => []) [] fun x => by kernel_rfl
noncomputable def workstealkeepPick (y0 : Int) : Option ((EntV × Unit) × (Unit)) :=
 some (((⟨0, y0⟩ : EntV), ()), (()))
noncomputable abbrev workstealkeepPick_k : Con SR1 := ⟨70, [.sh sI_], [.val 5], fun x => workstealkeepPick x.1⟩
theorem workstealkeepPick_ok : CO Tryz.prog workstealkeepPick_k := co_fn mixed Tryz.func70 [] trivial [] trivial (fun _ => []) [] fun x => by kernel_rfl
noncomputable def workstealref02Draw (y0 : Int) (y1 : Int) : Option ((Int × Unit) × (Unit)) :=
 if y1 < 1 then
  some ((0, ()), (()))
 else
 if y1 ≠ 0 then
  if (Int.tmod y0 y1) < 0 then
   if y1 ≠ 0 then
   some ((wi ((Int.tmod y0 y1) + y1), ()), (()))
   else none
  else
  if y1 ≠ 0 then
   some (((Int.tmod y0 y1), ()), (()))
  else none
 else none
noncomputable abbrev workstealref02Draw_k : Con SR1 := ⟨98, [.sh sI_, .sh sI_], [.sh sI_], fun x => workstealref02Draw x.1 x.2.1⟩
theorem workstealref02Draw_ok : CO Tryz.prog workstealref02Draw_k := co_fn mixed Tryz.func98 [] trivial [] trivial (fun _ => []) [] fun x => by kernel_rfl
noncomputable def workstealkeepNumber (y0 : List Int) (y1 : Int) (y2 : Int) : Option ((Int × Unit) × (Unit)) :=
 if ((y0.length : Nat) : Int) = 0 then
  some ((0, ()), (()))
 else
 if ((y0.length : Nat) : Int) ≠ 0 then
  if 0 ≤ (Int.tmod y1 ((y0.length : Nat) : Int)) ∧ (Int.tmod y1 ((y0.length : Nat) : Int)) < ((y0.length : Nat) : Int) then
   if ((y0.length : Nat) : Int) ≠ 0 then
   if (wi (1 + (Int.tmod (wi (Int.tdiv y1 ((y0.length : Nat) : Int))) 7))) ≠ 0 then
   (workstealref02Draw (wi (Int.tdiv (atK1 y0 (Int.tmod y1 ((y0.length : Nat) : Int))) (wi (1 + (Int.tmod (wi (Int.tdiv y1 ((y0.length : Nat) : Int))) 7))))) y2).bind fun r1 =>
   some ((r1.1.1, ()), (()))
   else none
   else none
  else none
 else none
noncomputable abbrev workstealkeepNumber_k : Con SR1 := ⟨46, [.sh (.ro 1), .sh sI_, .sh sI_], [.sh sI_], fun x => workstealkeepNumber x.1 x.2.1 x.2.2.1⟩
theorem workstealkeepNumber_ok : CO Tryz.prog workstealkeepNumber_k := co_fn mixed Tryz.func46 [workstealref02Draw_k] ⟨workstealref02Draw_ok, trivial⟩ [] trivial (fun _ => []) [] fun x => by kernel_rfl
noncomputable def workstealkeepInsert (y0 : List EntV) (y1 : EntV) (y2 : Int) : Option ((List EntV × Unit) × (Unit)) :=
 if 0 ≤ y2 ∧ y2 ≤ ((y0.length : Nat) : Int) then
  if (((([] : List EntV).length + (y0.take (y2 : Int).toNat).length : Nat)) : Int) < 1000000000000 then
   if ((((([]) ++ (y0.take (y2 : Int).toNat)).length + ([y1] : List EntV).length : Nat)) : Int) < 1000000000000 then
   if 0 ≤ y2 ∧ y2 ≤ ((y0.length : Nat) : Int) then
   if (((((([]) ++ (y0.take (y2 : Int).toNat)) ++ ([y1])).length + (y0.drop (y2 : Int).toNat).length : Nat)) : Int) < 1000000000000 then
   some ((((([]) ++ (y0.take (y2 : Int).toNat)) ++ ([y1])) ++ (y0.drop (y2 : Int).toNat), ()), (()))
   else none
   else none
   else none
  else none
 else none
noncomputable abbrev workstealkeepInsert_k : Con SR1 := ⟨143, [.sh (.ro 5), .val 5, .sh sI_], [.sh (.row 5)], fun x => workstealkeepInsert x.1 x.2.1 x.2.2.1⟩
theorem workstealkeepInsert_ok : CO Tryz.prog workstealkeepInsert_k := co_fn mixed Tryz.func143 [] trivial [] trivial (fun _ => []) [] fun x => by kernel_rfl
noncomputable def workstealkeepRound (y0 : List Int) (y1 : Int) (y2 : Int) : Option ((List EntV × Unit) × (Unit)) :=
 (lpF (σ := List EntV × Int × Unit) (β := List EntV × Int × Unit) (fun self3 x1 =>
  if x1.2.1 < y2 then
   (workstealkeepPick x1.2.1).bind fun r4 =>
   (workstealkeepNumber y0 (wi (y1 + x1.2.1)) (wi (x1.2.1 + 1))).bind fun r5 =>
   (workstealkeepInsert x1.1 r4.1.1 r5.1.1).bind fun r6 =>
   self3 (r6.1.1, wi (x1.2.1 + 1), ())
  else
  some (x1.1, x1.2.1, ())
 ) 18446744073709551616 ([], 0, ())).bind fun z2 =>
 (workstealkeepNumber y0 (wi (y1 + y2)) (wi (y2 + 1))).bind fun r7 =>
 (workstealkeepInsert z2.1 (⟨1, 0⟩ : EntV) r7.1.1).bind fun r8 =>
 (workstealkeepNumber y0 (wi ((wi (y1 + y2)) + 1)) 3).bind fun r9 =>
 (lpF (σ := List EntV × Int × Unit) (β := List EntV × Int × Unit) (fun self12 x10 =>
  if 0 < x10.2.1 then
   (workstealkeepNumber y0 (wi ((wi (y1 + y2)) + x10.2.1)) y2).bind fun r13 =>
   (workstealkeepPick r13.1.1).bind fun r14 =>
   (workstealkeepNumber y0 (wi (y1 + x10.2.1)) (wi (((x10.1.length : Nat) : Int) + 1))).bind fun r15 =>
   (workstealkeepInsert x10.1 r14.1.1 r15.1.1).bind fun r16 =>
   self12 (r16.1.1, wi (x10.2.1 - 1), ())
  else
  some (x10.1, x10.2.1, ())
 ) 18446744073709551616 (r8.1.1, r9.1.1, ())).bind fun z11 =>
 some ((z11.1, ()), (()))
noncomputable abbrev workstealkeepRound_k : Con SR1 := ⟨100, [.sh (.ro 1), .sh sI_, .sh sI_], [.sh (.row 5)], fun x => workstealkeepRound x.1 x.2.1 x.2.2.1⟩
theorem workstealkeepRound_ok : CO Tryz.prog workstealkeepRound_k := co_fn mixed Tryz.func100 [workstealkeepPick_k, workstealkeepNumber_k, workstealkeepInsert_k] ⟨workstealkeepPick_ok, workstealkeepNumber_ok, workstealkeepInsert_ok, trivial⟩ [] trivial (fun _ => []) [(3, .loop [.rg 7 (.row 5), .rg 8 sI_] 18446744073709551616 0), (8, .loop [.rg 7 (.row 5), .rg 9 sI_] 18446744073709551616 2)] fun x => by kernel_rfl
noncomputable def worksteallaw31Steady (y0 : Cfg) (y1 : List Int) (y2 : List Int) (y3 : Int) : Option ((List EntV × Unit) × (Unit)) :=
 (kscript y1 200).bind fun r1 =>
 (lpF (σ := List EntV × Int × Unit) (β := List EntV × Int × Unit) (fun self4 x2 =>
  if x2.2.1 < y3 then
   (workstealkeepRound y2 (wi (5 * x2.2.1)) (wi (y0.workers + 1))).bind fun r5 =>
   if (((x2.1.length + r5.1.1.length : Nat)) : Int) < 1000000000000 then
   self4 (x2.1 ++ r5.1.1, wi (x2.2.1 + 1), ())
   else none
  else
  some (x2.1, x2.2.1, ())
 ) 18446744073709551616 (r1.1.1, 0, ())).bind fun z3 =>
 some ((z3.1, ()), (()))
noncomputable abbrev worksteallaw31Steady_k : Con SR1 := ⟨53, [.val 13, .sh (.ro 17), .sh (.ro 1), .sh sI_], [.sh (.ro 5)], fun x => worksteallaw31Steady x.1 x.2.1 x.2.2.1 x.2.2.2.1⟩
theorem worksteallaw31Steady_ok : CO Tryz.prog worksteallaw31Steady_k := co_fn mixed Tryz.func53 [kscript_k, workstealkeepRound_k] ⟨kscript_ok, workstealkeepRound_ok, trivial⟩ [] trivial (fun _ => []) [(3, .loop [.rg 9 (.row 5), .rg 10 sI_] 18446744073709551616 0)] fun x => by kernel_rfl
noncomputable def configMachines (y0 : Cfg) : Option ((Int × Unit) × (Unit)) :=
 some ((wi (y0.workers + 1), ()), (()))
noncomputable abbrev configMachines_k : Con SR1 := ⟨101, [.val 13], [.sh sI_], fun x => configMachines x.1⟩
theorem configMachines_ok : CO Tryz.prog configMachines_k := co_fn mixed Tryz.func101 [] trivial [] trivial (fun _ => []) [] fun x => by kernel_rfl
noncomputable def boundParts (y0 : Int) (y1 : Int) (y2 : Int) (y3 : Int) (y4 : Int) (y5 : Int) (y6 : Int) : Option ((Int × Int × Int × Unit) × (Unit)) :=
 some ((wi ((wi ((wi ((wi (y6 + (wi (2 * y4)))) + 1)) * (wi ((wi (64 + (wi (2 * y2)))) + (wi (16 * y4)))))) + (wi ((wi ((wi (4 * y4)) * y1)) * (wi (y0 + 1))))), wi ((wi ((wi ((wi ((wi (4 * y4)) + (wi (4 * y6)))) + (wi ((wi (8 * y4)) * y1)))) + (wi (8 * y5)))) + 4), wi ((wi ((wi (8 * (wi ((wi ((wi (64 + (wi (11 * y1)))) + (wi (16 * y0)))) + y3)))) + 64)) + (wi (2 * y2))), ()), (()))
noncomputable abbrev boundParts_k : Con SR1 := ⟨144, [.sh sI_, .sh sI_, .sh sI_, .sh sI_, .sh sI_, .sh sI_, .sh sI_], [.sh sI_, .sh sI_, .sh sI_], fun x => boundParts x.1 x.2.1 x.2.2.1 x.2.2.2.1 x.2.2.2.2.1 x.2.2.2.2.2.1 x.2.2.2.2.2.2.1⟩
theorem boundParts_ok : CO Tryz.prog boundParts_k := co_fn mixed Tryz.func144 [] trivial [] trivial (fun _ => []) [] fun x => by kernel_rfl
noncomputable def boundBound (y0 : Int) (y1 : Int) (y2 : Int) (y3 : Int) (y4 : Int) (y5 : Int) (y6 : Int) : Option ((Int × Unit) × (Unit)) :=
 if y6 < 0 then
  some ((0, ()), (()))
 else
 if 1048576 < y6 then
  some ((0, ()), (()))
 else
 (lpF (σ := Int × Unit) (β := (Int × Unit) ⊕ ((Int × Unit) × (Unit))) (fun self3 x1 =>
  if x1.1 < ((([y0, y1, y2, y3, y4, y5] : List Int).length : Nat) : Int) then
   if 0 ≤ x1.1 ∧ x1.1 < ((([y0, y1, y2, y3, y4, y5] : List Int).length : Nat) : Int) then
   if (atK1 ([y0, y1, y2, y3, y4, y5]) x1.1) < 0 then
   Option.map Sum.inr (
   some ((0, ()), (()))
   )
   else
   if 131072 < (atK1 ([y0, y1, y2, y3, y4, y5]) x1.1) then
   Option.map Sum.inr (
   some ((0, ()), (()))
   )
   else
   self3 (wi (x1.1 + 1), ())
   else none
  else
  some (Sum.inl (x1.1, ()))
 ) 18446744073709551616 (0, ())).bind fun z2 => match z2 with
 | .inr o4 => some o4
 | .inl z2 =>
 (boundParts y0 y1 y2 y3 y4 y5 y6).bind fun r5 =>
 some ((wi ((wi ((wi (r5.1.1 + y4)) + y6)) + (wi ((wi (r5.1.2.1 + 2)) * r5.1.2.2.1))), ()), (()))
noncomputable abbrev boundBound_k : Con SR1 := ⟨102, [.sh sI_, .sh sI_, .sh sI_, .sh sI_, .sh sI_, .sh sI_, .sh sI_], [.sh sI_], fun x => boundBound x.1 x.2.1 x.2.2.1 x.2.2.2.1 x.2.2.2.2.1 x.2.2.2.2.2.1 x.2.2.2.2.2.2.1⟩
theorem boundBound_ok : CO Tryz.prog boundBound_k := co_fn mixed Tryz.func102 [boundParts_k] ⟨boundParts_ok, trivial⟩ [] trivial (fun _ => []) [(4, .loopR [.rg 34 sI_] 18446744073709551616 0)] fun x => by kernel_rfl
end
end Go.Proofs.YtgiagoeoifgliaaGreat
