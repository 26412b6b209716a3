/- The program's machines in the evaluator's form. The program's machines in the evaluator's form: all. Records whose kids are only read; what is owned may be held to be read. A copy of an environment in the evaluator's form. Env.Copy, handed an environment that nobody wants any more. What EngineRepeats calls, in the evaluator's form. -/
import Derived.Test.YtgiagoeoifgliaaGreatRqao
import Derived.Test.YtgiagoeoifgliaaGreatRqaj
set_option linter.all false
namespace Go.Proofs.YtgiagoeoifgliaaGreat
section
open Go Go.RowKit
set_option maxRecDepth 100000
variable [Tb]
noncomputable def clientClientAccess_a (y0 : (ClientV MV)) (y1 : EnvP) : Option ((Bool × Unit) × ((ClientV MV) × EnvP × Unit)) :=
 if 0 ≤ y0.i ∧ y0.i < ((y0.subs.length : Nat) : Int) then
  agr (
   if y1.l.workers = y1.l.workers then
   if y1.l.levels = y1.l.levels then
   if y1.l.classes = y1.l.classes then
   if y1.l.tasks = y1.l.tasks then
   if y1.l.deque = y1.l.deque then
   if y1.l.heap = y1.l.heap then
   if y1.l.sleepers = y1.l.sleepers then
   if y1.l.epochs = y1.l.epochs then
   if y1.l.bitmaps = y1.l.bitmaps then
   if y1.l.queues = y1.l.queues then
   if y1.l.table = y1.l.table then
   if ((atK4 y0.subs y0.i).prog) = ((atK4 y0.subs y0.i).prog) then
   if ((atK4 y0.subs y0.i).level) = ((atK4 y0.subs y0.i).level) then
   if ((atK4 y0.subs y0.i).deadline) = ((atK4 y0.subs y0.i).deadline) then
   if y0.i = y0.i then
   if y1.l.workers = y1.l.workers then
   if y1.l.levels = y1.l.levels then
   if y1.l.classes = y1.l.classes then
   if y1.l.tasks = y1.l.tasks then
   if y1.l.deque = y1.l.deque then
   if y1.l.heap = y1.l.heap then
   if y1.l.sleepers = y1.l.sleepers then
   if y1.l.epochs = y1.l.epochs then
   if y1.l.bitmaps = y1.l.bitmaps then
   if y1.l.queues = y1.l.queues then
   if y1.l.table = y1.l.table then
   if ((atK4 y0.subs y0.i).prog) = ((atK4 y0.subs y0.i).prog) then
   if ((atK4 y0.subs y0.i).level) = ((atK4 y0.subs y0.i).level) then
   if ((atK4 y0.subs y0.i).deadline) = ((atK4 y0.subs y0.i).deadline) then
   if y0.i = y0.i then
   if y1.l.workers = y1.l.workers then
   if y1.l.levels = y1.l.levels then
   if y1.l.classes = y1.l.classes then
   if y1.l.tasks = y1.l.tasks then
   if y1.l.deque = y1.l.deque then
   if y1.l.heap = y1.l.heap then
   if y1.l.sleepers = y1.l.sleepers then
   if y1.l.epochs = y1.l.epochs then
   if y1.l.bitmaps = y1.l.bitmaps then
   if y1.l.queues = y1.l.queues then
   if y1.l.table = y1.l.table then
   if y0.line = 2 then
   (pLSize y1.l).bind fun r15 =>
   if y1.c.heap = y1.c.heap then
   (pLoad y1.m r15.1.1).bind fun r16 =>
   if y1.c.heap = y1.c.heap then
   if y1.c.heap ≤ (wi (r16.1.1)) then
   (clientClientReject y0 ({ y1 with m := r16.2.1 } : EnvP) 1).bind fun r17 =>
   some ((r17.1.1, ()), (r17.2.1, r17.2.2.1, ()))
   else
   (clientClientTo y0 (wi (y0.line + 1))).bind fun r18 =>
   some ((r18.1.1, ()), (r18.2.1, ({ y1 with m := r16.2.1 } : EnvP), ()))
   else none
   else none
   else
   if y0.line = 4 then
   (pLevel y1.l y0.id).bind fun r19 =>
   if ((atK4 y0.subs y0.i).level) = ((atK4 y0.subs y0.i).level) then
   (pStore y1.m r19.1.1 (wu ((atK4 y0.subs y0.i).level))).bind fun r20 =>
   (clientClientTo y0 (wi (y0.line + 1))).bind fun r21 =>
   some ((r21.1.1, ()), (r21.2.1, ({ y1 with m := r20.2.1 } : EnvP), ()))
   else none
   else
   if y0.line = 5 then
   (pSince y1.l y0.id).bind fun r22 =>
   (pNow y1.k).bind fun r23 =>
   (pStore y1.m r22.1.1 (wu (r23.1.1))).bind fun r24 =>
   (clientClientTo y0 (wi (y0.line + 1))).bind fun r25 =>
   some ((r25.1.1, ()), (r25.2.1, ({ y1 with m := r24.2.1, k := r23.2.1 } : EnvP), ()))
   else
   (pState y1.l y0.id).bind fun r26 =>
   (pStore y1.m r26.1.1 1).bind fun r27 =>
   (clientClientTo y0 (wi (y0.line + 1))).bind fun r28 =>
   some ((r28.1.1, ()), (r28.2.1, ({ y1 with m := r27.2.1 } : EnvP), ()))
   else none
   else none
   else none
   else none
   else none
   else none
   else none
   else none
   else none
   else none
   else none
   else none
   else none
   else none
   else none
   else none
   else none
   else none
   else none
   else none
   else none
   else none
   else none
   else none
   else none
   else none
   else none
   else none
   else none
   else none
   else none
   else none
   else none
   else none
   else none
   else none
   else none
   else none
   else none
   else none
   else none
  ) (
   if y1.l.workers = y1.l.workers then
   if y1.l.levels = y1.l.levels then
   if y1.l.classes = y1.l.classes then
   if y1.l.tasks = y1.l.tasks then
   if y1.l.deque = y1.l.deque then
   if y1.l.heap = y1.l.heap then
   if y1.l.sleepers = y1.l.sleepers then
   if y1.l.epochs = y1.l.epochs then
   if y1.l.bitmaps = y1.l.bitmaps then
   if y1.l.queues = y1.l.queues then
   if y1.l.table = y1.l.table then
   if ((atK4 y0.subs y0.i).prog) = ((atK4 y0.subs y0.i).prog) then
   if ((atK4 y0.subs y0.i).level) = ((atK4 y0.subs y0.i).level) then
   if ((atK4 y0.subs y0.i).deadline) = ((atK4 y0.subs y0.i).deadline) then
   if y0.i = y0.i then
   if y1.l.workers = y1.l.workers then
   if y1.l.levels = y1.l.levels then
   if y1.l.classes = y1.l.classes then
   if y1.l.tasks = y1.l.tasks then
   if y1.l.deque = y1.l.deque then
   if y1.l.heap = y1.l.heap then
   if y1.l.sleepers = y1.l.sleepers then
   if y1.l.epochs = y1.l.epochs then
   if y1.l.bitmaps = y1.l.bitmaps then
   if y1.l.queues = y1.l.queues then
   if y1.l.table = y1.l.table then
   if ((atK4 y0.subs y0.i).prog) = ((atK4 y0.subs y0.i).prog) then
   if ((atK4 y0.subs y0.i).level) = ((atK4 y0.subs y0.i).level) then
   if ((atK4 y0.subs y0.i).deadline) = ((atK4 y0.subs y0.i).deadline) then
   if y0.i = y0.i then
   if y1.l.workers = y1.l.workers then
   if y1.l.levels = y1.l.levels then
   if y1.l.classes = y1.l.classes then
   if y1.l.tasks = y1.l.tasks then
   if y1.l.deque = y1.l.deque then
   if y1.l.heap = y1.l.heap then
   if y1.l.sleepers = y1.l.sleepers then
   if y1.l.epochs = y1.l.epochs then
   if y1.l.bitmaps = y1.l.bitmaps then
   if y1.l.queues = y1.l.queues then
   if y1.l.table = y1.l.table then
   if y0.line = 2 then
   (pLSize y1.l).bind fun r1 =>
   if y1.c.heap = y1.c.heap then
   (pLoad y1.m r1.1.1).bind fun r2 =>
   if y1.c.heap = y1.c.heap then
   if y1.c.heap ≤ (wi (r2.1.1)) then
   (clientClientReject y0 ({ y1 with m := r2.2.1 } : EnvP) 1).bind fun r3 =>
   some ((r3.1.1, ()), (r3.2.1, r3.2.2.1, ()))
   else
   (clientClientTo y0 (wi (y0.line + 1))).bind fun r4 =>
   some ((r4.1.1, ()), (r4.2.1, ({ y1 with m := r2.2.1 } : EnvP), ()))
   else none
   else none
   else
   if y0.line = 4 then
   (pLevel y1.l y0.id).bind fun r5 =>
   if ((atK4 y0.subs y0.i).level) = ((atK4 y0.subs y0.i).level) then
   (pStore y1.m r5.1.1 (wu ((atK4 y0.subs y0.i).level))).bind fun r6 =>
   (clientClientTo y0 (wi (y0.line + 1))).bind fun r7 =>
   some ((r7.1.1, ()), (r7.2.1, ({ y1 with m := r6.2.1 } : EnvP), ()))
   else none
   else
   if y0.line = 5 then
   (pSince y1.l y0.id).bind fun r8 =>
   (pNow y1.k).bind fun r9 =>
   (pStore y1.m r8.1.1 (wu (r9.1.1))).bind fun r10 =>
   (clientClientTo y0 (wi (y0.line + 1))).bind fun r11 =>
   some ((r11.1.1, ()), (r11.2.1, ({ y1 with m := r10.2.1, k := r9.2.1 } : EnvP), ()))
   else
   (pState y1.l y0.id).bind fun r12 =>
   (pStore y1.m r12.1.1 1).bind fun r13 =>
   (clientClientTo y0 (wi (y0.line + 1))).bind fun r14 =>
   some ((r14.1.1, ()), (r14.2.1, ({ y1 with m := r13.2.1 } : EnvP), ()))
   else none
   else none
   else none
   else none
   else none
   else none
   else none
   else none
   else none
   else none
   else none
   else none
   else none
   else none
   else none
   else none
   else none
   else none
   else none
   else none
   else none
   else none
   else none
   else none
   else none
   else none
   else none
   else none
   else none
   else none
   else none
   else none
   else none
   else none
   else none
   else none
   else none
   else none
   else none
   else none
   else none
  )
 else none
noncomputable abbrev clientClientAccess_a_k : Con SR1 := ⟨206, [.ref 30, .ref 27], [.sh .b], fun x => clientClientAccess_a x.1 x.2.1⟩
theorem clientClientAccess_a_ok : CO Tryz.prog clientClientAccess_a_k := co_fn mixed Tryz.func206 [pLSize_k, pLoad_k, clientClientReject_k, clientClientTo_k, pLevel_k, pStore_k, pSince_k, pNow_k, pState_k] ⟨pLSize_ok, pLoad_ok, clientClientReject_ok, clientClientTo_ok, pLevel_ok, pStore_ok, pSince_ok, pNow_ok, pState_ok, trivial⟩ [] trivial (fun _ => []) [] fun x => by kernel_rfl
noncomputable def clientClientAccess (y0 : (ClientV MV)) (y1 : EnvP) : Option ((Bool × Unit) × ((ClientV MV) × EnvP × Unit)) :=
 if 0 ≤ y0.i ∧ y0.i < ((y0.subs.length : Nat) : Int) then
  if y0.line = 2 then
   (pLSize y1.l).bind fun r1 =>
   (pLoad y1.m r1.1.1).bind fun r2 =>
   if y1.c.heap ≤ (wi (r2.1.1)) then
   (clientClientReject y0 ({ y1 with m := r2.2.1 } : EnvP) 1).bind fun r3 =>
   some ((r3.1.1, ()), (r3.2.1, r3.2.2.1, ()))
   else
   (clientClientTo y0 (wi (y0.line + 1))).bind fun r4 =>
   some ((r4.1.1, ()), (r4.2.1, ({ y1 with m := r2.2.1 } : EnvP), ()))
  else
  if y0.line = 4 then
   (pLevel y1.l y0.id).bind fun r5 =>
   (pStore y1.m r5.1.1 (wu ((atK4 y0.subs y0.i).level))).bind fun r6 =>
   (clientClientTo y0 (wi (y0.line + 1))).bind fun r7 =>
   some ((r7.1.1, ()), (r7.2.1, ({ y1 with m := r6.2.1 } : EnvP), ()))
  else
  if y0.line = 5 then
   (pSince y1.l y0.id).bind fun r8 =>
   (pNow y1.k).bind fun r9 =>
   (pStore y1.m r8.1.1 (wu (r9.1.1))).bind fun r10 =>
   (clientClientTo y0 (wi (y0.line + 1))).bind fun r11 =>
   some ((r11.1.1, ()), (r11.2.1, ({ y1 with m := r10.2.1, k := r9.2.1 } : EnvP), ()))
  else
  (pState y1.l y0.id).bind fun r12 =>
  (pStore y1.m r12.1.1 1).bind fun r13 =>
  (clientClientTo y0 (wi (y0.line + 1))).bind fun r14 =>
  some ((r14.1.1, ()), (r14.2.1, ({ y1 with m := r13.2.1 } : EnvP), ()))
 else none
noncomputable abbrev clientClientAccess_k : Con SR1 := ⟨206, [.ref 30, .ref 27], [.sh .b], fun x => clientClientAccess x.1 x.2.1⟩
theorem clientClientAccess_eq (y0 : (ClientV MV)) (y1 : EnvP) : clientClientAccess_a y0 y1 = clientClientAccess y0 y1 := by
  unfold clientClientAccess_a clientClientAccess
  simp only [if_true, agr_self, bind_guard]
theorem clientClientAccess_ok : CO Tryz.prog clientClientAccess_k := co_as clientClientAccess_a_ok fun x out hx => (show clientClientAccess_a_k.spec x = some out from (clientClientAccess_eq x.1 x.2.1).trans hx)
noncomputable def clientClientNext (y0 : (ClientV MV)) : Option ((Bool × Unit) × ((ClientV MV) × Unit)) :=
 (clientClientTo ({ y0 with i := wi (y0.i + 1), accepted := false } : (ClientV MV)) 1).bind fun r1 =>
 (clientClientOver r1.2.1).bind fun r2 =>
 some ((r2.1.1, ()), (r2.2.1, ()))
noncomputable abbrev clientClientNext_k : Con SR1 := ⟨216, [.ref 30], [.sh .b], fun x => clientClientNext x.1⟩
theorem clientClientNext_ok : CO Tryz.prog clientClientNext_k := co_fn mixed Tryz.func216 [clientClientTo_k, clientClientOver_k] ⟨clientClientTo_ok, clientClientOver_ok, trivial⟩ [] trivial (fun _ => []) [] fun x => by kernel_rfl
noncomputable def clientClientAfter (y0 : (ClientV MV)) (y1 : EnvP) (y2 : Int) (y3 : Int) : Option ((Bool × Unit) × ((ClientV MV) × EnvP × Unit)) :=
 if 0 ≤ y0.i ∧ y0.i < ((y0.subs.length : Nat) : Int) then
  if ((atK4 y0.subs y0.i).prog) = ((atK4 y0.subs y0.i).prog) then
   if ((atK4 y0.subs y0.i).level) = ((atK4 y0.subs y0.i).level) then
   if ((atK4 y0.subs y0.i).deadline) = ((atK4 y0.subs y0.i).deadline) then
   if y0.i = y0.i then
   if y0.line = 3 then
   if y2 = 3 then
   (clientClientReject y0 y1 2).bind fun r1 =>
   some ((r1.1.1, ()), (r1.2.1, r1.2.2.1, ()))
   else
   if 0 ≤ y3 ∧ y3 < ((y1.recs.length : Nat) : Int) then
   (clientClientTo ({ y0 with id := y3 } : (ClientV MV)) (wi (y0.line + 1))).bind fun r2 =>
   some ((r2.1.1, ()), (r2.2.1, ({ y1 with recs := y1.recs.set y3.toNat (⟨(atK4 y0.subs y0.i).prog, (-1), 0, 0, (-1), [], false⟩ : RecP) } : EnvP), ()))
   else none
   else
   if y0.line = 6 then
   if y2 ≠ 0 then
   (clientClientTo y0 8).bind fun r3 =>
   some ((r3.1.1, ()), (r3.2.1, y1, ()))
   else
   (pEmit y1 (⟨1, y0.me, y0.id, y0.i, (atK4 y0.subs y0.i).level⟩ : Ev)).bind fun r4 =>
   (clientClientTo ({ y0 with accepted := true } : (ClientV MV)) (wi (y0.line + 1))).bind fun r5 =>
   some ((r5.1.1, ()), (r5.2.1, r4.2.1, ()))
   else
   if y0.line = 8 then
   if (!y0.accepted) = true then
   (clientClientNext y0).bind fun r6 =>
   some ((r6.1.1, ()), (r6.2.1, y1, ()))
   else
   (clientClientTo y0 (wi (y0.line + 1))).bind fun r7 =>
   some ((r7.1.1, ()), (r7.2.1, y1, ()))
   else
   if y0.line = 9 then
   (clientClientNext y0).bind fun r8 =>
   some ((r8.1.1, ()), (r8.2.1, y1, ()))
   else
   (clientClientTo y0 (wi (y0.line + 1))).bind fun r9 =>
   some ((r9.1.1, ()), (r9.2.1, y1, ()))
   else none
   else none
   else none
  else none
 else none
noncomputable abbrev clientClientAfter_k : Con SR1 := ⟨207, [.ref 30, .ref 27, .sh sI_, .sh sI_], [.sh .b], fun x => clientClientAfter x.1 x.2.1 x.2.2.1 x.2.2.2.1⟩
theorem clientClientAfter_ok : CO Tryz.prog clientClientAfter_k := co_fn mixed Tryz.func207 [clientClientReject_k, clientClientTo_k, pEmit_k, clientClientNext_k] ⟨clientClientReject_ok, clientClientTo_ok, pEmit_ok, clientClientNext_ok, trivial⟩ [] trivial (fun _ => []) [] fun x => by kernel_rfl
noncomputable def clientClientStep (y0 : (ClientV MV)) (y1 : EnvP) : Option ((Bool × Unit) × ((ClientV MV) × EnvP × Unit)) :=
 (clientClientOver y0).bind fun r1 =>
 if r1.1.1 = true then
  some ((true, ()), (r1.2.1, y1, ()))
 else
 if r1.2.1.fresh = true then
  (clientClientMachines r1.2.1).bind fun r2 =>
  if (SR1.spl r2.1.1).isNone = true then
   (clientClientAccess ({ r2.2.1 with inside := r2.1.1, fresh := false } : (ClientV MV)) y1).bind fun r3 =>
   some ((r3.1.1, ()), (r3.2.1, r3.2.2.1, ()))
  else
  (stepD3 r2.1.1 y1).bind fun r4 =>
  if (!r4.1.1) = true then
   some ((false, ()), (({ r2.2.1 with inside := r4.2.1, fresh := false } : (ClientV MV)), r4.2.2.1, ()))
  else
  (resultD3 r4.2.1).bind fun r5 =>
  (clientClientAfter ({ r2.2.1 with inside := r5.2.1, fresh := false } : (ClientV MV)) r4.2.2.1 r5.1.1 r5.1.2.1).bind fun r6 =>
  some ((r6.1.1, ()), (r6.2.1, r6.2.2.1, ()))
 else
 if (SR1.spl r1.2.1.inside).isNone = true then
  (clientClientAccess r1.2.1 y1).bind fun r7 =>
  some ((r7.1.1, ()), (r7.2.1, r7.2.2.1, ()))
 else
 (stepD3 r1.2.1.inside y1).bind fun r8 =>
 if (!r8.1.1) = true then
  some ((false, ()), (({ r1.2.1 with inside := r8.2.1 } : (ClientV MV)), r8.2.2.1, ()))
 else
 (resultD3 r8.2.1).bind fun r9 =>
 (clientClientAfter ({ r1.2.1 with inside := r9.2.1 } : (ClientV MV)) r8.2.2.1 r9.1.1 r9.1.2.1).bind fun r10 =>
 some ((r10.1.1, ()), (r10.2.1, r10.2.2.1, ()))
noncomputable abbrev clientClientStep_k : Con SR1 := ⟨204, [.ref 30, .ref 27], [.sh .b], fun x => clientClientStep x.1 x.2.1⟩
theorem clientClientStep_ok : CO Tryz.prog clientClientStep_k := co_fn mixed Tryz.func204 [clientClientOver_k, clientClientMachines_k, clientClientAccess_k, stepD3_k, resultD3_k, clientClientAfter_k] ⟨clientClientOver_ok, clientClientMachines_ok, clientClientAccess_ok, stepD3_ok, resultD3_ok, clientClientAfter_ok, trivial⟩ [] trivial (fun _ => []) [] fun x => by kernel_rfl
noncomputable def takeTake (y0 : Int) : Option ((MV × Unit) × (Unit)) :=
 (levelsPop y0).bind fun r1 =>
 some ((MV.take (⟨⟨false, 0, 0⟩, y0, false, r1.1.1⟩ : (TakeV MV)), ()), (()))
noncomputable abbrev takeTake_k : Con SR1 := ⟨125, [.sh sI_], [.sh .mach], fun x => takeTake x.1⟩
theorem takeTake_ok : CO Tryz.prog takeTake_k := co_fn mixed Tryz.func125 [levelsPop_k] ⟨levelsPop_ok, trivial⟩ [] trivial (fun _ => []) [] fun x => by kernel_rfl
noncomputable def workerWorkerTo (y0 : (WorkerV MV)) (y1 : Int) (y2 : MV) : Option ((Unit) × ((WorkerV MV) × Unit)) :=
 some ((()), (({ y0 with line := y1, inside := y2 } : (WorkerV MV)), ()))
noncomputable abbrev workerWorkerTo_k : Con SR1 := ⟨124, [.ref 31, .sh sI_, .sh .mach], [], fun x => workerWorkerTo x.1 x.2.1 x.2.2.1⟩
theorem workerWorkerTo_ok : CO Tryz.prog workerWorkerTo_k := co_fn mixed Tryz.func124 [] trivial [] trivial (fun _ => []) [] fun x => by kernel_rfl
noncomputable def agingSweep (y0 : Int) (y1 : Int) : Option ((MV × Unit) × (Unit)) :=
 some ((MV.sweep (⟨⟨false, 0, 0⟩, y0, y1, 1, 0, MV.nil⟩ : (SweepV MV)), ()), (()))
noncomputable abbrev agingSweep_k : Con SR1 := ⟨126, [.sh sI_, .sh sI_], [.sh .mach], fun x => agingSweep x.1 x.2.1⟩
theorem agingSweep_ok : CO Tryz.prog agingSweep_k := co_fn mixed Tryz.func126 [] trivial [] trivial (fun _ => []) [] fun x => by kernel_rfl
noncomputable def workerWorkerStart (y0 : (WorkerV MV)) (y1 : EnvP) : Option ((Unit) × ((WorkerV MV) × EnvP × Unit)) :=
 if y1.c.age = 0 then
  (takeTake y0.worker).bind fun r1 =>
  (workerWorkerTo y0 2 r1.1.1).bind fun r2 =>
  some ((()), (r2.2.1, y1, ()))
 else
 (pMod y0.worker y1.c.tasks).bind fun r3 =>
 if y1.c.tasks = y1.c.tasks then
  if y0.cursor = y0.cursor then
   if y0.worker = y0.worker then
   (pMod (wi (r3.1.1 + y0.cursor)) y1.c.tasks).bind fun r4 =>
   if y0.worker = y0.worker then
   (agingSweep y0.worker r4.1.1).bind fun r5 =>
   (workerWorkerTo y0 1 r5.1.1).bind fun r6 =>
   some ((()), (r6.2.1, y1, ()))
   else none
   else none
  else none
 else none
noncomputable abbrev workerWorkerStart_k : Con SR1 := ⟨83, [.ref 31, .ref 27], [], fun x => workerWorkerStart x.1 x.2.1⟩
theorem workerWorkerStart_ok : CO Tryz.prog workerWorkerStart_k := co_fn mixed Tryz.func83 [takeTake_k, workerWorkerTo_k, pMod_k, agingSweep_k] ⟨takeTake_ok, workerWorkerTo_ok, pMod_ok, agingSweep_ok, trivial⟩ [] trivial (fun _ => []) [] fun x => by kernel_rfl
noncomputable def runnerRun (y0 : Int) (y1 : Int) : Option ((MV × Unit) × (Unit)) :=
 some ((MV.run (⟨⟨false, 0, 0⟩, y0, [y1], 0, MV.nil, 0, 0, 0, 0⟩ : (RunV MV)), ()), (()))
noncomputable abbrev runnerRun_k : Con SR1 := ⟨15, [.sh sI_, .sh sI_], [.sh .mach], fun x => runnerRun x.1 x.2.1⟩
theorem runnerRun_ok : CO Tryz.prog runnerRun_k := co_fn mixed Tryz.func15 [] trivial [] trivial (fun _ => []) [] fun x => by kernel_rfl
noncomputable def workerWorkerRun (y0 : (WorkerV MV)) (y1 : Int) : Option ((Unit) × ((WorkerV MV) × Unit)) :=
 (runnerRun y0.worker y1).bind fun r1 =>
 (workerWorkerTo ({ y0 with x := y1 } : (WorkerV MV)) 7 r1.1.1).bind fun r2 =>
 some ((()), (r2.2.1, ()))
noncomputable abbrev workerWorkerRun_k : Con SR1 := ⟨86, [.ref 31, .sh sI_], [], fun x => workerWorkerRun x.1 x.2.1⟩
theorem workerWorkerRun_ok : CO Tryz.prog workerWorkerRun_k := co_fn mixed Tryz.func86 [runnerRun_k, workerWorkerTo_k] ⟨runnerRun_ok, workerWorkerTo_ok, trivial⟩ [] trivial (fun _ => []) [] fun x => by kernel_rfl
noncomputable def drainDrain (y0 : Int) : Option ((MV × Unit) × (Unit)) :=
 some ((MV.drain (⟨⟨false, 0, 0⟩, y0, 1, MV.nil, 0, false, 0, 0, 0⟩ : (DrainV MV)), ()), (()))
noncomputable abbrev drainDrain_k : Con SR1 := ⟨128, [.sh sI_], [.sh .mach], fun x => drainDrain x.1⟩
theorem drainDrain_ok : CO Tryz.prog drainDrain_k := co_fn mixed Tryz.func128 [] trivial [] trivial (fun _ => []) [] fun x => by kernel_rfl
noncomputable def workerWorkerClaim (y0 : (WorkerV MV)) (y1 : Int) : Option ((Unit) × ((WorkerV MV) × Unit)) :=
 (tableClaim y0.worker y1).bind fun r1 =>
 (workerWorkerTo ({ y0 with x := y1 } : (WorkerV MV)) 6 r1.1.1).bind fun r2 =>
 some ((()), (r2.2.1, ()))
noncomputable abbrev workerWorkerClaim_k : Con SR1 := ⟨129, [.ref 31, .sh sI_], [], fun x => workerWorkerClaim x.1 x.2.1⟩
theorem workerWorkerClaim_ok : CO Tryz.prog workerWorkerClaim_k := co_fn mixed Tryz.func129 [tableClaim_k, workerWorkerTo_k] ⟨tableClaim_ok, workerWorkerTo_ok, trivial⟩ [] trivial (fun _ => []) [] fun x => by kernel_rfl
noncomputable def parkSleep (y0 : Int) : Option ((MV × Unit) × (Unit)) :=
 some ((MV.sleep (⟨⟨false, 0, 0⟩, y0, 1, 0, 0, 0⟩ : SleepV), ()), (()))
noncomputable abbrev parkSleep_k : Con SR1 := ⟨131, [.sh sI_], [.sh .mach], fun x => parkSleep x.1⟩
theorem parkSleep_ok : CO Tryz.prog parkSleep_k := co_fn mixed Tryz.func131 [] trivial [] trivial (fun _ => []) [] fun x => by kernel_rfl
noncomputable def probeProbe (y0 : Int) : Option ((MV × Unit) × (Unit)) :=
 some ((MV.probe (⟨⟨false, 0, 0⟩, y0, false, 0, 0, ⟨0, 0, 0, 0, 0, 0, 0, 0, 0, 0, 0, 0, 0, 0, 0, 0⟩⟩ : ProbeV), ()), (()))
noncomputable abbrev probeProbe_k : Con SR1 := ⟨150, [.sh sI_], [.sh .mach], fun x => probeProbe x.1⟩
theorem probeProbe_ok : CO Tryz.prog probeProbe_k := co_fn mixed Tryz.func150 [] trivial [] trivial (fun _ => []) [] fun x => by kernel_rfl
noncomputable def workerWorkerIdle (y0 : (WorkerV MV)) (y1 : EnvP) : Option ((Unit) × ((WorkerV MV) × EnvP × Unit)) :=
 if y1.c.workers = 1 then
  (parkSleep y0.worker).bind fun r1 =>
  (workerWorkerTo y0 8 r1.1.1).bind fun r2 =>
  some ((()), (r2.2.1, y1, ()))
 else
 (probeProbe y0.worker).bind fun r3 =>
 (workerWorkerTo y0 4 r3.1.1).bind fun r4 =>
 some ((()), (r4.2.1, y1, ()))
noncomputable abbrev workerWorkerIdle_k : Con SR1 := ⟨130, [.ref 31, .ref 27], [], fun x => workerWorkerIdle x.1 x.2.1⟩
theorem workerWorkerIdle_ok : CO Tryz.prog workerWorkerIdle_k := co_fn mixed Tryz.func130 [parkSleep_k, workerWorkerTo_k, probeProbe_k] ⟨parkSleep_ok, workerWorkerTo_ok, probeProbe_ok, trivial⟩ [] trivial (fun _ => []) [] fun x => by kernel_rfl
noncomputable def thiefSteal (y0 : QV) : Option ((MV × Unit) × (Unit)) :=
 some ((MV.steal (⟨⟨false, 0, 0⟩, y0, 1, 0, 0⟩ : StealV), ()), (()))
noncomputable abbrev thiefSteal_k : Con SR1 := ⟨132, [.val 14], [.sh .mach], fun x => thiefSteal x.1⟩
theorem thiefSteal_ok : CO Tryz.prog thiefSteal_k := co_fn mixed Tryz.func132 [] trivial [] trivial (fun _ => []) [] fun x => by kernel_rfl
noncomputable def workerWorkerFound (y0 : (WorkerV MV)) (y1 : EnvP) (y2 : Int) (y3 : Int) : Option ((Unit) × ((WorkerV MV) × EnvP × Unit)) :=
 if y0.line = 1 then
  (takeTake y0.worker).bind fun r1 =>
  (workerWorkerTo ({ y0 with cursor := wi (y0.cursor + 1) } : (WorkerV MV)) 2 r1.1.1).bind fun r2 =>
  some ((()), (r2.2.1, y1, ()))
 else
 if y0.line = 2 then
  if y2 = 1 then
   (workerWorkerRun y0 y3).bind fun r3 =>
   some ((()), (r3.2.1, y1, ()))
  else
  if y0.line = 2 then
   (drainDrain y0.worker).bind fun r4 =>
   (workerWorkerTo y0 3 r4.1.1).bind fun r5 =>
   some ((()), (r5.2.1, y1, ()))
  else
  if y0.line = 3 then
   if y2 = 1 then
   (workerWorkerClaim y0 y3).bind fun r6 =>
   some ((()), (r6.2.1, y1, ()))
   else
   if y0.line = 3 then
   if y2 = 0 then
   (takeTake y0.worker).bind fun r7 =>
   (workerWorkerTo y0 2 r7.1.1).bind fun r8 =>
   some ((()), (r8.2.1, y1, ()))
   else
   if y0.line = 3 then
   (workerWorkerIdle y0 y1).bind fun r9 =>
   some ((()), (r9.2.1, r9.2.2.1, ()))
   else
   if y2 = 2 then
   (parkSleep y0.worker).bind fun r10 =>
   (workerWorkerTo y0 8 r10.1.1).bind fun r11 =>
   some ((()), (r11.2.1, y1, ()))
   else
   (pQueue y1.l (wi (Int.tdiv y3 64)) (Int.tmod y3 64)).bind fun r12 =>
   (thiefSteal r12.1.1).bind fun r13 =>
   (workerWorkerTo ({ y0 with victim := wi (Int.tdiv y3 64), level := (Int.tmod y3 64) } : (WorkerV MV)) 5 r13.1.1).bind fun r14 =>
   some ((()), (r14.2.1, y1, ()))
   else
   if y0.line = 3 then
   (workerWorkerIdle y0 y1).bind fun r15 =>
   some ((()), (r15.2.1, r15.2.2.1, ()))
   else
   if y2 = 2 then
   (parkSleep y0.worker).bind fun r16 =>
   (workerWorkerTo y0 8 r16.1.1).bind fun r17 =>
   some ((()), (r17.2.1, y1, ()))
   else
   (pQueue y1.l (wi (Int.tdiv y3 64)) (Int.tmod y3 64)).bind fun r18 =>
   (thiefSteal r18.1.1).bind fun r19 =>
   (workerWorkerTo ({ y0 with victim := wi (Int.tdiv y3 64), level := (Int.tmod y3 64) } : (WorkerV MV)) 5 r19.1.1).bind fun r20 =>
   some ((()), (r20.2.1, y1, ()))
  else
  if y0.line = 3 then
   if y2 = 0 then
   (takeTake y0.worker).bind fun r21 =>
   (workerWorkerTo y0 2 r21.1.1).bind fun r22 =>
   some ((()), (r22.2.1, y1, ()))
   else
   if y0.line = 3 then
   (workerWorkerIdle y0 y1).bind fun r23 =>
   some ((()), (r23.2.1, r23.2.2.1, ()))
   else
   if y2 = 2 then
   (parkSleep y0.worker).bind fun r24 =>
   (workerWorkerTo y0 8 r24.1.1).bind fun r25 =>
   some ((()), (r25.2.1, y1, ()))
   else
   (pQueue y1.l (wi (Int.tdiv y3 64)) (Int.tmod y3 64)).bind fun r26 =>
   (thiefSteal r26.1.1).bind fun r27 =>
   (workerWorkerTo ({ y0 with victim := wi (Int.tdiv y3 64), level := (Int.tmod y3 64) } : (WorkerV MV)) 5 r27.1.1).bind fun r28 =>
   some ((()), (r28.2.1, y1, ()))
  else
  if y0.line = 3 then
   (workerWorkerIdle y0 y1).bind fun r29 =>
   some ((()), (r29.2.1, r29.2.2.1, ()))
  else
  if y2 = 2 then
   (parkSleep y0.worker).bind fun r30 =>
   (workerWorkerTo y0 8 r30.1.1).bind fun r31 =>
   some ((()), (r31.2.1, y1, ()))
  else
  (pQueue y1.l (wi (Int.tdiv y3 64)) (Int.tmod y3 64)).bind fun r32 =>
  (thiefSteal r32.1.1).bind fun r33 =>
  (workerWorkerTo ({ y0 with victim := wi (Int.tdiv y3 64), level := (Int.tmod y3 64) } : (WorkerV MV)) 5 r33.1.1).bind fun r34 =>
  some ((()), (r34.2.1, y1, ()))
 else
 if y0.line = 2 then
  (drainDrain y0.worker).bind fun r35 =>
  (workerWorkerTo y0 3 r35.1.1).bind fun r36 =>
  some ((()), (r36.2.1, y1, ()))
 else
 if y0.line = 3 then
  if y2 = 1 then
   (workerWorkerClaim y0 y3).bind fun r37 =>
   some ((()), (r37.2.1, y1, ()))
  else
  if y0.line = 3 then
   if y2 = 0 then
   (takeTake y0.worker).bind fun r38 =>
   (workerWorkerTo y0 2 r38.1.1).bind fun r39 =>
   some ((()), (r39.2.1, y1, ()))
   else
   if y0.line = 3 then
   (workerWorkerIdle y0 y1).bind fun r40 =>
   some ((()), (r40.2.1, r40.2.2.1, ()))
   else
   if y2 = 2 then
   (parkSleep y0.worker).bind fun r41 =>
   (workerWorkerTo y0 8 r41.1.1).bind fun r42 =>
   some ((()), (r42.2.1, y1, ()))
   else
   (pQueue y1.l (wi (Int.tdiv y3 64)) (Int.tmod y3 64)).bind fun r43 =>
   (thiefSteal r43.1.1).bind fun r44 =>
   (workerWorkerTo ({ y0 with victim := wi (Int.tdiv y3 64), level := (Int.tmod y3 64) } : (WorkerV MV)) 5 r44.1.1).bind fun r45 =>
   some ((()), (r45.2.1, y1, ()))
  else
  if y0.line = 3 then
   (workerWorkerIdle y0 y1).bind fun r46 =>
   some ((()), (r46.2.1, r46.2.2.1, ()))
  else
  if y2 = 2 then
   (parkSleep y0.worker).bind fun r47 =>
   (workerWorkerTo y0 8 r47.1.1).bind fun r48 =>
   some ((()), (r48.2.1, y1, ()))
  else
  (pQueue y1.l (wi (Int.tdiv y3 64)) (Int.tmod y3 64)).bind fun r49 =>
  (thiefSteal r49.1.1).bind fun r50 =>
  (workerWorkerTo ({ y0 with victim := wi (Int.tdiv y3 64), level := (Int.tmod y3 64) } : (WorkerV MV)) 5 r50.1.1).bind fun r51 =>
  some ((()), (r51.2.1, y1, ()))
 else
 if y0.line = 3 then
  if y2 = 0 then
   (takeTake y0.worker).bind fun r52 =>
   (workerWorkerTo y0 2 r52.1.1).bind fun r53 =>
   some ((()), (r53.2.1, y1, ()))
  else
  if y0.line = 3 then
   (workerWorkerIdle y0 y1).bind fun r54 =>
   some ((()), (r54.2.1, r54.2.2.1, ()))
  else
  if y2 = 2 then
   (parkSleep y0.worker).bind fun r55 =>
   (workerWorkerTo y0 8 r55.1.1).bind fun r56 =>
   some ((()), (r56.2.1, y1, ()))
  else
  (pQueue y1.l (wi (Int.tdiv y3 64)) (Int.tmod y3 64)).bind fun r57 =>
  (thiefSteal r57.1.1).bind fun r58 =>
  (workerWorkerTo ({ y0 with victim := wi (Int.tdiv y3 64), level := (Int.tmod y3 64) } : (WorkerV MV)) 5 r58.1.1).bind fun r59 =>
  some ((()), (r59.2.1, y1, ()))
 else
 if y0.line = 3 then
  (workerWorkerIdle y0 y1).bind fun r60 =>
  some ((()), (r60.2.1, r60.2.2.1, ()))
 else
 if y2 = 2 then
  (parkSleep y0.worker).bind fun r61 =>
  (workerWorkerTo y0 8 r61.1.1).bind fun r62 =>
  some ((()), (r62.2.1, y1, ()))
 else
 (pQueue y1.l (wi (Int.tdiv y3 64)) (Int.tmod y3 64)).bind fun r63 =>
 (thiefSteal r63.1.1).bind fun r64 =>
 (workerWorkerTo ({ y0 with victim := wi (Int.tdiv y3 64), level := (Int.tmod y3 64) } : (WorkerV MV)) 5 r64.1.1).bind fun r65 =>
 some ((()), (r65.2.1, y1, ()))
noncomputable abbrev workerWorkerFound_k : Con SR1 := ⟨84, [.ref 31, .ref 27, .sh sI_, .sh sI_], [], fun x => workerWorkerFound x.1 x.2.1 x.2.2.1 x.2.2.2.1⟩
theorem workerWorkerFound_ok : CO Tryz.prog workerWorkerFound_k := co_fn mixed Tryz.func84 [takeTake_k, workerWorkerTo_k, workerWorkerRun_k, drainDrain_k, workerWorkerClaim_k, workerWorkerIdle_k, parkSleep_k, pQueue_k, thiefSteal_k] ⟨takeTake_ok, workerWorkerTo_ok, workerWorkerRun_ok, drainDrain_ok, workerWorkerClaim_ok, workerWorkerIdle_ok, parkSleep_ok, pQueue_ok, thiefSteal_ok, trivial⟩ [] trivial (fun _ => []) [] fun x => by kernel_rfl
noncomputable def workerWorkerLoop (y0 : (WorkerV MV)) : Option ((Unit) × ((WorkerV MV) × Unit)) :=
 some ((()), (({ y0 with line := 0, inside := MV.nil } : (WorkerV MV)), ()))
noncomputable abbrev workerWorkerLoop_k : Con SR1 := ⟨87, [.ref 31], [], fun x => workerWorkerLoop x.1⟩
theorem workerWorkerLoop_ok : CO Tryz.prog workerWorkerLoop_k := co_fn mixed Tryz.func87 [] trivial [] trivial (fun _ => []) [] fun x => by kernel_rfl
noncomputable def workerWorkerStolen (y0 : (WorkerV MV)) (y1 : EnvP) (y2 : Int) (y3 : Int) : Option ((Unit) × ((WorkerV MV) × EnvP × Unit)) :=
 if y2 = 1 then
  (pEmit y1 ({ y0 with kind := 14, task := y3, other := y0.victim } : Ev)).bind fun r1 =>
  (workerWorkerClaim y0 y3).bind fun r2 =>
  some ((()), (r2.2.1, r1.2.1, ()))
 else
 if y2 = 2 then
  (pBitmap y1.l y0.victim).bind fun r3 =>
  if y0.level = y0.level then
   if y0.victim = y0.victim then
   if y1.l.workers = y1.l.workers then
   if y1.l.levels = y1.l.levels then
   if y1.l.classes = y1.l.classes then
   if y1.l.tasks = y1.l.tasks then
   if y1.l.deque = y1.l.deque then
   if y1.l.heap = y1.l.heap then
   if y1.l.sleepers = y1.l.sleepers then
   if y1.l.epochs = y1.l.epochs then
   if y1.l.bitmaps = y1.l.bitmaps then
   if y1.l.queues = y1.l.queues then
   if y1.l.table = y1.l.table then
   if y0.level = y0.level then
   (pQueue y1.l y0.victim y0.level).bind fun r4 =>
   if y0.level = y0.level then
   (bitmapClear r3.1.1 y0.level r4.1.1).bind fun r5 =>
   (workerWorkerTo y0 9 r5.1.1).bind fun r6 =>
   some ((()), (r6.2.1, y1, ()))
   else none
   else none
   else none
   else none
   else none
   else none
   else none
   else none
   else none
   else none
   else none
   else none
   else none
   else none
  else none
 else
 (workerWorkerLoop y0).bind fun r7 =>
 some ((()), (r7.2.1, y1, ()))
noncomputable abbrev workerWorkerStolen_k : Con SR1 := ⟨85, [.ref 31, .ref 27, .sh sI_, .sh sI_], [], fun x => workerWorkerStolen x.1 x.2.1 x.2.2.1 x.2.2.2.1⟩
theorem workerWorkerStolen_ok : CO Tryz.prog workerWorkerStolen_k := co_fn mixed Tryz.func85 [pEmit_k, workerWorkerClaim_k, pBitmap_k, pQueue_k, bitmapClear_k, workerWorkerTo_k, workerWorkerLoop_k] ⟨pEmit_ok, workerWorkerClaim_ok, pBitmap_ok, pQueue_ok, bitmapClear_ok, workerWorkerTo_ok, workerWorkerLoop_ok, trivial⟩ [] trivial (fun _ => []) [] fun x => by kernel_rfl
noncomputable def workerWorkerStep (y0 : (WorkerV MV)) (y1 : EnvP) : Option ((Bool × Unit) × ((WorkerV MV) × EnvP × Unit)) :=
 if y0.line = 0 then
  (workerWorkerStart y0 y1).bind fun r1 =>
  (stepD3 r1.2.1.inside r1.2.2.1).bind fun r2 =>
  if (!r2.1.1) = true then
   some ((false, ()), (({ r1.2.1 with inside := r2.2.1 } : (WorkerV MV)), r2.2.2.1, ()))
  else
  (resultD3 r2.2.1).bind fun r3 =>
  if r1.2.1.line ≤ 4 then
   (workerWorkerFound ({ r1.2.1 with inside := r3.2.1 } : (WorkerV MV)) r2.2.2.1 r3.1.1 r3.1.2.1).bind fun r4 =>
   some ((false, ()), (r4.2.1, r4.2.2.1, ()))
  else
  if r1.2.1.line = 5 then
   (workerWorkerStolen ({ r1.2.1 with inside := r3.2.1 } : (WorkerV MV)) r2.2.2.1 r3.1.1 r3.1.2.1).bind fun r5 =>
   some ((false, ()), (r5.2.1, r5.2.2.1, ()))
  else
  if r1.2.1.line = 6 then
   if r3.1.1 = 1 then
   (workerWorkerRun ({ r1.2.1 with inside := r3.2.1 } : (WorkerV MV)) r1.2.1.x).bind fun r6 =>
   some ((false, ()), (r6.2.1, r2.2.2.1, ()))
   else
   (workerWorkerLoop ({ r1.2.1 with inside := r3.2.1 } : (WorkerV MV))).bind fun r7 =>
   some ((false, ()), (r7.2.1, r2.2.2.1, ()))
  else
  (workerWorkerLoop ({ r1.2.1 with inside := r3.2.1 } : (WorkerV MV))).bind fun r8 =>
  some ((false, ()), (r8.2.1, r2.2.2.1, ()))
 else
 (stepD3 y0.inside y1).bind fun r9 =>
 if (!r9.1.1) = true then
  some ((false, ()), (({ y0 with inside := r9.2.1 } : (WorkerV MV)), r9.2.2.1, ()))
 else
 (resultD3 r9.2.1).bind fun r10 =>
 if y0.line ≤ 4 then
  (workerWorkerFound ({ y0 with inside := r10.2.1 } : (WorkerV MV)) r9.2.2.1 r10.1.1 r10.1.2.1).bind fun r11 =>
  some ((false, ()), (r11.2.1, r11.2.2.1, ()))
 else
 if y0.line = 5 then
  (workerWorkerStolen ({ y0 with inside := r10.2.1 } : (WorkerV MV)) r9.2.2.1 r10.1.1 r10.1.2.1).bind fun r12 =>
  some ((false, ()), (r12.2.1, r12.2.2.1, ()))
 else
 if y0.line = 6 then
  if r10.1.1 = 1 then
   (workerWorkerRun ({ y0 with inside := r10.2.1 } : (WorkerV MV)) y0.x).bind fun r13 =>
   some ((false, ()), (r13.2.1, r9.2.2.1, ()))
  else
  (workerWorkerLoop ({ y0 with inside := r10.2.1 } : (WorkerV MV))).bind fun r14 =>
  some ((false, ()), (r14.2.1, r9.2.2.1, ()))
 else
 (workerWorkerLoop ({ y0 with inside := r10.2.1 } : (WorkerV MV))).bind fun r15 =>
 some ((false, ()), (r15.2.1, r9.2.2.1, ()))
noncomputable abbrev workerWorkerStep_k : Con SR1 := ⟨37, [.ref 31, .ref 27], [.sh .b], fun x => workerWorkerStep x.1 x.2.1⟩
theorem workerWorkerStep_ok : CO Tryz.prog workerWorkerStep_k := co_fn mixed Tryz.func37 [workerWorkerStart_k, stepD3_k, resultD3_k, workerWorkerFound_k, workerWorkerStolen_k, workerWorkerRun_k, workerWorkerLoop_k] ⟨workerWorkerStart_ok, stepD3_ok, resultD3_ok, workerWorkerFound_ok, workerWorkerStolen_ok, workerWorkerRun_ok, workerWorkerLoop_ok, trivial⟩ [] trivial (fun _ => []) [] fun x => by kernel_rfl
noncomputable def configClone (y0 : Cfg) : Option ((Cfg × Unit) × (Unit)) :=
 (cloneRows y0.progs).bind fun r1 =>
 (lpF (σ := Int × (Int × Int × Int × Int × Int × Int × Int × Int × Int × List (List Ins) × List Sub × Unit) × Unit) (β := Int × (Int × Int × Int × Int × Int × Int × Int × Int × Int × List (List Ins) × List Sub × Unit) × Unit) (fun self4 x2 =>
  if x2.1 < ((r1.1.1.length : Nat) : Int) then
   if 0 ≤ x2.1 ∧ x2.1 < ((x2.2.1.2.2.2.2.2.2.2.2.2.1.length : Nat) : Int) then
   (cloneIns (atK18 x2.2.1.2.2.2.2.2.2.2.2.2.1 x2.1)).bind fun r5 =>
   if 0 ≤ x2.1 ∧ x2.1 < ((x2.2.1.2.2.2.2.2.2.2.2.2.1.length : Nat) : Int) then
   self4 (wi (x2.1 + 1), (x2.2.1.1, x2.2.1.2.1, x2.2.1.2.2.1, x2.2.1.2.2.2.1, x2.2.1.2.2.2.2.1, x2.2.1.2.2.2.2.2.1, x2.2.1.2.2.2.2.2.2.1, x2.2.1.2.2.2.2.2.2.2.1, x2.2.1.2.2.2.2.2.2.2.2.1, x2.2.1.2.2.2.2.2.2.2.2.2.1.set x2.1.toNat r5.1.1, x2.2.1.2.2.2.2.2.2.2.2.2.2.1, ()), ())
   else none
   else none
  else
  some (x2.1, (x2.2.1.1, x2.2.1.2.1, x2.2.1.2.2.1, x2.2.1.2.2.2.1, x2.2.1.2.2.2.2.1, x2.2.1.2.2.2.2.2.1, x2.2.1.2.2.2.2.2.2.1, x2.2.1.2.2.2.2.2.2.2.1, x2.2.1.2.2.2.2.2.2.2.2.1, x2.2.1.2.2.2.2.2.2.2.2.2.1, x2.2.1.2.2.2.2.2.2.2.2.2.2.1, ()), ())
 ) 18446744073709551616 (0, (y0.workers, y0.levels, y0.classes, y0.tasks, y0.deque, y0.heap, y0.batch, y0.age, y0.patience, r1.1.1, y0.subs, ()), ())).bind fun z3 =>
 (cloneSubs z3.2.1.2.2.2.2.2.2.2.2.2.2.1).bind fun r6 =>
 some (((⟨z3.2.1.1, z3.2.1.2.1, z3.2.1.2.2.1, z3.2.1.2.2.2.1, z3.2.1.2.2.2.2.1, z3.2.1.2.2.2.2.2.1, z3.2.1.2.2.2.2.2.2.1, z3.2.1.2.2.2.2.2.2.2.1, z3.2.1.2.2.2.2.2.2.2.2.1, z3.2.1.2.2.2.2.2.2.2.2.2.1, r6.1.1⟩ : Cfg), ()), (()))
noncomputable abbrev configClone_k : Con SR1 := ⟨79, [.val 13], [.val 13], fun x => configClone x.1⟩
theorem configClone_ok : CO Tryz.prog configClone_k := co_fn mixed Tryz.func79 [cloneRows_k, cloneIns_k, cloneSubs_k] ⟨cloneRows_ok, cloneIns_ok, cloneSubs_ok, trivial⟩ [] trivial (fun _ => []) [(3, .loop [.rg 11 sI_, .cs 11 [sI_, sI_, sI_, sI_, sI_, sI_, sI_, sI_, sI_, (.row 18), (.ro 4)]] 18446744073709551616 0)] fun x => by kernel_rfl
noncomputable def layoutNew (y0 : Cfg) : Option ((LayV × Int × Unit) × (Unit)) :=
 (cfgCheck y0).bind fun r1 =>
 if r1.1.1 ≠ 0 then
  some (((⟨0, 0, 0, 0, 0, 0, 0, 0, 0, 0, 0⟩ : LayV), r1.1.1, ()), (()))
 else
 some ((({ y0 with sleepers := wi (4 + y0.heap), epochs := wi ((wi (4 + y0.heap)) + y0.classes), bitmaps := wi ((wi ((wi (4 + y0.heap)) + y0.classes)) + y0.workers), queues := wi ((wi ((wi ((wi (4 + y0.heap)) + y0.classes)) + y0.workers)) + y0.workers), table := wi ((wi ((wi ((wi ((wi (4 + y0.heap)) + y0.classes)) + y0.workers)) + y0.workers)) + (wi ((wi (y0.workers * y0.levels)) * (wi (2 + y0.deque))))) } : LayV), 0, ()), (()))
noncomputable abbrev layoutNew_k : Con SR1 := ⟨76, [.val 13], [.val 24, .sh sI_], fun x => layoutNew x.1⟩
theorem layoutNew_ok : CO Tryz.prog layoutNew_k := co_fn mixed Tryz.func76 [cfgCheck_k] ⟨cfgCheck_ok, trivial⟩ [] trivial (fun _ => []) [] fun x => by kernel_rfl
noncomputable def memoryNew (y0 : Int) : Option ((MemV × Unit) × (Unit)) :=
 if (if 131072 < (if y0 < 0 then 0 else y0) then 131072 else (if y0 < 0 then 0 else y0)) = (if 131072 < (if y0 < 0 then 0 else y0) then 131072 else (if y0 < 0 then 0 else y0)) then
  if 0 ≤ (if 131072 < (if y0 < 0 then 0 else y0) then 131072 else (if y0 < 0 then 0 else y0)) ∧ (if 131072 < (if y0 < 0 then 0 else y0) then 131072 else (if y0 < 0 then 0 else y0)) ≤ 1099511627776 then
   some (((⟨List.replicate ((if 131072 < (if y0 < 0 then 0 else y0) then 131072 else (if y0 < 0 then 0 else y0)) : Int).toNat (0 : Int), ⟨0, 0, 0, 0⟩, 0⟩ : MemV), ()), (()))
  else none
 else none
noncomputable abbrev memoryNew_k : Con SR1 := ⟨119, [.sh sI_], [.sh (.own 9)], fun x => memoryNew x.1⟩
theorem memoryNew_ok : CO Tryz.prog memoryNew_k := co_fn mixed Tryz.func119 [] trivial [] trivial (fun _ => []) [] fun x => by kernel_rfl
noncomputable def clockNew  : Option ((ClkV × Unit) × (Unit)) :=
 some (((⟨0, 0⟩ : ClkV), ()), (()))
noncomputable abbrev clockNew_k : Con SR1 := ⟨120, [], [.sh (.own 25)], fun x => clockNew ⟩
theorem clockNew_ok : CO Tryz.prog clockNew_k := co_fn mixed Tryz.func120 [] trivial [] trivial (fun _ => []) [] fun x => by kernel_rfl
noncomputable def machineBare (y0 : Int) : Option ((EnvP × Unit) × (Unit)) :=
 (memoryNew y0).bind fun r1 =>
 (clockNew).bind fun r2 =>
 some (((⟨⟨0, 0, 0, 0, 0, 0, 0, 0, 0, [], []⟩, ⟨0, 0, 0, 0, 0, 0, 0, 0, 0, 0, 0⟩, r1.1.1, r2.1.1, [], []⟩ : EnvP), ()), (()))
noncomputable abbrev machineBare_k : Con SR1 := ⟨77, [.sh sI_], [.sh (.own 27)], fun x => machineBare x.1⟩
theorem machineBare_ok : CO Tryz.prog machineBare_k := co_fn mixed Tryz.func77 [memoryNew_k, clockNew_k] ⟨memoryNew_ok, clockNew_ok, trivial⟩ [] trivial (fun _ => []) [] fun x => by kernel_rfl
noncomputable def clientNew (y0 : Cfg) : Option (((ClientV MV) × Unit) × (Unit)) :=
 (configClone y0).bind fun r1 =>
 if y0.workers = y0.workers then
  some (((⟨r1.1.1.subs, y0.workers, 0, 1, MV.nil, true, 0, false⟩ : (ClientV MV)), ()), (()))
 else none
noncomputable abbrev clientNew_k : Con SR1 := ⟨113, [.val 13], [.sh (.own 30)], fun x => clientNew x.1⟩
theorem clientNew_ok : CO Tryz.prog clientNew_k := co_fn mixed Tryz.func113 [configClone_k] ⟨configClone_ok, trivial⟩ [] trivial (fun _ => []) [] fun x => by kernel_rfl
noncomputable def workerNew (y0 : Int) : Option (((WorkerV MV) × Unit) × (Unit)) :=
 some (((⟨y0, 0, 0, MV.nil, 0, 0, 0⟩ : (WorkerV MV)), ()), (()))
noncomputable abbrev workerNew_k : Con SR1 := ⟨34, [.sh sI_], [.sh (.own 31)], fun x => workerNew x.1⟩
theorem workerNew_ok : CO Tryz.prog workerNew_k := co_fn mixed Tryz.func34 [] trivial [] trivial (fun _ => []) [] fun x => by kernel_rfl
noncomputable def clientClientStatus (y0 : (ClientV MV)) : Option ((Int × Unit) × ((ClientV MV) × Unit)) :=
 (clientClientOver y0).bind fun r1 =>
 if r1.1.1 = true then
  some ((4, ()), (r1.2.1, ()))
 else
 if r1.2.1.line = 1 then
  some ((0, ()), (r1.2.1, ()))
 else
 some ((2, ()), (r1.2.1, ()))
noncomputable abbrev clientClientStatus_k : Con SR1 := ⟨104, [.ref 30], [.sh sI_], fun x => clientClientStatus x.1⟩
theorem clientClientStatus_ok : CO Tryz.prog clientClientStatus_k := co_fn mixed Tryz.func104 [clientClientOver_k] ⟨clientClientOver_ok, trivial⟩ [] trivial (fun _ => []) [] fun x => by kernel_rfl
noncomputable def workerWorkerStatus (y0 : (WorkerV MV)) : Option ((Int × Unit) × ((WorkerV MV) × Unit)) :=
 if y0.line = 0 then
  some ((0, ()), (y0, ()))
 else
 if y0.line = 7 then
  some ((2, ()), (y0, ()))
 else
 if y0.line = 8 then
  (parkAsleep y0.inside).bind fun r1 =>
  if r1.1.1 = true then
   some ((3, ()), (({ y0 with inside := r1.2.1 } : (WorkerV MV)), ()))
  else
  some ((1, ()), (({ y0 with inside := r1.2.1 } : (WorkerV MV)), ()))
 else
 some ((1, ()), (y0, ()))
noncomputable abbrev workerWorkerStatus_k : Con SR1 := ⟨38, [.ref 31], [.sh sI_], fun x => workerWorkerStatus x.1⟩
theorem workerWorkerStatus_ok : CO Tryz.prog workerWorkerStatus_k := co_fn mixed Tryz.func38 [parkAsleep_k] ⟨parkAsleep_ok, trivial⟩ [] trivial (fun _ => []) [] fun x => by kernel_rfl
noncomputable def r5number (r : CodV) (k : Int) : Option ((Int × Unit) × (CodV × Unit)) :=
 if r.at_ < ((r.inn.length : Nat) : Int) then
  if 0 ≤ r.at_ ∧ r.at_ < ((r.inn.length : Nat) : Int) then
   if k ≠ 0 then
   some (((Int.tmod (wi (atK17 r.inn r.at_)) k), ()), (({ r with at_ := wi (r.at_ + 1) } : CodV), ()))
   else none
  else none
 else
 some ((0, ()), (({ r with at_ := wi (r.at_ + 1) } : CodV), ()))
noncomputable abbrev r5number_k : Con SR1 := ⟨118, [.ref 19, .sh sI_], [.sh sI_], fun x => r5number x.1 x.2.1⟩
theorem r5number_ok : CO Tryz.prog r5number_k := co_fn mixed Tryz.func118 [] trivial [] trivial (fun _ => []) [] fun x => by kernel_rfl
noncomputable def r5decode (b : List Int) : Option ((Cfg × Unit) × (Unit)) :=
 (r5number (⟨b, [], 0, false⟩ : CodV) 4).bind fun r1 =>
 (r5number r1.2.1 4).bind fun r2 =>
 (r5number r2.2.1 (if wi (1 + r2.1.1) < 3 then wi (1 + r2.1.1) else 3)).bind fun r3 =>
 (r5number r3.2.1 12).bind fun r4 =>
 (r5number r4.2.1 4).bind fun r5 =>
 (r5number r5.2.1 4).bind fun r6 =>
 (r5number r6.2.1 (wi (1 + r5.1.1))).bind fun r7 =>
 (r5number r7.2.1 6).bind fun r8 =>
 (r5number r8.2.1 8).bind fun r9 =>
 (r5number r9.2.1 4).bind fun r10 =>
 (lpF (σ := Int × CodV × Cfg × Unit) (β := Int × CodV × Cfg × Unit) (fun self13 x11 =>
  if x11.1 < (wi (1 + r10.1.1)) then
   (r5number x11.2.1 6).bind fun r14 =>
   (lpF (σ := List Ins × Int × CodV × Unit) (β := List Ins × Int × CodV × Unit) (fun self17 x15 =>
   if 0 < x15.2.1 then
   (r5number x15.2.2.1 3).bind fun r18 =>
   if r18.1.1 = 0 then
   (r5number r18.2.1 4).bind fun r19 =>
   if (((x15.1.length + ([(⟨r18.1.1, wi (1 + r19.1.1), 0⟩ : Ins)] : List Ins).length : Nat)) : Int) < 1000000000000 then
   self17 (x15.1 ++ ([(⟨r18.1.1, wi (1 + r19.1.1), 0⟩ : Ins)]), wi (x15.2.1 - 1), r19.2.1, ())
   else none
   else
   if r18.1.1 = 1 then
   (r5number r18.2.1 (wi (1 + r10.1.1))).bind fun r20 =>
   (r5number r20.2.1 x11.2.2.1.levels).bind fun r21 =>
   if (((x15.1.length + ([(⟨r18.1.1, r20.1.1, r21.1.1⟩ : Ins)] : List Ins).length : Nat)) : Int) < 1000000000000 then
   self17 (x15.1 ++ ([(⟨r18.1.1, r20.1.1, r21.1.1⟩ : Ins)]), wi (x15.2.1 - 1), r21.2.1, ())
   else none
   else
   (r5number r18.2.1 4).bind fun r22 =>
   if (((x15.1.length + ([(⟨r18.1.1, r22.1.1, 0⟩ : Ins)] : List Ins).length : Nat)) : Int) < 1000000000000 then
   self17 (x15.1 ++ ([(⟨r18.1.1, r22.1.1, 0⟩ : Ins)]), wi (x15.2.1 - 1), r22.2.1, ())
   else none
   else
   some (x15.1, x15.2.1, x15.2.2.1, ())
   ) 18446744073709551616 ([], r14.1.1, r14.2.1, ())).bind fun z16 =>
   if (((x11.2.2.1.progs.length + ([z16.1] : List (List Ins)).length : Nat)) : Int) < 100000000000 then
   self13 (wi (x11.1 + 1), z16.2.2.1, ({ x11.2.2.1 with progs := x11.2.2.1.progs ++ ([z16.1]) } : Cfg), ())
   else none
  else
  some (x11.1, x11.2.1, x11.2.2.1, ())
 ) 18446744073709551616 (0, r10.2.1, (⟨wi (1 + r1.1.1), wi (1 + r2.1.1), wi (1 + r3.1.1), wi (1 + r4.1.1), wi (1 + r5.1.1), wi (1 + r6.1.1), wi (1 + r7.1.1), r8.1.1, wi (1 + r9.1.1), [], []⟩ : Cfg), ())).bind fun z12 =>
 (r5number z12.2.1 6).bind fun r23 =>
 (lpF (σ := Int × CodV × Cfg × Unit) (β := Int × CodV × Cfg × Unit) (fun self26 x24 =>
  if 0 < x24.1 then
   (r5number x24.2.1 (wi (1 + r10.1.1))).bind fun r27 =>
   (r5number r27.2.1 x24.2.2.1.levels).bind fun r28 =>
   (r5number r28.2.1 16).bind fun r29 =>
   if (((x24.2.2.1.subs.length + ([(⟨r27.1.1, r28.1.1, r29.1.1⟩ : Sub)] : List Sub).length : Nat)) : Int) < 1000000000000 then
   self26 (wi (x24.1 - 1), r29.2.1, ({ x24.2.2.1 with subs := x24.2.2.1.subs ++ ([(⟨r27.1.1, r28.1.1, r29.1.1⟩ : Sub)]) } : Cfg), ())
   else none
  else
  some (x24.1, x24.2.1, x24.2.2.1, ())
 ) 18446744073709551616 (r23.1.1, r23.2.1, z12.2.2.1, ())).bind fun z25 =>
 some ((z25.2.2.1, ()), (()))
noncomputable abbrev r5decode_k : Con SR1 := ⟨75, [.sh (.ro 17)], [.val 13], fun x => r5decode x.1⟩
theorem r5decode_ok : CO Tryz.prog r5decode_k := co_fn mixed Tryz.func75 [r5number_k] ⟨r5number_ok, trivial⟩ [] trivial (fun _ => []) [(12, .loop [.rg 6 sI_, .rg 3 (.own 19), .rg 4 (.own 20)] 18446744073709551616 0), (16, .loop [.rg 7 (.row 3), .rg 8 sI_, .rg 3 (.own 19)] 18446744073709551616 2), (29, .loop [.rg 10 sI_, .rg 3 (.own 19), .rg 4 (.own 20)] 18446744073709551616 5)] fun x => by kernel_rfl
noncomputable def kconfig (b : List Int) : Option ((Cfg × Unit) × (Unit)) :=
 (r5decode b).bind fun r1 =>
 some ((r1.1.1, ()), (()))
noncomputable abbrev kconfig_k : Con SR1 := ⟨32, [.sh (.ro 17)], [.val 13], fun x => kconfig x.1⟩
theorem kconfig_ok : CO Tryz.prog kconfig_k := co_fn mixed Tryz.func32 [r5decode_k] ⟨r5decode_ok, trivial⟩ [] trivial (fun _ => []) [] fun x => by kernel_rfl
noncomputable def kshort (b : List Int) (l : List (List Int)) : Option ((Bool × Unit) × (Unit)) :=
 (lpF (σ := Int × Unit) (β := (Int × Unit) ⊕ ((Bool × Unit) × (Unit))) (fun self3 x1 =>
  if x1.1 < ((l.length : Nat) : Int) then
   if 0 ≤ x1.1 ∧ x1.1 < ((l.length : Nat) : Int) then
   if 400 < (((atL [] l x1.1).length : Nat) : Int) then
   Option.map Sum.inr (
   some ((false, ()), (()))
   )
   else
   self3 (wi (x1.1 + 1), ())
   else none
  else
  some (Sum.inl (x1.1, ()))
 ) 18446744073709551616 (0, ())).bind fun z2 => match z2 with
 | .inr o4 => some o4
 | .inl z2 =>
 some ((decide (((b.length : Nat) : Int) ≤ 400), ()), (()))
noncomputable abbrev kshort_k : Con SR1 := ⟨16, [.sh (.ro 17), .sh (.rr 1)], [.sh .b], fun x => kshort x.1 x.2.1⟩
theorem kshort_ok : CO Tryz.prog kshort_k := co_fn mixed Tryz.func16 [] trivial [] trivial (fun _ => []) [(2, .loopR [.rg 5 sI_] 18446744073709551616 0)] fun x => by kernel_rfl
noncomputable def machineNew (y0 : Cfg) : Option ((EnvP × Int × Unit) × (Unit)) :=
 (layoutNew y0).bind fun r1 =>
 if r1.1.2.1 ≠ 0 then
  none
 else
 (pCells r1.1.1).bind fun r2 =>
 (machineBare r2.1.1).bind fun r3 =>
 (configClone y0).bind fun r4 =>
 if r1.1.1.workers = r1.1.1.workers then
  if r1.1.1.levels = r1.1.1.levels then
   if r1.1.1.classes = r1.1.1.classes then
   if r1.1.1.tasks = r1.1.1.tasks then
   if r1.1.1.deque = r1.1.1.deque then
   if r1.1.1.heap = r1.1.1.heap then
   if r1.1.1.sleepers = r1.1.1.sleepers then
   if r1.1.1.epochs = r1.1.1.epochs then
   if r1.1.1.bitmaps = r1.1.1.bitmaps then
   if r1.1.1.queues = r1.1.1.queues then
   if r1.1.1.table = r1.1.1.table then
   if r1.1.1.workers = r1.1.1.workers then
   if r1.1.1.levels = r1.1.1.levels then
   if r1.1.1.classes = r1.1.1.classes then
   if r1.1.1.tasks = r1.1.1.tasks then
   if r1.1.1.deque = r1.1.1.deque then
   if r1.1.1.heap = r1.1.1.heap then
   if r1.1.1.sleepers = r1.1.1.sleepers then
   if r1.1.1.epochs = r1.1.1.epochs then
   if r1.1.1.bitmaps = r1.1.1.bitmaps then
   if r1.1.1.queues = r1.1.1.queues then
   if r1.1.1.table = r1.1.1.table then
   (lpF (σ := Int × EnvP × Unit) (β := Int × EnvP × Unit) (fun self7 x5 =>
   if x5.1 < y0.tasks then
   if (((x5.2.1.recs.length + ([(⟨0, (-1), 0, 0, (-1), [], false⟩ : RecP)] : List RecP).length : Nat)) : Int) < 100000000000 then
   self7 (wi (x5.1 + 1), ({ x5.2.1 with recs := x5.2.1.recs ++ ([(⟨0, (-1), 0, 0, (-1), [], false⟩ : RecP)]) } : EnvP), ())
   else none
   else
   some (x5.1, x5.2.1, ())
   ) 18446744073709551616 (0, ({ r3.1.1 with c := r4.1.1, l := r1.1.1 } : EnvP), ())).bind fun z6 =>
   some ((z6.2.1, 0, ()), (()))
   else none
   else none
   else none
   else none
   else none
   else none
   else none
   else none
   else none
   else none
   else none
   else none
   else none
   else none
   else none
   else none
   else none
   else none
   else none
   else none
  else none
 else none
noncomputable abbrev machineNew_k : Con SR1 := ⟨33, [.val 13], [.sh (.own 27), .sh sI_], fun x => machineNew x.1⟩
theorem machineNew_ok : CO Tryz.prog machineNew_k := co_fn mixed Tryz.func33 [layoutNew_k, pCells_k, machineBare_k, configClone_k] ⟨layoutNew_ok, pCells_ok, machineBare_ok, configClone_ok, trivial⟩ [] trivial (fun _ => []) [(7, .loop [.rg 29 sI_, .rg 6 (.own 27)] 18446744073709551616 0)] fun x => by kernel_rfl
noncomputable def memoryMemoryCells (y0 : MemV) : Option ((List Int × Unit) × (MemV × Unit)) :=
 (cloneU64 y0.cells).bind fun r1 =>
 some ((r1.1.1, ()), (({ y0 with cells := r1.2.1 } : MemV), ()))
noncomputable abbrev memoryMemoryCells_k : Con SR1 := ⟨73, [.ref 9], [.sh (.row 0)], fun x => memoryMemoryCells x.1⟩
theorem memoryMemoryCells_ok : CO Tryz.prog memoryMemoryCells_k := co_fn mixed Tryz.func73 [cloneU64_k] ⟨cloneU64_ok, trivial⟩ [] trivial (fun _ => []) [] fun x => by kernel_rfl
noncomputable def memoryMemoryCount (y0 : MemV) : Option ((Int × Unit) × (MemV × Unit)) :=
 some ((y0.count, ()), (y0, ()))
noncomputable abbrev memoryMemoryCount_k : Con SR1 := ⟨27, [.ref 9], [.sh sI_], fun x => memoryMemoryCount x.1⟩
theorem memoryMemoryCount_ok : CO Tryz.prog memoryMemoryCount_k := co_fn mixed Tryz.func27 [] trivial [] trivial (fun _ => []) [] fun x => by kernel_rfl
noncomputable def scriptMachine (y0 : EntV) (y1 : Int) : Option ((Int × Unit) × (Unit)) :=
 if y0.kind ≠ 0 then
  some (((-1), ()), (()))
 else
 if y1 < 1 then
  some (((-1), ()), (()))
 else
 if y1 ≠ 0 then
  if (Int.tmod y0.value y1) < 0 then
   some ((wi ((Int.tmod y0.value y1) + y1), ()), (()))
  else
  some (((Int.tmod y0.value y1), ()), (()))
 else none
noncomputable abbrev scriptMachine_k : Con SR1 := ⟨94, [.val 5, .sh sI_], [.sh sI_], fun x => scriptMachine x.1 x.2.1⟩
theorem scriptMachine_ok : CO Tryz.prog scriptMachine_k := co_fn mixed Tryz.func94 [] trivial [] trivial (fun _ => []) [] fun x => by kernel_rfl
noncomputable def clockClockTick (y0 : ClkV) : Option ((Unit) × (ClkV × Unit)) :=
 some ((()), ((⟨wi (y0.now + 1), y0.draw⟩ : ClkV), ()))
noncomputable abbrev clockClockTick_k : Con SR1 := ⟨95, [.ref 25], [], fun x => clockClockTick x.1⟩
theorem clockClockTick_ok : CO Tryz.prog clockClockTick_k := co_fn mixed Tryz.func95 [] trivial [] trivial (fun _ => []) [] fun x => by kernel_rfl
noncomputable def clockClockSet (y0 : ClkV) (y1 : Int) : Option ((Unit) × (ClkV × Unit)) :=
 some ((()), ((⟨y0.now, y1⟩ : ClkV), ()))
noncomputable abbrev clockClockSet_k : Con SR1 := ⟨96, [.ref 25, .sh sI_], [], fun x => clockClockSet x.1 x.2.1⟩
theorem clockClockSet_ok : CO Tryz.prog clockClockSet_k := co_fn mixed Tryz.func96 [] trivial [] trivial (fun _ => []) [] fun x => by kernel_rfl
noncomputable def memoryMemoryLast (y0 : MemV) : Option ((AccV × Unit) × (MemV × Unit)) :=
 some ((y0.last, ()), (y0, ()))
noncomputable abbrev memoryMemoryLast_k : Con SR1 := ⟨97, [.ref 9], [.val 60], fun x => memoryMemoryLast x.1⟩
theorem memoryMemoryLast_ok : CO Tryz.prog memoryMemoryLast_k := co_fn mixed Tryz.func97 [] trivial [] trivial (fun _ => []) [] fun x => by kernel_rfl
end
section
open Go Go.RowKit
set_option maxRecDepth 100000
end
section
open Go Go.RowKit
variable [Tb]
noncomputable def cloneRecsR (l : List RecP) : Option ((List RecP × Unit) × (List RecP × Unit)) := if l.length ≤ 1000000 then some ((l, ()), (l, ())) else none
noncomputable abbrev cloneRecsR_k : Con SR1 := ⟨140, [.lent 61], [.sh (.row 61)], fun x => cloneRecsR x.1⟩
/-! ### Records: their kids are to be read only -/
def Dup (P : SProp) : Prop := ∀ (L : List SProp) (h : Hp), star (P :: L) h → star (P :: P :: L) h
theorem dup_pure {P : SProp} {p : Prop} (hP : ∀ k, P k ↔ p) : Dup P := fun L h hs => by
  obtain ⟨k1, k2, a, e, h1, h2⟩ := hs
  have hp := (hP _).1 h1
  refine ⟨fun _ _ => none, h, fun _ _ => .inl rfl, by funext x y; rfl, (hP _).2 hp, k1, k2, a, e, h1, h2⟩
theorem dup_list : ∀ {N L : List SProp} {h : Hp}, (∀ P ∈ N, Dup P) → star (N ++ L) h → star (N ++ (N ++ L)) h
  | [], _, _, _, s => s
  | P :: N, L, h, hd, s => by
    have h1 : star (P :: P :: (N ++ L)) h := hd P List.mem_cons_self _ _ s
    have h2 : star (P :: P :: (N ++ (N ++ L))) h := star_tail (fun _ => star_tail fun _ => dup_list fun Q hQ => hd Q (List.mem_cons_of_mem _ hQ)) h1
    refine star_perm ?_ h2
    show (P :: P :: (N ++ (N ++ L))).Perm (P :: (N ++ (P :: (N ++ L))))
    exact List.Perm.cons _ (List.perm_middle (l₁ := N)).symm
theorem dup_i {k : IntKind} {x : Int} {v : Value} : Dup (pcS SR1.kt (.i k x) v) := dup_pure (p := v = .int k x) fun _ => by rw [pcS_iff]; exact Iff.rfl
theorem dup_b {x : Bool} {v : Value} : Dup (pcS SR1.kt (.b x) v) := dup_pure (p := v = .bool x) fun _ => by rw [pcS_iff]; exact Iff.rfl
theorem dup_ro {c : Nat} {xs : List (SR1.T c)} {v : Value} : Dup (pcS SR1.kt (.ro c xs) v) := fun L h hs => by
  obtain ⟨k1, k2, a, e, h1, h2⟩ := hs
  rw [pcS_iff] at h1
  obtain ⟨A, cap, ev, hr⟩ := h1
  have h3 := ro_dup h ⟨k1, k2, a, e, hr, h2⟩
  have hi : ∀ k, roS (encF SR1.kt c) (SR1.kt.sz c) A cap xs k → pcS SR1.kt (.ro c xs) v k := fun k hk => pcS_iff.2 (show pcW SR1.kt (obS SR1.kt) (rwS SR1.kt) (.ro c xs) v k from ⟨A, cap, ev, hk⟩)
  exact star_head hi (star_tail (fun _ => star_head hi) h3)
theorem false_in {L : List SProp} {h : Hp} (s : star L h) (hm : (fun _ => False) ∈ L) : False := by
  induction L generalizing h with
  | nil => cases hm
  | cons A L ih =>
    obtain ⟨_, _, _, _, h1, h2⟩ := s
    rcases List.mem_cons.1 hm with e | e
    · rw [← e] at h1; exact h1
    · exact ih h2 e
theorem rec_heads : ∀ {xs : List RecP} {vss : List (List Value)} {L : List SProp} {h : Hp}, star (rwsS SR1.kt (pcS SR1.kt) 61 xs vss ++ L) h → (∃ rs : List RecH, rs.length = xs.length ∧ vss = rs.map encRH) ∧ ∀ P ∈ rwsS SR1.kt (pcS SR1.kt) 61 xs vss, Dup P
  | [], [], _, _, _ => ⟨⟨[], rfl, rfl⟩, fun _ h => by cases h⟩
  | [], _ :: _, _, _, s => by obtain ⟨_, _, _, _, h, _⟩ := s; cases h
  | _ :: _, [], _, _, s => by obtain ⟨_, _, _, _, h, _⟩ := s; cases h
  | x :: xs, vs :: vss, L, h, s => by
    have s1 : star (fsS (pcS SR1.kt) [.i .i64 x.prog, .i .i64 x.parent, .i .i64 x.pc, .i .i64 x.left, .i .i64 x.waiting, .ro 1 x.kids, .b x.started] vs ++ (rwsS SR1.kt (pcS SR1.kt) 61 xs vss ++ L)) h := by
      rw [← List.append_assoc]; exact s
    rcases vs with _ | ⟨a, _ | ⟨b, _ | ⟨c, _ | ⟨d, _ | ⟨e, _ | ⟨f, _ | ⟨g, _ | ⟨z, vs⟩⟩⟩⟩⟩⟩⟩⟩
    case cons.cons.cons.cons.cons.cons.cons.nil =>
      obtain ⟨ka, h1, _, _, ha, kb, h2, _, _, hb, kc, h3, _, _, hc, kd, h4, _, _, hd, ke, h5, _, _, he, kf, h6, _, _, hf, kg, h7, _, _, hg, hL⟩ := s1
      obtain ⟨⟨rs, hr1, hr2⟩, hr3⟩ := rec_heads hL
      rw [pcS_iff] at ha hb hc hd he hf hg
      obtain ⟨A, cap, hf, _⟩ := hf
      replace ha : a = .int .i64 x.prog := ha
      replace hb : b = .int .i64 x.parent := hb
      replace hc : c = .int .i64 x.pc := hc
      replace hd : d = .int .i64 x.left := hd
      replace he : e = .int .i64 x.waiting := he
      replace hg : g = .bool x.started := hg
      refine ⟨⟨(x.prog, x.parent, x.pc, x.left, x.waiting, (A, x.kids.length, cap), x.started) :: rs, by simp [hr1], ?_⟩, fun P hP => ?_⟩
      · rw [List.map_cons, ← hr2, ha, hb, hc, hd, he, hf, hg]; rfl
      · rcases List.mem_append.1 (show P ∈ fsS (pcS SR1.kt) [.i .i64 x.prog, .i .i64 x.parent, .i .i64 x.pc, .i .i64 x.left, .i .i64 x.waiting, .ro 1 x.kids, .b x.started] [a, b, c, d, e, f, g] ++ rwsS SR1.kt (pcS SR1.kt) 61 xs vss from hP) with h | h
        · simp only [fsS, List.mem_cons, List.not_mem_nil, or_false] at h
          rcases h with rfl | rfl | rfl | rfl | rfl | rfl | rfl
          · exact dup_i
          · exact dup_i
          · exact dup_i
          · exact dup_i
          · exact dup_i
          · exact dup_ro
          · exact dup_b
        · exact hr3 P h
    all_goals (exfalso; exact false_in s1 (by simp [fsS]))
theorem cloneRecsR_ok : CO Tryz.prog cloneRecsR_k := fun x out hx B W hg vs F w hw => by
  obtain ⟨hb, hB, hs⟩ := hw
  replace hx : cloneRecsR x.1 = some out := hx
  unfold cloneRecsR at hx
  split at hx
  case isFalse => cases hx
  rename_i hl
  cases hx
  show CallsM Tryz.prog cloneRecsR_k.f _ w _
  rw [callsM_fn rfl]
  rcases vs with _ | ⟨v, _ | ⟨v2, vs⟩⟩
  · exact sat_false hs
  · replace hs : Sat B w [pcS SR1.kt (.row 61 x.1) v, F] := hs
    obtain ⟨A, cap, rfl, s1⟩ := row_split hs
    obtain ⟨hh, Hh, k1, k2, ka, ke, hr, hF⟩ := s1
    obtain ⟨vss, hr⟩ := rwS_iff.1 hr
    have s2 : Sat B w (rowS A (List.length x.1) cap 7 vss.flatten :: (rwsS SR1.kt (pcS SR1.kt) 61 x.1 vss ++ [F])) := ⟨hh, Hh, (star_append (L := rowS A (List.length x.1) cap 7 vss.flatten :: rwsS SR1.kt (pcS SR1.kt) 61 x.1 vss)).2 ⟨k1, k2, ka, ke, hr, hF⟩⟩
    obtain ⟨h2, H2, g1, g2, ga, ge, hrow, hN⟩ := s2
    obtain ⟨⟨rs, hr1, rfl⟩, hd⟩ := rec_heads hN
    have s3 : Sat B w (rowS A (List.length x.1) cap 7 (rs.flatMap encRH) :: (rwsS SR1.kt (pcS SR1.kt) 61 x.1 (rs.map encRH) ++ (rwsS SR1.kt (pcS SR1.kt) 61 x.1 (rs.map encRH) ++ [F]))) := ⟨h2, H2, g1, g2, ga, ge, by rw [List.flatMap_def]; exact hrow, dup_list hd hN⟩
    have hsl := (ro_sl (ro_of_row (sz := 7) (by decide) (fun _ => rfl) hr1 B w s3) List.mem_cons_self).1
    have hcl := cloneRecs_any A cap rs w hsl (by rw [hr1]; exact hl)
    rw [hr1] at hcl
    refine hcl.mono fun e w' ⟨⟨A', c', he, hown⟩, hb'⟩ => ⟨[.slice A' (List.length x.1) c'], by rw [he, hr1]; rfl, hb.trans (hb'.mono hB), Nat.le_trans hB hb'.size, ?_⟩
    rw [hr1] at hown
    have s4 := sat_new_row s3 hb' hB hown
    have wrap : ∀ (Z : Option Addr) (q : Nat) (L : List SProp), Sat B w' ((rowS Z (List.length x.1) q 7 (rs.flatMap encRH) :: rwsS SR1.kt (pcS SR1.kt) 61 x.1 (rs.map encRH)) ++ L) → Sat B w' (pcS SR1.kt (.row 61 x.1) (.slice Z (List.length x.1) q) :: L) := fun Z q L s =>
      sat_wrapN (A := pcS SR1.kt (.row 61 x.1) (.slice Z (List.length x.1) q)) (fun k hk => pcS_iff.2 (show pcW SR1.kt (obS SR1.kt) (rwS SR1.kt) (.row 61 x.1) _ k from ⟨Z, q, rfl, rwS_iff.2 ⟨rs.map encRH, by rw [List.flatMap_def] at hk; exact hk⟩⟩)) s
    have s5 := wrap A' c' (rowS A (List.length x.1) cap 7 (rs.flatMap encRH) :: (rwsS SR1.kt (pcS SR1.kt) 61 x.1 (rs.map encRH) ++ [F])) (s4.perm (List.Perm.cons _ (List.perm_middle (l₁ := rwsS SR1.kt (pcS SR1.kt) 61 x.1 (rs.map encRH))).symm))
    have s6 := wrap A cap [pcS SR1.kt (.row 61 x.1) (.slice A' (List.length x.1) c'), F] (s5.perm ((List.Perm.swap ..).trans (List.Perm.cons _ (List.perm_middle (l₁ := rwsS SR1.kt (pcS SR1.kt) 61 x.1 (rs.map encRH))).symm)))
    exact s6.perm (List.Perm.swap ..)
  · replace hs : Sat B w (pcS SR1.kt (.row 61 x.1) v :: ([fun _ => False] ++ [F])) := hs
    exact sat_false hs.drop
/-! ### What is owned is held to be read -/
theorem kid_weak {B : Nat} {w : World} {kids : List Int} {u : Value} {L : List SProp} (s : Sat B w (pcS SR1.kt (.row 1 kids) u :: L)) : Sat B w (pcS SR1.kt (.ro 1 kids) u :: L) := by
  obtain ⟨h, Hh, k1, k2, a, e, h1, hL⟩ := s
  rw [pcS_iff] at h1
  obtain ⟨A, cap, ev, hr⟩ := h1
  obtain ⟨h', Hh', q1, q2, a', e', g1, g2⟩ := row_ro (K := SR1.kt) (c := 1) rfl (by decide) (show Sat B w (rwS SR1.kt 1 kids A cap :: L) from ⟨h, Hh, k1, k2, a, e, hr, hL⟩)
  exact ⟨h', Hh', q1, q2, a', e', pcS_iff.2 (show pcW SR1.kt (obS SR1.kt) (rwS SR1.kt) (.ro 1 kids) u q1 from ⟨A, cap, ev, g1⟩), g2⟩
theorem recs_weak {B : Nat} {w : World} : ∀ {xs : List RecP} {vss : List (List Value)} {L : List SProp}, Sat B w (rwsS SR1.kt (pcS SR1.kt) 26 xs vss ++ L) → Sat B w (rwsS SR1.kt (pcS SR1.kt) 61 xs vss ++ L)
  | [], [], _, s => s
  | [], _ :: _, _, s => by obtain ⟨_, _, _, _, _, _, h, _⟩ := s; cases h
  | _ :: _, [], _, s => by obtain ⟨_, _, _, _, _, _, h, _⟩ := s; cases h
  | x :: xs, vs :: vss, L, s => by
    have s1 : Sat B w (fsS (pcS SR1.kt) (SR1.kt.vw 26 x) vs ++ (rwsS SR1.kt (pcS SR1.kt) 26 xs vss ++ L)) := by rw [← List.append_assoc]; exact s
    have s2 : Sat B w (rwsS SR1.kt (pcS SR1.kt) 26 xs vss ++ (fsS (pcS SR1.kt) (SR1.kt.vw 26 x) vs ++ L)) := s1.perm (by
      rw [← List.append_assoc, ← List.append_assoc]; exact List.perm_append_comm.append_right _)
    have s3 := recs_weak s2
    have s4 : Sat B w (fsS (pcS SR1.kt) (SR1.kt.vw 26 x) vs ++ (rwsS SR1.kt (pcS SR1.kt) 61 xs vss ++ L)) := s3.perm (by
      rw [← List.append_assoc, ← List.append_assoc]; exact List.perm_append_comm.append_right _)
    have hl : vs.length = 7 := by
      obtain ⟨h, _, hs⟩ := s4
      have := fsS_len hs
      rw [← this]; rfl
    have hov : vs[5]? = some vs[5] := List.getElem?_eq_getElem (by omega)
    have hf : (SR1.kt.vw 26 x)[5]? = some (.row 1 x.kids) := rfl
    have p := (fsS_turn (pc := pcS SR1.kt) hf hov).1
    have s5 := kid_weak (s4.perm (p.append_right _))
    have p2 := (fsS_turn (pc := pcS SR1.kt) hf hov).2 (.ro 1 x.kids) vs[5]
    rw [set_self hov] at p2
    have s6 : Sat B w (fsS (pcS SR1.kt) ((SR1.kt.vw 26 x).set 5 (.ro 1 x.kids)) vs ++ (rwsS SR1.kt (pcS SR1.kt) 61 xs vss ++ L)) := s5.perm (p2.symm.append_right _)
    have e : (SR1.kt.vw 26 x).set 5 (.ro 1 x.kids) = SR1.kt.vw 61 x := rfl
    rw [e, ← List.append_assoc] at s6
    exact s6
theorem row_weak {B : Nat} {w : World} {xs : List RecP} {u : Value} {L : List SProp} (s : Sat B w (pcS SR1.kt (.row 26 xs) u :: L)) : Sat B w (pcS SR1.kt (.row 61 xs) u :: L) := by
  obtain ⟨h, Hh, k1, k2, a, e, h1, hL⟩ := s
  rw [pcS_iff] at h1
  obtain ⟨A, cap, ev, hr⟩ := h1
  obtain ⟨vss, hr⟩ := rwS_iff.1 hr
  have s2 : Sat B w ((rowS A (List.length xs) cap 7 vss.flatten :: rwsS SR1.kt (pcS SR1.kt) 26 xs vss) ++ L) := ⟨h, Hh, star_append.2 ⟨k1, k2, a, e, hr, hL⟩⟩
  have s3 : Sat B w (rwsS SR1.kt (pcS SR1.kt) 26 xs vss ++ (rowS A (List.length xs) cap 7 vss.flatten :: L)) := s2.perm (List.perm_middle (l₁ := rwsS SR1.kt (pcS SR1.kt) 26 xs vss)).symm
  have s4 := recs_weak s3
  have s5 : Sat B w ((rowS A (List.length xs) cap 7 vss.flatten :: rwsS SR1.kt (pcS SR1.kt) 61 xs vss) ++ L) := s4.perm (List.perm_middle (l₁ := rwsS SR1.kt (pcS SR1.kt) 61 xs vss))
  exact sat_wrapN (A := pcS SR1.kt (.row 61 xs) u) (fun k hk => pcS_iff.2 (show pcW SR1.kt (obS SR1.kt) (rwS SR1.kt) (.row 61 xs) u k from ⟨A, cap, ev, rwS_iff.2 ⟨vss, hk⟩⟩)) s5
theorem env_weak {B : Nat} {w : World} {x : EnvP} {v : Value} {L : List SProp} (s : Sat B w (pcS SR1.kt (.own 27 x) v :: L)) : Sat B w (pcS SR1.kt (.own 62 x) v :: L) := by
  obtain ⟨h, Hh, k1, k2, a, e, h1, hL⟩ := s
  rw [pcS_iff] at h1
  obtain ⟨q, ev, hr⟩ := h1
  obtain ⟨vs, hr⟩ := obS_iff.1 hr
  have s2 : Sat B w ((pts q.1 q.2 vs :: fsS (pcS SR1.kt) (SR1.kt.vw 27 x) vs) ++ L) := ⟨h, Hh, star_append.2 ⟨k1, k2, a, e, hr, hL⟩⟩
  have s3 : Sat B w (fsS (pcS SR1.kt) (SR1.kt.vw 27 x) vs ++ (pts q.1 q.2 vs :: L)) := s2.perm (List.perm_middle (l₁ := fsS (pcS SR1.kt) (SR1.kt.vw 27 x) vs)).symm
  have hl : vs.length = 26 := by
    obtain ⟨h, _, hs⟩ := s3
    have := fsS_len hs
    rw [← this]; rfl
  have hov : vs[24]? = some vs[24] := List.getElem?_eq_getElem (by omega)
  have hf : (SR1.kt.vw 27 x)[24]? = some (.row 26 x.recs) := rfl
  have p := (fsS_turn (pc := pcS SR1.kt) hf hov).1
  have s5 := row_weak (s3.perm (p.append_right _))
  have p2 := (fsS_turn (pc := pcS SR1.kt) hf hov).2 (.row 61 x.recs) vs[24]
  rw [set_self hov] at p2
  have s6 : Sat B w (fsS (pcS SR1.kt) ((SR1.kt.vw 27 x).set 24 (.row 61 x.recs)) vs ++ (pts q.1 q.2 vs :: L)) := s5.perm (p2.symm.append_right _)
  have e2 : (SR1.kt.vw 27 x).set 24 (.row 61 x.recs) = SR1.kt.vw 62 x := rfl
  rw [e2] at s6
  have s7 : Sat B w ((pts q.1 q.2 vs :: fsS (pcS SR1.kt) (SR1.kt.vw 62 x) vs) ++ L) := s6.perm (List.perm_middle (l₁ := fsS (pcS SR1.kt) (SR1.kt.vw 62 x) vs))
  exact sat_wrapN (A := pcS SR1.kt (.own 62 x) v) (fun k hk => pcS_iff.2 (show pcW SR1.kt (obS SR1.kt) (rwS SR1.kt) (.own 62 x) v k from ⟨q, ev, obS_iff.2 ⟨vs, hk⟩⟩)) s7
/-- A function that reads an environment, handed one that nobody wants any more. -/
theorem co_last {f : FuncId} {spec : EnvP → Option ((EnvP × Unit) × (EnvP × Unit))} (h : CO Tryz.prog (⟨f, [.ref 62], [.sh (.own 62)], fun x => spec x.1⟩ : Con SR1)) :
    CO Tryz.prog (⟨f, [.sh (.own 27)], [.sh (.own 62)], fun x => (spec x.1).map fun o => (o.1, ())⟩ : Con SR1) := fun x out hx B W hg vs F w hw => by
  obtain ⟨hb, hB, hs⟩ := hw
  replace hx : (spec x.1).map (fun o => (o.1, ())) = some out := hx
  rcases hsp : spec x.1 with _ | o
  · rw [hsp] at hx; cases hx
  rw [hsp] at hx
  cases hx
  rcases vs with _ | ⟨v, _ | ⟨v2, vs⟩⟩
  · exact sat_false hs
  · replace hs : Sat B w [pcS SR1.kt (.own 27 x.1) v, F] := hs
    refine (h x o hsp B W hg [v] F w ⟨hb, hB, env_weak hs⟩).mono fun e w' ⟨us, he, hb', hB', hs'⟩ => ⟨us, he, hb', hB', ?_⟩
    have s1 : Sat B w' (ResS SR1 [.sh (.own 62)] o.1 us ++ (pcS SR1.kt (.own 62 o.2.1) v :: [F])) := hs'
    exact (s1.perm (List.perm_middle (l₁ := ResS SR1 [.sh (.own 62)] o.1 us))).drop
  · replace hs : Sat B w (pcS SR1.kt (.own 27 x.1) v :: ([fun _ => False] ++ [F])) := hs
    exact sat_false hs.drop
end
section
open Go Go.RowKit
set_option maxRecDepth 100000
variable [Tb]
noncomputable def memoryMemoryCopy (y0 : MemV) : Option ((MemV × Unit) × (MemV × Unit)) :=
 (memoryMemoryCells y0).bind fun r1 =>
 some ((({ y0 with cells := r1.1.1 } : MemV), ()), (r1.2.1, ()))
noncomputable abbrev memoryMemoryCopy_k : Con SR1 := ⟨138, [.ref 9], [.sh (.own 9)], fun x => memoryMemoryCopy x.1⟩
theorem memoryMemoryCopy_ok : CO Tryz.prog memoryMemoryCopy_k := co_fn mixed Tryz.func138 [memoryMemoryCells_k] ⟨memoryMemoryCells_ok, trivial⟩ [] trivial (fun _ => []) [] fun x => by kernel_rfl
noncomputable def clockClockCopy (y0 : ClkV) : Option ((ClkV × Unit) × (ClkV × Unit)) :=
 some ((y0, ()), (y0, ()))
noncomputable abbrev clockClockCopy_k : Con SR1 := ⟨139, [.ref 25], [.sh (.own 25)], fun x => clockClockCopy x.1⟩
theorem clockClockCopy_ok : CO Tryz.prog clockClockCopy_k := co_fn mixed Tryz.func139 [] trivial [] trivial (fun _ => []) [] fun x => by kernel_rfl
abbrev atK61 (xs : List RecP) (i : Int) : RecP := atL (dfR 61 : TR 61) xs i
noncomputable def gL {α : Type} (c : LayV) (k : Option α) : Option α :=
 if c.workers = c.workers then
  if c.levels = c.levels then
   if c.classes = c.classes then
   if c.tasks = c.tasks then
   if c.deque = c.deque then
   if c.heap = c.heap then
   if c.sleepers = c.sleepers then
   if c.epochs = c.epochs then
   if c.bitmaps = c.bitmaps then
   if c.queues = c.queues then
   if c.table = c.table then
   k
   else none
   else none
   else none
   else none
   else none
   else none
   else none
   else none
   else none
  else none
 else none
noncomputable def machineEnvCopy (y0 : EnvP) : Option ((EnvP × Unit) × (EnvP × Unit)) :=
 (configClone y0.c).bind fun r1 =>
 gL y0.l (
  (memoryMemoryCopy y0.m).bind fun r2 =>
  gL y0.l (
   (clockClockCopy y0.k).bind fun r3 =>
   gL y0.l (
   (cloneRecsR y0.recs).bind fun r4 =>
   gL y0.l (
   (cloneEvs y0.evs).bind fun r5 =>
   gL y0.l (
   (lpF (σ := Int × EnvP × Unit) (β := Int × EnvP × Unit) (fun self8 x6 =>
   if x6.1 < ((r4.1.1.length : Nat) : Int) then
   if 0 ≤ x6.1 ∧ x6.1 < ((x6.2.1.recs.length : Nat) : Int) then
   (cloneInts ((atK61 x6.2.1.recs x6.1).kids)).bind fun r9 =>
   if 0 ≤ x6.1 ∧ x6.1 < (((x6.2.1.recs.set x6.1.toNat (atK61 x6.2.1.recs x6.1)).length : Nat) : Int) then
   self8 (wi (x6.1 + 1), ({ x6.2.1 with recs := (x6.2.1.recs.set x6.1.toNat (atK61 x6.2.1.recs x6.1)).set x6.1.toNat ({ atK61 (x6.2.1.recs.set x6.1.toNat (atK61 x6.2.1.recs x6.1)) x6.1 with kids := r9.1.1 } : RecP) } : EnvP), ())
   else none
   else none
   else
   some (x6.1, x6.2.1, ())
   ) 18446744073709551616 (0, (⟨r1.1.1, y0.l, r2.1.1, r3.1.1, r4.1.1, r5.1.1⟩ : EnvP), ())).bind fun z7 =>
   some ((z7.2.1, ()), (({ y0 with m := r2.2.1, k := r3.2.1, recs := r4.2.1, evs := r5.2.1 } : EnvP), ()))
   )
   )
   )
  )
 )
noncomputable abbrev machineEnvCopy_k : Con SR1 := ⟨99, [.ref 62], [.sh (.own 62)], fun x => machineEnvCopy x.1⟩
theorem machineEnvCopy_ok : CO Tryz.prog machineEnvCopy_k := co_fn mixed Tryz.func99 [configClone_k, memoryMemoryCopy_k, clockClockCopy_k, cloneRecsR_k, cloneEvs_k, cloneInts_k] ⟨configClone_ok, memoryMemoryCopy_ok, clockClockCopy_ok, cloneRecsR_ok, cloneEvs_ok, cloneInts_ok, trivial⟩ [] trivial (fun _ => []) [(3, .loop [.rg 41 sI_, .rg 3 (.own 62)] 18446744073709551616 0)] fun x => by kernel_rfl
end
section
open Go Go.RowKit
variable [Tb]
noncomputable def envCopyC (e : EnvP) : Option ((EnvP × Unit) × Unit) := (machineEnvCopy e).map fun o => (o.1, ())
noncomputable abbrev envCopyC_k : Con SR1 := ⟨99, [.sh (.own 27)], [.sh (.own 62)], fun x => envCopyC x.1⟩
theorem envCopyC_ok : CO Tryz.prog envCopyC_k := co_last machineEnvCopy_ok
end
section
open Go Go.RowKit
set_option maxRecDepth 100000
variable [Tb]
noncomputable def r4decode (b : List Int) : Option ((List EntV × Unit) × (Unit)) :=
 (lpF (σ := List EntV × Int × Unit) (β := List EntV × Int × Unit) (fun self3 x1 =>
  if (wi (x1.2.1 + 1)) < ((b.length : Nat) : Int) then
   if ((x1.1.length : Nat) : Int) < 65536 then
   if 0 ≤ x1.2.1 ∧ x1.2.1 < ((b.length : Nat) : Int) then
   if 0 ≤ wi (x1.2.1 + 1) ∧ wi (x1.2.1 + 1) < ((b.length : Nat) : Int) then
   if (atK17 b (wi (x1.2.1 + 1))) = (atK17 b (wi (x1.2.1 + 1))) then
   if (atK17 b x1.2.1) = (atK17 b x1.2.1) then
   if (Int.tmod (wi (atK17 b x1.2.1)) 4) = 1 then
   if (((x1.1.length + ([(⟨(Int.tmod (wi (atK17 b x1.2.1)) 4), 0⟩ : EntV)] : List EntV).length : Nat)) : Int) < 1000000000000 then
   self3 (x1.1 ++ ([(⟨(Int.tmod (wi (atK17 b x1.2.1)) 4), 0⟩ : EntV)]), wi (x1.2.1 + 2), ())
   else none
   else
   if (Int.tmod (wi (atK17 b x1.2.1)) 4) = 3 then
   if (((x1.1.length + ([(⟨(Int.tmod (wi (atK17 b x1.2.1)) 4), 0⟩ : EntV)] : List EntV).length : Nat)) : Int) < 1000000000000 then
   self3 (x1.1 ++ ([(⟨(Int.tmod (wi (atK17 b x1.2.1)) 4), 0⟩ : EntV)]), wi (x1.2.1 + 2), ())
   else none
   else
   if (((x1.1.length + ([(⟨(Int.tmod (wi (atK17 b x1.2.1)) 4), wi (atK17 b (wi (x1.2.1 + 1)))⟩ : EntV)] : List EntV).length : Nat)) : Int) < 1000000000000 then
   self3 (x1.1 ++ ([(⟨(Int.tmod (wi (atK17 b x1.2.1)) 4), wi (atK17 b (wi (x1.2.1 + 1)))⟩ : EntV)]), wi (x1.2.1 + 2), ())
   else none
   else none
   else none
   else none
   else none
   else
   some (x1.1, x1.2.1, ())
  else
  some (x1.1, x1.2.1, ())
 ) 18446744073709551616 ([], 0, ())).bind fun z2 =>
 some ((z2.1, ()), (()))
noncomputable abbrev r4decode_k : Con SR1 := ⟨24, [.sh (.ro 17)], [.sh (.row 5)], fun x => r4decode x.1⟩
theorem r4decode_ok : CO Tryz.prog r4decode_k := co_fn mixed Tryz.func24 [] trivial [] trivial (fun _ => []) [(3, .loop [.rg 3 (.row 5), .rg 4 sI_] 18446744073709551616 0)] fun x => by kernel_rfl
noncomputable def kscriptR (b : List Int) (n : Int) : Option ((List EntV × Unit) × (Unit)) :=
 (r4decode b).bind fun r1 =>
 if n < ((r1.1.1.length : Nat) : Int) then
  if 0 ≤ n ∧ n ≤ ((r1.1.1.length : Nat) : Int) then
   some ((r1.1.1.take (n : Int).toNat, ()), (()))
  else none
 else
 some ((r1.1.1, ()), (()))
noncomputable abbrev kscriptR_k : Con SR1 := ⟨43, [.sh (.ro 17), .sh sI_], [.sh (.ro 5)], fun x => kscriptR x.1 x.2.1⟩
theorem kscriptR_ok : CO Tryz.prog kscriptR_k := co_fn mixed Tryz.func43 [r4decode_k] ⟨r4decode_ok, trivial⟩ [] trivial (fun _ => []) [] fun x => by kernel_rfl
noncomputable def workstealref28SameStamped (y0 : List St) (y1 : List St) : Option ((Bool × Unit) × (Unit)) :=
 if ((y0.length : Nat) : Int) ≠ ((y1.length : Nat) : Int) then
  some ((false, ()), (()))
 else
 (lpF (σ := Int × Unit) (β := (Int × Unit) ⊕ ((Bool × Unit) × (Unit))) (fun self3 x1 =>
  if x1.1 < ((y0.length : Nat) : Int) then
   if 0 ≤ x1.1 ∧ x1.1 < ((y0.length : Nat) : Int) then
   if 0 ≤ x1.1 ∧ x1.1 < ((y1.length : Nat) : Int) then
   if ¬ (((atK6 y0 x1.1).at_) = ((atK6 y1 x1.1).at_) ∧ (((atK6 y0 x1.1).ev.kind) = ((atK6 y1 x1.1).ev.kind) ∧ ((atK6 y0 x1.1).ev.worker) = ((atK6 y1 x1.1).ev.worker) ∧ ((atK6 y0 x1.1).ev.task) = ((atK6 y1 x1.1).ev.task) ∧ ((atK6 y0 x1.1).ev.other) = ((atK6 y1 x1.1).ev.other) ∧ ((atK6 y0 x1.1).ev.level) = ((atK6 y1 x1.1).ev.level) ∧ True) ∧ True) then
   Option.map Sum.inr (
   some ((false, ()), (()))
   )
   else
   self3 (wi (x1.1 + 1), ())
   else none
   else none
  else
  some (Sum.inl (x1.1, ()))
 ) 18446744073709551616 (0, ())).bind fun z2 => match z2 with
 | .inr o4 => some o4
 | .inl z2 =>
 some ((true, ()), (()))
noncomputable abbrev workstealref28SameStamped_k : Con SR1 := ⟨49, [.sh (.ro 6), .sh (.ro 6)], [.sh .b], fun x => workstealref28SameStamped x.1 x.2.1⟩
theorem workstealref28SameStamped_ok : CO Tryz.prog workstealref28SameStamped_k := co_fn mixed Tryz.func49 [] trivial [] trivial (fun _ => []) [(4, .loopR [.rg 5 sI_] 18446744073709551616 0)] fun x => by kernel_rfl
noncomputable def workstealref02Same (y0 : List Int) (y1 : List Int) : Option ((Bool × Unit) × (Unit)) :=
 if ((y0.length : Nat) : Int) ≠ ((y1.length : Nat) : Int) then
  some ((false, ()), (()))
 else
 (lpF (σ := Int × Unit) (β := (Int × Unit) ⊕ ((Bool × Unit) × (Unit))) (fun self3 x1 =>
  if x1.1 < ((y0.length : Nat) : Int) then
   if 0 ≤ x1.1 ∧ x1.1 < ((y0.length : Nat) : Int) then
   if 0 ≤ x1.1 ∧ x1.1 < ((y1.length : Nat) : Int) then
   if (atK0 y0 x1.1) ≠ (atK0 y1 x1.1) then
   Option.map Sum.inr (
   some ((false, ()), (()))
   )
   else
   self3 (wi (x1.1 + 1), ())
   else none
   else none
  else
  some (Sum.inl (x1.1, ()))
 ) 18446744073709551616 (0, ())).bind fun z2 => match z2 with
 | .inr o4 => some o4
 | .inl z2 =>
 some ((true, ()), (()))
noncomputable abbrev workstealref02Same_k : Con SR1 := ⟨48, [.sh (.ro 0), .sh (.ro 0)], [.sh .b], fun x => workstealref02Same x.1 x.2.1⟩
theorem workstealref02Same_ok : CO Tryz.prog workstealref02Same_k := co_fn mixed Tryz.func48 [] trivial [] trivial (fun _ => []) [(4, .loopR [.rg 5 sI_] 18446744073709551616 0)] fun x => by kernel_rfl
noncomputable def workstealref02Draw (y0 : Int) (y1 : Int) : Option ((Int × Unit) × (Unit)) :=
 if y1 < 1 then
  some ((0, ()), (()))
 else
 if y1 ≠ 0 then
  if (Int.tmod y0 y1) < 0 then
   if y1 ≠ 0 then
   some ((wi ((Int.tmod y0 y1) + y1), ()), (()))
   else none
  else
  if y1 ≠ 0 then
   some (((Int.tmod y0 y1), ()), (()))
  else none
 else none
noncomputable abbrev workstealref02Draw_k : Con SR1 := ⟨98, [.sh sI_, .sh sI_], [.sh sI_], fun x => workstealref02Draw x.1 x.2.1⟩
theorem workstealref02Draw_ok : CO Tryz.prog workstealref02Draw_k := co_fn mixed Tryz.func98 [] trivial [] trivial (fun _ => []) [] fun x => by kernel_rfl
noncomputable def workstealkeepNumber (y0 : List Int) (y1 : Int) (y2 : Int) : Option ((Int × Unit) × (Unit)) :=
 if ((y0.length : Nat) : Int) = 0 then
  some ((0, ()), (()))
 else
 if ((y0.length : Nat) : Int) ≠ 0 then
  if 0 ≤ (Int.tmod y1 ((y0.length : Nat) : Int)) ∧ (Int.tmod y1 ((y0.length : Nat) : Int)) < ((y0.length : Nat) : Int) then
   if ((y0.length : Nat) : Int) ≠ 0 then
   if (wi (1 + (Int.tmod (wi (Int.tdiv y1 ((y0.length : Nat) : Int))) 7))) ≠ 0 then
   (workstealref02Draw (wi (Int.tdiv (atK1 y0 (Int.tmod y1 ((y0.length : Nat) : Int))) (wi (1 + (Int.tmod (wi (Int.tdiv y1 ((y0.length : Nat) : Int))) 7))))) y2).bind fun r1 =>
   some ((r1.1.1, ()), (()))
   else none
   else none
  else none
 else none
noncomputable abbrev workstealkeepNumber_k : Con SR1 := ⟨46, [.sh (.ro 1), .sh sI_, .sh sI_], [.sh sI_], fun x => workstealkeepNumber x.1 x.2.1 x.2.2.1⟩
theorem workstealkeepNumber_ok : CO Tryz.prog workstealkeepNumber_k := co_fn mixed Tryz.func46 [workstealref02Draw_k] ⟨workstealref02Draw_ok, trivial⟩ [] trivial (fun _ => []) [] fun x => by kernel_rfl
noncomputable def workstealkeepPick (y0 : Int) : Option ((EntV × Unit) × (Unit)) :=
 some (((⟨0, y0⟩ : EntV), ()), (()))
noncomputable abbrev workstealkeepPick_k : Con SR1 := ⟨70, [.sh sI_], [.val 5], fun x => workstealkeepPick x.1⟩
theorem workstealkeepPick_ok : CO Tryz.prog workstealkeepPick_k := co_fn mixed Tryz.func70 [] trivial [] trivial (fun _ => []) [] fun x => by kernel_rfl
noncomputable def worksteallaw28Awake  : Option ((Bool × Unit) × (Unit)) :=
 (kconfig ([])).bind fun r1 =>
 (machineNew r1.1.1).bind fun r2 =>
 if r2.1.2.1 ≠ 0 then
  if r2.1.2.1 ≠ 0 then
   some ((false, ()), (()))
  else
  some ((false, ()), (()))
 else
 (clientNew r1.1.1).bind fun r3 =>
 if r1.1.1.workers = ((1 : Nat) : Int) then
  (workerNew 0).bind fun r4 =>
  (lpF (σ := Int × EnvP × (WorkerV MV) × (ClientV MV) × (Int × List Int × Int × Int × Int × Int × Unit) × Unit) (β := (Int × EnvP × (WorkerV MV) × (ClientV MV) × (Int × List Int × Int × Int × Int × Int × Unit) × Unit) ⊕ ((Bool × Unit) × (Unit))) (fun self7 x5 =>
   if x5.1 < 7 then
   (workerWorkerStatus x5.2.2.1).bind fun r8 =>
   if (decide (r8.1.1 = 3)) ≠ (decide (x5.1 = 6)) then
   Option.map Sum.inr (
   some ((false, ()), (()))
   )
   else
   (workstealkeepPick 0).bind fun r9 =>
   (memoryMemoryCount x5.2.1.m).bind fun r10 =>
   ((
   if r9.1.1.kind = 0 then
   (scriptMachine r9.1.1 2).bind fun r11 =>
   if r11.1.1 = ((1 : Nat) : Int) then
   (clientClientStep x5.2.2.2.1 ({ x5.2.1 with m := r10.2.1 } : EnvP)).bind fun r12 =>
   some (r12.2.2.1, r8.2.1, r12.2.1, (x5.2.2.2.2.1.1, x5.2.2.2.2.1.2.1, x5.2.2.2.2.1.2.2.1, x5.2.2.2.2.1.2.2.2.1, x5.2.2.2.2.1.2.2.2.2.1, x5.2.2.2.2.1.2.2.2.2.2.1, ()), ())
   else
   if r11.1.1 = ((0 : Nat) : Int) then
   (workerWorkerStep r8.2.1 ({ x5.2.1 with m := r10.2.1 } : EnvP)).bind fun r13 =>
   some (r13.2.2.1, r13.2.1, x5.2.2.2.1, (x5.2.2.2.2.1.1, x5.2.2.2.2.1.2.1, x5.2.2.2.2.1.2.2.1, x5.2.2.2.2.1.2.2.2.1, x5.2.2.2.2.1.2.2.2.2.1, x5.2.2.2.2.1.2.2.2.2.2.1, ()), ())
   else
   none
   else
   if r9.1.1.kind = 1 then
   (clockClockTick x5.2.1.k).bind fun r14 =>
   some (({ x5.2.1 with m := r10.2.1, k := r14.2.1 } : EnvP), r8.2.1, x5.2.2.2.1, (x5.2.2.2.2.1.1, x5.2.2.2.2.1.2.1, x5.2.2.2.2.1.2.2.1, x5.2.2.2.2.1.2.2.2.1, x5.2.2.2.2.1.2.2.2.2.1, x5.2.2.2.2.1.2.2.2.2.2.1, ()), ())
   else
   if r9.1.1.kind = 2 then
   (clockClockSet x5.2.1.k r9.1.1.value).bind fun r15 =>
   some (({ x5.2.1 with m := r10.2.1, k := r15.2.1 } : EnvP), r8.2.1, x5.2.2.2.1, (x5.2.2.2.2.1.1, x5.2.2.2.2.1.2.1, x5.2.2.2.2.1.2.2.1, x5.2.2.2.2.1.2.2.2.1, x5.2.2.2.2.1.2.2.2.2.1, x5.2.2.2.2.1.2.2.2.2.2.1, ()), ())
   else
   some (({ x5.2.1 with m := r10.2.1 } : EnvP), r8.2.1, x5.2.2.2.1, (x5.2.2.2.2.1.1, x5.2.2.2.2.1.2.1, x5.2.2.2.2.1.2.2.1, x5.2.2.2.2.1.2.2.2.1, x5.2.2.2.2.1.2.2.2.2.1, x5.2.2.2.2.1.2.2.2.2.2.1, ()), ())
   ) : Option (EnvP × (WorkerV MV) × (ClientV MV) × (Int × List Int × Int × Int × Int × Int × Unit) × Unit)).bind fun z16 =>
   (memoryMemoryCount z16.1.m).bind fun r17 =>
   if r10.1.1 < r17.1.1 then
   (memoryMemoryLast r17.2.1).bind fun r18 =>
   (lpF (σ := EnvP × (Int × List Int × Int × Int × Int × Int × Unit) × Unit) (β := EnvP × (Int × List Int × Int × Int × Int × Int × Unit) × Unit) (fun self21 x19 =>
   if ((x19.2.1.2.1.length : Nat) : Int) < ((x19.1.evs.length : Nat) : Int) then
   if (((x19.2.1.2.1.length + ([x19.2.1.1] : List Int).length : Nat)) : Int) < 1000000000000 then
   self21 (x19.1, (x19.2.1.1, x19.2.1.2.1 ++ ([x19.2.1.1]), x19.2.1.2.2.1, x19.2.1.2.2.2.1, x19.2.1.2.2.2.2.1, x19.2.1.2.2.2.2.2.1, ()), ())
   else none
   else
   some (x19.1, (x19.2.1.1, x19.2.1.2.1, x19.2.1.2.2.1, x19.2.1.2.2.2.1, x19.2.1.2.2.2.2.1, x19.2.1.2.2.2.2.2.1, ()), ())
   ) 18446744073709551616 (({ z16.1 with m := r18.2.1 } : EnvP), (z16.2.2.2.1.1, z16.2.2.2.1.2.1, r18.1.1.kind, r18.1.1.cell, r18.1.1.old, r18.1.1.new, ()), ())).bind fun z20 =>
   self7 (wi (x5.1 + 1), z20.1, z16.2.1, z16.2.2.1, (wi (z20.2.1.1 + 1), z20.2.1.2.1, z20.2.1.2.2.1, z20.2.1.2.2.2.1, z20.2.1.2.2.2.2.1, z20.2.1.2.2.2.2.2.1, ()), ())
   else
   (lpF (σ := EnvP × (Int × List Int × Int × Int × Int × Int × Unit) × Unit) (β := EnvP × (Int × List Int × Int × Int × Int × Int × Unit) × Unit) (fun self24 x22 =>
   if ((x22.2.1.2.1.length : Nat) : Int) < ((x22.1.evs.length : Nat) : Int) then
   if (((x22.2.1.2.1.length + ([x22.2.1.1] : List Int).length : Nat)) : Int) < 1000000000000 then
   self24 (x22.1, (x22.2.1.1, x22.2.1.2.1 ++ ([x22.2.1.1]), x22.2.1.2.2.1, x22.2.1.2.2.2.1, x22.2.1.2.2.2.2.1, x22.2.1.2.2.2.2.2.1, ()), ())
   else none
   else
   some (x22.1, (x22.2.1.1, x22.2.1.2.1, x22.2.1.2.2.1, x22.2.1.2.2.2.1, x22.2.1.2.2.2.2.1, x22.2.1.2.2.2.2.2.1, ()), ())
   ) 18446744073709551616 (({ z16.1 with m := r17.2.1 } : EnvP), (z16.2.2.2.1.1, z16.2.2.2.1.2.1, 0, 0, 0, 0, ()), ())).bind fun z23 =>
   self7 (wi (x5.1 + 1), z23.1, z16.2.1, z16.2.2.1, (wi (z23.2.1.1 + 1), z23.2.1.2.1, z23.2.1.2.2.1, z23.2.1.2.2.2.1, z23.2.1.2.2.2.2.1, z23.2.1.2.2.2.2.2.1, ()), ())
   else
   some (Sum.inl (x5.1, x5.2.1, x5.2.2.1, x5.2.2.2.1, (x5.2.2.2.2.1.1, x5.2.2.2.2.1.2.1, x5.2.2.2.2.1.2.2.1, x5.2.2.2.2.1.2.2.2.1, x5.2.2.2.2.1.2.2.2.2.1, x5.2.2.2.2.1.2.2.2.2.2.1, ()), ()))
  ) 18446744073709551616 (0, r2.1.1, r4.1.1, r3.1.1, (0, [], 0, 0, 0, 0, ()), ())).bind fun z6 => match z6 with
  | .inr o25 => some o25
  | .inl z6 =>
  (clientClientStatus z6.2.2.2.1).bind fun r26 =>
  if r26.1.1 ≠ 4 then
   some ((false, ()), (()))
  else
  (workerWorkerStatus z6.2.2.1).bind fun r27 =>
  if r27.1.1 = 2 then
   some ((false, ()), (()))
  else
  if z6.2.1.l.workers = z6.2.1.l.workers then
   if z6.2.1.l.levels = z6.2.1.l.levels then
   if z6.2.1.l.classes = z6.2.1.l.classes then
   if z6.2.1.l.tasks = z6.2.1.l.tasks then
   if z6.2.1.l.deque = z6.2.1.l.deque then
   if z6.2.1.l.heap = z6.2.1.l.heap then
   if z6.2.1.l.sleepers = z6.2.1.l.sleepers then
   if z6.2.1.l.epochs = z6.2.1.l.epochs then
   if z6.2.1.l.bitmaps = z6.2.1.l.bitmaps then
   if z6.2.1.l.queues = z6.2.1.l.queues then
   if z6.2.1.l.table = z6.2.1.l.table then
   (lpF (σ := Int × MemV × Unit) (β := (Int × MemV × Unit) ⊕ ((Bool × Unit) × (Unit))) (fun self30 x28 =>
   if x28.1 < z6.2.1.c.tasks then
   (pNext z6.2.1.l).bind fun r31 =>
   if r31.1.1 < 0 then
   if (wu (x28.1)) < 0 then
   (pState z6.2.1.l x28.1).bind fun r32 =>
   if r32.1.1 < 0 then
   Option.map Sum.inr (
   some ((false, ()), (()))
   )
   else
   if ((x28.2.1.cells.length : Nat) : Int) ≤ r32.1.1 then
   Option.map Sum.inr (
   some ((false, ()), (()))
   )
   else
   if 0 ≤ r32.1.1 ∧ r32.1.1 < ((x28.2.1.cells.length : Nat) : Int) then
   if (atK0 x28.2.1.cells r32.1.1) ≠ 4 then
   Option.map Sum.inr (
   some ((false, ()), (()))
   )
   else
   self30 (wi (x28.1 + 1), x28.2.1, ())
   else none
   else
   some (Sum.inl (x28.1, x28.2.1, ()))
   else
   if ((x28.2.1.cells.length : Nat) : Int) ≤ r31.1.1 then
   if (wu (x28.1)) < 0 then
   (pState z6.2.1.l x28.1).bind fun r33 =>
   if r33.1.1 < 0 then
   Option.map Sum.inr (
   some ((false, ()), (()))
   )
   else
   if ((x28.2.1.cells.length : Nat) : Int) ≤ r33.1.1 then
   Option.map Sum.inr (
   some ((false, ()), (()))
   )
   else
   if 0 ≤ r33.1.1 ∧ r33.1.1 < ((x28.2.1.cells.length : Nat) : Int) then
   if (atK0 x28.2.1.cells r33.1.1) ≠ 4 then
   Option.map Sum.inr (
   some ((false, ()), (()))
   )
   else
   self30 (wi (x28.1 + 1), x28.2.1, ())
   else none
   else
   some (Sum.inl (x28.1, x28.2.1, ()))
   else
   if 0 ≤ r31.1.1 ∧ r31.1.1 < ((x28.2.1.cells.length : Nat) : Int) then
   if (wu (x28.1)) < (atK0 x28.2.1.cells r31.1.1) then
   (pState z6.2.1.l x28.1).bind fun r34 =>
   if r34.1.1 < 0 then
   Option.map Sum.inr (
   some ((false, ()), (()))
   )
   else
   if ((x28.2.1.cells.length : Nat) : Int) ≤ r34.1.1 then
   Option.map Sum.inr (
   some ((false, ()), (()))
   )
   else
   if 0 ≤ r34.1.1 ∧ r34.1.1 < ((x28.2.1.cells.length : Nat) : Int) then
   if (atK0 x28.2.1.cells r34.1.1) ≠ 4 then
   Option.map Sum.inr (
   some ((false, ()), (()))
   )
   else
   self30 (wi (x28.1 + 1), x28.2.1, ())
   else none
   else
   some (Sum.inl (x28.1, x28.2.1, ()))
   else none
   else
   some (Sum.inl (x28.1, x28.2.1, ()))
   ) 18446744073709551616 (0, z6.2.1.m, ())).bind fun z29 => match z29 with
   | .inr o35 => some o35
   | .inl z29 =>
   (workerWorkerStatus r27.2.1).bind fun r36 =>
   if r36.1.1 ≠ 0 then
   if r36.1.1 ≠ 3 then
   some ((false, ()), (()))
   else
   (clientClientStatus r26.2.1).bind fun r37 =>
   if r37.1.1 = 0 then
   (clientClientStatus r37.2.1).bind fun r38 =>
   if r38.1.1 = 4 then
   some ((decide (z6.2.2.2.2.1.1 = 7), ()), (()))
   else
   some ((false, ()), (()))
   else
   if r37.1.1 = 4 then
   (clientClientStatus r37.2.1).bind fun r39 =>
   if r39.1.1 = 4 then
   some ((decide (z6.2.2.2.2.1.1 = 7), ()), (()))
   else
   some ((false, ()), (()))
   else
   some ((false, ()), (()))
   else
   (clientClientStatus r26.2.1).bind fun r40 =>
   if r40.1.1 = 0 then
   (clientClientStatus r40.2.1).bind fun r41 =>
   if r41.1.1 = 4 then
   some ((decide (z6.2.2.2.2.1.1 = 7), ()), (()))
   else
   some ((false, ()), (()))
   else
   if r40.1.1 = 4 then
   (clientClientStatus r40.2.1).bind fun r42 =>
   if r42.1.1 = 4 then
   some ((decide (z6.2.2.2.2.1.1 = 7), ()), (()))
   else
   some ((false, ()), (()))
   else
   some ((false, ()), (()))
   else none
   else none
   else none
   else none
   else none
   else none
   else none
   else none
   else none
   else none
  else none
 else
 none
noncomputable abbrev worksteallaw28Awake_k : Con SR1 := ⟨42, [], [.sh .b], fun x => worksteallaw28Awake ⟩
noncomputable def worksteallaw28Awake_tb : List (Nat × Func) := [(68, Tryz.f68), (114, Tryz.f114), (92, Tryz.f92), (44, Tryz.f44), (56, Tryz.f56), (105, Tryz.f105), (146, Tryz.f146), (103, Tryz.f103), (29, Tryz.f29), (93, Tryz.f93), (52, Tryz.f52)]
theorem worksteallaw28Awake_ok : CO Tryz.prog worksteallaw28Awake_k := co_fn mixed Tryz.func42 [kconfig_k, machineNew_k, clientNew_k, workerNew_k, workerWorkerStatus_k, workstealkeepPick_k, memoryMemoryCount_k, scriptMachine_k, clientClientStep_k, workerWorkerStep_k, clockClockTick_k, clockClockSet_k, memoryMemoryLast_k, clientClientStatus_k, pNext_k, pState_k] ⟨kconfig_ok, machineNew_ok, clientNew_ok, workerNew_ok, workerWorkerStatus_ok, workstealkeepPick_ok, memoryMemoryCount_ok, scriptMachine_ok, clientClientStep_ok, workerWorkerStep_ok, clockClockTick_ok, clockClockSet_ok, memoryMemoryLast_ok, clientClientStatus_ok, pNext_ok, pState_ok, trivial⟩ worksteallaw28Awake_tb ⟨Tryz.func68, Tryz.func114, Tryz.func92, Tryz.func44, Tryz.func56, Tryz.func105, Tryz.func146, Tryz.func103, Tryz.func29, Tryz.func93, Tryz.func52, trivial⟩ (fun f => (get [(68, [(6, .spl 22 [1] 2)]), (114, [(2, .unroll 2)]), (44, [(9, .cut [.ob 12 27, .ob 26 31, .ob 14 30, .cx 15 [.inr (.ptr 12 0), .inr (.sl 28), .inr (.ptr 14 0), .inr (.sl 54), .inl sI_, .inl (.row 1), .inl sI_, .inl sI_, .inl sU_, .inl sU_]] [9, 10, 60]), (12, .loop [.ob 12 27, .cx 15 [.inr (.ptr 12 0), .inr (.sl 28), .inr (.ptr 14 0), .inr (.sl 54), .inl sI_, .inl (.row 1), .inl sI_, .inl sI_, .inl sU_, .inl sU_]] 18446744073709551616 1)]), (56, [(6, .loopR [.rg 6 sI_, .ob 91 9] 18446744073709551616 0)]), (146, [(2, .unroll 2)]), (93, [(2, .unroll 2)])] f).getD []) [(5, .loopR [.rg 3 sI_, .ob 12 27, .ob 26 31, .ob 14 30, .cx 15 [.inr (.ptr 12 0), .inr (.sl 28), .inr (.ptr 14 0), .inr (.sl 54), .inl sI_, .inl (.row 1), .inl sI_, .inl sI_, .inl sU_, .inl sU_]] 18446744073709551616 0)] fun x => by kernel_rfl
noncomputable def workstealref28Ints (y0 : List Int) (y1 : List Int) : Option ((Bool × Unit) × (Unit)) :=
 if ((y0.length : Nat) : Int) ≠ ((y1.length : Nat) : Int) then
  some ((false, ()), (()))
 else
 (lpF (σ := Int × Unit) (β := (Int × Unit) ⊕ ((Bool × Unit) × (Unit))) (fun self3 x1 =>
  if x1.1 < ((y0.length : Nat) : Int) then
   if 0 ≤ x1.1 ∧ x1.1 < ((y0.length : Nat) : Int) then
   if 0 ≤ x1.1 ∧ x1.1 < ((y1.length : Nat) : Int) then
   if (atK1 y0 x1.1) ≠ (atK1 y1 x1.1) then
   Option.map Sum.inr (
   some ((false, ()), (()))
   )
   else
   self3 (wi (x1.1 + 1), ())
   else none
   else none
  else
  some (Sum.inl (x1.1, ()))
 ) 18446744073709551616 (0, ())).bind fun z2 => match z2 with
 | .inr o4 => some o4
 | .inl z2 =>
 some ((true, ()), (()))
noncomputable abbrev workstealref28Ints_k : Con SR1 := ⟨91, [.sh (.ro 1), .sh (.ro 1)], [.sh .b], fun x => workstealref28Ints x.1 x.2.1⟩
theorem workstealref28Ints_ok : CO Tryz.prog workstealref28Ints_k := co_fn mixed Tryz.func91 [] trivial [] trivial (fun _ => []) [(4, .loopR [.rg 5 sI_] 18446744073709551616 0)] fun x => by kernel_rfl
end
end Go.Proofs.YtgiagoeoifgliaaGreat
