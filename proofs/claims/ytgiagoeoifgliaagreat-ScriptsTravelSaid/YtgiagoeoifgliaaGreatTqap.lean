/- The program's machines in the evaluator's form. The program's machines in the evaluator's form: all. ScriptsTravel in the evaluator's form. ScriptsTravel in the evaluator's form. The law ScriptsTravel, its loops by name. -/
import Derived.Test.YtgiagoeoifgliaaGreatTqao
set_option linter.all false
namespace Go.Proofs.YtgiagoeoifgliaaGreat
section
open Go Go.RowKit
set_option maxRecDepth 100000
variable [Tb]
noncomputable def clientClientAccess_a (y0 : (ClientV MV)) (y1 : EnvP) : Option ((Bool × Unit) × ((ClientV MV) × EnvP × Unit)) :=
 if 0 ≤ y0.i ∧ y0.i < ((y0.subs.length : Nat) : Int) then
  agr (
   if y1.l.workers = y1.l.workers then
   if y1.l.levels = y1.l.levels then
   if y1.l.classes = y1.l.classes then
   if y1.l.tasks = y1.l.tasks then
   if y1.l.deque = y1.l.deque then
   if y1.l.heap = y1.l.heap then
   if y1.l.sleepers = y1.l.sleepers then
   if y1.l.epochs = y1.l.epochs then
   if y1.l.bitmaps = y1.l.bitmaps then
   if y1.l.queues = y1.l.queues then
   if y1.l.table = y1.l.table then
   if ((atK4 y0.subs y0.i).prog) = ((atK4 y0.subs y0.i).prog) then
   if ((atK4 y0.subs y0.i).level) = ((atK4 y0.subs y0.i).level) then
   if ((atK4 y0.subs y0.i).deadline) = ((atK4 y0.subs y0.i).deadline) then
   if y0.i = y0.i then
   if y1.l.workers = y1.l.workers then
   if y1.l.levels = y1.l.levels then
   if y1.l.classes = y1.l.classes then
   if y1.l.tasks = y1.l.tasks then
   if y1.l.deque = y1.l.deque then
   if y1.l.heap = y1.l.heap then
   if y1.l.sleepers = y1.l.sleepers then
   if y1.l.epochs = y1.l.epochs then
   if y1.l.bitmaps = y1.l.bitmaps then
   if y1.l.queues = y1.l.queues then
   if y1.l.table = y1.l.table then
   if ((atK4 y0.subs y0.i).prog) = ((atK4 y0.subs y0.i).prog) then
   if ((atK4 y0.subs y0.i).level) = ((atK4 y0.subs y0.i).level) then
   if ((atK4 y0.subs y0.i).deadline) = ((atK4 y0.subs y0.i).deadline) then
   if y0.i = y0.i then
   if y1.l.workers = y1.l.workers then
   if y1.l.levels = y1.l.levels then
   if y1.l.classes = y1.l.classes then
   if y1.l.tasks = y1.l.tasks then
   if y1.l.deque = y1.l.deque then
   if y1.l.heap = y1.l.heap then
   if y1.l.sleepers = y1.l.sleepers then
   if y1.l.epochs = y1.l.epochs then
   if y1.l.bitmaps = y1.l.bitmaps then
   if y1.l.queues = y1.l.queues then
   if y1.l.table = y1.l.table then
   if y0.line = 2 then
   (pLSize y1.l).bind fun r15 =>
   if y1.c.heap = y1.c.heap then
   (pLoad y1.m r15.1.1).bind fun r16 =>
   if y1.c.heap = y1.c.heap then
   if y1.c.heap ≤ (wi (r16.1.1)) then
   (clientClientReject y0 ({ y1 with m := r16.2.1 } : EnvP) 1).bind fun r17 =>
   some ((r17.1.1, ()), (r17.2.1, r17.2.2.1, ()))
   else
   (clientClientTo y0 (wi (y0.line + 1))).bind fun r18 =>
   some ((r18.1.1, ()), (r18.2.1, ({ y1 with m := r16.2.1 } : EnvP), ()))
   else none
   else none
   else
   if y0.line = 4 then
   (pLevel y1.l y0.id).bind fun r19 =>
   if ((atK4 y0.subs y0.i).level) = ((atK4 y0.subs y0.i).level) then
   (pStore y1.m r19.1.1 (wu ((atK4 y0.subs y0.i).level))).bind fun r20 =>
   (clientClientTo y0 (wi (y0.line + 1))).bind fun r21 =>
   some ((r21.1.1, ()), (r21.2.1, ({ y1 with m := r20.2.1 } : EnvP), ()))
   else none
   else
   if y0.line = 5 then
   (pSince y1.l y0.id).bind fun r22 =>
   (pNow y1.k).bind fun r23 =>
   (pStore y1.m r22.1.1 (wu (r23.1.1))).bind fun r24 =>
   (clientClientTo y0 (wi (y0.line + 1))).bind fun r25 =>
   some ((r25.1.1, ()), (r25.2.1, ({ y1 with m := r24.2.1, k := r23.2.1 } : EnvP), ()))
   else
   (pState y1.l y0.id).bind fun r26 =>
   (pStore y1.m r26.1.1 1).bind fun r27 =>
   (clientClientTo y0 (wi (y0.line + 1))).bind fun r28 =>
   some ((r28.1.1, ()), (r28.2.1, ({ y1 with m := r27.2.1 } : EnvP), ()))
   else none
   else none
   else none
   else none
   else none
   else none
   else none
   else none
   else none
   else none
   else none
   else none
   else none
   else none
   else none
   else none
   else none
   else none
   else none
   else none
   else none
   else none
   else none
   else none
   else none
   else none
   else none
   else none
   else none
   else none
   else none
   else none
   else none
   else none
   else none
   else none
   else none
   else none
   else none
   else none
   else none
  ) (
   if y1.l.workers = y1.l.workers then
   if y1.l.levels = y1.l.levels then
   if y1.l.classes = y1.l.classes then
   if y1.l.tasks = y1.l.tasks then
   if y1.l.deque = y1.l.deque then
   if y1.l.heap = y1.l.heap then
   if y1.l.sleepers = y1.l.sleepers then
   if y1.l.epochs = y1.l.epochs then
   if y1.l.bitmaps = y1.l.bitmaps then
   if y1.l.queues = y1.l.queues then
   if y1.l.table = y1.l.table then
   if ((atK4 y0.subs y0.i).prog) = ((atK4 y0.subs y0.i).prog) then
   if ((atK4 y0.subs y0.i).level) = ((atK4 y0.subs y0.i).level) then
   if ((atK4 y0.subs y0.i).deadline) = ((atK4 y0.subs y0.i).deadline) then
   if y0.i = y0.i then
   if y1.l.workers = y1.l.workers then
   if y1.l.levels = y1.l.levels then
   if y1.l.classes = y1.l.classes then
   if y1.l.tasks = y1.l.tasks then
   if y1.l.deque = y1.l.deque then
   if y1.l.heap = y1.l.heap then
   if y1.l.sleepers = y1.l.sleepers then
   if y1.l.epochs = y1.l.epochs then
   if y1.l.bitmaps = y1.l.bitmaps then
   if y1.l.queues = y1.l.queues then
   if y1.l.table = y1.l.table then
   if ((atK4 y0.subs y0.i).prog) = ((atK4 y0.subs y0.i).prog) then
   if ((atK4 y0.subs y0.i).level) = ((atK4 y0.subs y0.i).level) then
   if ((atK4 y0.subs y0.i).deadline) = ((atK4 y0.subs y0.i).deadline) then
   if y0.i = y0.i then
   if y1.l.workers = y1.l.workers then
   if y1.l.levels = y1.l.levels then
   if y1.l.classes = y1.l.classes then
   if y1.l.tasks = y1.l.tasks then
   if y1.l.deque = y1.l.deque then
   if y1.l.heap = y1.l.heap then
   if y1.l.sleepers = y1.l.sleepers then
   if y1.l.epochs = y1.l.epochs then
   if y1.l.bitmaps = y1.l.bitmaps then
   if y1.l.queues = y1.l.queues then
   if y1.l.table = y1.l.table then
   if y0.line = 2 then
   (pLSize y1.l).bind fun r1 =>
   if y1.c.heap = y1.c.heap then
   (pLoad y1.m r1.1.1).bind fun r2 =>
   if y1.c.heap = y1.c.heap then
   if y1.c.heap ≤ (wi (r2.1.1)) then
   (clientClientReject y0 ({ y1 with m := r2.2.1 } : EnvP) 1).bind fun r3 =>
   some ((r3.1.1, ()), (r3.2.1, r3.2.2.1, ()))
   else
   (clientClientTo y0 (wi (y0.line + 1))).bind fun r4 =>
   some ((r4.1.1, ()), (r4.2.1, ({ y1 with m := r2.2.1 } : EnvP), ()))
   else none
   else none
   else
   if y0.line = 4 then
   (pLevel y1.l y0.id).bind fun r5 =>
   if ((atK4 y0.subs y0.i).level) = ((atK4 y0.subs y0.i).level) then
   (pStore y1.m r5.1.1 (wu ((atK4 y0.subs y0.i).level))).bind fun r6 =>
   (clientClientTo y0 (wi (y0.line + 1))).bind fun r7 =>
   some ((r7.1.1, ()), (r7.2.1, ({ y1 with m := r6.2.1 } : EnvP), ()))
   else none
   else
   if y0.line = 5 then
   (pSince y1.l y0.id).bind fun r8 =>
   (pNow y1.k).bind fun r9 =>
   (pStore y1.m r8.1.1 (wu (r9.1.1))).bind fun r10 =>
   (clientClientTo y0 (wi (y0.line + 1))).bind fun r11 =>
   some ((r11.1.1, ()), (r11.2.1, ({ y1 with m := r10.2.1, k := r9.2.1 } : EnvP), ()))
   else
   (pState y1.l y0.id).bind fun r12 =>
   (pStore y1.m r12.1.1 1).bind fun r13 =>
   (clientClientTo y0 (wi (y0.line + 1))).bind fun r14 =>
   some ((r14.1.1, ()), (r14.2.1, ({ y1 with m := r13.2.1 } : EnvP), ()))
   else none
   else none
   else none
   else none
   else none
   else none
   else none
   else none
   else none
   else none
   else none
   else none
   else none
   else none
   else none
   else none
   else none
   else none
   else none
   else none
   else none
   else none
   else none
   else none
   else none
   else none
   else none
   else none
   else none
   else none
   else none
   else none
   else none
   else none
   else none
   else none
   else none
   else none
   else none
   else none
   else none
  )
 else none
noncomputable abbrev clientClientAccess_a_k : Con SR1 := ⟨206, [.ref 30, .ref 27], [.sh .b], fun x => clientClientAccess_a x.1 x.2.1⟩
theorem clientClientAccess_a_ok : CO Tryz.prog clientClientAccess_a_k := co_fn mixed Tryz.func206 [pLSize_k, pLoad_k, clientClientReject_k, clientClientTo_k, pLevel_k, pStore_k, pSince_k, pNow_k, pState_k] ⟨pLSize_ok, pLoad_ok, clientClientReject_ok, clientClientTo_ok, pLevel_ok, pStore_ok, pSince_ok, pNow_ok, pState_ok, trivial⟩ [] trivial (fun _ => []) [] fun x => by kernel_rfl
noncomputable def clientClientAccess (y0 : (ClientV MV)) (y1 : EnvP) : Option ((Bool × Unit) × ((ClientV MV) × EnvP × Unit)) :=
 if 0 ≤ y0.i ∧ y0.i < ((y0.subs.length : Nat) : Int) then
  if y0.line = 2 then
   (pLSize y1.l).bind fun r1 =>
   (pLoad y1.m r1.1.1).bind fun r2 =>
   if y1.c.heap ≤ (wi (r2.1.1)) then
   (clientClientReject y0 ({ y1 with m := r2.2.1 } : EnvP) 1).bind fun r3 =>
   some ((r3.1.1, ()), (r3.2.1, r3.2.2.1, ()))
   else
   (clientClientTo y0 (wi (y0.line + 1))).bind fun r4 =>
   some ((r4.1.1, ()), (r4.2.1, ({ y1 with m := r2.2.1 } : EnvP), ()))
  else
  if y0.line = 4 then
   (pLevel y1.l y0.id).bind fun r5 =>
   (pStore y1.m r5.1.1 (wu ((atK4 y0.subs y0.i).level))).bind fun r6 =>
   (clientClientTo y0 (wi (y0.line + 1))).bind fun r7 =>
   some ((r7.1.1, ()), (r7.2.1, ({ y1 with m := r6.2.1 } : EnvP), ()))
  else
  if y0.line = 5 then
   (pSince y1.l y0.id).bind fun r8 =>
   (pNow y1.k).bind fun r9 =>
   (pStore y1.m r8.1.1 (wu (r9.1.1))).bind fun r10 =>
   (clientClientTo y0 (wi (y0.line + 1))).bind fun r11 =>
   some ((r11.1.1, ()), (r11.2.1, ({ y1 with m := r10.2.1, k := r9.2.1 } : EnvP), ()))
  else
  (pState y1.l y0.id).bind fun r12 =>
  (pStore y1.m r12.1.1 1).bind fun r13 =>
  (clientClientTo y0 (wi (y0.line + 1))).bind fun r14 =>
  some ((r14.1.1, ()), (r14.2.1, ({ y1 with m := r13.2.1 } : EnvP), ()))
 else none
noncomputable abbrev clientClientAccess_k : Con SR1 := ⟨206, [.ref 30, .ref 27], [.sh .b], fun x => clientClientAccess x.1 x.2.1⟩
theorem clientClientAccess_eq (y0 : (ClientV MV)) (y1 : EnvP) : clientClientAccess_a y0 y1 = clientClientAccess y0 y1 := by
  unfold clientClientAccess_a clientClientAccess
  simp only [if_true, agr_self, bind_guard]
theorem clientClientAccess_ok : CO Tryz.prog clientClientAccess_k := co_as clientClientAccess_a_ok fun x out hx => (show clientClientAccess_a_k.spec x = some out from (clientClientAccess_eq x.1 x.2.1).trans hx)
noncomputable def clientClientNext (y0 : (ClientV MV)) : Option ((Bool × Unit) × ((ClientV MV) × Unit)) :=
 (clientClientTo ({ y0 with i := wi (y0.i + 1), accepted := false } : (ClientV MV)) 1).bind fun r1 =>
 (clientClientOver r1.2.1).bind fun r2 =>
 some ((r2.1.1, ()), (r2.2.1, ()))
noncomputable abbrev clientClientNext_k : Con SR1 := ⟨216, [.ref 30], [.sh .b], fun x => clientClientNext x.1⟩
theorem clientClientNext_ok : CO Tryz.prog clientClientNext_k := co_fn mixed Tryz.func216 [clientClientTo_k, clientClientOver_k] ⟨clientClientTo_ok, clientClientOver_ok, trivial⟩ [] trivial (fun _ => []) [] fun x => by kernel_rfl
noncomputable def clientClientAfter (y0 : (ClientV MV)) (y1 : EnvP) (y2 : Int) (y3 : Int) : Option ((Bool × Unit) × ((ClientV MV) × EnvP × Unit)) :=
 if 0 ≤ y0.i ∧ y0.i < ((y0.subs.length : Nat) : Int) then
  if ((atK4 y0.subs y0.i).prog) = ((atK4 y0.subs y0.i).prog) then
   if ((atK4 y0.subs y0.i).level) = ((atK4 y0.subs y0.i).level) then
   if ((atK4 y0.subs y0.i).deadline) = ((atK4 y0.subs y0.i).deadline) then
   if y0.i = y0.i then
   if y0.line = 3 then
   if y2 = 3 then
   (clientClientReject y0 y1 2).bind fun r1 =>
   some ((r1.1.1, ()), (r1.2.1, r1.2.2.1, ()))
   else
   if 0 ≤ y3 ∧ y3 < ((y1.recs.length : Nat) : Int) then
   (clientClientTo ({ y0 with id := y3 } : (ClientV MV)) (wi (y0.line + 1))).bind fun r2 =>
   some ((r2.1.1, ()), (r2.2.1, ({ y1 with recs := y1.recs.set y3.toNat (⟨(atK4 y0.subs y0.i).prog, (-1), 0, 0, (-1), [], false⟩ : RecP) } : EnvP), ()))
   else none
   else
   if y0.line = 6 then
   if y2 ≠ 0 then
   (clientClientTo y0 8).bind fun r3 =>
   some ((r3.1.1, ()), (r3.2.1, y1, ()))
   else
   (pEmit y1 (⟨1, y0.me, y0.id, y0.i, (atK4 y0.subs y0.i).level⟩ : Ev)).bind fun r4 =>
   (clientClientTo ({ y0 with accepted := true } : (ClientV MV)) (wi (y0.line + 1))).bind fun r5 =>
   some ((r5.1.1, ()), (r5.2.1, r4.2.1, ()))
   else
   if y0.line = 8 then
   if (!y0.accepted) = true then
   (clientClientNext y0).bind fun r6 =>
   some ((r6.1.1, ()), (r6.2.1, y1, ()))
   else
   (clientClientTo y0 (wi (y0.line + 1))).bind fun r7 =>
   some ((r7.1.1, ()), (r7.2.1, y1, ()))
   else
   if y0.line = 9 then
   (clientClientNext y0).bind fun r8 =>
   some ((r8.1.1, ()), (r8.2.1, y1, ()))
   else
   (clientClientTo y0 (wi (y0.line + 1))).bind fun r9 =>
   some ((r9.1.1, ()), (r9.2.1, y1, ()))
   else none
   else none
   else none
  else none
 else none
noncomputable abbrev clientClientAfter_k : Con SR1 := ⟨207, [.ref 30, .ref 27, .sh sI_, .sh sI_], [.sh .b], fun x => clientClientAfter x.1 x.2.1 x.2.2.1 x.2.2.2.1⟩
theorem clientClientAfter_ok : CO Tryz.prog clientClientAfter_k := co_fn mixed Tryz.func207 [clientClientReject_k, clientClientTo_k, pEmit_k, clientClientNext_k] ⟨clientClientReject_ok, clientClientTo_ok, pEmit_ok, clientClientNext_ok, trivial⟩ [] trivial (fun _ => []) [] fun x => by kernel_rfl
noncomputable def clientClientStep (y0 : (ClientV MV)) (y1 : EnvP) : Option ((Bool × Unit) × ((ClientV MV) × EnvP × Unit)) :=
 (clientClientOver y0).bind fun r1 =>
 if r1.1.1 = true then
  some ((true, ()), (r1.2.1, y1, ()))
 else
 if r1.2.1.fresh = true then
  (clientClientMachines r1.2.1).bind fun r2 =>
  if (SR1.spl r2.1.1).isNone = true then
   (clientClientAccess ({ r2.2.1 with inside := r2.1.1, fresh := false } : (ClientV MV)) y1).bind fun r3 =>
   some ((r3.1.1, ()), (r3.2.1, r3.2.2.1, ()))
  else
  (stepD3 r2.1.1 y1).bind fun r4 =>
  if (!r4.1.1) = true then
   some ((false, ()), (({ r2.2.1 with inside := r4.2.1, fresh := false } : (ClientV MV)), r4.2.2.1, ()))
  else
  (resultD3 r4.2.1).bind fun r5 =>
  (clientClientAfter ({ r2.2.1 with inside := r5.2.1, fresh := false } : (ClientV MV)) r4.2.2.1 r5.1.1 r5.1.2.1).bind fun r6 =>
  some ((r6.1.1, ()), (r6.2.1, r6.2.2.1, ()))
 else
 if (SR1.spl r1.2.1.inside).isNone = true then
  (clientClientAccess r1.2.1 y1).bind fun r7 =>
  some ((r7.1.1, ()), (r7.2.1, r7.2.2.1, ()))
 else
 (stepD3 r1.2.1.inside y1).bind fun r8 =>
 if (!r8.1.1) = true then
  some ((false, ()), (({ r1.2.1 with inside := r8.2.1 } : (ClientV MV)), r8.2.2.1, ()))
 else
 (resultD3 r8.2.1).bind fun r9 =>
 (clientClientAfter ({ r1.2.1 with inside := r9.2.1 } : (ClientV MV)) r8.2.2.1 r9.1.1 r9.1.2.1).bind fun r10 =>
 some ((r10.1.1, ()), (r10.2.1, r10.2.2.1, ()))
noncomputable abbrev clientClientStep_k : Con SR1 := ⟨204, [.ref 30, .ref 27], [.sh .b], fun x => clientClientStep x.1 x.2.1⟩
theorem clientClientStep_ok : CO Tryz.prog clientClientStep_k := co_fn mixed Tryz.func204 [clientClientOver_k, clientClientMachines_k, clientClientAccess_k, stepD3_k, resultD3_k, clientClientAfter_k] ⟨clientClientOver_ok, clientClientMachines_ok, clientClientAccess_ok, stepD3_ok, resultD3_ok, clientClientAfter_ok, trivial⟩ [] trivial (fun _ => []) [] fun x => by kernel_rfl
noncomputable def takeTake (y0 : Int) : Option ((MV × Unit) × (Unit)) :=
 (levelsPop y0).bind fun r1 =>
 some ((MV.take (⟨⟨false, 0, 0⟩, y0, false, r1.1.1⟩ : (TakeV MV)), ()), (()))
noncomputable abbrev takeTake_k : Con SR1 := ⟨125, [.sh sI_], [.sh .mach], fun x => takeTake x.1⟩
theorem takeTake_ok : CO Tryz.prog takeTake_k := co_fn mixed Tryz.func125 [levelsPop_k] ⟨levelsPop_ok, trivial⟩ [] trivial (fun _ => []) [] fun x => by kernel_rfl
noncomputable def workerWorkerTo (y0 : (WorkerV MV)) (y1 : Int) (y2 : MV) : Option ((Unit) × ((WorkerV MV) × Unit)) :=
 some ((()), (({ y0 with line := y1, inside := y2 } : (WorkerV MV)), ()))
noncomputable abbrev workerWorkerTo_k : Con SR1 := ⟨124, [.ref 31, .sh sI_, .sh .mach], [], fun x => workerWorkerTo x.1 x.2.1 x.2.2.1⟩
theorem workerWorkerTo_ok : CO Tryz.prog workerWorkerTo_k := co_fn mixed Tryz.func124 [] trivial [] trivial (fun _ => []) [] fun x => by kernel_rfl
noncomputable def agingSweep (y0 : Int) (y1 : Int) : Option ((MV × Unit) × (Unit)) :=
 some ((MV.sweep (⟨⟨false, 0, 0⟩, y0, y1, 1, 0, MV.nil⟩ : (SweepV MV)), ()), (()))
noncomputable abbrev agingSweep_k : Con SR1 := ⟨126, [.sh sI_, .sh sI_], [.sh .mach], fun x => agingSweep x.1 x.2.1⟩
theorem agingSweep_ok : CO Tryz.prog agingSweep_k := co_fn mixed Tryz.func126 [] trivial [] trivial (fun _ => []) [] fun x => by kernel_rfl
noncomputable def workerWorkerStart (y0 : (WorkerV MV)) (y1 : EnvP) : Option ((Unit) × ((WorkerV MV) × EnvP × Unit)) :=
 if y1.c.age = 0 then
  (takeTake y0.worker).bind fun r1 =>
  (workerWorkerTo y0 2 r1.1.1).bind fun r2 =>
  some ((()), (r2.2.1, y1, ()))
 else
 (pMod y0.worker y1.c.tasks).bind fun r3 =>
 if y1.c.tasks = y1.c.tasks then
  if y0.cursor = y0.cursor then
   if y0.worker = y0.worker then
   (pMod (wi (r3.1.1 + y0.cursor)) y1.c.tasks).bind fun r4 =>
   if y0.worker = y0.worker then
   (agingSweep y0.worker r4.1.1).bind fun r5 =>
   (workerWorkerTo y0 1 r5.1.1).bind fun r6 =>
   some ((()), (r6.2.1, y1, ()))
   else none
   else none
  else none
 else none
noncomputable abbrev workerWorkerStart_k : Con SR1 := ⟨83, [.ref 31, .ref 27], [], fun x => workerWorkerStart x.1 x.2.1⟩
theorem workerWorkerStart_ok : CO Tryz.prog workerWorkerStart_k := co_fn mixed Tryz.func83 [takeTake_k, workerWorkerTo_k, pMod_k, agingSweep_k] ⟨takeTake_ok, workerWorkerTo_ok, pMod_ok, agingSweep_ok, trivial⟩ [] trivial (fun _ => []) [] fun x => by kernel_rfl
noncomputable def runnerRun (y0 : Int) (y1 : Int) : Option ((MV × Unit) × (Unit)) :=
 some ((MV.run (⟨⟨false, 0, 0⟩, y0, [y1], 0, MV.nil, 0, 0, 0, 0⟩ : (RunV MV)), ()), (()))
noncomputable abbrev runnerRun_k : Con SR1 := ⟨15, [.sh sI_, .sh sI_], [.sh .mach], fun x => runnerRun x.1 x.2.1⟩
theorem runnerRun_ok : CO Tryz.prog runnerRun_k := co_fn mixed Tryz.func15 [] trivial [] trivial (fun _ => []) [] fun x => by kernel_rfl
noncomputable def workerWorkerRun (y0 : (WorkerV MV)) (y1 : Int) : Option ((Unit) × ((WorkerV MV) × Unit)) :=
 (runnerRun y0.worker y1).bind fun r1 =>
 (workerWorkerTo ({ y0 with x := y1 } : (WorkerV MV)) 7 r1.1.1).bind fun r2 =>
 some ((()), (r2.2.1, ()))
noncomputable abbrev workerWorkerRun_k : Con SR1 := ⟨86, [.ref 31, .sh sI_], [], fun x => workerWorkerRun x.1 x.2.1⟩
theorem workerWorkerRun_ok : CO Tryz.prog workerWorkerRun_k := co_fn mixed Tryz.func86 [runnerRun_k, workerWorkerTo_k] ⟨runnerRun_ok, workerWorkerTo_ok, trivial⟩ [] trivial (fun _ => []) [] fun x => by kernel_rfl
noncomputable def drainDrain (y0 : Int) : Option ((MV × Unit) × (Unit)) :=
 some ((MV.drain (⟨⟨false, 0, 0⟩, y0, 1, MV.nil, 0, false, 0, 0, 0⟩ : (DrainV MV)), ()), (()))
noncomputable abbrev drainDrain_k : Con SR1 := ⟨128, [.sh sI_], [.sh .mach], fun x => drainDrain x.1⟩
theorem drainDrain_ok : CO Tryz.prog drainDrain_k := co_fn mixed Tryz.func128 [] trivial [] trivial (fun _ => []) [] fun x => by kernel_rfl
noncomputable def workerWorkerClaim (y0 : (WorkerV MV)) (y1 : Int) : Option ((Unit) × ((WorkerV MV) × Unit)) :=
 (tableClaim y0.worker y1).bind fun r1 =>
 (workerWorkerTo ({ y0 with x := y1 } : (WorkerV MV)) 6 r1.1.1).bind fun r2 =>
 some ((()), (r2.2.1, ()))
noncomputable abbrev workerWorkerClaim_k : Con SR1 := ⟨129, [.ref 31, .sh sI_], [], fun x => workerWorkerClaim x.1 x.2.1⟩
theorem workerWorkerClaim_ok : CO Tryz.prog workerWorkerClaim_k := co_fn mixed Tryz.func129 [tableClaim_k, workerWorkerTo_k] ⟨tableClaim_ok, workerWorkerTo_ok, trivial⟩ [] trivial (fun _ => []) [] fun x => by kernel_rfl
noncomputable def parkSleep (y0 : Int) : Option ((MV × Unit) × (Unit)) :=
 some ((MV.sleep (⟨⟨false, 0, 0⟩, y0, 1, 0, 0, 0⟩ : SleepV), ()), (()))
noncomputable abbrev parkSleep_k : Con SR1 := ⟨131, [.sh sI_], [.sh .mach], fun x => parkSleep x.1⟩
theorem parkSleep_ok : CO Tryz.prog parkSleep_k := co_fn mixed Tryz.func131 [] trivial [] trivial (fun _ => []) [] fun x => by kernel_rfl
noncomputable def probeProbe (y0 : Int) : Option ((MV × Unit) × (Unit)) :=
 some ((MV.probe (⟨⟨false, 0, 0⟩, y0, false, 0, 0, ⟨0, 0, 0, 0, 0, 0, 0, 0, 0, 0, 0, 0, 0, 0, 0, 0⟩⟩ : ProbeV), ()), (()))
noncomputable abbrev probeProbe_k : Con SR1 := ⟨150, [.sh sI_], [.sh .mach], fun x => probeProbe x.1⟩
theorem probeProbe_ok : CO Tryz.prog probeProbe_k := co_fn mixed Tryz.func150 [] trivial [] trivial (fun _ => []) [] fun x => by kernel_rfl
noncomputable def workerWorkerIdle (y0 : (WorkerV MV)) (y1 : EnvP) : Option ((Unit) × ((WorkerV MV) × EnvP × Unit)) :=
 if y1.c.workers = 1 then
  (parkSleep y0.worker).bind fun r1 =>
  (workerWorkerTo y0 8 r1.1.1).bind fun r2 =>
  some ((()), (r2.2.1, y1, ()))
 else
 (probeProbe y0.worker).bind fun r3 =>
 (workerWorkerTo y0 4 r3.1.1).bind fun r4 =>
 some ((()), (r4.2.1, y1, ()))
noncomputable abbrev workerWorkerIdle_k : Con SR1 := ⟨130, [.ref 31, .ref 27], [], fun x => workerWorkerIdle x.1 x.2.1⟩
theorem workerWorkerIdle_ok : CO Tryz.prog workerWorkerIdle_k := co_fn mixed Tryz.func130 [parkSleep_k, workerWorkerTo_k, probeProbe_k] ⟨parkSleep_ok, workerWorkerTo_ok, probeProbe_ok, trivial⟩ [] trivial (fun _ => []) [] fun x => by kernel_rfl
noncomputable def thiefSteal (y0 : QV) : Option ((MV × Unit) × (Unit)) :=
 some ((MV.steal (⟨⟨false, 0, 0⟩, y0, 1, 0, 0⟩ : StealV), ()), (()))
noncomputable abbrev thiefSteal_k : Con SR1 := ⟨132, [.val 14], [.sh .mach], fun x => thiefSteal x.1⟩
theorem thiefSteal_ok : CO Tryz.prog thiefSteal_k := co_fn mixed Tryz.func132 [] trivial [] trivial (fun _ => []) [] fun x => by kernel_rfl
noncomputable def workerWorkerFound (y0 : (WorkerV MV)) (y1 : EnvP) (y2 : Int) (y3 : Int) : Option ((Unit) × ((WorkerV MV) × EnvP × Unit)) :=
 if y0.line = 1 then
  (takeTake y0.worker).bind fun r1 =>
  (workerWorkerTo ({ y0 with cursor := wi (y0.cursor + 1) } : (WorkerV MV)) 2 r1.1.1).bind fun r2 =>
  some ((()), (r2.2.1, y1, ()))
 else
 if y0.line = 2 then
  if y2 = 1 then
   (workerWorkerRun y0 y3).bind fun r3 =>
   some ((()), (r3.2.1, y1, ()))
  else
  if y0.line = 2 then
   (drainDrain y0.worker).bind fun r4 =>
   (workerWorkerTo y0 3 r4.1.1).bind fun r5 =>
   some ((()), (r5.2.1, y1, ()))
  else
  if y0.line = 3 then
   if y2 = 1 then
   (workerWorkerClaim y0 y3).bind fun r6 =>
   some ((()), (r6.2.1, y1, ()))
   else
   if y0.line = 3 then
   if y2 = 0 then
   (takeTake y0.worker).bind fun r7 =>
   (workerWorkerTo y0 2 r7.1.1).bind fun r8 =>
   some ((()), (r8.2.1, y1, ()))
   else
   if y0.line = 3 then
   (workerWorkerIdle y0 y1).bind fun r9 =>
   some ((()), (r9.2.1, r9.2.2.1, ()))
   else
   if y2 = 2 then
   (parkSleep y0.worker).bind fun r10 =>
   (workerWorkerTo y0 8 r10.1.1).bind fun r11 =>
   some ((()), (r11.2.1, y1, ()))
   else
   (pQueue y1.l (wi (Int.tdiv y3 64)) (Int.tmod y3 64)).bind fun r12 =>
   (thiefSteal r12.1.1).bind fun r13 =>
   (workerWorkerTo ({ y0 with victim := wi (Int.tdiv y3 64), level := (Int.tmod y3 64) } : (WorkerV MV)) 5 r13.1.1).bind fun r14 =>
   some ((()), (r14.2.1, y1, ()))
   else
   if y0.line = 3 then
   (workerWorkerIdle y0 y1).bind fun r15 =>
   some ((()), (r15.2.1, r15.2.2.1, ()))
   else
   if y2 = 2 then
   (parkSleep y0.worker).bind fun r16 =>
   (workerWorkerTo y0 8 r16.1.1).bind fun r17 =>
   some ((()), (r17.2.1, y1, ()))
   else
   (pQueue y1.l (wi (Int.tdiv y3 64)) (Int.tmod y3 64)).bind fun r18 =>
   (thiefSteal r18.1.1).bind fun r19 =>
   (workerWorkerTo ({ y0 with victim := wi (Int.tdiv y3 64), level := (Int.tmod y3 64) } : (WorkerV MV)) 5 r19.1.1).bind fun r20 =>
   some ((()), (r20.2.1, y1, ()))
  else
  if y0.line = 3 then
   if y2 = 0 then
   (takeTake y0.worker).bind fun r21 =>
   (workerWorkerTo y0 2 r21.1.1).bind fun r22 =>
   some ((()), (r22.2.1, y1, ()))
   else
   if y0.line = 3 then
   (workerWorkerIdle y0 y1).bind fun r23 =>
   some ((()), (r23.2.1, r23.2.2.1, ()))
   else
   if y2 = 2 then
   (parkSleep y0.worker).bind fun r24 =>
   (workerWorkerTo y0 8 r24.1.1).bind fun r25 =>
   some ((()), (r25.2.1, y1, ()))
   else
   (pQueue y1.l (wi (Int.tdiv y3 64)) (Int.tmod y3 64)).bind fun r26 =>
   (thiefSteal r26.1.1).bind fun r27 =>
   (workerWorkerTo ({ y0 with victim := wi (Int.tdiv y3 64), level := (Int.tmod y3 64) } : (WorkerV MV)) 5 r27.1.1).bind fun r28 =>
   some ((()), (r28.2.1, y1, ()))
  else
  if y0.line = 3 then
   (workerWorkerIdle y0 y1).bind fun r29 =>
   some ((()), (r29.2.1, r29.2.2.1, ()))
  else
  if y2 = 2 then
   (parkSleep y0.worker).bind fun r30 =>
   (workerWorkerTo y0 8 r30.1.1).bind fun r31 =>
   some ((()), (r31.2.1, y1, ()))
  else
  (pQueue y1.l (wi (Int.tdiv y3 64)) (Int.tmod y3 64)).bind fun r32 =>
  (thiefSteal r32.1.1).bind fun r33 =>
  (workerWorkerTo ({ y0 with victim := wi (Int.tdiv y3 64), level := (Int.tmod y3 64) } : (WorkerV MV)) 5 r33.1.1).bind fun r34 =>
  some ((()), (r34.2.1, y1, ()))
 else
 if y0.line = 2 then
  (drainDrain y0.worker).bind fun r35 =>
  (workerWorkerTo y0 3 r35.1.1).bind fun r36 =>
  some ((()), (r36.2.1, y1, ()))
 else
 if y0.line = 3 then
  if y2 = 1 then
   (workerWorkerClaim y0 y3).bind fun r37 =>
   some ((()), (r37.2.1, y1, ()))
  else
  if y0.line = 3 then
   if y2 = 0 then
   (takeTake y0.worker).bind fun r38 =>
   (workerWorkerTo y0 2 r38.1.1).bind fun r39 =>
   some ((()), (r39.2.1, y1, ()))
   else
   if y0.line = 3 then
   (workerWorkerIdle y0 y1).bind fun r40 =>
   some ((()), (r40.2.1, r40.2.2.1, ()))
   else
   if y2 = 2 then
   (parkSleep y0.worker).bind fun r41 =>
   (workerWorkerTo y0 8 r41.1.1).bind fun r42 =>
   some ((()), (r42.2.1, y1, ()))
   else
   (pQueue y1.l (wi (Int.tdiv y3 64)) (Int.tmod y3 64)).bind fun r43 =>
   (thiefSteal r43.1.1).bind fun r44 =>
   (workerWorkerTo ({ y0 with victim := wi (Int.tdiv y3 64), level := (Int.tmod y3 64) } : (WorkerV MV)) 5 r44.1.1).bind fun r45 =>
   some ((()), (r45.2.1, y1, ()))
  else
  if y0.line = 3 then
   (workerWorkerIdle y0 y1).bind fun r46 =>
   some ((()), (r46.2.1, r46.2.2.1, ()))
  else
  if y2 = 2 then
   (parkSleep y0.worker).bind fun r47 =>
   (workerWorkerTo y0 8 r47.1.1).bind fun r48 =>
   some ((()), (r48.2.1, y1, ()))
  else
  (pQueue y1.l (wi (Int.tdiv y3 64)) (Int.tmod y3 64)).bind fun r49 =>
  (thiefSteal r49.1.1).bind fun r50 =>
  (workerWorkerTo ({ y0 with victim := wi (Int.tdiv y3 64), level := (Int.tmod y3 64) } : (WorkerV MV)) 5 r50.1.1).bind fun r51 =>
  some ((()), (r51.2.1, y1, ()))
 else
 if y0.line = 3 then
  if y2 = 0 then
   (takeTake y0.worker).bind fun r52 =>
   (workerWorkerTo y0 2 r52.1.1).bind fun r53 =>
   some ((()), (r53.2.1, y1, ()))
  else
  if y0.line = 3 then
   (workerWorkerIdle y0 y1).bind fun r54 =>
   some ((()), (r54.2.1, r54.2.2.1, ()))
  else
  if y2 = 2 then
   (parkSleep y0.worker).bind fun r55 =>
   (workerWorkerTo y0 8 r55.1.1).bind fun r56 =>
   some ((()), (r56.2.1, y1, ()))
  else
  (pQueue y1.l (wi (Int.tdiv y3 64)) (Int.tmod y3 64)).bind fun r57 =>
  (thiefSteal r57.1.1).bind fun r58 =>
  (workerWorkerTo ({ y0 with victim := wi (Int.tdiv y3 64), level := (Int.tmod y3 64) } : (WorkerV MV)) 5 r58.1.1).bind fun r59 =>
  some ((()), (r59.2.1, y1, ()))
 else
 if y0.line = 3 then
  (workerWorkerIdle y0 y1).bind fun r60 =>
  some ((()), (r60.2.1, r60.2.2.1, ()))
 else
 if y2 = 2 then
  (parkSleep y0.worker).bind fun r61 =>
  (workerWorkerTo y0 8 r61.1.1).bind fun r62 =>
  some ((()), (r62.2.1, y1, ()))
 else
 (pQueue y1.l (wi (Int.tdiv y3 64)) (Int.tmod y3 64)).bind fun r63 =>
 (thiefSteal r63.1.1).bind fun r64 =>
 (workerWorkerTo ({ y0 with victim := wi (Int.tdiv y3 64), level := (Int.tmod y3 64) } : (WorkerV MV)) 5 r64.1.1).bind fun r65 =>
 some ((()), (r65.2.1, y1, ()))
noncomputable abbrev workerWorkerFound_k : Con SR1 := ⟨84, [.ref 31, .ref 27, .sh sI_, .sh sI_], [], fun x => workerWorkerFound x.1 x.2.1 x.2.2.1 x.2.2.2.1⟩
theorem workerWorkerFound_ok : CO Tryz.prog workerWorkerFound_k := co_fn mixed Tryz.func84 [takeTake_k, workerWorkerTo_k, workerWorkerRun_k, drainDrain_k, workerWorkerClaim_k, workerWorkerIdle_k, parkSleep_k, pQueue_k, thiefSteal_k] ⟨takeTake_ok, workerWorkerTo_ok, workerWorkerRun_ok, drainDrain_ok, workerWorkerClaim_ok, workerWorkerIdle_ok, parkSleep_ok, pQueue_ok, thiefSteal_ok, trivial⟩ [] trivial (fun _ => []) [] fun x => by kernel_rfl
noncomputable def workerWorkerLoop (y0 : (WorkerV MV)) : Option ((Unit) × ((WorkerV MV) × Unit)) :=
 some ((()), (({ y0 with line := 0, inside := MV.nil } : (WorkerV MV)), ()))
noncomputable abbrev workerWorkerLoop_k : Con SR1 := ⟨87, [.ref 31], [], fun x => workerWorkerLoop x.1⟩
theorem workerWorkerLoop_ok : CO Tryz.prog workerWorkerLoop_k := co_fn mixed Tryz.func87 [] trivial [] trivial (fun _ => []) [] fun x => by kernel_rfl
noncomputable def workerWorkerStolen (y0 : (WorkerV MV)) (y1 : EnvP) (y2 : Int) (y3 : Int) : Option ((Unit) × ((WorkerV MV) × EnvP × Unit)) :=
 if y2 = 1 then
  (pEmit y1 ({ y0 with kind := 14, task := y3, other := y0.victim } : Ev)).bind fun r1 =>
  (workerWorkerClaim y0 y3).bind fun r2 =>
  some ((()), (r2.2.1, r1.2.1, ()))
 else
 if y2 = 2 then
  (pBitmap y1.l y0.victim).bind fun r3 =>
  if y0.level = y0.level then
   if y0.victim = y0.victim then
   if y1.l.workers = y1.l.workers then
   if y1.l.levels = y1.l.levels then
   if y1.l.classes = y1.l.classes then
   if y1.l.tasks = y1.l.tasks then
   if y1.l.deque = y1.l.deque then
   if y1.l.heap = y1.l.heap then
   if y1.l.sleepers = y1.l.sleepers then
   if y1.l.epochs = y1.l.epochs then
   if y1.l.bitmaps = y1.l.bitmaps then
   if y1.l.queues = y1.l.queues then
   if y1.l.table = y1.l.table then
   if y0.level = y0.level then
   (pQueue y1.l y0.victim y0.level).bind fun r4 =>
   if y0.level = y0.level then
   (bitmapClear r3.1.1 y0.level r4.1.1).bind fun r5 =>
   (workerWorkerTo y0 9 r5.1.1).bind fun r6 =>
   some ((()), (r6.2.1, y1, ()))
   else none
   else none
   else none
   else none
   else none
   else none
   else none
   else none
   else none
   else none
   else none
   else none
   else none
   else none
  else none
 else
 (workerWorkerLoop y0).bind fun r7 =>
 some ((()), (r7.2.1, y1, ()))
noncomputable abbrev workerWorkerStolen_k : Con SR1 := ⟨85, [.ref 31, .ref 27, .sh sI_, .sh sI_], [], fun x => workerWorkerStolen x.1 x.2.1 x.2.2.1 x.2.2.2.1⟩
theorem workerWorkerStolen_ok : CO Tryz.prog workerWorkerStolen_k := co_fn mixed Tryz.func85 [pEmit_k, workerWorkerClaim_k, pBitmap_k, pQueue_k, bitmapClear_k, workerWorkerTo_k, workerWorkerLoop_k] ⟨pEmit_ok, workerWorkerClaim_ok, pBitmap_ok, pQueue_ok, bitmapClear_ok, workerWorkerTo_ok, workerWorkerLoop_ok, trivial⟩ [] trivial (fun _ => []) [] fun x => by kernel_rfl
noncomputable def workerWorkerStep (y0 : (WorkerV MV)) (y1 : EnvP) : Option ((Bool × Unit) × ((WorkerV MV) × EnvP × Unit)) :=
 if y0.line = 0 then
  (workerWorkerStart y0 y1).bind fun r1 =>
  (stepD3 r1.2.1.inside r1.2.2.1).bind fun r2 =>
  if (!r2.1.1) = true then
   some ((false, ()), (({ r1.2.1 with inside := r2.2.1 } : (WorkerV MV)), r2.2.2.1, ()))
  else
  (resultD3 r2.2.1).bind fun r3 =>
  if r1.2.1.line ≤ 4 then
   (workerWorkerFound ({ r1.2.1 with inside := r3.2.1 } : (WorkerV MV)) r2.2.2.1 r3.1.1 r3.1.2.1).bind fun r4 =>
   some ((false, ()), (r4.2.1, r4.2.2.1, ()))
  else
  if r1.2.1.line = 5 then
   (workerWorkerStolen ({ r1.2.1 with inside := r3.2.1 } : (WorkerV MV)) r2.2.2.1 r3.1.1 r3.1.2.1).bind fun r5 =>
   some ((false, ()), (r5.2.1, r5.2.2.1, ()))
  else
  if r1.2.1.line = 6 then
   if r3.1.1 = 1 then
   (workerWorkerRun ({ r1.2.1 with inside := r3.2.1 } : (WorkerV MV)) r1.2.1.x).bind fun r6 =>
   some ((false, ()), (r6.2.1, r2.2.2.1, ()))
   else
   (workerWorkerLoop ({ r1.2.1 with inside := r3.2.1 } : (WorkerV MV))).bind fun r7 =>
   some ((false, ()), (r7.2.1, r2.2.2.1, ()))
  else
  (workerWorkerLoop ({ r1.2.1 with inside := r3.2.1 } : (WorkerV MV))).bind fun r8 =>
  some ((false, ()), (r8.2.1, r2.2.2.1, ()))
 else
 (stepD3 y0.inside y1).bind fun r9 =>
 if (!r9.1.1) = true then
  some ((false, ()), (({ y0 with inside := r9.2.1 } : (WorkerV MV)), r9.2.2.1, ()))
 else
 (resultD3 r9.2.1).bind fun r10 =>
 if y0.line ≤ 4 then
  (workerWorkerFound ({ y0 with inside := r10.2.1 } : (WorkerV MV)) r9.2.2.1 r10.1.1 r10.1.2.1).bind fun r11 =>
  some ((false, ()), (r11.2.1, r11.2.2.1, ()))
 else
 if y0.line = 5 then
  (workerWorkerStolen ({ y0 with inside := r10.2.1 } : (WorkerV MV)) r9.2.2.1 r10.1.1 r10.1.2.1).bind fun r12 =>
  some ((false, ()), (r12.2.1, r12.2.2.1, ()))
 else
 if y0.line = 6 then
  if r10.1.1 = 1 then
   (workerWorkerRun ({ y0 with inside := r10.2.1 } : (WorkerV MV)) y0.x).bind fun r13 =>
   some ((false, ()), (r13.2.1, r9.2.2.1, ()))
  else
  (workerWorkerLoop ({ y0 with inside := r10.2.1 } : (WorkerV MV))).bind fun r14 =>
  some ((false, ()), (r14.2.1, r9.2.2.1, ()))
 else
 (workerWorkerLoop ({ y0 with inside := r10.2.1 } : (WorkerV MV))).bind fun r15 =>
 some ((false, ()), (r15.2.1, r9.2.2.1, ()))
noncomputable abbrev workerWorkerStep_k : Con SR1 := ⟨37, [.ref 31, .ref 27], [.sh .b], fun x => workerWorkerStep x.1 x.2.1⟩
theorem workerWorkerStep_ok : CO Tryz.prog workerWorkerStep_k := co_fn mixed Tryz.func37 [workerWorkerStart_k, stepD3_k, resultD3_k, workerWorkerFound_k, workerWorkerStolen_k, workerWorkerRun_k, workerWorkerLoop_k] ⟨workerWorkerStart_ok, stepD3_ok, resultD3_ok, workerWorkerFound_ok, workerWorkerStolen_ok, workerWorkerRun_ok, workerWorkerLoop_ok, trivial⟩ [] trivial (fun _ => []) [] fun x => by kernel_rfl
noncomputable def configClone (y0 : Cfg) : Option ((Cfg × Unit) × (Unit)) :=
 (cloneRows y0.progs).bind fun r1 =>
 (lpF (σ := Int × (Int × Int × Int × Int × Int × Int × Int × Int × Int × List (List Ins) × List Sub × Unit) × Unit) (β := Int × (Int × Int × Int × Int × Int × Int × Int × Int × Int × List (List Ins) × List Sub × Unit) × Unit) (fun self4 x2 =>
  if x2.1 < ((r1.1.1.length : Nat) : Int) then
   if 0 ≤ x2.1 ∧ x2.1 < ((x2.2.1.2.2.2.2.2.2.2.2.2.1.length : Nat) : Int) then
   (cloneIns (atK18 x2.2.1.2.2.2.2.2.2.2.2.2.1 x2.1)).bind fun r5 =>
   if 0 ≤ x2.1 ∧ x2.1 < ((x2.2.1.2.2.2.2.2.2.2.2.2.1.length : Nat) : Int) then
   self4 (wi (x2.1 + 1), (x2.2.1.1, x2.2.1.2.1, x2.2.1.2.2.1, x2.2.1.2.2.2.1, x2.2.1.2.2.2.2.1, x2.2.1.2.2.2.2.2.1, x2.2.1.2.2.2.2.2.2.1, x2.2.1.2.2.2.2.2.2.2.1, x2.2.1.2.2.2.2.2.2.2.2.1, x2.2.1.2.2.2.2.2.2.2.2.2.1.set x2.1.toNat r5.1.1, x2.2.1.2.2.2.2.2.2.2.2.2.2.1, ()), ())
   else none
   else none
  else
  some (x2.1, (x2.2.1.1, x2.2.1.2.1, x2.2.1.2.2.1, x2.2.1.2.2.2.1, x2.2.1.2.2.2.2.1, x2.2.1.2.2.2.2.2.1, x2.2.1.2.2.2.2.2.2.1, x2.2.1.2.2.2.2.2.2.2.1, x2.2.1.2.2.2.2.2.2.2.2.1, x2.2.1.2.2.2.2.2.2.2.2.2.1, x2.2.1.2.2.2.2.2.2.2.2.2.2.1, ()), ())
 ) 18446744073709551616 (0, (y0.workers, y0.levels, y0.classes, y0.tasks, y0.deque, y0.heap, y0.batch, y0.age, y0.patience, r1.1.1, y0.subs, ()), ())).bind fun z3 =>
 (cloneSubs z3.2.1.2.2.2.2.2.2.2.2.2.2.1).bind fun r6 =>
 some (((⟨z3.2.1.1, z3.2.1.2.1, z3.2.1.2.2.1, z3.2.1.2.2.2.1, z3.2.1.2.2.2.2.1, z3.2.1.2.2.2.2.2.1, z3.2.1.2.2.2.2.2.2.1, z3.2.1.2.2.2.2.2.2.2.1, z3.2.1.2.2.2.2.2.2.2.2.1, z3.2.1.2.2.2.2.2.2.2.2.2.1, r6.1.1⟩ : Cfg), ()), (()))
noncomputable abbrev configClone_k : Con SR1 := ⟨79, [.val 13], [.val 13], fun x => configClone x.1⟩
theorem configClone_ok : CO Tryz.prog configClone_k := co_fn mixed Tryz.func79 [cloneRows_k, cloneIns_k, cloneSubs_k] ⟨cloneRows_ok, cloneIns_ok, cloneSubs_ok, trivial⟩ [] trivial (fun _ => []) [(3, .loop [.rg 11 sI_, .cs 11 [sI_, sI_, sI_, sI_, sI_, sI_, sI_, sI_, sI_, (.row 18), (.ro 4)]] 18446744073709551616 0)] fun x => by kernel_rfl
noncomputable def layoutNew (y0 : Cfg) : Option ((LayV × Int × Unit) × (Unit)) :=
 (cfgCheck y0).bind fun r1 =>
 if r1.1.1 ≠ 0 then
  some (((⟨0, 0, 0, 0, 0, 0, 0, 0, 0, 0, 0⟩ : LayV), r1.1.1, ()), (()))
 else
 some ((({ y0 with sleepers := wi (4 + y0.heap), epochs := wi ((wi (4 + y0.heap)) + y0.classes), bitmaps := wi ((wi ((wi (4 + y0.heap)) + y0.classes)) + y0.workers), queues := wi ((wi ((wi ((wi (4 + y0.heap)) + y0.classes)) + y0.workers)) + y0.workers), table := wi ((wi ((wi ((wi ((wi (4 + y0.heap)) + y0.classes)) + y0.workers)) + y0.workers)) + (wi ((wi (y0.workers * y0.levels)) * (wi (2 + y0.deque))))) } : LayV), 0, ()), (()))
noncomputable abbrev layoutNew_k : Con SR1 := ⟨76, [.val 13], [.val 24, .sh sI_], fun x => layoutNew x.1⟩
theorem layoutNew_ok : CO Tryz.prog layoutNew_k := co_fn mixed Tryz.func76 [cfgCheck_k] ⟨cfgCheck_ok, trivial⟩ [] trivial (fun _ => []) [] fun x => by kernel_rfl
noncomputable def memoryNew (y0 : Int) : Option ((MemV × Unit) × (Unit)) :=
 if (if 131072 < (if y0 < 0 then 0 else y0) then 131072 else (if y0 < 0 then 0 else y0)) = (if 131072 < (if y0 < 0 then 0 else y0) then 131072 else (if y0 < 0 then 0 else y0)) then
  if 0 ≤ (if 131072 < (if y0 < 0 then 0 else y0) then 131072 else (if y0 < 0 then 0 else y0)) ∧ (if 131072 < (if y0 < 0 then 0 else y0) then 131072 else (if y0 < 0 then 0 else y0)) ≤ 1099511627776 then
   some (((⟨List.replicate ((if 131072 < (if y0 < 0 then 0 else y0) then 131072 else (if y0 < 0 then 0 else y0)) : Int).toNat (0 : Int), ⟨0, 0, 0, 0⟩, 0⟩ : MemV), ()), (()))
  else none
 else none
noncomputable abbrev memoryNew_k : Con SR1 := ⟨119, [.sh sI_], [.sh (.own 9)], fun x => memoryNew x.1⟩
theorem memoryNew_ok : CO Tryz.prog memoryNew_k := co_fn mixed Tryz.func119 [] trivial [] trivial (fun _ => []) [] fun x => by kernel_rfl
noncomputable def clockNew  : Option ((ClkV × Unit) × (Unit)) :=
 some (((⟨0, 0⟩ : ClkV), ()), (()))
noncomputable abbrev clockNew_k : Con SR1 := ⟨120, [], [.sh (.own 25)], fun x => clockNew ⟩
theorem clockNew_ok : CO Tryz.prog clockNew_k := co_fn mixed Tryz.func120 [] trivial [] trivial (fun _ => []) [] fun x => by kernel_rfl
noncomputable def machineBare (y0 : Int) : Option ((EnvP × Unit) × (Unit)) :=
 (memoryNew y0).bind fun r1 =>
 (clockNew).bind fun r2 =>
 some (((⟨⟨0, 0, 0, 0, 0, 0, 0, 0, 0, [], []⟩, ⟨0, 0, 0, 0, 0, 0, 0, 0, 0, 0, 0⟩, r1.1.1, r2.1.1, [], []⟩ : EnvP), ()), (()))
noncomputable abbrev machineBare_k : Con SR1 := ⟨77, [.sh sI_], [.sh (.own 27)], fun x => machineBare x.1⟩
theorem machineBare_ok : CO Tryz.prog machineBare_k := co_fn mixed Tryz.func77 [memoryNew_k, clockNew_k] ⟨memoryNew_ok, clockNew_ok, trivial⟩ [] trivial (fun _ => []) [] fun x => by kernel_rfl
noncomputable def clientNew (y0 : Cfg) : Option (((ClientV MV) × Unit) × (Unit)) :=
 (configClone y0).bind fun r1 =>
 if y0.workers = y0.workers then
  some (((⟨r1.1.1.subs, y0.workers, 0, 1, MV.nil, true, 0, false⟩ : (ClientV MV)), ()), (()))
 else none
noncomputable abbrev clientNew_k : Con SR1 := ⟨113, [.val 13], [.sh (.own 30)], fun x => clientNew x.1⟩
theorem clientNew_ok : CO Tryz.prog clientNew_k := co_fn mixed Tryz.func113 [configClone_k] ⟨configClone_ok, trivial⟩ [] trivial (fun _ => []) [] fun x => by kernel_rfl
noncomputable def workerNew (y0 : Int) : Option (((WorkerV MV) × Unit) × (Unit)) :=
 some (((⟨y0, 0, 0, MV.nil, 0, 0, 0⟩ : (WorkerV MV)), ()), (()))
noncomputable abbrev workerNew_k : Con SR1 := ⟨34, [.sh sI_], [.sh (.own 31)], fun x => workerNew x.1⟩
theorem workerNew_ok : CO Tryz.prog workerNew_k := co_fn mixed Tryz.func34 [] trivial [] trivial (fun _ => []) [] fun x => by kernel_rfl
noncomputable def clientClientStatus (y0 : (ClientV MV)) : Option ((Int × Unit) × ((ClientV MV) × Unit)) :=
 (clientClientOver y0).bind fun r1 =>
 if r1.1.1 = true then
  some ((4, ()), (r1.2.1, ()))
 else
 if r1.2.1.line = 1 then
  some ((0, ()), (r1.2.1, ()))
 else
 some ((2, ()), (r1.2.1, ()))
noncomputable abbrev clientClientStatus_k : Con SR1 := ⟨104, [.ref 30], [.sh sI_], fun x => clientClientStatus x.1⟩
theorem clientClientStatus_ok : CO Tryz.prog clientClientStatus_k := co_fn mixed Tryz.func104 [clientClientOver_k] ⟨clientClientOver_ok, trivial⟩ [] trivial (fun _ => []) [] fun x => by kernel_rfl
noncomputable def workerWorkerStatus (y0 : (WorkerV MV)) : Option ((Int × Unit) × ((WorkerV MV) × Unit)) :=
 if y0.line = 0 then
  some ((0, ()), (y0, ()))
 else
 if y0.line = 7 then
  some ((2, ()), (y0, ()))
 else
 if y0.line = 8 then
  (parkAsleep y0.inside).bind fun r1 =>
  if r1.1.1 = true then
   some ((3, ()), (({ y0 with inside := r1.2.1 } : (WorkerV MV)), ()))
  else
  some ((1, ()), (({ y0 with inside := r1.2.1 } : (WorkerV MV)), ()))
 else
 some ((1, ()), (y0, ()))
noncomputable abbrev workerWorkerStatus_k : Con SR1 := ⟨38, [.ref 31], [.sh sI_], fun x => workerWorkerStatus x.1⟩
theorem workerWorkerStatus_ok : CO Tryz.prog workerWorkerStatus_k := co_fn mixed Tryz.func38 [parkAsleep_k] ⟨parkAsleep_ok, trivial⟩ [] trivial (fun _ => []) [] fun x => by kernel_rfl
noncomputable def r5number (r : CodV) (k : Int) : Option ((Int × Unit) × (CodV × Unit)) :=
 if r.at_ < ((r.inn.length : Nat) : Int) then
  if 0 ≤ r.at_ ∧ r.at_ < ((r.inn.length : Nat) : Int) then
   if k ≠ 0 then
   some (((Int.tmod (wi (atK17 r.inn r.at_)) k), ()), (({ r with at_ := wi (r.at_ + 1) } : CodV), ()))
   else none
  else none
 else
 some ((0, ()), (({ r with at_ := wi (r.at_ + 1) } : CodV), ()))
noncomputable abbrev r5number_k : Con SR1 := ⟨118, [.ref 19, .sh sI_], [.sh sI_], fun x => r5number x.1 x.2.1⟩
theorem r5number_ok : CO Tryz.prog r5number_k := co_fn mixed Tryz.func118 [] trivial [] trivial (fun _ => []) [] fun x => by kernel_rfl
noncomputable def r5decode (b : List Int) : Option ((Cfg × Unit) × (Unit)) :=
 (r5number (⟨b, [], 0, false⟩ : CodV) 4).bind fun r1 =>
 (r5number r1.2.1 4).bind fun r2 =>
 (r5number r2.2.1 (if wi (1 + r2.1.1) < 3 then wi (1 + r2.1.1) else 3)).bind fun r3 =>
 (r5number r3.2.1 12).bind fun r4 =>
 (r5number r4.2.1 4).bind fun r5 =>
 (r5number r5.2.1 4).bind fun r6 =>
 (r5number r6.2.1 (wi (1 + r5.1.1))).bind fun r7 =>
 (r5number r7.2.1 6).bind fun r8 =>
 (r5number r8.2.1 8).bind fun r9 =>
 (r5number r9.2.1 4).bind fun r10 =>
 (lpF (σ := Int × CodV × Cfg × Unit) (β := Int × CodV × Cfg × Unit) (fun self13 x11 =>
  if x11.1 < (wi (1 + r10.1.1)) then
   (r5number x11.2.1 6).bind fun r14 =>
   (lpF (σ := List Ins × Int × CodV × Unit) (β := List Ins × Int × CodV × Unit) (fun self17 x15 =>
   if 0 < x15.2.1 then
   (r5number x15.2.2.1 3).bind fun r18 =>
   if r18.1.1 = 0 then
   (r5number r18.2.1 4).bind fun r19 =>
   if (((x15.1.length + ([(⟨r18.1.1, wi (1 + r19.1.1), 0⟩ : Ins)] : List Ins).length : Nat)) : Int) < 1000000000000 then
   self17 (x15.1 ++ ([(⟨r18.1.1, wi (1 + r19.1.1), 0⟩ : Ins)]), wi (x15.2.1 - 1), r19.2.1, ())
   else none
   else
   if r18.1.1 = 1 then
   (r5number r18.2.1 (wi (1 + r10.1.1))).bind fun r20 =>
   (r5number r20.2.1 x11.2.2.1.levels).bind fun r21 =>
   if (((x15.1.length + ([(⟨r18.1.1, r20.1.1, r21.1.1⟩ : Ins)] : List Ins).length : Nat)) : Int) < 1000000000000 then
   self17 (x15.1 ++ ([(⟨r18.1.1, r20.1.1, r21.1.1⟩ : Ins)]), wi (x15.2.1 - 1), r21.2.1, ())
   else none
   else
   (r5number r18.2.1 4).bind fun r22 =>
   if (((x15.1.length + ([(⟨r18.1.1, r22.1.1, 0⟩ : Ins)] : List Ins).length : Nat)) : Int) < 1000000000000 then
   self17 (x15.1 ++ ([(⟨r18.1.1, r22.1.1, 0⟩ : Ins)]), wi (x15.2.1 - 1), r22.2.1, ())
   else none
   else
   some (x15.1, x15.2.1, x15.2.2.1, ())
   ) 18446744073709551616 ([], r14.1.1, r14.2.1, ())).bind fun z16 =>
   if (((x11.2.2.1.progs.length + ([z16.1] : List (List Ins)).length : Nat)) : Int) < 100000000000 then
   self13 (wi (x11.1 + 1), z16.2.2.1, ({ x11.2.2.1 with progs := x11.2.2.1.progs ++ ([z16.1]) } : Cfg), ())
   else none
  else
  some (x11.1, x11.2.1, x11.2.2.1, ())
 ) 18446744073709551616 (0, r10.2.1, (⟨wi (1 + r1.1.1), wi (1 + r2.1.1), wi (1 + r3.1.1), wi (1 + r4.1.1), wi (1 + r5.1.1), wi (1 + r6.1.1), wi (1 + r7.1.1), r8.1.1, wi (1 + r9.1.1), [], []⟩ : Cfg), ())).bind fun z12 =>
 (r5number z12.2.1 6).bind fun r23 =>
 (lpF (σ := Int × CodV × Cfg × Unit) (β := Int × CodV × Cfg × Unit) (fun self26 x24 =>
  if 0 < x24.1 then
   (r5number x24.2.1 (wi (1 + r10.1.1))).bind fun r27 =>
   (r5number r27.2.1 x24.2.2.1.levels).bind fun r28 =>
   (r5number r28.2.1 16).bind fun r29 =>
   if (((x24.2.2.1.subs.length + ([(⟨r27.1.1, r28.1.1, r29.1.1⟩ : Sub)] : List Sub).length : Nat)) : Int) < 1000000000000 then
   self26 (wi (x24.1 - 1), r29.2.1, ({ x24.2.2.1 with subs := x24.2.2.1.subs ++ ([(⟨r27.1.1, r28.1.1, r29.1.1⟩ : Sub)]) } : Cfg), ())
   else none
  else
  some (x24.1, x24.2.1, x24.2.2.1, ())
 ) 18446744073709551616 (r23.1.1, r23.2.1, z12.2.2.1, ())).bind fun z25 =>
 some ((z25.2.2.1, ()), (()))
noncomputable abbrev r5decode_k : Con SR1 := ⟨75, [.sh (.ro 17)], [.val 13], fun x => r5decode x.1⟩
theorem r5decode_ok : CO Tryz.prog r5decode_k := co_fn mixed Tryz.func75 [r5number_k] ⟨r5number_ok, trivial⟩ [] trivial (fun _ => []) [(12, .loop [.rg 6 sI_, .rg 3 (.own 19), .rg 4 (.own 20)] 18446744073709551616 0), (16, .loop [.rg 7 (.row 3), .rg 8 sI_, .rg 3 (.own 19)] 18446744073709551616 2), (29, .loop [.rg 10 sI_, .rg 3 (.own 19), .rg 4 (.own 20)] 18446744073709551616 5)] fun x => by kernel_rfl
noncomputable def kconfig (b : List Int) : Option ((Cfg × Unit) × (Unit)) :=
 (r5decode b).bind fun r1 =>
 some ((r1.1.1, ()), (()))
noncomputable abbrev kconfig_k : Con SR1 := ⟨32, [.sh (.ro 17)], [.val 13], fun x => kconfig x.1⟩
theorem kconfig_ok : CO Tryz.prog kconfig_k := co_fn mixed Tryz.func32 [r5decode_k] ⟨r5decode_ok, trivial⟩ [] trivial (fun _ => []) [] fun x => by kernel_rfl
noncomputable def kshort (b : List Int) (l : List (List Int)) : Option ((Bool × Unit) × (Unit)) :=
 (lpF (σ := Int × Unit) (β := (Int × Unit) ⊕ ((Bool × Unit) × (Unit))) (fun self3 x1 =>
  if x1.1 < ((l.length : Nat) : Int) then
   if 0 ≤ x1.1 ∧ x1.1 < ((l.length : Nat) : Int) then
   if 400 < (((atL [] l x1.1).length : Nat) : Int) then
   Option.map Sum.inr (
   some ((false, ()), (()))
   )
   else
   self3 (wi (x1.1 + 1), ())
   else none
  else
  some (Sum.inl (x1.1, ()))
 ) 18446744073709551616 (0, ())).bind fun z2 => match z2 with
 | .inr o4 => some o4
 | .inl z2 =>
 some ((decide (((b.length : Nat) : Int) ≤ 400), ()), (()))
noncomputable abbrev kshort_k : Con SR1 := ⟨16, [.sh (.ro 17), .sh (.rr 1)], [.sh .b], fun x => kshort x.1 x.2.1⟩
theorem kshort_ok : CO Tryz.prog kshort_k := co_fn mixed Tryz.func16 [] trivial [] trivial (fun _ => []) [(2, .loopR [.rg 5 sI_] 18446744073709551616 0)] fun x => by kernel_rfl
noncomputable def machineNew (y0 : Cfg) : Option ((EnvP × Int × Unit) × (Unit)) :=
 (layoutNew y0).bind fun r1 =>
 if r1.1.2.1 ≠ 0 then
  none
 else
 (pCells r1.1.1).bind fun r2 =>
 (machineBare r2.1.1).bind fun r3 =>
 (configClone y0).bind fun r4 =>
 if r1.1.1.workers = r1.1.1.workers then
  if r1.1.1.levels = r1.1.1.levels then
   if r1.1.1.classes = r1.1.1.classes then
   if r1.1.1.tasks = r1.1.1.tasks then
   if r1.1.1.deque = r1.1.1.deque then
   if r1.1.1.heap = r1.1.1.heap then
   if r1.1.1.sleepers = r1.1.1.sleepers then
   if r1.1.1.epochs = r1.1.1.epochs then
   if r1.1.1.bitmaps = r1.1.1.bitmaps then
   if r1.1.1.queues = r1.1.1.queues then
   if r1.1.1.table = r1.1.1.table then
   if r1.1.1.workers = r1.1.1.workers then
   if r1.1.1.levels = r1.1.1.levels then
   if r1.1.1.classes = r1.1.1.classes then
   if r1.1.1.tasks = r1.1.1.tasks then
   if r1.1.1.deque = r1.1.1.deque then
   if r1.1.1.heap = r1.1.1.heap then
   if r1.1.1.sleepers = r1.1.1.sleepers then
   if r1.1.1.epochs = r1.1.1.epochs then
   if r1.1.1.bitmaps = r1.1.1.bitmaps then
   if r1.1.1.queues = r1.1.1.queues then
   if r1.1.1.table = r1.1.1.table then
   (lpF (σ := Int × EnvP × Unit) (β := Int × EnvP × Unit) (fun self7 x5 =>
   if x5.1 < y0.tasks then
   if (((x5.2.1.recs.length + ([(⟨0, (-1), 0, 0, (-1), [], false⟩ : RecP)] : List RecP).length : Nat)) : Int) < 100000000000 then
   self7 (wi (x5.1 + 1), ({ x5.2.1 with recs := x5.2.1.recs ++ ([(⟨0, (-1), 0, 0, (-1), [], false⟩ : RecP)]) } : EnvP), ())
   else none
   else
   some (x5.1, x5.2.1, ())
   ) 18446744073709551616 (0, ({ r3.1.1 with c := r4.1.1, l := r1.1.1 } : EnvP), ())).bind fun z6 =>
   some ((z6.2.1, 0, ()), (()))
   else none
   else none
   else none
   else none
   else none
   else none
   else none
   else none
   else none
   else none
   else none
   else none
   else none
   else none
   else none
   else none
   else none
   else none
   else none
   else none
  else none
 else none
noncomputable abbrev machineNew_k : Con SR1 := ⟨33, [.val 13], [.sh (.own 27), .sh sI_], fun x => machineNew x.1⟩
theorem machineNew_ok : CO Tryz.prog machineNew_k := co_fn mixed Tryz.func33 [layoutNew_k, pCells_k, machineBare_k, configClone_k] ⟨layoutNew_ok, pCells_ok, machineBare_ok, configClone_ok, trivial⟩ [] trivial (fun _ => []) [(7, .loop [.rg 29 sI_, .rg 6 (.own 27)] 18446744073709551616 0)] fun x => by kernel_rfl
noncomputable def memoryMemoryCells (y0 : MemV) : Option ((List Int × Unit) × (MemV × Unit)) :=
 (cloneU64 y0.cells).bind fun r1 =>
 some ((r1.1.1, ()), (({ y0 with cells := r1.2.1 } : MemV), ()))
noncomputable abbrev memoryMemoryCells_k : Con SR1 := ⟨73, [.ref 9], [.sh (.row 0)], fun x => memoryMemoryCells x.1⟩
theorem memoryMemoryCells_ok : CO Tryz.prog memoryMemoryCells_k := co_fn mixed Tryz.func73 [cloneU64_k] ⟨cloneU64_ok, trivial⟩ [] trivial (fun _ => []) [] fun x => by kernel_rfl
noncomputable def memoryMemoryCount (y0 : MemV) : Option ((Int × Unit) × (MemV × Unit)) :=
 some ((y0.count, ()), (y0, ()))
noncomputable abbrev memoryMemoryCount_k : Con SR1 := ⟨27, [.ref 9], [.sh sI_], fun x => memoryMemoryCount x.1⟩
theorem memoryMemoryCount_ok : CO Tryz.prog memoryMemoryCount_k := co_fn mixed Tryz.func27 [] trivial [] trivial (fun _ => []) [] fun x => by kernel_rfl
noncomputable def scriptMachine (y0 : EntV) (y1 : Int) : Option ((Int × Unit) × (Unit)) :=
 if y0.kind ≠ 0 then
  some (((-1), ()), (()))
 else
 if y1 < 1 then
  some (((-1), ()), (()))
 else
 if y1 ≠ 0 then
  if (Int.tmod y0.value y1) < 0 then
   some ((wi ((Int.tmod y0.value y1) + y1), ()), (()))
  else
  some (((Int.tmod y0.value y1), ()), (()))
 else none
noncomputable abbrev scriptMachine_k : Con SR1 := ⟨94, [.val 5, .sh sI_], [.sh sI_], fun x => scriptMachine x.1 x.2.1⟩
theorem scriptMachine_ok : CO Tryz.prog scriptMachine_k := co_fn mixed Tryz.func94 [] trivial [] trivial (fun _ => []) [] fun x => by kernel_rfl
noncomputable def clockClockTick (y0 : ClkV) : Option ((Unit) × (ClkV × Unit)) :=
 some ((()), ((⟨wi (y0.now + 1), y0.draw⟩ : ClkV), ()))
noncomputable abbrev clockClockTick_k : Con SR1 := ⟨95, [.ref 25], [], fun x => clockClockTick x.1⟩
theorem clockClockTick_ok : CO Tryz.prog clockClockTick_k := co_fn mixed Tryz.func95 [] trivial [] trivial (fun _ => []) [] fun x => by kernel_rfl
noncomputable def clockClockSet (y0 : ClkV) (y1 : Int) : Option ((Unit) × (ClkV × Unit)) :=
 some ((()), ((⟨y0.now, y1⟩ : ClkV), ()))
noncomputable abbrev clockClockSet_k : Con SR1 := ⟨96, [.ref 25, .sh sI_], [], fun x => clockClockSet x.1 x.2.1⟩
theorem clockClockSet_ok : CO Tryz.prog clockClockSet_k := co_fn mixed Tryz.func96 [] trivial [] trivial (fun _ => []) [] fun x => by kernel_rfl
noncomputable def memoryMemoryLast (y0 : MemV) : Option ((AccV × Unit) × (MemV × Unit)) :=
 some ((y0.last, ()), (y0, ()))
noncomputable abbrev memoryMemoryLast_k : Con SR1 := ⟨97, [.ref 9], [.val 60], fun x => memoryMemoryLast x.1⟩
theorem memoryMemoryLast_ok : CO Tryz.prog memoryMemoryLast_k := co_fn mixed Tryz.func97 [] trivial [] trivial (fun _ => []) [] fun x => by kernel_rfl
end
section
open Go Go.RowKit
set_option maxRecDepth 100000
end
section
open Go Go.RowKit
set_option maxRecDepth 100000
variable [Tb]
noncomputable def r4decode (b : List Int) : Option ((List EntV × Unit) × (Unit)) :=
 (lpF (σ := List EntV × Int × Unit) (β := List EntV × Int × Unit) (fun self3 x1 =>
  if (wi (x1.2.1 + 1)) < ((b.length : Nat) : Int) then
   if ((x1.1.length : Nat) : Int) < 65536 then
   if 0 ≤ x1.2.1 ∧ x1.2.1 < ((b.length : Nat) : Int) then
   if 0 ≤ wi (x1.2.1 + 1) ∧ wi (x1.2.1 + 1) < ((b.length : Nat) : Int) then
   if (atK17 b (wi (x1.2.1 + 1))) = (atK17 b (wi (x1.2.1 + 1))) then
   if (atK17 b x1.2.1) = (atK17 b x1.2.1) then
   if (Int.tmod (wi (atK17 b x1.2.1)) 4) = 1 then
   if (((x1.1.length + ([(⟨(Int.tmod (wi (atK17 b x1.2.1)) 4), 0⟩ : EntV)] : List EntV).length : Nat)) : Int) < 1000000000000 then
   self3 (x1.1 ++ ([(⟨(Int.tmod (wi (atK17 b x1.2.1)) 4), 0⟩ : EntV)]), wi (x1.2.1 + 2), ())
   else none
   else
   if (Int.tmod (wi (atK17 b x1.2.1)) 4) = 3 then
   if (((x1.1.length + ([(⟨(Int.tmod (wi (atK17 b x1.2.1)) 4), 0⟩ : EntV)] : List EntV).length : Nat)) : Int) < 1000000000000 then
   self3 (x1.1 ++ ([(⟨(Int.tmod (wi (atK17 b x1.2.1)) 4), 0⟩ : EntV)]), wi (x1.2.1 + 2), ())
   else none
   else
   if (((x1.1.length + ([(⟨(Int.tmod (wi (atK17 b x1.2.1)) 4), wi (atK17 b (wi (x1.2.1 + 1)))⟩ : EntV)] : List EntV).length : Nat)) : Int) < 1000000000000 then
   self3 (x1.1 ++ ([(⟨(Int.tmod (wi (atK17 b x1.2.1)) 4), wi (atK17 b (wi (x1.2.1 + 1)))⟩ : EntV)]), wi (x1.2.1 + 2), ())
   else none
   else none
   else none
   else none
   else none
   else
   some (x1.1, x1.2.1, ())
  else
  some (x1.1, x1.2.1, ())
 ) 18446744073709551616 ([], 0, ())).bind fun z2 =>
 some ((z2.1, ()), (()))
noncomputable abbrev r4decode_k : Con SR1 := ⟨24, [.sh (.ro 17)], [.sh (.row 5)], fun x => r4decode x.1⟩
theorem r4decode_ok : CO Tryz.prog r4decode_k := co_fn mixed Tryz.func24 [] trivial [] trivial (fun _ => []) [(3, .loop [.rg 3 (.row 5), .rg 4 sI_] 18446744073709551616 0)] fun x => by kernel_rfl
noncomputable def configReaderNext (y0 : RdV) (y1 : Int) : Option ((Int × Unit) × (RdV × Unit)) :=
 if y0.at_ < ((y0.inn.length : Nat) : Int) then
  if 0 ≤ y0.at_ ∧ y0.at_ < ((y0.inn.length : Nat) : Int) then
   if y1 ≠ 0 then
   some (((Int.tmod (wi (atK17 y0.inn y0.at_)) y1), ()), ((⟨y0.inn, wi (y0.at_ + 1)⟩ : RdV), ()))
   else none
  else none
 else
 if y1 ≠ 0 then
  some (((Int.tmod 0 y1), ()), ((⟨y0.inn, wi (y0.at_ + 1)⟩ : RdV), ()))
 else none
noncomputable abbrev configReaderNext_k : Con SR1 := ⟨61, [.ref 61, .sh sI_], [.sh sI_], fun x => configReaderNext x.1 x.2.1⟩
theorem configReaderNext_ok : CO Tryz.prog configReaderNext_k := co_fn mixed Tryz.func61 [] trivial [] trivial (fun _ => []) [] fun x => by kernel_rfl
noncomputable def configDecode (y0 : List Int) : Option ((Cfg × Unit) × (Unit)) :=
 (configReaderNext (⟨y0, 0⟩ : RdV) 4).bind fun r1 =>
 (configReaderNext r1.2.1 4).bind fun r2 =>
 (configReaderNext r2.2.1 (if wi (1 + r2.1.1) < 3 then wi (1 + r2.1.1) else 3)).bind fun r3 =>
 (configReaderNext r3.2.1 12).bind fun r4 =>
 (configReaderNext r4.2.1 4).bind fun r5 =>
 (configReaderNext r5.2.1 4).bind fun r6 =>
 (configReaderNext r6.2.1 (wi (1 + r5.1.1))).bind fun r7 =>
 (configReaderNext r7.2.1 6).bind fun r8 =>
 (configReaderNext r8.2.1 8).bind fun r9 =>
 (configReaderNext r9.2.1 4).bind fun r10 =>
 if (wi (1 + r10.1.1)) = (wi (1 + r10.1.1)) then
  if 0 ≤ (wi (1 + r10.1.1)) ∧ (wi (1 + r10.1.1)) ≤ 1099511627776 then
   (lpF (σ := Int × RdV × Cfg × Unit) (β := Int × RdV × Cfg × Unit) (fun self13 x11 =>
   if x11.1 < (((List.replicate (wi (1 + r10.1.1) : Int).toNat ([] : List Ins)).length : Nat) : Int) then
   (configReaderNext x11.2.1 6).bind fun r14 =>
   (lpF (σ := Int × RdV × Cfg × Unit) (β := Int × RdV × Cfg × Unit) (fun self17 x15 =>
   if x15.1 < r14.1.1 then
   if 0 ≤ x11.1 ∧ x11.1 < ((x15.2.2.1.progs.length : Nat) : Int) then
   (configReaderNext x15.2.1 3).bind fun r18 =>
   if r18.1.1 = 0 then
   (configReaderNext r18.2.1 4).bind fun r19 =>
   if ((((atK64 x15.2.2.1.progs x11.1).length + ([(⟨r18.1.1, wi (1 + r19.1.1), 0⟩ : Ins)] : List Ins).length : Nat)) : Int) < 1000000000000 then
   if 0 ≤ x11.1 ∧ x11.1 < ((x15.2.2.1.progs.length : Nat) : Int) then
   if x11.1 = x11.1 then
   self17 (wi (x15.1 + 1), r19.2.1, ({ x15.2.2.1 with progs := x15.2.2.1.progs.set x11.1.toNat ((atK64 x15.2.2.1.progs x11.1) ++ ([(⟨r18.1.1, wi (1 + r19.1.1), 0⟩ : Ins)])) } : Cfg), ())
   else none
   else none
   else none
   else
   if r18.1.1 = 1 then
   (configReaderNext r18.2.1 ((x15.2.2.1.progs.length : Nat) : Int)).bind fun r20 =>
   (configReaderNext r20.2.1 x15.2.2.1.levels).bind fun r21 =>
   if ((((atK64 x15.2.2.1.progs x11.1).length + ([(⟨r18.1.1, r20.1.1, r21.1.1⟩ : Ins)] : List Ins).length : Nat)) : Int) < 1000000000000 then
   if 0 ≤ x11.1 ∧ x11.1 < ((x15.2.2.1.progs.length : Nat) : Int) then
   if x11.1 = x11.1 then
   self17 (wi (x15.1 + 1), r21.2.1, ({ x15.2.2.1 with progs := x15.2.2.1.progs.set x11.1.toNat ((atK64 x15.2.2.1.progs x11.1) ++ ([(⟨r18.1.1, r20.1.1, r21.1.1⟩ : Ins)])) } : Cfg), ())
   else none
   else none
   else none
   else
   (configReaderNext r18.2.1 4).bind fun r22 =>
   if ((((atK64 x15.2.2.1.progs x11.1).length + ([(⟨r18.1.1, r22.1.1, 0⟩ : Ins)] : List Ins).length : Nat)) : Int) < 1000000000000 then
   if 0 ≤ x11.1 ∧ x11.1 < ((x15.2.2.1.progs.length : Nat) : Int) then
   if x11.1 = x11.1 then
   self17 (wi (x15.1 + 1), r22.2.1, ({ x15.2.2.1 with progs := x15.2.2.1.progs.set x11.1.toNat ((atK64 x15.2.2.1.progs x11.1) ++ ([(⟨r18.1.1, r22.1.1, 0⟩ : Ins)])) } : Cfg), ())
   else none
   else none
   else none
   else none
   else
   some (x15.1, x15.2.1, x15.2.2.1, ())
   ) 18446744073709551616 (0, r14.2.1, x11.2.2.1, ())).bind fun z16 =>
   self13 (wi (x11.1 + 1), z16.2.1, z16.2.2.1, ())
   else
   some (x11.1, x11.2.1, x11.2.2.1, ())
   ) 18446744073709551616 (0, r10.2.1, (⟨wi (1 + r1.1.1), wi (1 + r2.1.1), wi (1 + r3.1.1), wi (1 + r4.1.1), wi (1 + r5.1.1), wi (1 + r6.1.1), wi (1 + r7.1.1), r8.1.1, wi (1 + r9.1.1), List.replicate (wi (1 + r10.1.1) : Int).toNat ([] : List Ins), []⟩ : Cfg), ())).bind fun z12 =>
   (configReaderNext z12.2.1 6).bind fun r23 =>
   (lpF (σ := Int × RdV × Cfg × Unit) (β := Int × RdV × Cfg × Unit) (fun self26 x24 =>
   if x24.1 < r23.1.1 then
   (configReaderNext x24.2.1 ((x24.2.2.1.progs.length : Nat) : Int)).bind fun r27 =>
   (configReaderNext r27.2.1 x24.2.2.1.levels).bind fun r28 =>
   (configReaderNext r28.2.1 16).bind fun r29 =>
   if (((x24.2.2.1.subs.length + ([(⟨r27.1.1, r28.1.1, r29.1.1⟩ : Sub)] : List Sub).length : Nat)) : Int) < 1000000000000 then
   self26 (wi (x24.1 + 1), r29.2.1, ({ x24.2.2.1 with subs := x24.2.2.1.subs ++ ([(⟨r27.1.1, r28.1.1, r29.1.1⟩ : Sub)]) } : Cfg), ())
   else none
   else
   some (x24.1, x24.2.1, x24.2.2.1, ())
   ) 18446744073709551616 (0, r23.2.1, z12.2.2.1, ())).bind fun z25 =>
   some ((z25.2.2.1, ()), (()))
  else none
 else none
noncomputable abbrev configDecode_k : Con SR1 := ⟨17, [.sh (.ro 17)], [.val 13], fun x => configDecode x.1⟩
noncomputable def configDecode_tb : List (Nat × Func) := [(62, Tryz.f62)]
theorem configDecode_ok : CO Tryz.prog configDecode_k := co_fn mixed Tryz.func17 [configReaderNext_k] ⟨configReaderNext_ok, trivial⟩ configDecode_tb ⟨Tryz.func62, trivial⟩ (fun _ => []) [(14, .loop [.rg 58 sI_, .rg 3 (.own 61), .rg 4 (.own 20)] 18446744073709551616 0), (17, .loop [.rg 63 sI_, .rg 3 (.own 61), .rg 4 (.own 20)] 18446744073709551616 2), (22, .loop [.rg 83 sI_, .rg 3 (.own 61), .rg 4 (.own 20)] 18446744073709551616 4)] fun x => by kernel_rfl
noncomputable def configIn (y0 : Int) (y1 : Int) (y2 : Int) : Option ((Bool × Unit) × (Unit)) :=
 if y1 ≤ y0 then
  some ((decide (y0 ≤ y2), ()), (()))
 else
 some ((false, ()), (()))
noncomputable abbrev configIn_k : Con SR1 := ⟨112, [.sh sI_, .sh sI_, .sh sI_], [.sh .b], fun x => configIn x.1 x.2.1 x.2.2.1⟩
theorem configIn_ok : CO Tryz.prog configIn_k := co_fn mixed Tryz.func112 [] trivial [] trivial (fun _ => []) [] fun x => by kernel_rfl
noncomputable def configWriterPut (y0 : WrV) (y1 : Int) (y2 : Int) : Option ((Unit) × (WrV × Unit)) :=
 (configIn y1 0 (wi (y2 - 1))).bind fun r1 =>
 if (!r1.1.1) = true then
  some ((()), ((⟨y0.bytes, true⟩ : WrV), ()))
 else
 if (((y0.bytes.length + ([IntKind.u8.wrap (y1)] : List Int).length : Nat)) : Int) < 1000000000000 then
  some ((()), ((⟨y0.bytes ++ ([IntKind.u8.wrap (y1)]), y0.bad⟩ : WrV), ()))
 else none
noncomputable abbrev configWriterPut_k : Con SR1 := ⟨65, [.ref 62, .sh sI_, .sh sI_], [], fun x => configWriterPut x.1 x.2.1 x.2.2.1⟩
theorem configWriterPut_ok : CO Tryz.prog configWriterPut_k := co_fn mixed Tryz.func65 [configIn_k] ⟨configIn_ok, trivial⟩ [] trivial (fun _ => []) [] fun x => by kernel_rfl
noncomputable def configWriterInstr (y0 : WrV) (y1 : Cfg) (y2 : Ins) : Option ((Unit) × (WrV × Unit)) :=
 (configWriterPut y0 y2.op 3).bind fun r1 =>
 if y2.op = 0 then
  (configWriterPut r1.2.1 (wi (y2.a - 1)) 4).bind fun r2 =>
  some ((()), (r2.2.1, ()))
 else
 if y2.op = 1 then
  (configWriterPut r1.2.1 y2.a ((y1.progs.length : Nat) : Int)).bind fun r3 =>
  (configWriterPut r3.2.1 y2.b y1.levels).bind fun r4 =>
  some ((()), (r4.2.1, ()))
 else
 (configWriterPut r1.2.1 y2.a 4).bind fun r5 =>
 some ((()), (r5.2.1, ()))
noncomputable abbrev configWriterInstr_k : Con SR1 := ⟨66, [.ref 62, .val 13, .val 3], [], fun x => configWriterInstr x.1 x.2.1 x.2.2.1⟩
theorem configWriterInstr_ok : CO Tryz.prog configWriterInstr_k := co_fn mixed Tryz.func66 [configWriterPut_k] ⟨configWriterPut_ok, trivial⟩ [] trivial (fun _ => []) [] fun x => by kernel_rfl
noncomputable def configEncode (y0 : Cfg) : Option ((List Int × Int × Unit) × (Unit)) :=
 (cfgCheck y0).bind fun r1 =>
 if r1.1.1 ≠ 0 then
  some (([], r1.1.1, ()), (()))
 else
 (configWriterPut (⟨[], false⟩ : WrV) (wi (y0.workers - 1)) 4).bind fun r2 =>
 (configWriterPut r2.2.1 (wi (y0.levels - 1)) 4).bind fun r3 =>
 (configWriterPut r3.2.1 (wi (y0.classes - 1)) (if y0.levels < 3 then y0.levels else 3)).bind fun r4 =>
 (configWriterPut r4.2.1 (wi (y0.tasks - 1)) 12).bind fun r5 =>
 (configWriterPut r5.2.1 (wi (y0.deque - 1)) 4).bind fun r6 =>
 (configWriterPut r6.2.1 (wi (y0.heap - 1)) 4).bind fun r7 =>
 (configWriterPut r7.2.1 (wi (y0.batch - 1)) y0.deque).bind fun r8 =>
 (configWriterPut r8.2.1 y0.age 6).bind fun r9 =>
 (configWriterPut r9.2.1 (wi (y0.patience - 1)) 8).bind fun r10 =>
 (configWriterPut r10.2.1 (wi (((y0.progs.length : Nat) : Int) - 1)) 4).bind fun r11 =>
 (lpF (σ := Int × WrV × Unit) (β := Int × WrV × Unit) (fun self14 x12 =>
  if x12.1 < ((y0.progs.length : Nat) : Int) then
   if 0 ≤ x12.1 ∧ x12.1 < ((y0.progs.length : Nat) : Int) then
   (configWriterPut x12.2.1 (((atL [] y0.progs x12.1).length : Nat) : Int) 6).bind fun r15 =>
   (lpF (σ := Int × WrV × Unit) (β := Int × WrV × Unit) (fun self18 x16 =>
   if x16.1 < (((atL [] y0.progs x12.1).length : Nat) : Int) then
   if 0 ≤ x16.1 ∧ x16.1 < (((atL [] y0.progs x12.1).length : Nat) : Int) then
   (configWriterInstr x16.2.1 y0 (atK3 (atL [] y0.progs x12.1) x16.1)).bind fun r19 =>
   self18 (wi (x16.1 + 1), r19.2.1, ())
   else none
   else
   some (x16.1, x16.2.1, ())
   ) 18446744073709551616 (0, r15.2.1, ())).bind fun z17 =>
   self14 (wi (x12.1 + 1), z17.2.1, ())
   else none
  else
  some (x12.1, x12.2.1, ())
 ) 18446744073709551616 (0, r11.2.1, ())).bind fun z13 =>
 (configWriterPut z13.2.1 ((y0.subs.length : Nat) : Int) 6).bind fun r20 =>
 (lpF (σ := Int × WrV × Unit) (β := Int × WrV × Unit) (fun self23 x21 =>
  if x21.1 < ((y0.subs.length : Nat) : Int) then
   if 0 ≤ x21.1 ∧ x21.1 < ((y0.subs.length : Nat) : Int) then
   (configWriterPut x21.2.1 ((atK4 y0.subs x21.1).prog) ((y0.progs.length : Nat) : Int)).bind fun r24 =>
   (configWriterPut r24.2.1 ((atK4 y0.subs x21.1).level) y0.levels).bind fun r25 =>
   (configWriterPut r25.2.1 ((atK4 y0.subs x21.1).deadline) 16).bind fun r26 =>
   self23 (wi (x21.1 + 1), r26.2.1, ())
   else none
  else
  some (x21.1, x21.2.1, ())
 ) 18446744073709551616 (0, r20.2.1, ())).bind fun z22 =>
 if z22.2.1.bad = true then
  some (([], 1, ()), (()))
 else
 (lpF (σ := WrV × Unit) (β := WrV × Unit) (fun self29 x27 =>
  if 0 < ((x27.1.bytes.length : Nat) : Int) then
   if 0 ≤ wi (((x27.1.bytes.length : Nat) : Int) - 1) ∧ wi (((x27.1.bytes.length : Nat) : Int) - 1) < ((x27.1.bytes.length : Nat) : Int) then
   if (atK17 x27.1.bytes (wi (((x27.1.bytes.length : Nat) : Int) - 1))) = 0 then
   if 0 ≤ wi (((x27.1.bytes.length : Nat) : Int) - 1) ∧ wi (((x27.1.bytes.length : Nat) : Int) - 1) ≤ ((x27.1.bytes.length : Nat) : Int) then
   self29 ((⟨x27.1.bytes.take (wi (((x27.1.bytes.length : Nat) : Int) - 1) : Int).toNat, x27.1.bad⟩ : WrV), ())
   else none
   else
   some (x27.1, ())
   else none
  else
  some (x27.1, ())
 ) 18446744073709551616 (z22.2.1, ())).bind fun z28 =>
 some ((z28.1.bytes, 0, ()), (()))
noncomputable abbrev configEncode_k : Con SR1 := ⟨19, [.val 13], [.sh (.row 17), .sh sI_], fun x => configEncode x.1⟩
theorem configEncode_ok : CO Tryz.prog configEncode_k := co_fn mixed Tryz.func19 [cfgCheck_k, configWriterPut_k, configWriterInstr_k] ⟨cfgCheck_ok, configWriterPut_ok, configWriterInstr_ok, trivial⟩ [] trivial (fun _ => []) [(16, .loop [.rg 77 sI_, .rg 5 (.own 62)] 18446744073709551616 0), (20, .loop [.rg 87 sI_, .rg 5 (.own 62)] 18446744073709551616 2), (27, .loop [.rg 105 sI_, .rg 5 (.own 62)] 18446744073709551616 4), (35, .loop [.rg 5 (.own 62)] 18446744073709551616 6)] fun x => by kernel_rfl
noncomputable def scriptPlain (y0 : Int) : Option ((Bool × Unit) × (Unit)) :=
 if y0 = 1 then
  some ((true, ()), (()))
 else
 some ((decide (y0 = 3), ()), (()))
noncomputable abbrev scriptPlain_k : Con SR1 := ⟨63, [.sh sI_], [.sh .b], fun x => scriptPlain x.1⟩
theorem scriptPlain_ok : CO Tryz.prog scriptPlain_k := co_fn mixed Tryz.func63 [] trivial [] trivial (fun _ => []) [] fun x => by kernel_rfl
noncomputable def scriptDecode (y0 : List Int) : Option ((List EntV × Unit) × (Unit)) :=
 (lpF (σ := List EntV × Int × Unit) (β := List EntV × Int × Unit) (fun self3 x1 =>
  if (wi (x1.2.1 + 1)) < ((y0.length : Nat) : Int) then
   if ((x1.1.length : Nat) : Int) < 65536 then
   if 0 ≤ x1.2.1 ∧ x1.2.1 < ((y0.length : Nat) : Int) then
   if 0 ≤ wi (x1.2.1 + 1) ∧ wi (x1.2.1 + 1) < ((y0.length : Nat) : Int) then
   if (atK17 y0 (wi (x1.2.1 + 1))) = (atK17 y0 (wi (x1.2.1 + 1))) then
   if (atK17 y0 x1.2.1) = (atK17 y0 x1.2.1) then
   (scriptPlain (wi ((Int.tmod (atK17 y0 x1.2.1) 4)))).bind fun r4 =>
   if r4.1.1 = true then
   if (((x1.1.length + ([(⟨wi ((Int.tmod (atK17 y0 x1.2.1) 4)), 0⟩ : EntV)] : List EntV).length : Nat)) : Int) < 1000000000000 then
   self3 (x1.1 ++ ([(⟨wi ((Int.tmod (atK17 y0 x1.2.1) 4)), 0⟩ : EntV)]), wi (x1.2.1 + 2), ())
   else none
   else
   if (((x1.1.length + ([(⟨wi ((Int.tmod (atK17 y0 x1.2.1) 4)), wi (atK17 y0 (wi (x1.2.1 + 1)))⟩ : EntV)] : List EntV).length : Nat)) : Int) < 1000000000000 then
   self3 (x1.1 ++ ([(⟨wi ((Int.tmod (atK17 y0 x1.2.1) 4)), wi (atK17 y0 (wi (x1.2.1 + 1)))⟩ : EntV)]), wi (x1.2.1 + 2), ())
   else none
   else none
   else none
   else none
   else none
   else
   some (x1.1, x1.2.1, ())
  else
  some (x1.1, x1.2.1, ())
 ) 18446744073709551616 ([], 0, ())).bind fun z2 =>
 some ((z2.1, ()), (()))
noncomputable abbrev scriptDecode_k : Con SR1 := ⟨18, [.sh (.ro 17)], [.sh (.row 5)], fun x => scriptDecode x.1⟩
theorem scriptDecode_ok : CO Tryz.prog scriptDecode_k := co_fn mixed Tryz.func18 [scriptPlain_k] ⟨scriptPlain_ok, trivial⟩ [] trivial (fun _ => []) [(3, .loop [.rg 3 (.row 5), .rg 4 sI_] 18446744073709551616 0)] fun x => by kernel_rfl
noncomputable def scriptValid (y0 : EntV) : Option ((Bool × Unit) × (Unit)) :=
 if y0.kind = 0 then
  if y0.kind = 0 then
   if 0 ≤ y0.value then
   some ((decide (y0.value ≤ 255), ()), (()))
   else
   some ((false, ()), (()))
  else
  if y0.kind = 1 then
   if y0.kind = 1 then
   some ((decide (y0.value = 0), ()), (()))
   else
   some ((false, ()), (()))
  else
  if y0.kind = 3 then
   some ((decide (y0.value = 0), ()), (()))
  else
  some ((false, ()), (()))
 else
 if y0.kind = 2 then
  if 0 ≤ y0.value then
   some ((decide (y0.value ≤ 255), ()), (()))
  else
  some ((false, ()), (()))
 else
 if y0.kind = 1 then
  if y0.kind = 1 then
   some ((decide (y0.value = 0), ()), (()))
  else
  some ((false, ()), (()))
 else
 if y0.kind = 3 then
  some ((decide (y0.value = 0), ()), (()))
 else
 some ((false, ()), (()))
noncomputable abbrev scriptValid_k : Con SR1 := ⟨67, [.val 5], [.sh .b], fun x => scriptValid x.1⟩
theorem scriptValid_ok : CO Tryz.prog scriptValid_k := co_fn mixed Tryz.func67 [] trivial [] trivial (fun _ => []) [] fun x => by kernel_rfl
noncomputable def scriptEncode (y0 : List EntV) : Option ((List Int × Int × Unit) × (Unit)) :=
 if 65536 < ((y0.length : Nat) : Int) then
  some (([], 2, ()), (()))
 else
 (lpF (σ := List Int × Int × Unit) (β := (List Int × Int × Unit) ⊕ ((List Int × Int × Unit) × (Unit))) (fun self3 x1 =>
  if x1.2.1 < ((y0.length : Nat) : Int) then
   if 0 ≤ x1.2.1 ∧ x1.2.1 < ((y0.length : Nat) : Int) then
   (scriptValid (atK5 y0 x1.2.1)).bind fun r4 =>
   if (!r4.1.1) = true then
   Option.map Sum.inr (
   some (([], 1, ()), (()))
   )
   else
   if (((x1.1.length + ([IntKind.u8.wrap ((atK5 y0 x1.2.1).kind), IntKind.u8.wrap ((atK5 y0 x1.2.1).value)] : List Int).length : Nat)) : Int) < 1000000000000 then
   self3 (x1.1 ++ ([IntKind.u8.wrap ((atK5 y0 x1.2.1).kind), IntKind.u8.wrap ((atK5 y0 x1.2.1).value)]), wi (x1.2.1 + 1), ())
   else none
   else none
  else
  some (Sum.inl (x1.1, x1.2.1, ()))
 ) 18446744073709551616 ([], 0, ())).bind fun z2 => match z2 with
 | .inr o5 => some o5
 | .inl z2 =>
 some ((z2.1, 0, ()), (()))
noncomputable abbrev scriptEncode_k : Con SR1 := ⟨20, [.sh (.ro 5)], [.sh (.row 17), .sh sI_], fun x => scriptEncode x.1⟩
theorem scriptEncode_ok : CO Tryz.prog scriptEncode_k := co_fn mixed Tryz.func20 [scriptValid_k] ⟨scriptValid_ok, trivial⟩ [] trivial (fun _ => []) [(5, .loopR [.rg 4 (.row 17), .rg 12 sI_] 18446744073709551616 0)] fun x => by kernel_rfl
noncomputable def workstealkeepPick (y0 : Int) : Option ((EntV × Unit) × (Unit)) :=
 some (((⟨0, y0⟩ : EntV), ()), (()))
noncomputable abbrev workstealkeepPick_k : Con SR1 := ⟨70, [.sh sI_], [.val 5], fun x => workstealkeepPick x.1⟩
theorem workstealkeepPick_ok : CO Tryz.prog workstealkeepPick_k := co_fn mixed Tryz.func70 [] trivial [] trivial (fun _ => []) [] fun x => by kernel_rfl
noncomputable def workstealkeepOffers (y0 : Cfg) : Option ((List EntV × Unit) × (Unit)) :=
 (lpF (σ := List EntV × Int × Unit) (β := List EntV × Int × Unit) (fun self3 x1 =>
  if x1.2.1 < (wi (40 * ((y0.subs.length : Nat) : Int))) then
   (workstealkeepPick y0.workers).bind fun r4 =>
   if (((x1.1.length + ([r4.1.1] : List EntV).length : Nat)) : Int) < 1000000000000 then
   self3 (x1.1 ++ ([r4.1.1]), wi (x1.2.1 + 1), ())
   else none
  else
  some (x1.1, x1.2.1, ())
 ) 18446744073709551616 ([], 0, ())).bind fun z2 =>
 some ((z2.1, ()), (()))
noncomputable abbrev workstealkeepOffers_k : Con SR1 := ⟨69, [.val 13], [.sh (.row 5)], fun x => workstealkeepOffers x.1⟩
theorem workstealkeepOffers_ok : CO Tryz.prog workstealkeepOffers_k := co_fn mixed Tryz.func69 [workstealkeepPick_k] ⟨workstealkeepPick_ok, trivial⟩ [] trivial (fun _ => []) [(3, .loop [.rg 3 (.row 5), .rg 4 sI_] 18446744073709551616 0)] fun x => by kernel_rfl
noncomputable def workstealref04Same (y0 : List EntV) (y1 : List EntV) : Option ((Bool × Unit) × (Unit)) :=
 if ((y0.length : Nat) : Int) ≠ ((y1.length : Nat) : Int) then
  some ((false, ()), (()))
 else
 (lpF (σ := Int × Unit) (β := (Int × Unit) ⊕ ((Bool × Unit) × (Unit))) (fun self3 x1 =>
  if x1.1 < ((y0.length : Nat) : Int) then
   if 0 ≤ x1.1 ∧ x1.1 < ((y0.length : Nat) : Int) then
   if 0 ≤ x1.1 ∧ x1.1 < ((y1.length : Nat) : Int) then
   if ¬ (((atK5 y0 x1.1).kind) = ((atK5 y1 x1.1).kind) ∧ ((atK5 y0 x1.1).value) = ((atK5 y1 x1.1).value) ∧ True) then
   Option.map Sum.inr (
   some ((false, ()), (()))
   )
   else
   self3 (wi (x1.1 + 1), ())
   else none
   else none
  else
  some (Sum.inl (x1.1, ()))
 ) 18446744073709551616 (0, ())).bind fun z2 => match z2 with
 | .inr o4 => some o4
 | .inl z2 =>
 some ((true, ()), (()))
noncomputable abbrev workstealref04Same_k : Con SR1 := ⟨23, [.sh (.ro 5), .sh (.ro 5)], [.sh .b], fun x => workstealref04Same x.1 x.2.1⟩
theorem workstealref04Same_ok : CO Tryz.prog workstealref04Same_k := co_fn mixed Tryz.func23 [] trivial [] trivial (fun _ => []) [(4, .loopR [.rg 5 sI_] 18446744073709551616 0)] fun x => by kernel_rfl
noncomputable def eventOf (y0 : List St) : Option ((List Ev × Unit) × (Unit)) :=
 (lpF (σ := List Ev × Int × Unit) (β := List Ev × Int × Unit) (fun self3 x1 =>
  if x1.2.1 < ((y0.length : Nat) : Int) then
   if 0 ≤ x1.2.1 ∧ x1.2.1 < ((y0.length : Nat) : Int) then
   if (((x1.1.length + ([(⟨(atK6 y0 x1.2.1).ev.kind, (atK6 y0 x1.2.1).ev.worker, (atK6 y0 x1.2.1).ev.task, (atK6 y0 x1.2.1).ev.other, (atK6 y0 x1.2.1).ev.level⟩ : Ev)] : List Ev).length : Nat)) : Int) < 1000000000000 then
   self3 (x1.1 ++ ([(⟨(atK6 y0 x1.2.1).ev.kind, (atK6 y0 x1.2.1).ev.worker, (atK6 y0 x1.2.1).ev.task, (atK6 y0 x1.2.1).ev.other, (atK6 y0 x1.2.1).ev.level⟩ : Ev)]), wi (x1.2.1 + 1), ())
   else none
   else none
  else
  some (x1.1, x1.2.1, ())
 ) 18446744073709551616 ([], 0, ())).bind fun z2 =>
 some ((z2.1, ()), (()))
noncomputable abbrev eventOf_k : Con SR1 := ⟨72, [.sh (.ro 6)], [.sh (.row 2)], fun x => eventOf x.1⟩
theorem eventOf_ok : CO Tryz.prog eventOf_k := co_fn mixed Tryz.func72 [] trivial [] trivial (fun _ => []) [(3, .loop [.rg 3 (.row 2), .rg 8 sI_] 18446744073709551616 0)] fun x => by kernel_rfl
noncomputable def workstealref02Draw (y0 : Int) (y1 : Int) : Option ((Int × Unit) × (Unit)) :=
 if y1 < 1 then
  some ((0, ()), (()))
 else
 if y1 ≠ 0 then
  if (Int.tmod y0 y1) < 0 then
   if y1 ≠ 0 then
   some ((wi ((Int.tmod y0 y1) + y1), ()), (()))
   else none
  else
  if y1 ≠ 0 then
   some (((Int.tmod y0 y1), ()), (()))
  else none
 else none
noncomputable abbrev workstealref02Draw_k : Con SR1 := ⟨98, [.sh sI_, .sh sI_], [.sh sI_], fun x => workstealref02Draw x.1 x.2.1⟩
theorem workstealref02Draw_ok : CO Tryz.prog workstealref02Draw_k := co_fn mixed Tryz.func98 [] trivial [] trivial (fun _ => []) [] fun x => by kernel_rfl
end
section
open Go Go.RowKit
set_option maxRecDepth 100000
variable [Tb]
noncomputable def forkD {β : Type} (i : Int) (f : Nat → Option β) : Nat → Option β
 | 0 => none
 | k + 1 => if i = ((k : Nat) : Int) then f k else forkD i f k
def a20get (a : A20) (n : Nat) : Int := match n with
 | 0 => a.a0
 | 1 => a.a1
 | 2 => a.a2
 | 3 => a.a3
 | 4 => a.a4
 | 5 => a.a5
 | 6 => a.a6
 | 7 => a.a7
 | 8 => a.a8
 | 9 => a.a9
 | 10 => a.a10
 | 11 => a.a11
 | 12 => a.a12
 | 13 => a.a13
 | 14 => a.a14
 | 15 => a.a15
 | 16 => a.a16
 | 17 => a.a17
 | 18 => a.a18
 | 19 => a.a19
 | _ => 0
def a20set (a : A20) (v : Int) (n : Nat) : A20 := match n with
 | 0 => { a with a0 := v }
 | 1 => { a with a1 := v }
 | 2 => { a with a2 := v }
 | 3 => { a with a3 := v }
 | 4 => { a with a4 := v }
 | 5 => { a with a5 := v }
 | 6 => { a with a6 := v }
 | 7 => { a with a7 := v }
 | 8 => { a with a8 := v }
 | 9 => { a with a9 := v }
 | 10 => { a with a10 := v }
 | 11 => { a with a11 := v }
 | 12 => { a with a12 := v }
 | 13 => { a with a13 := v }
 | 14 => { a with a14 := v }
 | 15 => { a with a15 := v }
 | 16 => { a with a16 := v }
 | 17 => { a with a17 := v }
 | 18 => { a with a18 := v }
 | 19 => { a with a19 := v }
 | _ => a
noncomputable def workstealtopKinds (y0 : List Ev) : Option ((A20 × Unit) × (Unit)) :=
 (lpF (σ := Int × A20 × Unit) (β := Int × A20 × Unit) (fun self3 x1 =>
  if x1.1 < ((y0.length : Nat) : Int) then
   if 0 ≤ x1.1 ∧ x1.1 < ((y0.length : Nat) : Int) then
   (workstealref02Draw ((atK2 y0 x1.1).kind) 20).bind fun r4 =>
   forkD r4.1.1 (fun j => forkD r4.1.1 (fun i => self3 (wi (x1.1 + 1), a20set x1.2.1 (wi (a20get x1.2.1 j + 1)) i, ())) 20) 20
   else none
  else
  some (x1.1, x1.2.1, ())
 ) 18446744073709551616 (0, (⟨0, 0, 0, 0, 0, 0, 0, 0, 0, 0, 0, 0, 0, 0, 0, 0, 0, 0, 0, 0⟩ : A20), ())).bind fun z2 =>
 some ((z2.2.1, ()), (()))
noncomputable abbrev workstealtopKinds_k : Con SR1 := ⟨71, [.sh (.ro 2)], [.val 63], fun x => workstealtopKinds x.1⟩
theorem workstealtopKinds_ok : CO Tryz.prog workstealtopKinds_k := co_fn mixed Tryz.func71 [workstealref02Draw_k] ⟨workstealref02Draw_ok, trivial⟩ [] trivial (fun _ => []) [(3, .loop [.rg 4 sI_, .rg 3 (.own 63)] 18446744073709551616 0)] fun x => by kernel_rfl
end
section
open Go Go.RowKit
set_option maxRecDepth 100000
variable [Tb]
abbrev EngT := Int × List Int × Int × Int × Int × Int × Unit
noncomputable def travTail {σ : Type} (c0 : Int) (env : EnvP) (eng : EngT) (self : EnvP → EngT → Option σ) : Option σ :=
   (memoryMemoryCount env.m).bind fun r22 =>
   if c0 < r22.1.1 then
   (memoryMemoryLast r22.2.1).bind fun r23 =>
   (lpF (σ := EnvP × (Int × List Int × Int × Int × Int × Int × Unit) × Unit) (β := EnvP × (Int × List Int × Int × Int × Int × Int × Unit) × Unit) (fun self26 x24 =>
   if ((x24.2.1.2.1.length : Nat) : Int) < ((x24.1.evs.length : Nat) : Int) then
   if (((x24.2.1.2.1.length + ([x24.2.1.1] : List Int).length : Nat)) : Int) < 1000000000000 then
   self26 (x24.1, (x24.2.1.1, x24.2.1.2.1 ++ ([x24.2.1.1]), x24.2.1.2.2.1, x24.2.1.2.2.2.1, x24.2.1.2.2.2.2.1, x24.2.1.2.2.2.2.2.1, ()), ())
   else none
   else
   some (x24.1, x24.2.1, ())
   ) 18446744073709551616 (({ env with m := r23.2.1 } : EnvP), (eng.1, eng.2.1, r23.1.1.kind, r23.1.1.cell, r23.1.1.old, r23.1.1.new, ()), ())).bind fun z25 =>
   self z25.1 (wi (z25.2.1.1 + 1), z25.2.1.2.1, z25.2.1.2.2.1, z25.2.1.2.2.2.1, z25.2.1.2.2.2.2.1, z25.2.1.2.2.2.2.2.1, ())
   else
   (lpF (σ := EnvP × (Int × List Int × Int × Int × Int × Int × Unit) × Unit) (β := EnvP × (Int × List Int × Int × Int × Int × Int × Unit) × Unit) (fun self29 x27 =>
   if ((x27.2.1.2.1.length : Nat) : Int) < ((x27.1.evs.length : Nat) : Int) then
   if (((x27.2.1.2.1.length + ([x27.2.1.1] : List Int).length : Nat)) : Int) < 1000000000000 then
   self29 (x27.1, (x27.2.1.1, x27.2.1.2.1 ++ ([x27.2.1.1]), x27.2.1.2.2.1, x27.2.1.2.2.2.1, x27.2.1.2.2.2.2.1, x27.2.1.2.2.2.2.2.1, ()), ())
   else none
   else
   some (x27.1, x27.2.1, ())
   ) 18446744073709551616 (({ env with m := r22.2.1 } : EnvP), (eng.1, eng.2.1, 0, 0, 0, 0, ()), ())).bind fun z28 =>
   self z28.1 (wi (z28.2.1.1 + 1), z28.2.1.2.1, z28.2.1.2.2.1, z28.2.1.2.2.2.1, z28.2.1.2.2.2.2.1, z28.2.1.2.2.2.2.2.1, ())
abbrev TravT1 := Int × EnvP × (WorkerV MV) × (ClientV MV) × (Int × List Int × Int × Int × Int × Int × Unit) × Unit
noncomputable def travKind1 (l : List EntV) (x12 : TravT1) (r15 : (Int × Unit) × (MemV × Unit)) :=
   ((
   if ((atK5 l x12.1).kind) = 0 then
   (scriptMachine (atK5 l x12.1) 2).bind fun r16 =>
   if r16.1.1 = ((1 : Nat) : Int) then
   (clientClientStep x12.2.2.2.1 ({ x12.2.1 with m := r15.2.1 } : EnvP)).bind fun r17 =>
   some (r17.2.2.1, x12.2.2.1, r17.2.1, x12.2.2.2.2.1, ())
   else
   if r16.1.1 = ((0 : Nat) : Int) then
   (workerWorkerStep x12.2.2.1 ({ x12.2.1 with m := r15.2.1 } : EnvP)).bind fun r18 =>
   some (r18.2.2.1, r18.2.1, x12.2.2.2.1, x12.2.2.2.2.1, ())
   else
   none
   else
   if ((atK5 l x12.1).kind) = 1 then
   (clockClockTick x12.2.1.k).bind fun r19 =>
   some (({ x12.2.1 with m := r15.2.1, k := r19.2.1 } : EnvP), x12.2.2.1, x12.2.2.2.1, x12.2.2.2.2.1, ())
   else
   if ((atK5 l x12.1).kind) = 2 then
   (clockClockSet x12.2.1.k ((atK5 l x12.1).value)).bind fun r20 =>
   some (({ x12.2.1 with m := r15.2.1, k := r20.2.1 } : EnvP), x12.2.2.1, x12.2.2.2.1, x12.2.2.2.2.1, ())
   else
   some (({ x12.2.1 with m := r15.2.1 } : EnvP), x12.2.2.1, x12.2.2.2.1, x12.2.2.2.2.1, ())
   ) : Option (EnvP × (WorkerV MV) × (ClientV MV) × (Int × List Int × Int × Int × Int × Int × Unit) × Unit))
noncomputable def travBody1 (l : List EntV) (self14 : TravT1 → Option (TravT1)) (x12 : TravT1) : Option (TravT1) :=
 if x12.1 < ((l.length : Nat) : Int) then
  if 0 ≤ x12.1 ∧ x12.1 < ((l.length : Nat) : Int) then
   (memoryMemoryCount x12.2.1.m).bind fun r15 =>
   (travKind1 l x12 r15).bind fun z21 =>
   travTail r15.1.1 z21.1 z21.2.2.2.1 (fun e g => self14 (wi (x12.1 + 1), e, z21.2.1, z21.2.2.1, g, ()))
  else none
 else
 some (x12.1, x12.2.1, x12.2.2.1, x12.2.2.2.1, x12.2.2.2.2.1, ())
noncomputable def travEv (evs : List Ev) (self103 : Int × List St × (Int × List Int × Int × Int × Int × Int × Unit) × Unit → Option (Int × List St × (Int × List Int × Int × Int × Int × Int × Unit) × Unit)) (x101 : Int × List St × (Int × List Int × Int × Int × Int × Int × Unit) × Unit) : Option (Int × List St × (Int × List Int × Int × Int × Int × Int × Unit) × Unit) :=
 if x101.1 < ((evs.length : Nat) : Int) then
  if 0 ≤ x101.1 ∧ x101.1 < ((evs.length : Nat) : Int) then
   if 0 ≤ x101.1 ∧ x101.1 < ((x101.2.2.1.2.1.length : Nat) : Int) then
   if (((x101.2.1.length + ([(⟨atK1 x101.2.2.1.2.1 x101.1, atK2 evs x101.1⟩ : St)] : List St).length : Nat)) : Int) < 1000000000000 then
   self103 (wi (x101.1 + 1), x101.2.1 ++ ([(⟨atK1 x101.2.2.1.2.1 x101.1, atK2 evs x101.1⟩ : St)]), x101.2.2.1, ())
   else none
   else none
  else none
 else
 some (x101.1, x101.2.1, x101.2.2.1, ())
abbrev TravT2 := Int × EnvP × (WorkerV MV) × (WorkerV MV) × (ClientV MV) × (Int × List Int × Int × Int × Int × Int × Unit) × Unit
noncomputable def travKind2 (l : List EntV) (x13 : TravT2) (r16 : (Int × Unit) × (MemV × Unit)) :=
   ((
   if ((atK5 l x13.1).kind) = 0 then
   (scriptMachine (atK5 l x13.1) 3).bind fun r17 =>
   if r17.1.1 = ((2 : Nat) : Int) then
   (clientClientStep x13.2.2.2.2.1 ({ x13.2.1 with m := r16.2.1 } : EnvP)).bind fun r18 =>
   some (r18.2.2.1, x13.2.2.1, x13.2.2.2.1, r18.2.1, x13.2.2.2.2.2.1, ())
   else
   if r17.1.1 = ((1 : Nat) : Int) then
   (workerWorkerStep x13.2.2.2.1 ({ x13.2.1 with m := r16.2.1 } : EnvP)).bind fun r19 =>
   some (r19.2.2.1, x13.2.2.1, r19.2.1, x13.2.2.2.2.1, x13.2.2.2.2.2.1, ())
   else
   if r17.1.1 = ((0 : Nat) : Int) then
   (workerWorkerStep x13.2.2.1 ({ x13.2.1 with m := r16.2.1 } : EnvP)).bind fun r20 =>
   some (r20.2.2.1, r20.2.1, x13.2.2.2.1, x13.2.2.2.2.1, x13.2.2.2.2.2.1, ())
   else
   none
   else
   if ((atK5 l x13.1).kind) = 1 then
   (clockClockTick x13.2.1.k).bind fun r21 =>
   some (({ x13.2.1 with m := r16.2.1, k := r21.2.1 } : EnvP), x13.2.2.1, x13.2.2.2.1, x13.2.2.2.2.1, x13.2.2.2.2.2.1, ())
   else
   if ((atK5 l x13.1).kind) = 2 then
   (clockClockSet x13.2.1.k ((atK5 l x13.1).value)).bind fun r22 =>
   some (({ x13.2.1 with m := r16.2.1, k := r22.2.1 } : EnvP), x13.2.2.1, x13.2.2.2.1, x13.2.2.2.2.1, x13.2.2.2.2.2.1, ())
   else
   some (({ x13.2.1 with m := r16.2.1 } : EnvP), x13.2.2.1, x13.2.2.2.1, x13.2.2.2.2.1, x13.2.2.2.2.2.1, ())
   ) : Option (EnvP × (WorkerV MV) × (WorkerV MV) × (ClientV MV) × (Int × List Int × Int × Int × Int × Int × Unit) × Unit))
noncomputable def travBody2 (l : List EntV) (self15 : TravT2 → Option (TravT2)) (x13 : TravT2) : Option (TravT2) :=
 if x13.1 < ((l.length : Nat) : Int) then
  if 0 ≤ x13.1 ∧ x13.1 < ((l.length : Nat) : Int) then
   (memoryMemoryCount x13.2.1.m).bind fun r16 =>
   (travKind2 l x13 r16).bind fun z23 =>
   travTail r16.1.1 z23.1 z23.2.2.2.2.1 (fun e g => self15 (wi (x13.1 + 1), e, z23.2.1, z23.2.2.1, z23.2.2.2.1, g, ()))
  else none
 else
 some (x13.1, x13.2.1, x13.2.2.1, x13.2.2.2.1, x13.2.2.2.2.1, x13.2.2.2.2.2.1, ())
abbrev TravT3 := Int × EnvP × (WorkerV MV) × (WorkerV MV) × (WorkerV MV) × (ClientV MV) × (Int × List Int × Int × Int × Int × Int × Unit) × Unit
noncomputable def travKind3 (l : List EntV) (x14 : TravT3) (r17 : (Int × Unit) × (MemV × Unit)) :=
   ((
   if ((atK5 l x14.1).kind) = 0 then
   (scriptMachine (atK5 l x14.1) 4).bind fun r18 =>
   if r18.1.1 = ((3 : Nat) : Int) then
   (clientClientStep x14.2.2.2.2.2.1 ({ x14.2.1 with m := r17.2.1 } : EnvP)).bind fun r19 =>
   some (r19.2.2.1, x14.2.2.1, x14.2.2.2.1, x14.2.2.2.2.1, r19.2.1, x14.2.2.2.2.2.2.1, ())
   else
   if r18.1.1 = ((2 : Nat) : Int) then
   (workerWorkerStep x14.2.2.2.2.1 ({ x14.2.1 with m := r17.2.1 } : EnvP)).bind fun r20 =>
   some (r20.2.2.1, x14.2.2.1, x14.2.2.2.1, r20.2.1, x14.2.2.2.2.2.1, x14.2.2.2.2.2.2.1, ())
   else
   if r18.1.1 = ((1 : Nat) : Int) then
   (workerWorkerStep x14.2.2.2.1 ({ x14.2.1 with m := r17.2.1 } : EnvP)).bind fun r21 =>
   some (r21.2.2.1, x14.2.2.1, r21.2.1, x14.2.2.2.2.1, x14.2.2.2.2.2.1, x14.2.2.2.2.2.2.1, ())
   else
   if r18.1.1 = ((0 : Nat) : Int) then
   (workerWorkerStep x14.2.2.1 ({ x14.2.1 with m := r17.2.1 } : EnvP)).bind fun r22 =>
   some (r22.2.2.1, r22.2.1, x14.2.2.2.1, x14.2.2.2.2.1, x14.2.2.2.2.2.1, x14.2.2.2.2.2.2.1, ())
   else
   none
   else
   if ((atK5 l x14.1).kind) = 1 then
   (clockClockTick x14.2.1.k).bind fun r23 =>
   some (({ x14.2.1 with m := r17.2.1, k := r23.2.1 } : EnvP), x14.2.2.1, x14.2.2.2.1, x14.2.2.2.2.1, x14.2.2.2.2.2.1, x14.2.2.2.2.2.2.1, ())
   else
   if ((atK5 l x14.1).kind) = 2 then
   (clockClockSet x14.2.1.k ((atK5 l x14.1).value)).bind fun r24 =>
   some (({ x14.2.1 with m := r17.2.1, k := r24.2.1 } : EnvP), x14.2.2.1, x14.2.2.2.1, x14.2.2.2.2.1, x14.2.2.2.2.2.1, x14.2.2.2.2.2.2.1, ())
   else
   some (({ x14.2.1 with m := r17.2.1 } : EnvP), x14.2.2.1, x14.2.2.2.1, x14.2.2.2.2.1, x14.2.2.2.2.2.1, x14.2.2.2.2.2.2.1, ())
   ) : Option (EnvP × (WorkerV MV) × (WorkerV MV) × (WorkerV MV) × (ClientV MV) × (Int × List Int × Int × Int × Int × Int × Unit) × Unit))
noncomputable def travBody3 (l : List EntV) (self16 : TravT3 → Option (TravT3)) (x14 : TravT3) : Option (TravT3) :=
 if x14.1 < ((l.length : Nat) : Int) then
  if 0 ≤ x14.1 ∧ x14.1 < ((l.length : Nat) : Int) then
   (memoryMemoryCount x14.2.1.m).bind fun r17 =>
   (travKind3 l x14 r17).bind fun z25 =>
   travTail r17.1.1 z25.1 z25.2.2.2.2.2.1 (fun e g => self16 (wi (x14.1 + 1), e, z25.2.1, z25.2.2.1, z25.2.2.2.1, z25.2.2.2.2.1, g, ()))
  else none
 else
 some (x14.1, x14.2.1, x14.2.2.1, x14.2.2.2.1, x14.2.2.2.2.1, x14.2.2.2.2.2.1, x14.2.2.2.2.2.2.1, ())
abbrev TravT4 := Int × EnvP × (WorkerV MV) × (WorkerV MV) × (WorkerV MV) × (WorkerV MV) × (ClientV MV) × (Int × List Int × Int × Int × Int × Int × Unit) × Unit
noncomputable def travKind4 (l : List EntV) (x15 : TravT4) (r18 : (Int × Unit) × (MemV × Unit)) :=
   ((
   if ((atK5 l x15.1).kind) = 0 then
   (scriptMachine (atK5 l x15.1) 5).bind fun r19 =>
   if r19.1.1 = ((4 : Nat) : Int) then
   (clientClientStep x15.2.2.2.2.2.2.1 ({ x15.2.1 with m := r18.2.1 } : EnvP)).bind fun r20 =>
   some (r20.2.2.1, x15.2.2.1, x15.2.2.2.1, x15.2.2.2.2.1, x15.2.2.2.2.2.1, r20.2.1, x15.2.2.2.2.2.2.2.1, ())
   else
   if r19.1.1 = ((3 : Nat) : Int) then
   (workerWorkerStep x15.2.2.2.2.2.1 ({ x15.2.1 with m := r18.2.1 } : EnvP)).bind fun r21 =>
   some (r21.2.2.1, x15.2.2.1, x15.2.2.2.1, x15.2.2.2.2.1, r21.2.1, x15.2.2.2.2.2.2.1, x15.2.2.2.2.2.2.2.1, ())
   else
   if r19.1.1 = ((2 : Nat) : Int) then
   (workerWorkerStep x15.2.2.2.2.1 ({ x15.2.1 with m := r18.2.1 } : EnvP)).bind fun r22 =>
   some (r22.2.2.1, x15.2.2.1, x15.2.2.2.1, r22.2.1, x15.2.2.2.2.2.1, x15.2.2.2.2.2.2.1, x15.2.2.2.2.2.2.2.1, ())
   else
   if r19.1.1 = ((1 : Nat) : Int) then
   (workerWorkerStep x15.2.2.2.1 ({ x15.2.1 with m := r18.2.1 } : EnvP)).bind fun r23 =>
   some (r23.2.2.1, x15.2.2.1, r23.2.1, x15.2.2.2.2.1, x15.2.2.2.2.2.1, x15.2.2.2.2.2.2.1, x15.2.2.2.2.2.2.2.1, ())
   else
   if r19.1.1 = ((0 : Nat) : Int) then
   (workerWorkerStep x15.2.2.1 ({ x15.2.1 with m := r18.2.1 } : EnvP)).bind fun r24 =>
   some (r24.2.2.1, r24.2.1, x15.2.2.2.1, x15.2.2.2.2.1, x15.2.2.2.2.2.1, x15.2.2.2.2.2.2.1, x15.2.2.2.2.2.2.2.1, ())
   else
   none
   else
   if ((atK5 l x15.1).kind) = 1 then
   (clockClockTick x15.2.1.k).bind fun r25 =>
   some (({ x15.2.1 with m := r18.2.1, k := r25.2.1 } : EnvP), x15.2.2.1, x15.2.2.2.1, x15.2.2.2.2.1, x15.2.2.2.2.2.1, x15.2.2.2.2.2.2.1, x15.2.2.2.2.2.2.2.1, ())
   else
   if ((atK5 l x15.1).kind) = 2 then
   (clockClockSet x15.2.1.k ((atK5 l x15.1).value)).bind fun r26 =>
   some (({ x15.2.1 with m := r18.2.1, k := r26.2.1 } : EnvP), x15.2.2.1, x15.2.2.2.1, x15.2.2.2.2.1, x15.2.2.2.2.2.1, x15.2.2.2.2.2.2.1, x15.2.2.2.2.2.2.2.1, ())
   else
   some (({ x15.2.1 with m := r18.2.1 } : EnvP), x15.2.2.1, x15.2.2.2.1, x15.2.2.2.2.1, x15.2.2.2.2.2.1, x15.2.2.2.2.2.2.1, x15.2.2.2.2.2.2.2.1, ())
   ) : Option (EnvP × (WorkerV MV) × (WorkerV MV) × (WorkerV MV) × (WorkerV MV) × (ClientV MV) × (Int × List Int × Int × Int × Int × Int × Unit) × Unit))
noncomputable def travBody4 (l : List EntV) (self17 : TravT4 → Option (TravT4)) (x15 : TravT4) : Option (TravT4) :=
 if x15.1 < ((l.length : Nat) : Int) then
  if 0 ≤ x15.1 ∧ x15.1 < ((l.length : Nat) : Int) then
   (memoryMemoryCount x15.2.1.m).bind fun r18 =>
   (travKind4 l x15 r18).bind fun z27 =>
   travTail r18.1.1 z27.1 z27.2.2.2.2.2.2.1 (fun e g => self17 (wi (x15.1 + 1), e, z27.2.1, z27.2.2.1, z27.2.2.2.1, z27.2.2.2.2.1, z27.2.2.2.2.2.1, g, ()))
  else none
 else
 some (x15.1, x15.2.1, x15.2.2.1, x15.2.2.2.1, x15.2.2.2.2.1, x15.2.2.2.2.2.1, x15.2.2.2.2.2.2.1, x15.2.2.2.2.2.2.2.1, ())
end
end Go.Proofs.YtgiagoeoifgliaaGreat
