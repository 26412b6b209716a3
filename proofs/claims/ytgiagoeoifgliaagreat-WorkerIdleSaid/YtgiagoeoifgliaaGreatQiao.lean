/- WorkerIdle in the evaluator's form. The program's environment made anew, at a valid configuration. A worker that finds nothing: the memory, and the machines that look at it. A worker that finds nothing: looking at the others, and falling asleep. WorkerIdle answers true. -/
import Derived.Test.YtgiagoeoifgliaaGreatQian
set_option linter.all false
namespace Go.Proofs.YtgiagoeoifgliaaGreat
section
open Go Go.RowKit
set_option maxRecDepth 100000
noncomputable def thiefSteal (y0 : QV) : Option ((MV × Unit) × (Unit)) :=
 some ((MV.steal (⟨⟨false, 0, 0⟩, y0, 1, 0, 0⟩ : StealV), ()), (()))
noncomputable abbrev thiefSteal_k : Con SR1 := ⟨132, [.val 14], [.sh .mach], fun x => thiefSteal x.1⟩
theorem thiefSteal_ok : CO Tryz.prog thiefSteal_k := co_fn mixed Tryz.func132 [] trivial [] trivial (fun _ => []) [] fun x => by kernel_rfl
noncomputable def workerWorkerFound (y0 : (WorkerV MV)) (y1 : EnvP) (y2 : Int) (y3 : Int) : Option ((Unit) × ((WorkerV MV) × EnvP × Unit)) :=
 if y0.line = 1 then
  (takeTake y0.worker).bind fun r1 =>
  (workerWorkerTo ({ y0 with cursor := wi (y0.cursor + 1) } : (WorkerV MV)) 2 r1.1.1).bind fun r2 =>
  some ((()), (r2.2.1, y1, ()))
 else
 if y0.line = 2 then
  if y2 = 1 then
   (workerWorkerRun y0 y3).bind fun r3 =>
   some ((()), (r3.2.1, y1, ()))
  else
  if y0.line = 2 then
   (drainDrain y0.worker).bind fun r4 =>
   (workerWorkerTo y0 3 r4.1.1).bind fun r5 =>
   some ((()), (r5.2.1, y1, ()))
  else
  if y0.line = 3 then
   if y2 = 1 then
    (workerWorkerClaim y0 y3).bind fun r6 =>
    some ((()), (r6.2.1, y1, ()))
   else
   if y0.line = 3 then
    if y2 = 0 then
     (takeTake y0.worker).bind fun r7 =>
     (workerWorkerTo y0 2 r7.1.1).bind fun r8 =>
     some ((()), (r8.2.1, y1, ()))
    else
    if y0.line = 3 then
     (workerWorkerIdle y0 y1).bind fun r9 =>
     some ((()), (r9.2.1, r9.2.2.1, ()))
    else
    if y2 = 2 then
     (parkSleep y0.worker).bind fun r10 =>
     (workerWorkerTo y0 8 r10.1.1).bind fun r11 =>
     some ((()), (r11.2.1, y1, ()))
    else
    (pQueue y1.l (wi (Int.tdiv y3 64)) (Int.tmod y3 64)).bind fun r12 =>
    (thiefSteal r12.1.1).bind fun r13 =>
    (workerWorkerTo ({ y0 with victim := wi (Int.tdiv y3 64), level := (Int.tmod y3 64) } : (WorkerV MV)) 5 r13.1.1).bind fun r14 =>
    some ((()), (r14.2.1, y1, ()))
   else
   if y0.line = 3 then
    (workerWorkerIdle y0 y1).bind fun r15 =>
    some ((()), (r15.2.1, r15.2.2.1, ()))
   else
   if y2 = 2 then
    (parkSleep y0.worker).bind fun r16 =>
    (workerWorkerTo y0 8 r16.1.1).bind fun r17 =>
    some ((()), (r17.2.1, y1, ()))
   else
   (pQueue y1.l (wi (Int.tdiv y3 64)) (Int.tmod y3 64)).bind fun r18 =>
   (thiefSteal r18.1.1).bind fun r19 =>
   (workerWorkerTo ({ y0 with victim := wi (Int.tdiv y3 64), level := (Int.tmod y3 64) } : (WorkerV MV)) 5 r19.1.1).bind fun r20 =>
   some ((()), (r20.2.1, y1, ()))
  else
  if y0.line = 3 then
   if y2 = 0 then
    (takeTake y0.worker).bind fun r21 =>
    (workerWorkerTo y0 2 r21.1.1).bind fun r22 =>
    some ((()), (r22.2.1, y1, ()))
   else
   if y0.line = 3 then
    (workerWorkerIdle y0 y1).bind fun r23 =>
    some ((()), (r23.2.1, r23.2.2.1, ()))
   else
   if y2 = 2 then
    (parkSleep y0.worker).bind fun r24 =>
    (workerWorkerTo y0 8 r24.1.1).bind fun r25 =>
    some ((()), (r25.2.1, y1, ()))
   else
   (pQueue y1.l (wi (Int.tdiv y3 64)) (Int.tmod y3 64)).bind fun r26 =>
   (thiefSteal r26.1.1).bind fun r27 =>
   (workerWorkerTo ({ y0 with victim := wi (Int.tdiv y3 64), level := (Int.tmod y3 64) } : (WorkerV MV)) 5 r27.1.1).bind fun r28 =>
   some ((()), (r28.2.1, y1, ()))
  else
  if y0.line = 3 then
   (workerWorkerIdle y0 y1).bind fun r29 =>
   some ((()), (r29.2.1, r29.2.2.1, ()))
  else
  if y2 = 2 then
   (parkSleep y0.worker).bind fun r30 =>
   (workerWorkerTo y0 8 r30.1.1).bind fun r31 =>
   some ((()), (r31.2.1, y1, ()))
  else
  (pQueue y1.l (wi (Int.tdiv y3 64)) (Int.tmod y3 64)).bind fun r32 =>
  (thiefSteal r32.1.1).bind fun r33 =>
  (workerWorkerTo ({ y0 with victim := wi (Int.tdiv y3 64), level := (Int.tmod y3 64) } : (WorkerV MV)) 5 r33.1.1).bind fun r34 =>
  some ((()), (r34.2.1, y1, ()))
 else
 if y0.line = 2 then
  (drainDrain y0.worker).bind fun r35 =>
  (workerWorkerTo y0 3 r35.1.1).bind fun r36 =>
  some ((()), (r36.2.1, y1, ()))
 else
 if y0.line = 3 then
  if y2 = 1 then
   (workerWorkerClaim y0 y3).bind fun r37 =>
   some ((()), (r37.2.1, y1, ()))
  else
  if y0.line = 3 then
   if y2 = 0 then
    (takeTake y0.worker).bind fun r38 =>
    (workerWorkerTo y0 2 r38.1.1).bind fun r39 =>
    some ((()), (r39.2.1, y1, ()))
   else
   if y0.line = 3 then
    (workerWorkerIdle y0 y1).bind fun r40 =>
    some ((()), (r40.2.1, r40.2.2.1, ()))
   else
   if y2 = 2 then
    (parkSleep y0.worker).bind fun r41 =>
    (workerWorkerTo y0 8 r41.1.1).bind fun r42 =>
    some ((()), (r42.2.1, y1, ()))
   else
   (pQueue y1.l (wi (Int.tdiv y3 64)) (Int.tmod y3 64)).bind fun r43 =>
   (thiefSteal r43.1.1).bind fun r44 =>
   (workerWorkerTo ({ y0 with victim := wi (Int.tdiv y3 64), level := (Int.tmod y3 64) } : (WorkerV MV)) 5 r44.1.1).bind fun r45 =>
   some ((()), (r45.2.1, y1, ()))
  else
  if y0.line = 3 then
   (workerWorkerIdle y0 y1).bind fun r46 =>
   some ((()), (r46.2.1, r46.2.2.1, ()))
  else
  if y2 = 2 then
   (parkSleep y0.worker).bind fun r47 =>
   (workerWorkerTo y0 8 r47.1.1).bind fun r48 =>
   some ((()), (r48.2.1, y1, ()))
  else
  (pQueue y1.l (wi (Int.tdiv y3 64)) (Int.tmod y3 64)).bind fun r49 =>
  (thiefSteal r49.1.1).bind fun r50 =>
  (workerWorkerTo ({ y0 with victim := wi (Int.tdiv y3 64), level := (Int.tmod y3 64) } : (WorkerV MV)) 5 r50.1.1).bind fun r51 =>
  some ((()), (r51.2.1, y1, ()))
 else
 if y0.line = 3 then
  if y2 = 0 then
   (takeTake y0.worker).bind fun r52 =>
   (workerWorkerTo y0 2 r52.1.1).bind fun r53 =>
   some ((()), (r53.2.1, y1, ()))
  else
  if y0.line = 3 then
   (workerWorkerIdle y0 y1).bind fun r54 =>
   some ((()), (r54.2.1, r54.2.2.1, ()))
  else
  if y2 = 2 then
   (parkSleep y0.worker).bind fun r55 =>
   (workerWorkerTo y0 8 r55.1.1).bind fun r56 =>
   some ((()), (r56.2.1, y1, ()))
  else
  (pQueue y1.l (wi (Int.tdiv y3 64)) (Int.tmod y3 64)).bind fun r57 =>
  (thiefSteal r57.1.1).bind fun r58 =>
  (workerWorkerTo ({ y0 with victim := wi (Int.tdiv y3 64), level := (Int.tmod y3 64) } : (WorkerV MV)) 5 r58.1.1).bind fun r59 =>
  some ((()), (r59.2.1, y1, ()))
 else
 if y0.line = 3 then
  (workerWorkerIdle y0 y1).bind fun r60 =>
  some ((()), (r60.2.1, r60.2.2.1, ()))
 else
 if y2 = 2 then
  (parkSleep y0.worker).bind fun r61 =>
  (workerWorkerTo y0 8 r61.1.1).bind fun r62 =>
  some ((()), (r62.2.1, y1, ()))
 else
 (pQueue y1.l (wi (Int.tdiv y3 64)) (Int.tmod y3 64)).bind fun r63 =>
 (thiefSteal r63.1.1).bind fun r64 =>
 (workerWorkerTo ({ y0 with victim := wi (Int.tdiv y3 64), level := (Int.tmod y3 64) } : (WorkerV MV)) 5 r64.1.1).bind fun r65 =>
 some ((()), (r65.2.1, y1, ()))
noncomputable abbrev workerWorkerFound_k : Con SR1 := ⟨84, [.ref 31, .ref 27, .sh sI_, .sh sI_], [], fun x => workerWorkerFound x.1 x.2.1 x.2.2.1 x.2.2.2.1⟩
theorem workerWorkerFound_ok : CO Tryz.prog workerWorkerFound_k := co_fn mixed Tryz.func84 [takeTake_k, workerWorkerTo_k, workerWorkerRun_k, drainDrain_k, workerWorkerClaim_k, workerWorkerIdle_k, parkSleep_k, pQueue_k, thiefSteal_k] ⟨takeTake_ok, workerWorkerTo_ok, workerWorkerRun_ok, drainDrain_ok, workerWorkerClaim_ok, workerWorkerIdle_ok, parkSleep_ok, pQueue_ok, thiefSteal_ok, trivial⟩ [] trivial (fun _ => []) [] fun x => by kernel_rfl
noncomputable def workerWorkerLoop (y0 : (WorkerV MV)) : Option ((Unit) × ((WorkerV MV) × Unit)) :=
 some ((()), (({ y0 with line := 0, inside := MV.nil } : (WorkerV MV)), ()))
noncomputable abbrev workerWorkerLoop_k : Con SR1 := ⟨87, [.ref 31], [], fun x => workerWorkerLoop x.1⟩
theorem workerWorkerLoop_ok : CO Tryz.prog workerWorkerLoop_k := co_fn mixed Tryz.func87 [] trivial [] trivial (fun _ => []) [] fun x => by kernel_rfl
noncomputable def workerWorkerStolen (y0 : (WorkerV MV)) (y1 : EnvP) (y2 : Int) (y3 : Int) : Option ((Unit) × ((WorkerV MV) × EnvP × Unit)) :=
 if y2 = 1 then
  (pEmit y1 ({ y0 with kind := 14, task := y3, other := y0.victim } : Ev)).bind fun r1 =>
  (workerWorkerClaim y0 y3).bind fun r2 =>
  some ((()), (r2.2.1, r1.2.1, ()))
 else
 if y2 = 2 then
  (pBitmap y1.l y0.victim).bind fun r3 =>
  if y0.level = y0.level then
   if y0.victim = y0.victim then
    if y1.l.workers = y1.l.workers then
     if y1.l.levels = y1.l.levels then
      if y1.l.classes = y1.l.classes then
       if y1.l.tasks = y1.l.tasks then
        if y1.l.deque = y1.l.deque then
         if y1.l.heap = y1.l.heap then
          if y1.l.sleepers = y1.l.sleepers then
           if y1.l.epochs = y1.l.epochs then
            if y1.l.bitmaps = y1.l.bitmaps then
             if y1.l.queues = y1.l.queues then
              if y1.l.table = y1.l.table then
               if y0.level = y0.level then
                (pQueue y1.l y0.victim y0.level).bind fun r4 =>
                if y0.level = y0.level then
                 (bitmapClear r3.1.1 y0.level r4.1.1).bind fun r5 =>
                 (workerWorkerTo y0 9 r5.1.1).bind fun r6 =>
                 some ((()), (r6.2.1, y1, ()))
                else none
               else none
              else none
             else none
            else none
           else none
          else none
         else none
        else none
       else none
      else none
     else none
    else none
   else none
  else none
 else
 (workerWorkerLoop y0).bind fun r7 =>
 some ((()), (r7.2.1, y1, ()))
noncomputable abbrev workerWorkerStolen_k : Con SR1 := ⟨85, [.ref 31, .ref 27, .sh sI_, .sh sI_], [], fun x => workerWorkerStolen x.1 x.2.1 x.2.2.1 x.2.2.2.1⟩
theorem workerWorkerStolen_ok : CO Tryz.prog workerWorkerStolen_k := co_fn mixed Tryz.func85 [pEmit_k, workerWorkerClaim_k, pBitmap_k, pQueue_k, bitmapClear_k, workerWorkerTo_k, workerWorkerLoop_k] ⟨pEmit_ok, workerWorkerClaim_ok, pBitmap_ok, pQueue_ok, bitmapClear_ok, workerWorkerTo_ok, workerWorkerLoop_ok, trivial⟩ [] trivial (fun _ => []) [] fun x => by kernel_rfl
noncomputable def workerWorkerStep (y0 : (WorkerV MV)) (y1 : EnvP) : Option ((Bool × Unit) × ((WorkerV MV) × EnvP × Unit)) :=
 if y0.line = 0 then
  (workerWorkerStart y0 y1).bind fun r1 =>
  (stepD3 r1.2.1.inside r1.2.2.1).bind fun r2 =>
  if (!r2.1.1) = true then
   some ((false, ()), (({ r1.2.1 with inside := r2.2.1 } : (WorkerV MV)), r2.2.2.1, ()))
  else
  (resultD3 r2.2.1).bind fun r3 =>
  if r1.2.1.line ≤ 4 then
   (workerWorkerFound ({ r1.2.1 with inside := r3.2.1 } : (WorkerV MV)) r2.2.2.1 r3.1.1 r3.1.2.1).bind fun r4 =>
   some ((false, ()), (r4.2.1, r4.2.2.1, ()))
  else
  if r1.2.1.line = 5 then
   (workerWorkerStolen ({ r1.2.1 with inside := r3.2.1 } : (WorkerV MV)) r2.2.2.1 r3.1.1 r3.1.2.1).bind fun r5 =>
   some ((false, ()), (r5.2.1, r5.2.2.1, ()))
  else
  if r1.2.1.line = 6 then
   if r3.1.1 = 1 then
    (workerWorkerRun ({ r1.2.1 with inside := r3.2.1 } : (WorkerV MV)) r1.2.1.x).bind fun r6 =>
    some ((false, ()), (r6.2.1, r2.2.2.1, ()))
   else
   (workerWorkerLoop ({ r1.2.1 with inside := r3.2.1 } : (WorkerV MV))).bind fun r7 =>
   some ((false, ()), (r7.2.1, r2.2.2.1, ()))
  else
  (workerWorkerLoop ({ r1.2.1 with inside := r3.2.1 } : (WorkerV MV))).bind fun r8 =>
  some ((false, ()), (r8.2.1, r2.2.2.1, ()))
 else
 (stepD3 y0.inside y1).bind fun r9 =>
 if (!r9.1.1) = true then
  some ((false, ()), (({ y0 with inside := r9.2.1 } : (WorkerV MV)), r9.2.2.1, ()))
 else
 (resultD3 r9.2.1).bind fun r10 =>
 if y0.line ≤ 4 then
  (workerWorkerFound ({ y0 with inside := r10.2.1 } : (WorkerV MV)) r9.2.2.1 r10.1.1 r10.1.2.1).bind fun r11 =>
  some ((false, ()), (r11.2.1, r11.2.2.1, ()))
 else
 if y0.line = 5 then
  (workerWorkerStolen ({ y0 with inside := r10.2.1 } : (WorkerV MV)) r9.2.2.1 r10.1.1 r10.1.2.1).bind fun r12 =>
  some ((false, ()), (r12.2.1, r12.2.2.1, ()))
 else
 if y0.line = 6 then
  if r10.1.1 = 1 then
   (workerWorkerRun ({ y0 with inside := r10.2.1 } : (WorkerV MV)) y0.x).bind fun r13 =>
   some ((false, ()), (r13.2.1, r9.2.2.1, ()))
  else
  (workerWorkerLoop ({ y0 with inside := r10.2.1 } : (WorkerV MV))).bind fun r14 =>
  some ((false, ()), (r14.2.1, r9.2.2.1, ()))
 else
 (workerWorkerLoop ({ y0 with inside := r10.2.1 } : (WorkerV MV))).bind fun r15 =>
 some ((false, ()), (r15.2.1, r9.2.2.1, ()))
noncomputable abbrev workerWorkerStep_k : Con SR1 := ⟨37, [.ref 31, .ref 27], [.sh .b], fun x => workerWorkerStep x.1 x.2.1⟩
theorem workerWorkerStep_ok : CO Tryz.prog workerWorkerStep_k := co_fn mixed Tryz.func37 [workerWorkerStart_k, stepD3_k, resultD3_k, workerWorkerFound_k, workerWorkerStolen_k, workerWorkerRun_k, workerWorkerLoop_k] ⟨workerWorkerStart_ok, stepD3_ok, resultD3_ok, workerWorkerFound_ok, workerWorkerStolen_ok, workerWorkerRun_ok, workerWorkerLoop_ok, trivial⟩ [] trivial (fun _ => []) [] fun x => by kernel_rfl
noncomputable def configClone (y0 : Cfg) : Option ((Cfg × Unit) × (Unit)) :=
 (cloneRows y0.progs).bind fun r1 =>
 (lpF (σ := Int × (Int × Int × Int × Int × Int × Int × Int × Int × Int × List (List Ins) × List Sub × Unit) × Unit) (β := Int × (Int × Int × Int × Int × Int × Int × Int × Int × Int × List (List Ins) × List Sub × Unit) × Unit) (fun self4 x2 =>
  if x2.1 < ((r1.1.1.length : Nat) : Int) then
   if 0 ≤ x2.1 ∧ x2.1 < ((x2.2.1.2.2.2.2.2.2.2.2.2.1.length : Nat) : Int) then
    (cloneIns (atK18 x2.2.1.2.2.2.2.2.2.2.2.2.1 x2.1)).bind fun r5 =>
    if 0 ≤ x2.1 ∧ x2.1 < ((x2.2.1.2.2.2.2.2.2.2.2.2.1.length : Nat) : Int) then
     self4 (wi (x2.1 + 1), (x2.2.1.1, x2.2.1.2.1, x2.2.1.2.2.1, x2.2.1.2.2.2.1, x2.2.1.2.2.2.2.1, x2.2.1.2.2.2.2.2.1, x2.2.1.2.2.2.2.2.2.1, x2.2.1.2.2.2.2.2.2.2.1, x2.2.1.2.2.2.2.2.2.2.2.1, x2.2.1.2.2.2.2.2.2.2.2.2.1.set x2.1.toNat r5.1.1, x2.2.1.2.2.2.2.2.2.2.2.2.2.1, ()), ())
    else none
   else none
  else
  some (x2.1, (x2.2.1.1, x2.2.1.2.1, x2.2.1.2.2.1, x2.2.1.2.2.2.1, x2.2.1.2.2.2.2.1, x2.2.1.2.2.2.2.2.1, x2.2.1.2.2.2.2.2.2.1, x2.2.1.2.2.2.2.2.2.2.1, x2.2.1.2.2.2.2.2.2.2.2.1, x2.2.1.2.2.2.2.2.2.2.2.2.1, x2.2.1.2.2.2.2.2.2.2.2.2.2.1, ()), ())
 ) 18446744073709551616 (0, (y0.workers, y0.levels, y0.classes, y0.tasks, y0.deque, y0.heap, y0.batch, y0.age, y0.patience, r1.1.1, y0.subs, ()), ())).bind fun z3 =>
 (cloneSubs z3.2.1.2.2.2.2.2.2.2.2.2.2.1).bind fun r6 =>
 some (((⟨z3.2.1.1, z3.2.1.2.1, z3.2.1.2.2.1, z3.2.1.2.2.2.1, z3.2.1.2.2.2.2.1, z3.2.1.2.2.2.2.2.1, z3.2.1.2.2.2.2.2.2.1, z3.2.1.2.2.2.2.2.2.2.1, z3.2.1.2.2.2.2.2.2.2.2.1, z3.2.1.2.2.2.2.2.2.2.2.2.1, r6.1.1⟩ : Cfg), ()), (()))
noncomputable abbrev configClone_k : Con SR1 := ⟨79, [.val 13], [.val 13], fun x => configClone x.1⟩
theorem configClone_ok : CO Tryz.prog configClone_k := co_fn mixed Tryz.func79 [cloneRows_k, cloneIns_k, cloneSubs_k] ⟨cloneRows_ok, cloneIns_ok, cloneSubs_ok, trivial⟩ [] trivial (fun _ => []) [(3, .loop [.rg 11 sI_, .cs 11 [sI_, sI_, sI_, sI_, sI_, sI_, sI_, sI_, sI_, (.row 18), (.ro 4)]] 18446744073709551616 0)] fun x => by kernel_rfl
noncomputable def layoutNew (y0 : Cfg) : Option ((LayV × Int × Unit) × (Unit)) :=
 (cfgCheck y0).bind fun r1 =>
 if r1.1.1 ≠ 0 then
  some (((⟨0, 0, 0, 0, 0, 0, 0, 0, 0, 0, 0⟩ : LayV), r1.1.1, ()), (()))
 else
 some ((({ y0 with sleepers := wi (4 + y0.heap), epochs := wi ((wi (4 + y0.heap)) + y0.classes), bitmaps := wi ((wi ((wi (4 + y0.heap)) + y0.classes)) + y0.workers), queues := wi ((wi ((wi ((wi (4 + y0.heap)) + y0.classes)) + y0.workers)) + y0.workers), table := wi ((wi ((wi ((wi ((wi (4 + y0.heap)) + y0.classes)) + y0.workers)) + y0.workers)) + (wi ((wi (y0.workers * y0.levels)) * (wi (2 + y0.deque))))) } : LayV), 0, ()), (()))
noncomputable abbrev layoutNew_k : Con SR1 := ⟨76, [.val 13], [.val 24, .sh sI_], fun x => layoutNew x.1⟩
theorem layoutNew_ok : CO Tryz.prog layoutNew_k := co_fn mixed Tryz.func76 [cfgCheck_k] ⟨cfgCheck_ok, trivial⟩ [] trivial (fun _ => []) [] fun x => by kernel_rfl
noncomputable def memoryNew (y0 : Int) : Option ((MemV × Unit) × (Unit)) :=
 if (if 131072 < (if y0 < 0 then 0 else y0) then 131072 else (if y0 < 0 then 0 else y0)) = (if 131072 < (if y0 < 0 then 0 else y0) then 131072 else (if y0 < 0 then 0 else y0)) then
  if 0 ≤ (if 131072 < (if y0 < 0 then 0 else y0) then 131072 else (if y0 < 0 then 0 else y0)) ∧ (if 131072 < (if y0 < 0 then 0 else y0) then 131072 else (if y0 < 0 then 0 else y0)) ≤ 1099511627776 then
   some (((⟨List.replicate ((if 131072 < (if y0 < 0 then 0 else y0) then 131072 else (if y0 < 0 then 0 else y0)) : Int).toNat (0 : Int), ⟨0, 0, 0, 0⟩, 0⟩ : MemV), ()), (()))
  else none
 else none
noncomputable abbrev memoryNew_k : Con SR1 := ⟨119, [.sh sI_], [.sh (.own 9)], fun x => memoryNew x.1⟩
theorem memoryNew_ok : CO Tryz.prog memoryNew_k := co_fn mixed Tryz.func119 [] trivial [] trivial (fun _ => []) [] fun x => by kernel_rfl
noncomputable def clockNew  : Option ((ClkV × Unit) × (Unit)) :=
 some (((⟨0, 0⟩ : ClkV), ()), (()))
noncomputable abbrev clockNew_k : Con SR1 := ⟨120, [], [.sh (.own 25)], fun x => clockNew ⟩
theorem clockNew_ok : CO Tryz.prog clockNew_k := co_fn mixed Tryz.func120 [] trivial [] trivial (fun _ => []) [] fun x => by kernel_rfl
noncomputable def machineBare (y0 : Int) : Option ((EnvP × Unit) × (Unit)) :=
 (memoryNew y0).bind fun r1 =>
 (clockNew).bind fun r2 =>
 some (((⟨⟨0, 0, 0, 0, 0, 0, 0, 0, 0, [], []⟩, ⟨0, 0, 0, 0, 0, 0, 0, 0, 0, 0, 0⟩, r1.1.1, r2.1.1, [], []⟩ : EnvP), ()), (()))
noncomputable abbrev machineBare_k : Con SR1 := ⟨77, [.sh sI_], [.sh (.own 27)], fun x => machineBare x.1⟩
theorem machineBare_ok : CO Tryz.prog machineBare_k := co_fn mixed Tryz.func77 [memoryNew_k, clockNew_k] ⟨memoryNew_ok, clockNew_ok, trivial⟩ [] trivial (fun _ => []) [] fun x => by kernel_rfl
noncomputable def workerNew (y0 : Int) : Option (((WorkerV MV) × Unit) × (Unit)) :=
 some (((⟨y0, 0, 0, MV.nil, 0, 0, 0⟩ : (WorkerV MV)), ()), (()))
noncomputable abbrev workerNew_k : Con SR1 := ⟨34, [.sh sI_], [.sh (.own 31)], fun x => workerNew x.1⟩
theorem workerNew_ok : CO Tryz.prog workerNew_k := co_fn mixed Tryz.func34 [] trivial [] trivial (fun _ => []) [] fun x => by kernel_rfl
noncomputable def workerWorkerStatus (y0 : (WorkerV MV)) : Option ((Int × Unit) × ((WorkerV MV) × Unit)) :=
 if y0.line = 0 then
  some ((0, ()), (y0, ()))
 else
 if y0.line = 7 then
  some ((2, ()), (y0, ()))
 else
 if y0.line = 8 then
  (parkAsleep y0.inside).bind fun r1 =>
  if r1.1.1 = true then
   some ((3, ()), (({ y0 with inside := r1.2.1 } : (WorkerV MV)), ()))
  else
  some ((1, ()), (({ y0 with inside := r1.2.1 } : (WorkerV MV)), ()))
 else
 some ((1, ()), (y0, ()))
noncomputable abbrev workerWorkerStatus_k : Con SR1 := ⟨38, [.ref 31], [.sh sI_], fun x => workerWorkerStatus x.1⟩
theorem workerWorkerStatus_ok : CO Tryz.prog workerWorkerStatus_k := co_fn mixed Tryz.func38 [parkAsleep_k] ⟨parkAsleep_ok, trivial⟩ [] trivial (fun _ => []) [] fun x => by kernel_rfl
noncomputable def r5number (r : CodV) (k : Int) : Option ((Int × Unit) × (CodV × Unit)) :=
 if r.at_ < ((r.inn.length : Nat) : Int) then
  if 0 ≤ r.at_ ∧ r.at_ < ((r.inn.length : Nat) : Int) then
   if k ≠ 0 then
    some (((Int.tmod (wi (atK17 r.inn r.at_)) k), ()), (({ r with at_ := wi (r.at_ + 1) } : CodV), ()))
   else none
  else none
 else
 some ((0, ()), (({ r with at_ := wi (r.at_ + 1) } : CodV), ()))
noncomputable abbrev r5number_k : Con SR1 := ⟨118, [.ref 19, .sh sI_], [.sh sI_], fun x => r5number x.1 x.2.1⟩
theorem r5number_ok : CO Tryz.prog r5number_k := co_fn mixed Tryz.func118 [] trivial [] trivial (fun _ => []) [] fun x => by kernel_rfl
noncomputable def r5decode (b : List Int) : Option ((Cfg × Unit) × (Unit)) :=
 (r5number (⟨b, [], 0, false⟩ : CodV) 4).bind fun r1 =>
 (r5number r1.2.1 4).bind fun r2 =>
 (r5number r2.2.1 (if wi (1 + r2.1.1) < 3 then wi (1 + r2.1.1) else 3)).bind fun r3 =>
 (r5number r3.2.1 12).bind fun r4 =>
 (r5number r4.2.1 4).bind fun r5 =>
 (r5number r5.2.1 4).bind fun r6 =>
 (r5number r6.2.1 (wi (1 + r5.1.1))).bind fun r7 =>
 (r5number r7.2.1 6).bind fun r8 =>
 (r5number r8.2.1 8).bind fun r9 =>
 (r5number r9.2.1 4).bind fun r10 =>
 (lpF (σ := Int × CodV × Cfg × Unit) (β := Int × CodV × Cfg × Unit) (fun self13 x11 =>
  if x11.1 < (wi (1 + r10.1.1)) then
   (r5number x11.2.1 6).bind fun r14 =>
   (lpF (σ := List Ins × Int × CodV × Unit) (β := List Ins × Int × CodV × Unit) (fun self17 x15 =>
    if 0 < x15.2.1 then
     (r5number x15.2.2.1 3).bind fun r18 =>
     if r18.1.1 = 0 then
      (r5number r18.2.1 4).bind fun r19 =>
      if (((x15.1.length + ([(⟨r18.1.1, wi (1 + r19.1.1), 0⟩ : Ins)] : List Ins).length : Nat)) : Int) < 1000000000000 then
       self17 (x15.1 ++ ([(⟨r18.1.1, wi (1 + r19.1.1), 0⟩ : Ins)]), wi (x15.2.1 - 1), r19.2.1, ())
      else none
     else
     if r18.1.1 = 1 then
      (r5number r18.2.1 (wi (1 + r10.1.1))).bind fun r20 =>
      (r5number r20.2.1 x11.2.2.1.levels).bind fun r21 =>
      if (((x15.1.length + ([(⟨r18.1.1, r20.1.1, r21.1.1⟩ : Ins)] : List Ins).length : Nat)) : Int) < 1000000000000 then
       self17 (x15.1 ++ ([(⟨r18.1.1, r20.1.1, r21.1.1⟩ : Ins)]), wi (x15.2.1 - 1), r21.2.1, ())
      else none
     else
     (r5number r18.2.1 4).bind fun r22 =>
     if (((x15.1.length + ([(⟨r18.1.1, r22.1.1, 0⟩ : Ins)] : List Ins).length : Nat)) : Int) < 1000000000000 then
      self17 (x15.1 ++ ([(⟨r18.1.1, r22.1.1, 0⟩ : Ins)]), wi (x15.2.1 - 1), r22.2.1, ())
     else none
    else
    some (x15.1, x15.2.1, x15.2.2.1, ())
   ) 18446744073709551616 ([], r14.1.1, r14.2.1, ())).bind fun z16 =>
   if (((x11.2.2.1.progs.length + ([z16.1] : List (List Ins)).length : Nat)) : Int) < 100000000000 then
    self13 (wi (x11.1 + 1), z16.2.2.1, ({ x11.2.2.1 with progs := x11.2.2.1.progs ++ ([z16.1]) } : Cfg), ())
   else none
  else
  some (x11.1, x11.2.1, x11.2.2.1, ())
 ) 18446744073709551616 (0, r10.2.1, (⟨wi (1 + r1.1.1), wi (1 + r2.1.1), wi (1 + r3.1.1), wi (1 + r4.1.1), wi (1 + r5.1.1), wi (1 + r6.1.1), wi (1 + r7.1.1), r8.1.1, wi (1 + r9.1.1), [], []⟩ : Cfg), ())).bind fun z12 =>
 (r5number z12.2.1 6).bind fun r23 =>
 (lpF (σ := Int × CodV × Cfg × Unit) (β := Int × CodV × Cfg × Unit) (fun self26 x24 =>
  if 0 < x24.1 then
   (r5number x24.2.1 (wi (1 + r10.1.1))).bind fun r27 =>
   (r5number r27.2.1 x24.2.2.1.levels).bind fun r28 =>
   (r5number r28.2.1 16).bind fun r29 =>
   if (((x24.2.2.1.subs.length + ([(⟨r27.1.1, r28.1.1, r29.1.1⟩ : Sub)] : List Sub).length : Nat)) : Int) < 1000000000000 then
    self26 (wi (x24.1 - 1), r29.2.1, ({ x24.2.2.1 with subs := x24.2.2.1.subs ++ ([(⟨r27.1.1, r28.1.1, r29.1.1⟩ : Sub)]) } : Cfg), ())
   else none
  else
  some (x24.1, x24.2.1, x24.2.2.1, ())
 ) 18446744073709551616 (r23.1.1, r23.2.1, z12.2.2.1, ())).bind fun z25 =>
 some ((z25.2.2.1, ()), (()))
noncomputable abbrev r5decode_k : Con SR1 := ⟨75, [.sh (.ro 17)], [.val 13], fun x => r5decode x.1⟩
theorem r5decode_ok : CO Tryz.prog r5decode_k := co_fn mixed Tryz.func75 [r5number_k] ⟨r5number_ok, trivial⟩ [] trivial (fun _ => []) [(12, .loop [.rg 6 sI_, .rg 3 (.own 19), .rg 4 (.own 20)] 18446744073709551616 0), (16, .loop [.rg 7 (.row 3), .rg 8 sI_, .rg 3 (.own 19)] 18446744073709551616 2), (29, .loop [.rg 10 sI_, .rg 3 (.own 19), .rg 4 (.own 20)] 18446744073709551616 5)] fun x => by kernel_rfl
noncomputable def kconfig (b : List Int) : Option ((Cfg × Unit) × (Unit)) :=
 (r5decode b).bind fun r1 =>
 some ((r1.1.1, ()), (()))
noncomputable abbrev kconfig_k : Con SR1 := ⟨32, [.sh (.ro 17)], [.val 13], fun x => kconfig x.1⟩
theorem kconfig_ok : CO Tryz.prog kconfig_k := co_fn mixed Tryz.func32 [r5decode_k] ⟨r5decode_ok, trivial⟩ [] trivial (fun _ => []) [] fun x => by kernel_rfl
noncomputable def machineNew (y0 : Cfg) : Option ((EnvP × Int × Unit) × (Unit)) :=
 (layoutNew y0).bind fun r1 =>
 if r1.1.2.1 ≠ 0 then
  none
 else
 (pCells r1.1.1).bind fun r2 =>
 (machineBare r2.1.1).bind fun r3 =>
 (configClone y0).bind fun r4 =>
 if r1.1.1.workers = r1.1.1.workers then
  if r1.1.1.levels = r1.1.1.levels then
   if r1.1.1.classes = r1.1.1.classes then
    if r1.1.1.tasks = r1.1.1.tasks then
     if r1.1.1.deque = r1.1.1.deque then
      if r1.1.1.heap = r1.1.1.heap then
       if r1.1.1.sleepers = r1.1.1.sleepers then
        if r1.1.1.epochs = r1.1.1.epochs then
         if r1.1.1.bitmaps = r1.1.1.bitmaps then
          if r1.1.1.queues = r1.1.1.queues then
           if r1.1.1.table = r1.1.1.table then
            if r1.1.1.workers = r1.1.1.workers then
             if r1.1.1.levels = r1.1.1.levels then
              if r1.1.1.classes = r1.1.1.classes then
               if r1.1.1.tasks = r1.1.1.tasks then
                if r1.1.1.deque = r1.1.1.deque then
                 if r1.1.1.heap = r1.1.1.heap then
                  if r1.1.1.sleepers = r1.1.1.sleepers then
                   if r1.1.1.epochs = r1.1.1.epochs then
                    if r1.1.1.bitmaps = r1.1.1.bitmaps then
                     if r1.1.1.queues = r1.1.1.queues then
                      if r1.1.1.table = r1.1.1.table then
                       (lpF (σ := Int × EnvP × Unit) (β := Int × EnvP × Unit) (fun self7 x5 =>
                        if x5.1 < y0.tasks then
                         if (((x5.2.1.recs.length + ([(⟨0, (-1), 0, 0, (-1), [], false⟩ : RecP)] : List RecP).length : Nat)) : Int) < 100000000000 then
                          self7 (wi (x5.1 + 1), ({ x5.2.1 with recs := x5.2.1.recs ++ ([(⟨0, (-1), 0, 0, (-1), [], false⟩ : RecP)]) } : EnvP), ())
                         else none
                        else
                        some (x5.1, x5.2.1, ())
                       ) 18446744073709551616 (0, ({ r3.1.1 with c := r4.1.1, l := r1.1.1 } : EnvP), ())).bind fun z6 =>
                       some ((z6.2.1, 0, ()), (()))
                      else none
                     else none
                    else none
                   else none
                  else none
                 else none
                else none
               else none
              else none
             else none
            else none
           else none
          else none
         else none
        else none
       else none
      else none
     else none
    else none
   else none
  else none
 else none
noncomputable abbrev machineNew_k : Con SR1 := ⟨33, [.val 13], [.sh (.own 27), .sh sI_], fun x => machineNew x.1⟩
theorem machineNew_ok : CO Tryz.prog machineNew_k := co_fn mixed Tryz.func33 [layoutNew_k, pCells_k, machineBare_k, configClone_k] ⟨layoutNew_ok, pCells_ok, machineBare_ok, configClone_ok, trivial⟩ [] trivial (fun _ => []) [(7, .loop [.rg 29 sI_, .rg 6 (.own 27)] 18446744073709551616 0)] fun x => by kernel_rfl
noncomputable def worksteallaw26Awake  : Option ((Bool × Unit) × (Unit)) :=
 (kconfig ([])).bind fun r1 =>
 (machineNew r1.1.1).bind fun r2 =>
 (workerNew 0).bind fun r3 =>
 if r2.1.2.1 ≠ 0 then
  some ((false, ()), (()))
 else
 (workerWorkerStatus r3.1.1).bind fun r4 =>
 if r4.1.1 ≠ 0 then
  some ((false, ()), (()))
 else
 (lpF (σ := Int × EnvP × (WorkerV MV) × Unit) (β := (Int × EnvP × (WorkerV MV) × Unit) ⊕ ((Bool × Unit) × (Unit))) (fun self7 x5 =>
  if x5.1 < 6 then
   (workerWorkerStep x5.2.2.1 x5.2.1).bind fun r8 =>
   if r8.1.1 = true then
    Option.map Sum.inr (
     some ((false, ()), (()))
    )
   else
   (workerWorkerStatus r8.2.1).bind fun r9 =>
   if (decide (r9.1.1 = 3)) ≠ (decide (x5.1 = 5)) then
    Option.map Sum.inr (
     some ((false, ()), (()))
    )
   else
   self7 (wi (x5.1 + 1), r8.2.2.1, r9.2.1, ())
  else
  some (Sum.inl (x5.1, x5.2.1, x5.2.2.1, ()))
 ) 18446744073709551616 (0, r2.1.1, r4.2.1, ())).bind fun z6 => match z6 with
 | .inr o10 => some o10
 | .inl z6 =>
 if ((z6.2.1.evs.length : Nat) : Int) = 1 then
  if 0 ≤ (0 : Int) ∧ (0 : Int) < ((z6.2.1.evs.length : Nat) : Int) then
   some ((decide (((atK2 z6.2.1.evs 0).kind) = 16 ∧ ((atK2 z6.2.1.evs 0).worker) = 0 ∧ ((atK2 z6.2.1.evs 0).task) = 0 ∧ ((atK2 z6.2.1.evs 0).other) = 0 ∧ ((atK2 z6.2.1.evs 0).level) = 0 ∧ True), ()), (()))
  else none
 else
 some ((false, ()), (()))
noncomputable abbrev worksteallaw26Awake_k : Con SR1 := ⟨35, [], [.sh .b], fun x => worksteallaw26Awake ⟩
theorem worksteallaw26Awake_ok : CO Tryz.prog worksteallaw26Awake_k := co_fn mixed Tryz.func35 [kconfig_k, machineNew_k, workerNew_k, workerWorkerStatus_k, workerWorkerStep_k] ⟨kconfig_ok, machineNew_ok, workerNew_ok, workerWorkerStatus_ok, workerWorkerStep_ok, trivial⟩ [] trivial (fun _ => []) [(6, .loopR [.rg 4 sI_, .rg 1 (.own 27), .rg 3 (.own 31)] 18446744073709551616 0)] fun x => by kernel_rfl
noncomputable def memoryMemoryCount (y0 : MemV) : Option ((Int × Unit) × (MemV × Unit)) :=
 some ((y0.count, ()), (y0, ()))
noncomputable abbrev memoryMemoryCount_k : Con SR1 := ⟨27, [.ref 9], [.sh sI_], fun x => memoryMemoryCount x.1⟩
theorem memoryMemoryCount_ok : CO Tryz.prog memoryMemoryCount_k := co_fn mixed Tryz.func27 [] trivial [] trivial (fun _ => []) [] fun x => by kernel_rfl
noncomputable def worksteallaw26WorkerIdle (y0 : Int) (y1 : Int) (y2 : Int) (y3 : Int) : Option ((Bool × Unit) × (Unit)) :=
 (kconfig ([])).bind fun r1 =>
 (machineNew ({ r1.1.1 with workers := wi (1 + (wi ((Int.tmod y0 16)))), levels := wi (1 + (wi ((Int.tmod y1 64)))), tasks := 5, age := wi ((Int.tmod y2 3)) } : Cfg)).bind fun r2 =>
 if (wi (1 + (wi ((Int.tmod y0 16))))) ≠ 0 then
  (workerNew (Int.tmod (wi (y3)) (wi (1 + (wi ((Int.tmod y0 16))))))).bind fun r3 =>
  (worksteallaw26Awake).bind fun r4 =>
  if (!r4.1.1) = true then
   some ((false, ()), (()))
  else
  (refCheck ({ r1.1.1 with workers := wi (1 + (wi ((Int.tmod y0 16)))), levels := wi (1 + (wi ((Int.tmod y1 64)))), tasks := 5, age := wi ((Int.tmod y2 3)) } : Cfg)).bind fun r5 =>
  if r5.1.1 ≠ 0 then
   some ((false, ()), (()))
  else
  if r2.1.2.1 ≠ 0 then
   some ((false, ()), (()))
  else
  if 0 < (wi ((Int.tmod y2 3))) then
   (lpF (σ := Int × EnvP × (WorkerV MV) × Unit) (β := (Int × EnvP × (WorkerV MV) × Unit) ⊕ ((Bool × Unit) × (Unit))) (fun self8 x6 =>
    if x6.1 ≤ (wi ((wi ((wi ((wi ((wi (2 + (wi (1 + (wi ((Int.tmod y0 16))))))) - 1)) + 3)) + (wi (1 + (wi ((Int.tmod y0 16))))))) + 1)) then
     (workerWorkerStep x6.2.2.1 x6.2.1).bind fun r9 =>
     (workerWorkerStatus r9.2.1).bind fun r10 =>
     if (decide (r10.1.1 = 3)) ≠ (decide (x6.1 = (wi ((wi ((wi ((wi ((wi (2 + (wi (1 + (wi ((Int.tmod y0 16))))))) - 1)) + 3)) + (wi (1 + (wi ((Int.tmod y0 16))))))) + 1)))) then
      Option.map Sum.inr (
       some ((false, ()), (()))
      )
     else
     self8 (wi (x6.1 + 1), r9.2.2.1, r10.2.1, ())
    else
    some (Sum.inl (x6.1, x6.2.1, x6.2.2.1, ()))
   ) 18446744073709551616 (1, r2.1.1, r3.1.1, ())).bind fun z7 => match z7 with
   | .inr o11 => some o11
   | .inl z7 =>
   (memoryMemoryCount z7.2.1.m).bind fun r12 =>
   if r12.1.1 = (wi ((wi ((wi ((wi ((wi (2 + (wi (1 + (wi ((Int.tmod y0 16))))))) - 1)) + 3)) + (wi (1 + (wi ((Int.tmod y0 16))))))) + 1)) then
    some ((decide (((z7.2.1.evs.length : Nat) : Int) = 1), ()), (()))
   else
   some ((false, ()), (()))
  else
  (lpF (σ := Int × EnvP × (WorkerV MV) × Unit) (β := (Int × EnvP × (WorkerV MV) × Unit) ⊕ ((Bool × Unit) × (Unit))) (fun self15 x13 =>
   if x13.1 ≤ (wi ((wi ((wi ((wi (2 + (wi (1 + (wi ((Int.tmod y0 16))))))) - 1)) + 3)) + (wi (1 + (wi ((Int.tmod y0 16))))))) then
    (workerWorkerStep x13.2.2.1 x13.2.1).bind fun r16 =>
    (workerWorkerStatus r16.2.1).bind fun r17 =>
    if (decide (r17.1.1 = 3)) ≠ (decide (x13.1 = (wi ((wi ((wi ((wi (2 + (wi (1 + (wi ((Int.tmod y0 16))))))) - 1)) + 3)) + (wi (1 + (wi ((Int.tmod y0 16))))))))) then
     Option.map Sum.inr (
      some ((false, ()), (()))
     )
    else
    self15 (wi (x13.1 + 1), r16.2.2.1, r17.2.1, ())
   else
   some (Sum.inl (x13.1, x13.2.1, x13.2.2.1, ()))
  ) 18446744073709551616 (1, r2.1.1, r3.1.1, ())).bind fun z14 => match z14 with
  | .inr o18 => some o18
  | .inl z14 =>
  (memoryMemoryCount z14.2.1.m).bind fun r19 =>
  if r19.1.1 = (wi ((wi ((wi ((wi (2 + (wi (1 + (wi ((Int.tmod y0 16))))))) - 1)) + 3)) + (wi (1 + (wi ((Int.tmod y0 16))))))) then
   some ((decide (((z14.2.1.evs.length : Nat) : Int) = 1), ()), (()))
  else
  some ((false, ()), (()))
 else none
noncomputable abbrev worksteallaw26WorkerIdle_k : Con SR1 := ⟨6, [.sh (.i .u8), .sh (.i .u8), .sh (.i .u8), .sh (.i .u8)], [.sh .b], fun x => worksteallaw26WorkerIdle x.1 x.2.1 x.2.2.1 x.2.2.2.1⟩
theorem worksteallaw26WorkerIdle_ok : CO Tryz.prog worksteallaw26WorkerIdle_k := co_fn mixed Tryz.func6 [kconfig_k, machineNew_k, workerNew_k, worksteallaw26Awake_k, refCheck_k, workerWorkerStep_k, workerWorkerStatus_k, memoryMemoryCount_k] ⟨kconfig_ok, machineNew_ok, workerNew_ok, worksteallaw26Awake_ok, refCheck_ok, workerWorkerStep_ok, workerWorkerStatus_ok, memoryMemoryCount_ok, trivial⟩ [] trivial (fun _ => []) [(11, .loopR [.rg 14 sI_, .rg 10 (.own 27), .rg 12 (.own 31)] 18446744073709551616 0)] fun x => by kernel_rfl
end
section
open Go Go.RowKit
set_option maxRecDepth 100000
theorem obind {α β : Type} (a : α) (f : α → Option β) : (some a).bind f = f a := rfl
/-- The lengths of a configuration's lists are plain. -/
structure LenOk (c : Cfg) : Prop where
  ps : c.progs.length ≤ 1000000
  pl : ∀ p ∈ c.progs, p.length ≤ 1000000
  ss : c.subs.length ≤ 1000000
theorem progs_len {lv np : Int} : ∀ {ps : List (List Ins)}, progsErr lv np ps = 0 → ∀ p ∈ ps, p.length ≤ 32
  | [], _, p, h => by cases h
  | q :: ps, h, p, hm => by
    unfold progsErr at h
    split at h
    · omega
    · split at h
      · rcases List.mem_cons.1 hm with e | e
        · subst e; omega
        · exact progs_len h p e
      · omega
theorem valid_len {c : Cfg} (h : cfgErr c = 0) : numsOk c = true ∧ c.progs.length ≤ 32 ∧ (∀ p ∈ c.progs, p.length ≤ 32) ∧ c.subs.length ≤ 64 := by
  unfold cfgErr at h
  split at h
  · omega
  · rename_i hn
    split at h
    · omega
    · rename_i hp
      have hp0 : progsAll c = 0 := by omega
      unfold progsAll at hp0
      split at hp0
      · omega
      · rename_i hl
        simp only [inB, Bool.not_eq_true', Bool.and_eq_false_iff, decide_eq_false_iff_not, not_or, Classical.not_not, Bool.not_eq_false, Bool.and_eq_true, decide_eq_true_eq] at hl
        refine ⟨by simpa using hn, by omega, progs_len hp0, ?_⟩
        unfold subsAll at h
        split at h
        · omega
        · omega
theorem LenOk.of {c : Cfg} (h : cfgErr c = 0) : LenOk c := by
  obtain ⟨_, h1, h2, h3⟩ := valid_len h
  exact ⟨by omega, fun p hp => by have := h2 p hp; omega, by omega⟩
abbrev ClS := Int × Int × Int × Int × Int × Int × Int × Int × Int × List (List Ins) × List Sub × Unit
def clS (c : Cfg) : ClS := (c.workers, c.levels, c.classes, c.tasks, c.deque, c.heap, c.batch, c.age, c.patience, c.progs, c.subs, ())
theorem set_sameP {α : Type} {xs : List α} {i : Nat} {x : α} (h : xs[i]? = some x) : xs.set i x = xs := by
  obtain ⟨hlt, rfl⟩ := List.getElem?_eq_some_iff.1 h
  simp
theorem clone_eq {c : Cfg} (h : LenOk c) : configClone c = some ((c, ()), ()) := by
  have hg : Good (configClone c) fun o => o.1.1 = c := by
    unfold configClone
    have e0 : cloneRows c.progs = some ((c.progs, ()), ()) := by unfold cloneRows; rw [if_pos h.ps]
    rw [e0, obind]
    refine Good.bind (P := fun z => z.2.1 = clS c) (lp_good (fun x => x.2.1 = clS c ∧ 0 ≤ x.1 ∧ x.1 ≤ (c.progs.length : Int)) (fun x => ((c.progs.length : Int) - x.1).toNat) (fun self x ⟨q0, q1, q2⟩ ih => ?_) _ _ ⟨rfl, Int.le_refl 0, by show (0 : Int) ≤ _; omega⟩ (by show ((c.progs.length : Int) - 0).toNat < _; have := h.ps; omega)) fun z hz => ?_
    rotate_left
    · obtain ⟨i, s, u⟩ := x
      simp only at q0 q1 q2
      subst q0
      refine Good.ite (fun hlt => ?_) fun _ => .some_ rfl
      have hin : 0 ≤ i ∧ i < ((c.progs.length : Nat) : Int) := ⟨q1, hlt⟩
      refine Good.guard (show 0 ≤ i ∧ i < (((clS c).2.2.2.2.2.2.2.2.2.1.length : Nat) : Int) from hin) fun _ => ?_
      have hm := h.pl _ (at_in (d := (dfR 18 : List Ins)) hin)
      have e1 : cloneIns (atK18 (clS c).2.2.2.2.2.2.2.2.2.1 i) = some ((atK18 c.progs i, ()), ()) := by
        unfold cloneIns; exact if_pos hm
      rw [e1, obind]
      refine Good.guard (show 0 ≤ i ∧ i < (((clS c).2.2.2.2.2.2.2.2.2.1.length : Nat) : Int) from hin) fun _ => ?_
      have e2 : wi (i + 1) = i + 1 := wi_id (rg_lit (by have := h.ps; omega))
      have e3 : c.progs.set i.toNat (atK18 c.progs i) = c.progs := set_sameP (atL_get hin)
      rw [e2]
      refine ih _ ⟨?_, by show 0 ≤ i + 1; omega, by show i + 1 ≤ _; omega⟩ (by show ((c.progs.length : Int) - (i + 1)).toNat < ((c.progs.length : Int) - i).toNat; omega)
      show (c.workers, c.levels, c.classes, c.tasks, c.deque, c.heap, c.batch, c.age, c.patience, c.progs.set i.toNat (atK18 c.progs i), c.subs, ()) = clS c
      rw [e3]; rfl
    · rw [hz]
      have e4 : cloneSubs (clS c).2.2.2.2.2.2.2.2.2.2.1 = some ((c.subs, ()), ()) := by unfold cloneSubs; exact if_pos h.ss
      rw [e4, obind]
      exact .some_ rfl
  obtain ⟨o, e, ho⟩ := hg
  rw [e]
  obtain ⟨⟨o1, ⟨⟩⟩, ⟨⟩⟩ := o
  simp only at ho
  rw [ho]
/-- The layout of a configuration. -/
def layV (c : Cfg) : LayV := { workers := c.workers, levels := c.levels, classes := c.classes, tasks := c.tasks, deque := c.deque, heap := c.heap, sleepers := 4 + c.heap, epochs := 4 + c.heap + c.classes, bitmaps := 4 + c.heap + c.classes + c.workers, queues := 4 + c.heap + c.classes + c.workers + c.workers, table := 4 + c.heap + c.classes + c.workers + c.workers + c.workers * c.levels * (2 + c.deque) }
def cellsN (c : Cfg) : Int := (layV c).table + 5 * c.tasks
theorem mulb {a b A B : Int} (ha : 0 ≤ a) (hA : a ≤ A) (hb : 0 ≤ b) (hB : b ≤ B) : 0 ≤ a * b ∧ a * b ≤ A * B :=
  ⟨Int.mul_nonneg ha hb, Int.le_trans (Int.mul_le_mul_of_nonneg_right hA hb) (Int.mul_le_mul_of_nonneg_left hB (Int.le_trans ha hA))⟩
theorem table_rg {c : Cfg} (h : numsOk c = true) : (0 ≤ c.workers * c.levels ∧ c.workers * c.levels ≤ 1024) ∧ (0 ≤ c.workers * c.levels * (2 + c.deque) ∧ c.workers * c.levels * (2 + c.deque) ≤ 67584) := by
  have hs := numsOk_spec h
  have h1 := mulb (a := c.workers) (b := c.levels) (A := 16) (B := 64) (by omega) (by omega) (by omega) (by omega)
  have h2 := mulb (a := c.workers * c.levels) (b := 2 + c.deque) (A := 1024) (B := 66) h1.1 (by omega) (by omega) (by omega)
  omega
theorem layout_eq {c : Cfg} (h : cfgErr c = 0) : layoutNew c = some ((layV c, 0, ()), ()) := by
  have hn := (valid_len h).1
  have hs := numsOk_spec hn
  have ht := table_rg hn
  unfold layoutNew cfgCheck
  rw [obind]
  have e0 : ¬ cfgErr c ≠ 0 := by omega
  simp only [if_neg e0]
  have e1 : wi (4 + c.heap) = 4 + c.heap := wi_id (rg_lit (by omega))
  have e2 : wi (4 + c.heap + c.classes) = 4 + c.heap + c.classes := wi_id (rg_lit (by omega))
  have e3 : wi (4 + c.heap + c.classes + c.workers) = 4 + c.heap + c.classes + c.workers := wi_id (rg_lit (by omega))
  have e4 : wi (4 + c.heap + c.classes + c.workers + c.workers) = 4 + c.heap + c.classes + c.workers + c.workers := wi_id (rg_lit (by omega))
  have e5 : wi (c.workers * c.levels) = c.workers * c.levels := wi_id (rg_lit (by omega))
  have e6 : wi (2 + c.deque) = 2 + c.deque := wi_id (rg_lit (by omega))
  have e7 : wi (c.workers * c.levels * (2 + c.deque)) = c.workers * c.levels * (2 + c.deque) := wi_id (rg_lit (by omega))
  have e8 : wi (4 + c.heap + c.classes + c.workers + c.workers + c.workers * c.levels * (2 + c.deque)) = 4 + c.heap + c.classes + c.workers + c.workers + c.workers * c.levels * (2 + c.deque) := wi_id (rg_lit (by omega))
  simp only [e1, e2, e3, e4, e5, e6, e7, e8]
  rfl
def rec0 : RecP := ⟨0, -1, 0, 0, -1, [], false⟩
/-- The environment behind New. -/
def envV (c : Cfg) : EnvP := ⟨c, layV c, ⟨List.replicate (cellsN c).toNat 0, ⟨0, 0, 0, 0⟩, 0⟩, ⟨0, 0⟩, List.replicate c.tasks.toNat rec0, []⟩
theorem new_eq {c : Cfg} (h : cfgErr c = 0) : machineNew c = some ((envV c, 0, ()), ()) := by
  have hn := (valid_len h).1
  have hs := numsOk_spec hn
  have ht := table_rg hn
  have hg : Good (machineNew c) fun o => o.1.1 = envV c ∧ o.1.2.1 = 0 := by
    unfold machineNew
    rw [layout_eq h, obind]
    refine Good.ite (fun e => absurd rfl e) fun _ => ?_
    have c1 : wi (5 * c.tasks) = 5 * c.tasks := wi_id (rg_lit (by omega))
    have c2 : wi ((layV c).table + 5 * c.tasks) = cellsN c := wi_id (rg_lit (by unfold layV; simp only; omega))
    have e1 : pCells (layV c) = some ((cellsN c, ()), ()) := by
      unfold pCells
      have : wi (5 * (layV c).tasks) = 5 * c.tasks := c1
      rw [this, c2]
    rw [e1, obind]
    have hc : 0 ≤ cellsN c ∧ cellsN c ≤ 131072 := by unfold cellsN layV; simp only; omega
    have e2 : machineBare (cellsN c) = some ((⟨⟨0, 0, 0, 0, 0, 0, 0, 0, 0, [], []⟩, ⟨0, 0, 0, 0, 0, 0, 0, 0, 0, 0, 0⟩, ⟨List.replicate (cellsN c).toNat 0, ⟨0, 0, 0, 0⟩, 0⟩, ⟨0, 0⟩, [], []⟩, ()), ()) := by
      unfold machineBare memoryNew clockNew
      have i1 : (if cellsN c < 0 then (0 : Int) else cellsN c) = cellsN c := if_neg (by omega)
      have i2 : (if 131072 < cellsN c then (131072 : Int) else cellsN c) = cellsN c := if_neg (by omega)
      have i3 : 0 ≤ cellsN c ∧ cellsN c ≤ 1099511627776 := by omega
      simp only [i1, i2, if_true, if_pos i3, obind]
    rw [e2, obind, clone_eq (.of h), obind]
    simp only [if_true]
    refine Good.bind (P := fun z => z.2.1 = envV c) (lp_good (fun x => 0 ≤ x.1 ∧ x.1 ≤ c.tasks ∧ x.2.1 = { envV c with recs := List.replicate x.1.toNat rec0 }) (fun x => (c.tasks - x.1).toNat) (fun self x ⟨q0, q1, q2⟩ ih => ?_) _ _ ⟨Int.le_refl 0, by show (0 : Int) ≤ _; omega, rfl⟩ (by show (c.tasks - 0).toNat < _; omega)) fun z hz => .some_ ⟨hz, rfl⟩
    obtain ⟨i, e, u⟩ := x
    simp only at q0 q1 q2
    subst q2
    refine Good.ite (fun hlt => ?_) fun hge => .some_ ?_
    · have hl : (List.replicate i.toNat rec0).length = i.toNat := List.length_replicate
      refine Good.guard ?_ fun _ => ?_
      · show (((List.replicate i.toNat rec0).length + 1 : Nat) : Int) < 100000000000
        rw [hl]
        have hlt' : i < c.tasks := hlt
        omega
      · have hlt' : i < c.tasks := hlt
        have e2 : wi (i + 1) = i + 1 := wi_id (rg_lit (by omega))
        rw [e2]
        refine ih _ ⟨by show 0 ≤ i + 1; omega, by show i + 1 ≤ _; omega, ?_⟩ (by show (c.tasks - (i + 1)).toNat < (c.tasks - i).toNat; omega)
        show ({ envV c with recs := List.replicate i.toNat rec0 ++ [rec0] } : EnvP) = { envV c with recs := List.replicate (i + 1).toNat rec0 }
        have e3 : (i + 1).toNat = i.toNat + 1 := by omega
        rw [e3, List.replicate_succ']
    · show ({ envV c with recs := List.replicate i.toNat rec0 } : EnvP) = envV c
      have : i = c.tasks := by have hge' : ¬ i < c.tasks := hge; omega
      rw [this]; rfl
  obtain ⟨o, e, ho1, ho2⟩ := hg
  rw [e]
  obtain ⟨⟨o1, o2, ⟨⟩⟩, ⟨⟩⟩ := o
  simp only at ho1 ho2
  rw [ho1, ho2]
end
section
open Go Go.RowKit
set_option maxRecDepth 100000
abbrev cel (m : MemV) (a : Int) : Int := atK0 m.cells a
abbrev o0 : OutV := ⟨false, 0, 0⟩
abbrev oE (c v : Int) : OutV := ⟨true, c, v⟩
structure CI (c : Cfg) : Prop where
  v : cfgErr c = 0
  w : 1 ≤ c.workers ∧ c.workers ≤ 16
  k : 1 ≤ c.classes ∧ c.classes ≤ 8
  h : 1 ≤ c.heap ∧ c.heap ≤ 8
  t : c.tasks = 5
  a : 0 ≤ c.age ∧ c.age ≤ 2
def tab (c : Cfg) : Int := (layV c).table
theorem tab_rg {c : Cfg} (h : CI c) : 4 + c.heap + c.classes + c.workers + c.workers ≤ tab c ∧ tab c ≤ 100000 ∧ cellsN c = tab c + 5 * c.tasks := by
  have ht := table_rg (valid_len h.v).1
  have := h.w; have := h.k; have := h.h
  have e1 : tab c = 4 + c.heap + c.classes + c.workers + c.workers + c.workers * c.levels * (2 + c.deque) := rfl
  have e2 : cellsN c = tab c + 5 * c.tasks := rfl
  rw [e2, e1]
  generalize c.workers * c.levels * (2 + c.deque) = z at *
  omega
theorem state_ad {c : Cfg} (h : CI c) {t : Int} (ht : 0 ≤ t ∧ t < 5) : pState (layV c) t = some ((tab c + t * 5, ()), ()) := by
  have hr := tab_rg h
  have h1 := h.t; have h2 := h.h; have h3 := h.k; have h4 := h.w
  have e1 : wi ((layV c).table + 0) = tab c := (wi_id (rg_lit (by show -1000000000000 ≤ tab c + 0 ∧ tab c + 0 ≤ _; omega))).trans (by show tab c + 0 = _; omega)
  have e2 : wi (t * 5) = t * 5 := wi_id (rg_lit (by omega))
  have e3 : wi (tab c + t * 5) = tab c + t * 5 := wi_id (rg_lit (by omega))
  unfold pState pTask pAt
  rw [e1, e2, e3, if_neg (by omega), if_neg (show ¬ (layV c).tasks ≤ t by show ¬ c.tasks ≤ t; omega)]
  rfl
theorem bm_ad {c : Cfg} (h : CI c) {v : Int} (hv : 0 ≤ v ∧ v < c.workers) : pBitmap (layV c) v = some ((4 + c.heap + c.classes + c.workers + v, ()), ()) := by
  have h2 := h.h; have h3 := h.k; have h4 := h.w
  have e2 : wi (v * 1) = v := by rw [Int.mul_one]; exact wi_id (rg_lit (by omega))
  have e3 : wi ((layV c).bitmaps + v) = 4 + c.heap + c.classes + c.workers + v := wi_id (rg_lit (by show -1000000000000 ≤ 4 + c.heap + c.classes + c.workers + v ∧ 4 + c.heap + c.classes + c.workers + v ≤ _; omega))
  unfold pBitmap pAt
  rw [e2, e3, if_neg (by omega), if_neg (show ¬ (layV c).workers ≤ v by show ¬ c.workers ≤ v; omega)]
  rfl
theorem ep_ad {c : Cfg} (h : CI c) {v : Int} (hv : 0 ≤ v ∧ v < c.workers) : pEpoch (layV c) v = some ((4 + c.heap + c.classes + v, ()), ()) := by
  have h2 := h.h; have h3 := h.k; have h4 := h.w
  have e2 : wi (v * 1) = v := by rw [Int.mul_one]; exact wi_id (rg_lit (by omega))
  have e3 : wi ((layV c).epochs + v) = 4 + c.heap + c.classes + v := wi_id (rg_lit (by show -1000000000000 ≤ 4 + c.heap + c.classes + v ∧ 4 + c.heap + c.classes + v ≤ _; omega))
  unfold pEpoch pAt
  rw [e2, e3, if_neg (by omega), if_neg (show ¬ (layV c).workers ≤ v by show ¬ c.workers ≤ v; omega)]
  rfl
theorem sl_ad {c : Cfg} (h : CI c) {p : Int} (hp : 0 ≤ p ∧ p < c.classes) : pSleepers (layV c) p = some ((4 + c.heap + p, ()), ()) := by
  have h2 := h.h; have h3 := h.k
  have e2 : wi (p * 1) = p := by rw [Int.mul_one]; exact wi_id (rg_lit (by omega))
  have e3 : wi ((layV c).sleepers + p) = 4 + c.heap + p := wi_id (rg_lit (by show -1000000000000 ≤ 4 + c.heap + p ∧ 4 + c.heap + p ≤ _; omega))
  unfold pSleepers pAt
  rw [e2, e3, if_neg (by omega), if_neg (show ¬ (layV c).classes ≤ p by show ¬ c.classes ≤ p; omega)]
  rfl
/-- An environment in which nothing has happened, but for sleepers; n accesses. -/
structure ZE (c : Cfg) (n : Int) (e : EnvP) : Prop where
  ec : e.c = c
  el : e.l = layV c
  en : (e.m.cells.length : Int) = cellsN c
  ez : ∀ a, 0 ≤ a → (a < 4 + c.heap ∨ 4 + c.heap + c.classes ≤ a) → cel e.m a = 0
  ek : e.k = ⟨0, 0⟩
  ev : e.evs = []
  ct : e.m.count = n
section
variable {c : Cfg} {n : Int} {e : EnvP}
theorem load0 (h : ZE c n e) (hn : 0 ≤ n ∧ n ≤ 1000) {a : Int} (ha : 0 ≤ a ∧ a < cellsN c) (hl : a < 4 + c.heap ∨ 4 + c.heap + c.classes ≤ a) : Good (pLoad e.m a) fun o => o.1.1 = 0 ∧ ZE c (n + 1) { e with m := o.2.1 } := by
  have hen := h.en
  have hin : 0 ≤ a ∧ a < ((e.m.cells.length : Nat) : Int) := by omega
  unfold pLoad
  refine Good.ite (fun k => absurd k (by omega)) fun _ => Good.ite (fun k => absurd k (by omega)) fun _ => Good.guard hin fun _ => Good.guard hin fun _ => Good.guard ?_ fun _ => .some_ ⟨h.ez a ha.1 hl, ?_⟩
  · rw [List.length_set]; exact hin
  · have es : e.m.cells.set a.toNat (atK0 e.m.cells a) = e.m.cells := set_sameP (atL_get hin)
    refine ⟨h.ec, h.el, ?_, fun b hb hb' => ?_, h.ek, h.ev, ?_⟩
    · show ((e.m.cells.set a.toNat (atK0 e.m.cells a)).length : Int) = _; rw [es]; exact hen
    · show atK0 (e.m.cells.set a.toNat (atK0 e.m.cells a)) b = 0; rw [es]; exact h.ez b hb hb'
    · show wi (e.m.count + 1) = n + 1; rw [h.ct]; exact wi_id (rg_lit (by omega))
theorem or0 (hc : CI c) (h : ZE c n e) (hn : 0 ≤ n ∧ n ≤ 1000) {a v : Int} (ha : 4 + c.heap ≤ a ∧ a < 4 + c.heap + c.classes) : Good (pOr e.m a v) fun o => ZE c (n + 1) { e with m := o.2.1 } := by
  have hen := h.en
  have hr := tab_rg hc
  have := hc.h; have := hc.w; have := hc.t
  have hin : 0 ≤ a ∧ a < ((e.m.cells.length : Nat) : Int) := by omega
  unfold pOr
  refine Good.ite (fun k => absurd k (by omega)) fun _ => Good.ite (fun k => absurd k (by omega)) fun _ => Good.guard hin fun _ => Good.guard hin fun _ => Good.guard ?_ fun _ => .some_ ?_
  · rw [List.length_set]; exact hin
  · refine ⟨h.ec, h.el, ?_, fun b hb hb' => ?_, h.ek, h.ev, ?_⟩
    · show ((e.m.cells.set a.toNat _).length : Int) = _; rw [List.length_set]; exact hen
    · have := h.ez b hb hb'
      show ((e.m.cells.set a.toNat _)[b.toNat]?).getD _ = 0
      rw [List.getElem?_set, if_neg (by omega)]
      exact this
    · show wi (e.m.count + 1) = n + 1; rw [h.ct]; exact wi_id (rg_lit (by omega))
theorem ze_bm (hc : CI c) (h : ZE c n e) {v : Int} (hv : 0 ≤ v ∧ v < c.workers) : pBitmap e.l v = some ((4 + c.heap + c.classes + c.workers + v, ()), ()) := by rw [h.el]; exact bm_ad hc hv
theorem ze_ep (hc : CI c) (h : ZE c n e) {v : Int} (hv : 0 ≤ v ∧ v < c.workers) : pEpoch e.l v = some ((4 + c.heap + c.classes + v, ()), ()) := by rw [h.el]; exact ep_ad hc hv
theorem ze_st (hc : CI c) (h : ZE c n e) {t : Int} (ht : 0 ≤ t ∧ t < 5) : pState e.l t = some ((tab c + t * 5, ()), ()) := by rw [h.el]; exact state_ad hc ht
theorem ze_sl (hc : CI c) (h : ZE c n e) {p : Int} (hp : 0 ≤ p ∧ p < c.classes) : pSleepers e.l p = some ((4 + c.heap + p, ()), ()) := by rw [h.el]; exact sl_ad hc hp
/-- A machine that is done at once, with a code. -/
abbrev Done0 (c : Cfg) (n : Int) (m : MV) (e : EnvP) (code : Int) : Prop := Good (stepD3 m e) fun o => o.1.1 = true ∧ resultD3 o.2.1 = some ((code, 0, ()), (o.2.1, ())) ∧ ZE c (n + 1) o.2.2.1
theorem take0 (hc : CI c) (h : ZE c n e) (hn : 0 ≤ n ∧ n ≤ 1000) {w : Int} (hw : 0 ≤ w ∧ w < c.workers) : Done0 c n (.take ⟨o0, w, false, .lpop ⟨o0, w, 0, 1, .nil⟩⟩) e 2 := by
  have hr := tab_rg hc
  have := hc.h; have := hc.k; have := hc.t; have := hc.w
  have hp : Good (levelsPopStep ⟨o0, w, 0, 1, .nil⟩ e) fun o => o.1.1 = true ∧ o.2.1 = ⟨oE 2 0, w, 0, 1, .nil⟩ ∧ ZE c (n + 1) o.2.2.1 := by
    unfold levelsPopStep pEnded
    rw [obind]
    refine Good.ite (fun k => by cases k) fun _ => Good.guard rfl fun _ => ?_
    unfold levelsPopLook
    rw [ze_bm hc h hw, obind]
    refine Good.bind (P := fun o => o.1.1 = true ∧ o.2.1 = ⟨oE 2 0, w, 0, 1, .nil⟩ ∧ ZE c (n + 1) o.2.2.1) ((load0 h hn (a := 4 + c.heap + c.classes + c.workers + w) ⟨by omega, by omega⟩ (.inr (by omega))).bind fun r ⟨r1, r2⟩ => Good.guard r1 fun _ => .some_ ⟨rfl, rfl, r2⟩) fun r ⟨r1, r2, r3⟩ => .some_ ⟨r1, r2, r3⟩
  show Good ((takeTakeStep _ e).bind _) _
  refine Good.bind (P := fun o => o.1.1 = true ∧ o.2.1 = ⟨oE 2 0, w, false, .lpop ⟨oE 2 0, w, 0, 1, .nil⟩⟩ ∧ ZE c (n + 1) o.2.2.1) ?_ fun r ⟨r1, r2, r3⟩ => .some_ ⟨r1, by rw [r2]; rfl, r3⟩
  unfold takeTakeStep pEnded
  rw [obind]
  refine Good.ite (fun k => by cases k) fun _ => ?_
  refine Good.bind (P := fun o => o.1.1 = true ∧ o.2.1 = .lpop ⟨oE 2 0, w, 0, 1, .nil⟩ ∧ ZE c (n + 1) o.2.2.1) ?_ fun r ⟨r1, r2, r3⟩ => ?_
  · exact hp.bind fun r ⟨r1, r2, r3⟩ => .some_ ⟨r1, by rw [r2], r3⟩
  · refine Good.ite (fun k => by rw [r1] at k; cases k) fun _ => ?_
    rw [r2]
    exact .some_ ⟨rfl, rfl, r3⟩
theorem drain0 (hc : CI c) (h : ZE c n e) (hn : 0 ≤ n ∧ n ≤ 1000) {w : Int} : Done0 c n (.drain ⟨o0, w, 1, .nil, 0, false, 0, 0, 0⟩) e 2 := by
  have hr := tab_rg hc
  have := hc.h; have := hc.k; have := hc.t; have := hc.w
  show Good ((drainDrainStep _ e).bind _) _
  refine Good.bind (P := fun o => o.1.1 = true ∧ o.2.1 = ⟨oE 2 0, w, 1, .nil, 0, false, 0, 0, 0⟩ ∧ ZE c (n + 1) o.2.2.1) ?_ fun r ⟨r1, r2, r3⟩ => .some_ ⟨r1, by rw [r2]; rfl, r3⟩
  unfold drainDrainStep pEnded
  rw [obind]
  refine Good.ite (fun k => by cases k) fun _ => Good.guard rfl fun _ => ?_
  unfold pLSize
  rw [obind]
  refine (load0 h hn (a := 2) ⟨by omega, by omega⟩ (.inl (by omega))).bind fun r ⟨r1, r2⟩ => ?_
  rw [r1]
  refine Good.guard (by decide) fun _ => .some_ ⟨rfl, rfl, r2⟩
theorem sweep0 (hc : CI c) (ha : 0 < c.age) (h : ZE c n e) (hn : 0 ≤ n ∧ n ≤ 1000) {w t : Int} (ht : 0 ≤ t ∧ t < 5) : Done0 c n (.sweep ⟨o0, w, t, 1, 0, .nil⟩) e 0 := by
  have hr := tab_rg hc
  have := hc.h; have := hc.k; have hct := hc.t; have := hc.w
  show Good ((agingSweepStep _ e).bind _) _
  refine Good.bind (P := fun o => o.1.1 = true ∧ o.2.1 = ⟨oE 0 0, w, t, 1, 0, .nil⟩ ∧ ZE c (n + 1) o.2.2.1) ?_ fun r ⟨r1, r2, r3⟩ => .some_ ⟨r1, by rw [r2]; rfl, r3⟩
  unfold agingSweepStep pEnded
  rw [obind]
  refine Good.ite (fun k => by cases k) fun _ => Good.guard rfl fun _ => Good.guard rfl fun _ => ?_
  refine Good.bind (P := fun o => o.1.1 = true ∧ o.2.1 = ⟨o0, w, t, 1, 0, .nil⟩ ∧ ZE c (n + 1) o.2.2.1) ?_ fun r ⟨r1, r2, r3⟩ => ?_
  · unfold agingSweepLook
    refine Good.guard rfl fun _ => ?_
    refine Good.bind (P := fun z => z = (false, ⟨o0, w, t, 1, 0, .nil⟩, e, ())) (Good.ite (fun k => absurd k (show ¬ t < 0 by omega)) fun _ => Good.ite (fun k => absurd k (show ¬ e.c.tasks ≤ t by rw [h.ec]; omega)) fun _ => .some_ ?_) fun z hz => ?_
    · rw [decide_eq_false (show ¬ e.c.age = 0 by rw [h.ec]; omega)]
    · subst hz
      refine Good.ite (fun k => by cases k) fun _ => ?_
      show Good ((pState e.l t).bind _) _
      rw [ze_st hc h ht, obind]
      refine (load0 h hn (a := tab c + t * 5) ⟨by omega, by omega⟩ (.inr (by omega))).bind fun r ⟨r1, r2⟩ => .some_ ⟨decide_eq_true (by rw [r1]; decide), rfl, r2⟩
  · refine Good.guard r1 fun _ => ?_
    rw [r2]
    exact .some_ ⟨rfl, rfl, r3⟩
end
end
section
open Go Go.RowKit
set_option maxRecDepth 100000
abbrev z16 : B16 := ⟨0, 0, 0, 0, 0, 0, 0, 0, 0, 0, 0, 0, 0, 0, 0, 0⟩
abbrev PV (o : OutV) (w : Int) (b : Bool) (nx : Int) : ProbeV := ⟨o, w, b, 0, nx, z16⟩
theorem high0 : pHigh 0 = some ((-1, ()), ()) := by kernel_rfl
def ps (w nx : Int) : Int := if nx = w then nx + 1 else nx
theorem pass_eq {w nx W : Int} (hw : 0 ≤ w ∧ w < W) (hW : W ≤ 16) (hn : 0 ≤ nx ∧ nx ≤ 17) : probeProbePass (PV o0 w true nx) W = some ((decide (W ≤ ps w nx), ()), (PV o0 w true (ps w nx), ())) := by
  have e1 : wi (0 + nx) = nx := (wi_id (rg_lit (by omega))).trans (by omega)
  have e2 : wi (nx + 1) = nx + 1 := wi_id (rg_lit (by omega))
  unfold probeProbePass ps
  dsimp only
  rw [e1, e2]
  by_cases h : nx < W
  · rw [if_pos h, if_pos (by omega), Int.tmod_eq_of_lt hn.1 h, obind]
    by_cases hq : nx = w
    · rw [decide_eq_true hq, if_pos rfl, if_pos hq]
    · rw [decide_eq_false hq, if_neg (by decide), if_neg hq]
  · rw [if_neg h, obind, if_neg (by decide), if_neg (by omega)]
section
variable {c : Cfg} {n : Int} {e : EnvP}
/-- One worker more has been looked at. -/
theorem probe_step (hc : CI c) (h : ZE c n e) (hn : 0 ≤ n ∧ n ≤ 1000) {w nx : Int} {b : Bool} (hw : 0 ≤ w ∧ w < c.workers) (hx : 0 ≤ nx) (hb : b = false → nx = 0) (hk : ps w nx < c.workers) :
    Good (stepD3 (.probe (PV o0 w b nx)) e) fun o => ZE c (n + 1) o.2.2.1 ∧ (ps w (ps w nx + 1) < c.workers → o.1.1 = false ∧ o.2.1 = .probe (PV o0 w true (ps w (ps w nx + 1)))) ∧ (c.workers ≤ ps w (ps w nx + 1) → o.1.1 = true ∧ resultD3 o.2.1 = some ((2, 0, ()), (o.2.1, ()))) := by
  have hr := tab_rg hc
  have hch := hc.h; have hck := hc.k; have hct := hc.t; have hcw := hc.w
  have hkn : nx ≤ ps w nx := by unfold ps; split <;> omega
  obtain ⟨k, hke⟩ : ∃ k, k = ps w nx := ⟨_, rfl⟩
  rw [← hke] at hk hkn ⊢
  have hk0 : 0 ≤ k := by omega
  have eW : (if 16 < e.c.workers then 16 else e.c.workers) = c.workers := by rw [h.ec, if_neg (by omega)]
  have eN : ((c.workers.toNat : Nat) : Int) = c.workers := Int.toNat_of_nonneg (by omega)
  show Good ((probeProbeStep _ e).bind _) _
  refine Good.bind (P := fun o => ZE c (n + 1) o.2.2.1 ∧ (ps w (k + 1) < c.workers → o.1.1 = false ∧ o.2.1 = PV o0 w true (ps w (k + 1))) ∧ (c.workers ≤ ps w (k + 1) → o.1.1 = true ∧ o.2.1.o = oE 2 0)) ?_ fun r ⟨r1, r2, r3⟩ => .some_ ⟨r1, fun q => ⟨(r2 q).1, by rw [(r2 q).2]⟩, fun q => ⟨(r3 q).1, by show some ((r.2.1.o.code, r.2.1.o.value, ()), (_, ())) = _; rw [(r3 q).2]⟩⟩
  unfold probeProbeStep pEnded
  rw [obind, eW, eN]
  refine Good.ite (fun q => by cases q) fun _ => ?_
  refine Good.bind (P := fun z => z = (PV o0 w true nx, e, ())) ?_ fun z hz => ?_
  · refine Good.ite (fun q => ?_) fun q => ?_
    · have hb' : b = false := by simpa using q
      obtain rfl := hb hb'
      have hd : pDraw e.k c.workers = some ((0, ()), (e.k, ())) := by
        unfold pDraw
        rw [if_neg (by omega), if_pos (by omega), h.ek]
        show (if Int.tmod 0 c.workers < 0 then _ else _) = _
        rw [Int.zero_tmod, if_neg (by decide)]
      rw [hd, obind]
      exact .some_ rfl
    · have hb' : b = true := by simpa using q
      subst hb'
      exact .some_ rfl
  · subst hz
    dsimp only
    rw [pass_eq hw (by omega) ⟨hx, by omega⟩, ← hke, obind]
    refine Good.ite (fun q => absurd (of_decide_eq_true q) (by omega)) fun _ => Good.guard (by omega) fun _ => ?_
    have e1 : wi (0 + k) = k := (wi_id (rg_lit (by omega))).trans (by omega)
    have e2 : wi (k + 1) = k + 1 := wi_id (rg_lit (by omega))
    have e3 : Int.tmod (wi (0 + k)) c.workers = k := by rw [e1]; exact Int.tmod_eq_of_lt hk0 hk
    dsimp only
    rw [e3]
    refine Good.bind (P := fun z => z.1 = PV o0 w true k ∧ ZE c (n + 1) z.2.1) ?_ fun z ⟨z1, z2⟩ => ?_
    · rw [ze_bm hc h ⟨hk0, hk⟩, obind]
      refine (load0 h hn (a := 4 + c.heap + c.classes + c.workers + k) ⟨by omega, by omega⟩ (.inr (by omega))).bind fun r ⟨r1, r2⟩ => ?_
      rw [r1]
      iterate 16 refine Good.ite (fun _ => .some_ ⟨rfl, r2⟩) fun _ => ?_
      exfalso; omega
    · rw [z1]
      dsimp only
      rw [e2, pass_eq hw (by omega) ⟨by omega, by omega⟩, obind]
      refine Good.ite (fun q => ?_) fun q => ?_
      · have q' : ¬ c.workers ≤ ps w (k + 1) := of_decide_eq_false (by simpa using q)
        exact .some_ ⟨z2, fun _ => ⟨rfl, rfl⟩, fun q2 => absurd q2 q'⟩
      · have q' : c.workers ≤ ps w (k + 1) := of_decide_eq_true (by simpa using q)
        refine Good.guard (show 0 ≤ c.workers ∧ c.workers ≤ ((16 : Nat) : Int) by omega) fun _ => Good.guard rfl fun _ => Good.guard rfl fun _ => ?_
        have hm : pMod 0 c.workers = some ((0, ()), ()) := by
          unfold pMod
          rw [if_neg (by omega), if_pos (by omega), Int.zero_tmod, if_neg (by decide)]
        refine Good.bind (P := fun x => x.1 = -1 ∧ x.2.2.2.1 = PV o0 w true (ps w (k + 1))) (lp_good (fun x => (x.1 = -1 ∧ x.2.1 = -1) ∧ (0 ≤ x.2.2.1 ∧ x.2.2.1 ≤ c.workers) ∧ x.2.2.2.1 = PV o0 w true (ps w (k + 1))) (fun x => (c.workers - x.2.2.1).toNat) (fun self x hx ih => ?_) _ _ ⟨⟨rfl, rfl⟩, ⟨Int.le_refl 0, by show (0 : Int) ≤ c.workers; omega⟩, rfl⟩ (by show (c.workers - 0).toNat < _; omega)) fun x ⟨x1, x2⟩ => ?_
        · obtain ⟨a1, a2, i, p, u⟩ := x
          obtain ⟨⟨y1, y2⟩, ⟨y3, y4⟩, y5⟩ := hx
          simp only at y1 y2 y3 y4 y5
          subst y1 y2 y5
          refine Good.ite (fun hlt => ?_) fun hge => .some_ ⟨rfl, rfl⟩
          have hlt' : i < c.workers := hlt
          have e4 : wi (0 + i) = i := (wi_id (rg_lit (by omega))).trans (by omega)
          have e5 : Int.tmod (wi (0 + i)) c.workers = i := by rw [e4]; exact Int.tmod_eq_of_lt y3 hlt'
          have e6 : wi (i + 1) = i + 1 := wi_id (rg_lit (by omega))
          have hgo : Good (self (-1, -1, wi (i + 1), PV o0 w true (ps w (k + 1)), ())) fun x => x.1 = -1 ∧ x.2.2.2.1 = PV o0 w true (ps w (k + 1)) := by
            rw [e6]
            exact ih _ ⟨⟨rfl, rfl⟩, ⟨by show 0 ≤ i + 1; omega, by show i + 1 ≤ _; omega⟩, rfl⟩ (by show (c.workers - (i + 1)).toNat < (c.workers - i).toNat; omega)
          dsimp only
          rw [hm, obind]
          refine Good.guard (by omega) fun _ => ?_
          dsimp only
          rw [e5]
          refine Good.bind (P := fun z => z.1 = -1 ∧ z.2.1 = PV o0 w true (ps w (k + 1))) ?_ fun z ⟨z1, z2⟩ => ?_
          · refine Good.guard hlt' fun _ => ?_
            iterate 16 refine Good.ite (fun _ => by rw [high0, obind]; exact .some_ ⟨rfl, rfl⟩) fun _ => ?_
            exfalso; omega
          · rw [z1, z2]
            refine Good.ite (fun _ => Good.ite (fun q => absurd q (by decide)) fun _ => hgo) fun _ => hgo
        · refine Good.guard (by rw [x1]; decide) fun _ => ?_
          rw [x2]
          exact .some_ ⟨z2, fun q2 => by omega, fun _ => ⟨rfl, rfl⟩⟩
abbrev SV (w l v : Int) : MV := .sleep ⟨o0, w, l, 0, v, 0⟩
theorem sleep1 (hc : CI c) (h : ZE c n e) (hn : 0 ≤ n ∧ n ≤ 1000) {w : Int} (hw : 0 ≤ w ∧ w < c.workers) : Good (stepD3 (SV w 1 0) e) fun o => o.1.1 = false ∧ o.2.1 = SV w 2 0 ∧ ZE c (n + 1) o.2.2.1 := by
  have hr := tab_rg hc
  have hch := hc.h; have hck := hc.k; have hct := hc.t; have hcw := hc.w
  show Good ((parkSleepStep _ e).bind _) _
  refine Good.bind (P := fun o => o.1.1 = false ∧ o.2.1 = ⟨o0, w, 2, 0, 0, 0⟩ ∧ ZE c (n + 1) o.2.2.1) ?_ fun r ⟨r1, r2, r3⟩ => .some_ ⟨r1, by rw [r2], r3⟩
  unfold parkSleepStep pEnded
  rw [obind]
  refine Good.ite (fun k => by cases k) fun _ => Good.guard rfl fun _ => ?_
  dsimp only
  rw [ze_ep hc h hw, obind]
  refine (load0 h hn (a := 4 + c.heap + c.classes + w) ⟨by omega, by omega⟩ (.inr (by omega))).bind fun r ⟨r1, r2⟩ => .some_ ⟨rfl, by rw [r1], r2⟩
theorem sleep2 (hc : CI c) (h : ZE c n e) (hn : 0 ≤ n ∧ n ≤ 1000) {w : Int} (hw : 0 ≤ w ∧ w < c.workers) : Good (stepD3 (SV w 2 0) e) fun o => o.1.1 = false ∧ o.2.1 = SV w 3 0 ∧ ZE c (n + 1) o.2.2.1 := by
  have hr := tab_rg hc
  have hch := hc.h; have hck := hc.k; have hct := hc.t; have hcw := hc.w
  show Good ((parkSleepStep _ e).bind _) _
  refine Good.bind (P := fun o => o.1.1 = false ∧ o.2.1 = ⟨o0, w, 3, 0, 0, 0⟩ ∧ ZE c (n + 1) o.2.2.1) ?_ fun r ⟨r1, r2, r3⟩ => .some_ ⟨r1, by rw [r2], r3⟩
  unfold parkSleepStep pEnded
  rw [obind]
  refine Good.ite (fun k => by cases k) fun _ => Good.ite (fun k => absurd (show (2 : Int) = 1 from k) (by decide)) fun _ => Good.guard rfl fun _ => ?_
  refine Good.bind (P := fun z => ZE c (n + 1) z.1) (Good.ite (fun k => absurd k (by rw [h.ec]; omega)) fun _ => ?_) fun z hz => .some_ ⟨rfl, rfl, hz⟩
  have hm : ∃ p, (0 ≤ p ∧ p < c.classes) ∧ pMod w e.c.classes = some ((p, ()), ()) := by
    refine ⟨Int.tmod w c.classes, tmod_lt hck.1 hw.1, ?_⟩
    have := tmod_lt hck.1 hw.1
    unfold pMod
    rw [h.ec, if_neg (by omega), if_pos (by omega), if_neg (by omega)]
  obtain ⟨p, hp, hm⟩ := hm
  have hbit : ∃ q, pBit w = some ((q, ()), ()) := by
    have e1 : wu w = w := by show IntKind.u64.wrap w = w; simp only [IntKind.wrap, IntKind.bits, IntKind.signed]; simp; omega
    unfold pBit
    rw [if_neg (by omega), if_neg (by omega), if_pos (by rw [e1]; omega)]
    exact ⟨_, rfl⟩
  obtain ⟨q, hq⟩ := hbit
  dsimp only
  rw [hm, obind]
  iterate 11 refine Good.guard rfl fun _ => ?_
  dsimp only
  rw [ze_sl hc h hp, obind]
  refine Good.guard rfl fun _ => ?_
  rw [hq, obind]
  exact (or0 hc h hn (a := 4 + c.heap + p) ⟨by omega, by omega⟩).bind fun r hr => .some_ hr
theorem sleep3 (hc : CI c) (h : ZE c n e) (hn : 0 ≤ n ∧ n ≤ 1000) {w : Int} : Good (stepD3 (SV w 3 0) e) fun o => o.1.1 = false ∧ o.2.1 = SV w 4 0 ∧ ZE c (n + 1) o.2.2.1 := by
  have hr := tab_rg hc
  have hch := hc.h; have hck := hc.k; have hct := hc.t; have hcw := hc.w
  show Good ((parkSleepStep _ e).bind _) _
  refine Good.bind (P := fun o => o.1.1 = false ∧ o.2.1 = ⟨o0, w, 4, 0, 0, 0⟩ ∧ ZE c (n + 1) o.2.2.1) ?_ fun r ⟨r1, r2, r3⟩ => .some_ ⟨r1, by rw [r2], r3⟩
  unfold parkSleepStep pEnded
  rw [obind]
  refine Good.ite (fun k => by cases k) fun _ => Good.ite (fun k => absurd (show (3 : Int) = 1 from k) (by decide)) fun _ => Good.ite (fun k => absurd (show (3 : Int) = 2 from k) (by decide)) fun _ => Good.guard rfl fun _ => ?_
  unfold pLSize
  rw [obind]
  refine (load0 h hn (a := 2) ⟨by omega, by omega⟩ (.inl (by omega))).bind fun r ⟨r1, r2⟩ => Good.ite (fun k => absurd r1 k) fun _ => .some_ ⟨rfl, rfl, r2⟩
/-- What is there when the worker sleeps. -/
def Asl (n : Int) (m : MV) (e : EnvP) : Prop := (∃ x : SleepV, m = .sleep x ∧ x.line = 5) ∧ e.evs.length = 1 ∧ e.m.count = n
theorem sleep4 (hc : CI c) (h : ZE c n e) (hn : 0 ≤ n ∧ n ≤ 1000) {w v : Int} (hv : 0 ≤ v ∧ v < c.workers) : Good (stepD3 (SV w 4 v) e) fun o => o.1.1 = false ∧ (v + 1 < c.workers → o.2.1 = SV w 4 (v + 1) ∧ ZE c (n + 1) o.2.2.1) ∧ (c.workers ≤ v + 1 → Asl (n + 1) o.2.1 o.2.2.1) := by
  have hr := tab_rg hc
  have hch := hc.h; have hck := hc.k; have hct := hc.t; have hcw := hc.w
  show Good ((parkSleepStep _ e).bind _) _
  refine Good.bind (P := fun o => o.1.1 = false ∧ (v + 1 < c.workers → o.2.1 = ⟨o0, w, 4, 0, v + 1, 0⟩ ∧ ZE c (n + 1) o.2.2.1) ∧ (c.workers ≤ v + 1 → o.2.1.line = 5 ∧ o.2.2.1.evs.length = 1 ∧ o.2.2.1.m.count = n + 1)) ?_ fun r ⟨r1, r2, r3⟩ => .some_ ⟨r1, fun q => ⟨by rw [(r2 q).1], (r2 q).2⟩, fun q => ⟨⟨_, rfl, (r3 q).1⟩, (r3 q).2⟩⟩
  unfold parkSleepStep pEnded
  rw [obind]
  refine Good.ite (fun k => by cases k) fun _ => Good.ite (fun k => absurd (show (4 : Int) = 1 from k) (by decide)) fun _ => Good.ite (fun k => absurd (show (4 : Int) = 2 from k) (by decide)) fun _ => Good.ite (fun k => absurd (show (4 : Int) = 3 from k) (by decide)) fun _ => Good.guard rfl fun _ => ?_
  refine Good.bind (P := fun o => (v + 1 < c.workers → o.2.1 = ⟨o0, w, 4, 0, v + 1, 0⟩ ∧ ZE c (n + 1) o.2.2.1) ∧ (c.workers ≤ v + 1 → o.2.1.line = 5 ∧ o.2.2.1.evs.length = 1 ∧ o.2.2.1.m.count = n + 1)) ?_ fun r hr => .some_ ⟨rfl, hr⟩
  unfold parkSleepLook
  dsimp only
  rw [ze_bm hc h hv, obind]
  have e1 : wi (v + 1) = v + 1 := wi_id (rg_lit (by omega))
  rw [e1]
  refine (load0 h hn (a := 4 + c.heap + c.classes + c.workers + v) ⟨by omega, by omega⟩ (.inr (by omega))).bind fun r ⟨r1, r2⟩ => Good.ite (fun k => absurd r1 k) fun _ => Good.ite (fun q => ?_) fun q => ?_
  · have q' : c.workers ≤ v + 1 := by rw [h.ec] at q; exact q
    have hl : e.evs = [] := h.ev
    unfold pEmit
    refine Good.bind (P := fun y => y.2.1.evs.length = 1 ∧ y.2.1.m.count = n + 1) (Good.guard (by show ((((e.evs).length + 1 : Nat)) : Int) < _; rw [hl]; decide) fun _ => .some_ ⟨by show (e.evs ++ _).length = 1; rw [hl]; rfl, r2.ct⟩) fun y hy => ?_
    unfold pNow
    exact .some_ ⟨fun q2 => by omega, fun _ => ⟨rfl, hy⟩⟩
  · have q' : ¬ c.workers ≤ v + 1 := by rw [h.ec] at q; exact q
    exact .some_ ⟨fun _ => ⟨rfl, r2⟩, fun q2 => absurd q2 q'⟩
end
end
section
open Go Go.RowKit
set_option maxRecDepth 100000
abbrev tkV (w : Int) : MV := .take ⟨o0, w, false, .lpop ⟨o0, w, 0, 1, .nil⟩⟩
abbrev drV (w : Int) : MV := .drain ⟨o0, w, 1, .nil, 0, false, 0, 0, 0⟩
section
variable {w cu code v l x : Int} {i : MV} {e : EnvP}
theorem found1 : workerWorkerFound ⟨w, cu, 1, i, v, l, x⟩ e code 0 = some ((), (⟨w, wi (cu + 1), 2, tkV w, v, l, x⟩, e, ())) := by kernel_rfl
theorem found2 : workerWorkerFound ⟨w, cu, 2, i, v, l, x⟩ e 2 0 = some ((), (⟨w, cu, 3, drV w, v, l, x⟩, e, ())) := by kernel_rfl
theorem found3 : workerWorkerFound ⟨w, cu, 3, i, v, l, x⟩ e 2 0 = (workerWorkerIdle ⟨w, cu, 3, i, v, l, x⟩ e).bind fun r => some ((), (r.2.1, r.2.2.1, ())) := by kernel_rfl
theorem found4 : workerWorkerFound ⟨w, cu, 4, i, v, l, x⟩ e 2 0 = some ((), (⟨w, cu, 8, SV w 1 0, v, l, x⟩, e, ())) := by kernel_rfl
end
/-- A step of a worker that is in a line. -/
theorem step_go {x : WorkerV MV} {e : EnvP} {Q : WorkerV MV → EnvP → Prop} (hl : x.line ≠ 0) (h : Good (stepD3 x.inside e) fun o => (o.1.1 = false → Q { x with inside := o.2.1 } o.2.2.1) ∧ (o.1.1 = true → ∃ code, resultD3 o.2.1 = some ((code, 0, ()), (o.2.1, ())) ∧ x.line ≤ 4 ∧ Good (workerWorkerFound { x with inside := o.2.1 } o.2.2.1 code 0) fun z => Q z.2.1 z.2.2.1)) :
    Good (workerWorkerStep x e) fun o => Q o.2.1 o.2.2.1 := by
  unfold workerWorkerStep
  refine Good.ite (fun k => absurd k hl) fun _ => h.bind fun r ⟨h1, h2⟩ => Good.ite (fun k => .some_ (h1 (by simpa using k))) fun k => ?_
  obtain ⟨code, hr, h4, hf⟩ := h2 (by simpa using k)
  rw [hr, obind]
  exact Good.guard h4 fun _ => hf.bind fun z hz => .some_ hz
theorem step_st {x x' : WorkerV MV} {e : EnvP} {Q : WorkerV MV → EnvP → Prop} (hl : x.line = 0) (hs : workerWorkerStart x e = some ((), (x', e, ()))) (h : Good (stepD3 x'.inside e) fun o => (o.1.1 = false → Q { x' with inside := o.2.1 } o.2.2.1) ∧ (o.1.1 = true → ∃ code, resultD3 o.2.1 = some ((code, 0, ()), (o.2.1, ())) ∧ x'.line ≤ 4 ∧ Good (workerWorkerFound { x' with inside := o.2.1 } o.2.2.1 code 0) fun z => Q z.2.1 z.2.2.1)) :
    Good (workerWorkerStep x e) fun o => Q o.2.1 o.2.2.1 := by
  unfold workerWorkerStep
  rw [hs, obind]
  refine Good.guard hl fun _ => h.bind fun r ⟨h1, h2⟩ => Good.ite (fun k => .some_ (h1 (by simpa using k))) fun k => ?_
  obtain ⟨code, hr, h4, hf⟩ := h2 (by simpa using k)
  rw [hr, obind]
  exact Good.guard h4 fun _ => hf.bind fun z hz => .some_ hz
/-- How many are left to be looked at. -/
def left (W w k : Int) : Int := if k ≤ w then W - k - 1 else W - k
inductive WI (c : Cfg) (w T : Int) : WorkerV MV → EnvP → Int → Prop
  | st {e : EnvP} {r : Int} (h : ZE c (T - r) e) (h0 : c.age = 0 → r = 2 * c.workers + 4) (h1 : 0 < c.age → r = 2 * c.workers + 5) (hr : 0 ≤ T - r ∧ T - r ≤ 500) : WI c w T ⟨w, 0, 0, .nil, 0, 0, 0⟩ e r
  | tk {e : EnvP} {r cu v l x : Int} (h : ZE c (T - r) e) (h0 : r = 2 * c.workers + 4) (hr : 0 ≤ T - r ∧ T - r ≤ 500) : WI c w T ⟨w, cu, 2, tkV w, v, l, x⟩ e r
  | dr {e : EnvP} {r cu v l x : Int} (h : ZE c (T - r) e) (h0 : r = 2 * c.workers + 3) (hr : 0 ≤ T - r ∧ T - r ≤ 500) : WI c w T ⟨w, cu, 3, drV w, v, l, x⟩ e r
  | pr {e : EnvP} {r cu v l x nx : Int} {b : Bool} (h : ZE c (T - r) e) (hx : 0 ≤ nx) (hb : b = false → nx = 0) (hk : ps w nx < c.workers) (h0 : r = left c.workers w (ps w nx) + c.workers + 3) (hr : 0 ≤ T - r ∧ T - r ≤ 500) : WI c w T ⟨w, cu, 4, .probe (PV o0 w b nx), v, l, x⟩ e r
  | s1 {e : EnvP} {r cu v l x : Int} (h : ZE c (T - r) e) (h0 : r = c.workers + 3) (hr : 0 ≤ T - r ∧ T - r ≤ 500) : WI c w T ⟨w, cu, 8, SV w 1 0, v, l, x⟩ e r
  | s2 {e : EnvP} {r cu v l x : Int} (h : ZE c (T - r) e) (h0 : r = c.workers + 2) (hr : 0 ≤ T - r ∧ T - r ≤ 500) : WI c w T ⟨w, cu, 8, SV w 2 0, v, l, x⟩ e r
  | s3 {e : EnvP} {r cu v l x : Int} (h : ZE c (T - r) e) (h0 : r = c.workers + 1) (hr : 0 ≤ T - r ∧ T - r ≤ 500) : WI c w T ⟨w, cu, 8, SV w 3 0, v, l, x⟩ e r
  | s4 {e : EnvP} {r cu v l x u : Int} (h : ZE c (T - r) e) (hu : 0 ≤ u ∧ u < c.workers) (h0 : r = c.workers - u) (hr : 0 ≤ T - r ∧ T - r ≤ 500) : WI c w T ⟨w, cu, 8, SV w 4 u, v, l, x⟩ e r
  | fin {e : EnvP} {cu v l x : Int} {m : MV} (h : Asl T m e) : WI c w T ⟨w, cu, 8, m, v, l, x⟩ e 0
section
variable {c : Cfg} {w T : Int}
theorem ZE.at {n n' : Int} {e : EnvP} (h : ZE c n e) (e1 : n = n') : ZE c n' e := e1 ▸ h
theorem wi_step (hc : CI c) (hw : 0 ≤ w ∧ w < c.workers) {x : WorkerV MV} {e : EnvP} {r : Int} (h : WI c w T x e r) (hr0 : 0 < r) (hT : T ≤ 500) : Good (workerWorkerStep x e) fun o => WI c w T o.2.1 o.2.2.1 (r - 1) := by
  have hcw := hc.w
  cases h with
  | st h h0 h1 hr =>
    by_cases ha : c.age = 0
    · refine step_st (Q := fun x e => WI c w T x e (r - 1)) (x' := ⟨w, 0, 2, tkV w, 0, 0, 0⟩) rfl (by unfold workerWorkerStart; rw [h.ec, if_pos ha]; rfl) ((take0 hc h ⟨hr.1, by omega⟩ hw).mono fun o ⟨q1, q2, q3⟩ => ⟨fun k => (by rw [q1] at k; cases k), fun _ => ⟨2, q2, show (2 : Int) ≤ 4 by decide, ?_⟩⟩)
      rw [show ({ (⟨w, 0, 2, tkV w, 0, 0, 0⟩ : WorkerV MV) with inside := o.2.1 } : WorkerV MV) = ⟨w, 0, 2, o.2.1, 0, 0, 0⟩ from rfl, found2]
      have := h0 ha
      exact .some_ (WI.dr (q3.at (by omega)) (by omega) (by omega))
    · have ha' : 0 < c.age := by have := hc.a; omega
      have hm : ∀ z : Int, 0 ≤ z ∧ z ≤ 100 → pMod z 5 = some ((Int.tmod z 5, ()), ()) ∧ 0 ≤ Int.tmod z 5 ∧ Int.tmod z 5 < 5 := fun z hz => by
        have := tmod_lt (a := z) (b := 5) (by decide) hz.1
        refine ⟨?_, this⟩
        unfold pMod
        rw [if_neg (by decide), if_pos (by decide), if_neg (by omega)]
      obtain ⟨m1, m2, m3⟩ := hm w (by omega)
      have e1 : wi (Int.tmod w 5 + 0) = Int.tmod w 5 := (wi_id (rg_lit (by omega))).trans (by omega)
      obtain ⟨m4, m5, m6⟩ := hm (Int.tmod w 5) (by omega)
      refine step_st (Q := fun x e => WI c w T x e (r - 1)) (x' := ⟨w, 0, 1, .sweep ⟨o0, w, Int.tmod (Int.tmod w 5) 5, 1, 0, .nil⟩, 0, 0, 0⟩) rfl ?_ ((sweep0 hc ha' h ⟨hr.1, by omega⟩ ⟨m5, m6⟩).mono fun o ⟨q1, q2, q3⟩ => ⟨fun k => (by rw [q1] at k; cases k), fun _ => ⟨0, q2, show (1 : Int) ≤ 4 by decide, ?_⟩⟩)
      · unfold workerWorkerStart
        rw [h.ec, if_neg ha, hc.t]
        dsimp only
        rw [m1, obind, if_pos rfl, if_pos rfl, if_pos rfl, e1, m4, obind, if_pos rfl]
        rfl
      · rw [show ({ (⟨w, 0, 1, .sweep ⟨o0, w, Int.tmod (Int.tmod w 5) 5, 1, 0, .nil⟩, 0, 0, 0⟩ : WorkerV MV) with inside := o.2.1 } : WorkerV MV) = ⟨w, 0, 1, o.2.1, 0, 0, 0⟩ from rfl, found1]
        have := h1 ha'
        exact .some_ (WI.tk (q3.at (by omega)) (by omega) (by omega))
  | @tk e r cu v l x h h0 hr =>
    refine step_go (Q := fun x e => WI c w T x e (r - 1)) (show (2 : Int) ≠ 0 by decide) ((take0 hc h ⟨hr.1, by omega⟩ hw).mono fun o ⟨q1, q2, q3⟩ => ⟨fun k => (by rw [q1] at k; cases k), fun _ => ⟨2, q2, show (2 : Int) ≤ 4 by decide, ?_⟩⟩)
    rw [show ({ (⟨w, cu, 2, tkV w, v, l, x⟩ : WorkerV MV) with inside := o.2.1 } : WorkerV MV) = ⟨w, cu, 2, o.2.1, v, l, x⟩ from rfl, found2]
    exact .some_ (WI.dr (q3.at (by omega)) (by omega) (by omega))
  | @dr e r cu v l x h h0 hr =>
    refine step_go (Q := fun x e => WI c w T x e (r - 1)) (show (3 : Int) ≠ 0 by decide) ((drain0 hc h ⟨hr.1, by omega⟩).mono fun o ⟨q1, q2, q3⟩ => ⟨fun k => (by rw [q1] at k; cases k), fun _ => ⟨2, q2, show (3 : Int) ≤ 4 by decide, ?_⟩⟩)
    rw [show ({ (⟨w, cu, 3, drV w, v, l, x⟩ : WorkerV MV) with inside := o.2.1 } : WorkerV MV) = ⟨w, cu, 3, o.2.1, v, l, x⟩ from rfl, found3]
    unfold workerWorkerIdle
    rw [q3.ec]
    by_cases h1 : c.workers = 1
    · rw [if_pos h1]
      exact .some_ (WI.s1 (q3.at (by omega)) (by omega) (by omega))
    · rw [if_neg h1]
      have hp : ps w 0 < c.workers ∧ left c.workers w (ps w 0) = c.workers - 1 := by
        unfold ps left
        split <;> split <;> omega
      exact .some_ (WI.pr (nx := 0) (b := false) (q3.at (by omega)) (Int.le_refl 0) (fun _ => rfl) hp.1 (by rw [hp.2]; omega) (by omega))
  | @pr e r cu v l x nx b h hx hb hk h0 hr =>
    have hl : (ps w (ps w nx + 1) < c.workers → left c.workers w (ps w (ps w nx + 1)) = left c.workers w (ps w nx) - 1) ∧ (c.workers ≤ ps w (ps w nx + 1) → left c.workers w (ps w nx) = 1) := by
      have h1 : ps w nx ≠ w ∧ nx ≤ ps w nx := by unfold ps; split <;> omega
      obtain ⟨k, hke⟩ : ∃ k, k = ps w nx := ⟨_, rfl⟩
      rw [← hke] at h1 hk ⊢
      unfold ps left
      constructor
      · intro h; split at h <;> split <;> split <;> omega
      · intro h; split at h <;> split <;> omega
    refine step_go (Q := fun x e => WI c w T x e (r - 1)) (show (4 : Int) ≠ 0 by decide) ((probe_step hc h ⟨hr.1, by omega⟩ hw hx hb hk).mono fun o ⟨q1, q2, q3⟩ => ⟨fun k => ?_, fun k => ?_⟩)
    · by_cases hq : ps w (ps w nx + 1) < c.workers
      · rw [show ({ (⟨w, cu, 4, .probe (PV o0 w b nx), v, l, x⟩ : WorkerV MV) with inside := o.2.1 } : WorkerV MV) = ⟨w, cu, 4, o.2.1, v, l, x⟩ from rfl, (q2 hq).2]
        have h5 : 0 ≤ ps w (ps w nx + 1) := by have : 0 ≤ ps w nx := by { unfold ps; split <;> omega }; unfold ps at *; split <;> omega
        have h6 := hl.1 hq
        have h7 : ps w (ps w (ps w nx + 1)) = ps w (ps w nx + 1) := by
          have : ps w (ps w nx + 1) ≠ w := by generalize ps w nx + 1 = z; unfold ps; split <;> omega
          generalize ps w (ps w nx + 1) = z at this ⊢
          unfold ps; rw [if_neg this]
        exact WI.pr (q1.at (by omega)) h5 (fun e => by cases e) (by rw [h7]; exact hq) (by rw [h7, h6]; omega) (by omega)
      · rw [(q3 (by omega)).1] at k; cases k
    · by_cases hq : ps w (ps w nx + 1) < c.workers
      · rw [(q2 hq).1] at k; cases k
      · refine ⟨2, (q3 (by omega)).2, show (4 : Int) ≤ 4 by decide, ?_⟩
        rw [show ({ (⟨w, cu, 4, .probe (PV o0 w b nx), v, l, x⟩ : WorkerV MV) with inside := o.2.1 } : WorkerV MV) = ⟨w, cu, 4, o.2.1, v, l, x⟩ from rfl, found4]
        have := hl.2 (by omega)
        exact .some_ (WI.s1 (q1.at (by omega)) (by omega) (by omega))
  | @s1 e r cu v l x h h0 hr =>
    refine step_go (Q := fun x e => WI c w T x e (r - 1)) (show (8 : Int) ≠ 0 by decide) ((sleep1 hc h ⟨hr.1, by omega⟩ hw).mono fun o ⟨q1, q2, q3⟩ => ⟨fun k => ?_, fun k => (by rw [q1] at k; cases k)⟩)
    rw [show ({ (⟨w, cu, 8, SV w 1 0, v, l, x⟩ : WorkerV MV) with inside := o.2.1 } : WorkerV MV) = ⟨w, cu, 8, o.2.1, v, l, x⟩ from rfl, q2]
    exact WI.s2 (q3.at (by omega)) (by omega) (by omega)
  | @s2 e r cu v l x h h0 hr =>
    refine step_go (Q := fun x e => WI c w T x e (r - 1)) (show (8 : Int) ≠ 0 by decide) ((sleep2 hc h ⟨hr.1, by omega⟩ hw).mono fun o ⟨q1, q2, q3⟩ => ⟨fun k => ?_, fun k => (by rw [q1] at k; cases k)⟩)
    rw [show ({ (⟨w, cu, 8, SV w 2 0, v, l, x⟩ : WorkerV MV) with inside := o.2.1 } : WorkerV MV) = ⟨w, cu, 8, o.2.1, v, l, x⟩ from rfl, q2]
    exact WI.s3 (q3.at (by omega)) (by omega) (by omega)
  | @s3 e r cu v l x h h0 hr =>
    refine step_go (Q := fun x e => WI c w T x e (r - 1)) (show (8 : Int) ≠ 0 by decide) ((sleep3 hc h ⟨hr.1, by omega⟩ (w := w)).mono fun o ⟨q1, q2, q3⟩ => ⟨fun k => ?_, fun k => (by rw [q1] at k; cases k)⟩)
    rw [show ({ (⟨w, cu, 8, SV w 3 0, v, l, x⟩ : WorkerV MV) with inside := o.2.1 } : WorkerV MV) = ⟨w, cu, 8, o.2.1, v, l, x⟩ from rfl, q2]
    exact WI.s4 (q3.at (by omega)) ⟨Int.le_refl 0, by omega⟩ (by omega) (by omega)
  | @s4 e r cu v l x u h hu h0 hr =>
    refine step_go (Q := fun x e => WI c w T x e (r - 1)) (show (8 : Int) ≠ 0 by decide) ((sleep4 hc h ⟨hr.1, by omega⟩ (w := w) hu).mono fun o ⟨q1, q2, q3⟩ => ⟨fun k => ?_, fun k => (by rw [q1] at k; cases k)⟩)
    rw [show ({ (⟨w, cu, 8, SV w 4 u, v, l, x⟩ : WorkerV MV) with inside := o.2.1 } : WorkerV MV) = ⟨w, cu, 8, o.2.1, v, l, x⟩ from rfl]
    by_cases hq : u + 1 < c.workers
    · rw [(q2 hq).1]
      exact WI.s4 ((q2 hq).2.at (by omega)) ⟨by omega, hq⟩ (by omega) (by omega)
    · have h1 : r - 1 = 0 := by omega
      have h2 := q3 (by omega)
      rw [show T - r + 1 = T by omega] at h2
      rw [h1]
      exact WI.fin h2
  | fin h => omega
theorem wi_status {x : WorkerV MV} {e : EnvP} {r : Int} (h : WI c w T x e r) : ∃ s, workerWorkerStatus x = some ((s, ()), (x, ())) ∧ (s = 3 ↔ r = 0 ∧ x.line = 8 ∧ asl x.inside = true) := by
  cases h with
  | st h h0 h1 hr => exact ⟨0, rfl, by simp⟩
  | tk h h0 hr => exact ⟨1, rfl, by simp⟩
  | dr h h0 hr => exact ⟨1, rfl, by simp⟩
  | pr h hx hb hk h0 hr => exact ⟨1, rfl, by simp⟩
  | s1 h h0 hr => exact ⟨1, rfl, by simp [asl]⟩
  | s2 h h0 hr => exact ⟨1, rfl, by simp [asl]⟩
  | s3 h h0 hr => exact ⟨1, rfl, by simp [asl]⟩
  | s4 h hu h0 hr => exact ⟨1, rfl, by simp [asl]⟩
  | fin h =>
    obtain ⟨⟨y, rfl, hy⟩, _⟩ := h
    refine ⟨3, ?_, by simp [asl, hy]⟩
    unfold workerWorkerStatus parkAsleep
    dsimp only [asl]
    rw [decide_eq_true hy]
    rfl
theorem wi_zero (hc : CI c) {x : WorkerV MV} {e : EnvP} {r : Int} (h : WI c w T x e r) (h0 : r = 0) : (x.line = 8 ∧ asl x.inside = true) ∧ e.evs.length = 1 ∧ e.m.count = T := by
  have hw := hc.w
  have ha := hc.a
  cases h with
  | st h q0 q1 hr => by_cases h : c.age = 0 <;> omega
  | tk h q0 hr => omega
  | dr h q0 hr => omega
  | pr h hx hb hk q0 hr => unfold left at q0; split at q0 <;> omega
  | s1 h q0 hr => omega
  | s2 h q0 hr => omega
  | s3 h q0 hr => omega
  | s4 h hu q0 hr => omega
  | fin h =>
    obtain ⟨⟨y, rfl, hy⟩, h1, h2⟩ := h
    exact ⟨⟨rfl, by simp [asl, hy]⟩, h1, h2⟩
end
theorem rep0 {n : Nat} {a : Int} : atK0 (List.replicate n 0) a = 0 := by
  show ((List.replicate n (0 : Int))[a.toNat]?).getD _ = 0
  rw [List.getElem?_replicate]
  split
  · rfl
  · kernel_rfl
theorem ze_new {c : Cfg} (hc : CI c) : ZE c 0 (envV c) := by
  have := tab_rg hc
  have := hc.h; have := hc.k; have := hc.t; have := hc.w
  refine ⟨rfl, rfl, ?_, fun a _ _ => rep0, rfl, rfl, rfl⟩
  show ((List.replicate (cellsN c).toNat (0 : Int)).length : Int) = cellsN c
  rw [List.length_replicate]; omega
theorem ci_of {W L A : Int} (hW : 1 ≤ W ∧ W ≤ 16) (hL : 1 ≤ L ∧ L ≤ 64) (hA : 0 ≤ A ∧ A ≤ 2) : CI ⟨W, L, 1, 5, 1, 1, 1, A, 1, [[]], []⟩ := by
  refine ⟨?_, hW, ⟨by show (1 : Int) ≤ 1; decide, by show (1 : Int) ≤ 8; decide⟩, ⟨by show (1 : Int) ≤ 1; decide, by show (1 : Int) ≤ 8; decide⟩, rfl, hA⟩
  have hn : numsOk ⟨W, L, 1, 5, 1, 1, 1, A, 1, [[]], []⟩ = true := by
    simp only [numsOk, inB, Bool.and_eq_true, decide_eq_true_eq]
    split <;> omega
  unfold cfgErr
  rw [hn]
  have hp : progsAll ⟨W, L, 1, 5, 1, 1, 1, A, 1, [[]], []⟩ = 0 := by
    unfold progsAll
    rfl
  have hs : subsAll ⟨W, L, 1, 5, 1, 1, 1, A, 1, [[]], []⟩ = 0 := by
    unfold subsAll
    rfl
  rw [hp]
  exact hs
theorem awake26 : worksteallaw26Awake = some ((true, ()), ()) := by kernel_rfl
theorem config0 : kconfig [] = some ((⟨1, 1, 1, 1, 1, 1, 1, 0, 1, [[]], []⟩, ()), ()) := by kernel_rfl
abbrev IdB := (Int × EnvP × (WorkerV MV) × Unit) ⊕ ((Bool × Unit) × Unit)
/-- The loop of the law. -/
theorem idle_loop {c : Cfg} (hc : CI c) {w T : Int} (hw : 0 ≤ w ∧ w < c.workers) (hT : 1 ≤ T ∧ T ≤ 500) {x0 : WorkerV MV} {e0 : EnvP} (h0 : WI c w T x0 e0 T) :
    Good (lpF (σ := Int × EnvP × (WorkerV MV) × Unit) (β := IdB) (fun self x => if x.1 ≤ T then (workerWorkerStep x.2.2.1 x.2.1).bind fun r9 => (workerWorkerStatus r9.2.1).bind fun r10 => if (decide (r10.1.1 = 3)) ≠ (decide (x.1 = T)) then Option.map Sum.inr (some ((false, ()), ())) else self (wi (x.1 + 1), r9.2.2.1, r10.2.1, ()) else some (Sum.inl (x.1, x.2.1, x.2.2.1, ()))) 18446744073709551616 (1, e0, x0, ())) fun z => ∃ y : Int × EnvP × (WorkerV MV) × Unit, z = .inl y ∧ y.2.1.evs.length = 1 ∧ y.2.1.m.count = T := by
  refine lp_good (fun x => WI c w T x.2.2.1 x.2.1 (T + 1 - x.1) ∧ 1 ≤ x.1 ∧ x.1 ≤ T + 1) (fun x => (T + 1 - x.1).toNat) (fun self x hx ih => ?_) _ _ ⟨?_, Int.le_refl 1, by show (1 : Int) ≤ T + 1; omega⟩ (by show (T + 1 - 1).toNat < _; omega)
  · obtain ⟨i, e, x, u⟩ := x
    obtain ⟨q1, q2, q3⟩ := hx
    simp only at q1 q2 q3
    refine Good.ite (fun hlt => ?_) fun hge => ?_
    · have hlt' : i ≤ T := hlt
      refine (wi_step hc hw q1 (by omega) hT.2).bind fun r hr => ?_
      obtain ⟨s, hs, hs3⟩ := wi_status hr
      have e1 : wi (i + 1) = i + 1 := wi_id (rg_lit (by omega))
      rw [hs, obind]
      refine Good.ite (fun k => absurd ?_ k) fun _ => ?_
      · show decide (s = 3) = decide (i = T)
        by_cases hi : i = T
        · have hz : T + 1 - i - 1 = 0 := by omega
          have := (wi_zero hc hr hz).1
          rw [decide_eq_true hi, decide_eq_true (hs3.2 ⟨hz, this.1, this.2⟩)]
        · rw [decide_eq_false hi, decide_eq_false fun h => by have := (hs3.1 h).1; omega]
      · show Good (self (wi (i + 1), r.2.2.1, r.2.1, ())) _
        rw [e1]
        refine ih _ ⟨?_, by show 1 ≤ i + 1; omega, by show i + 1 ≤ T + 1; omega⟩ (by show (T + 1 - (i + 1)).toNat < (T + 1 - i).toNat; omega)
        show WI c w T r.2.1 r.2.2.1 (T + 1 - (i + 1))
        rw [show T + 1 - (i + 1) = T + 1 - i - 1 by omega]
        exact hr
    · have hge' : ¬ i ≤ T := hge
      exact .some_ ⟨_, rfl, (wi_zero hc q1 (by omega)).2⟩
  · show WI c w T x0 e0 (T + 1 - 1)
    rw [show T + 1 - 1 = T by omega]
    exact h0
theorem idle_true {y0 y1 y2 y3 : Int} (h0 : 0 ≤ y0 ∧ y0 ≤ 255) (h1 : 0 ≤ y1 ∧ y1 ≤ 255) (h2 : 0 ≤ y2 ∧ y2 ≤ 255) (h3 : 0 ≤ y3 ∧ y3 ≤ 255) : worksteallaw26WorkerIdle y0 y1 y2 y3 = some ((true, ()), ()) := by
  have hg : Good (worksteallaw26WorkerIdle y0 y1 y2 y3) fun o => o = ((true, ()), ()) := by
    unfold worksteallaw26WorkerIdle
    rw [config0, obind]
    have t0 := tmod_lt (a := y0) (b := 16) (by decide) h0.1
    have t1 := tmod_lt (a := y1) (b := 64) (by decide) h1.1
    have t2 := tmod_lt (a := y2) (b := 3) (by decide) h2.1
    have a0 : wi (Int.tmod y0 16) = Int.tmod y0 16 := wi_id (rg_lit (by omega))
    have a1 : wi (Int.tmod y1 64) = Int.tmod y1 64 := wi_id (rg_lit (by omega))
    have a2 : wi (Int.tmod y2 3) = Int.tmod y2 3 := wi_id (rg_lit (by omega))
    have b0 : wi (1 + Int.tmod y0 16) = 1 + Int.tmod y0 16 := wi_id (rg_lit (by omega))
    have b1 : wi (1 + Int.tmod y1 64) = 1 + Int.tmod y1 64 := wi_id (rg_lit (by omega))
    have b3 : wi y3 = y3 := wi_id (rg_lit (by omega))
    rw [a0, a1, a2, b0, b1, b3]
    obtain ⟨W, hW⟩ : ∃ W, W = 1 + Int.tmod y0 16 := ⟨_, rfl⟩
    obtain ⟨L, hL⟩ : ∃ L, L = 1 + Int.tmod y1 64 := ⟨_, rfl⟩
    obtain ⟨A, hA⟩ : ∃ A, A = Int.tmod y2 3 := ⟨_, rfl⟩
    rw [← hW, ← hL, ← hA]
    have c1 : wi (2 + W) = 2 + W := wi_id (rg_lit (by omega))
    have c2 : wi (2 + W - 1) = 2 + W - 1 := wi_id (rg_lit (by omega))
    have c3 : wi (2 + W - 1 + 3) = 2 + W - 1 + 3 := wi_id (rg_lit (by omega))
    have c4 : wi (2 + W - 1 + 3 + W) = 2 * W + 4 := (wi_id (rg_lit (by omega))).trans (by omega)
    have c5 : wi (2 * W + 4 + 1) = 2 * W + 5 := (wi_id (rg_lit (by omega))).trans (by omega)
    rw [c1, c2, c3, c4, c5]
    have hc : CI ⟨W, L, 1, 5, 1, 1, 1, A, 1, [[]], []⟩ := ci_of (by omega) (by omega) (by omega)
    have hz := ze_new hc
    have hw := tmod_lt (a := y3) (b := W) (by omega) h3.1
    obtain ⟨w, hwe⟩ : ∃ w, w = Int.tmod y3 W := ⟨_, rfl⟩
    rw [← hwe] at hw ⊢
    have hN : workerNew w = some ((⟨w, 0, 0, .nil, 0, 0, 0⟩, ()), ()) := rfl
    have hR : refCheck ⟨W, L, 1, 5, 1, 1, 1, A, 1, [[]], []⟩ = some ((0, ()), ()) := by unfold refCheck; rw [hc.v]
    dsimp only
    rw [new_eq hc.v, obind]
    refine Good.guard (by omega) fun _ => ?_
    rw [hN, obind, awake26, obind]
    refine Good.ite (fun k => by cases k) fun _ => ?_
    rw [hR, obind]
    refine Good.ite (fun k => absurd rfl k) fun _ => Good.ite (fun k => absurd rfl k) fun _ => Good.ite (fun hA' => ?_) fun hA' => ?_
    · refine (idle_loop hc (w := w) (T := 2 * W + 5) hw (by omega) (x0 := ⟨w, 0, 0, .nil, 0, 0, 0⟩) (e0 := envV _) (.st (hz.at (by omega)) (fun k => by have k' : A = 0 := k; omega) (fun _ => rfl) (by omega))).bind fun z hz' => ?_
      obtain ⟨y, rfl, q1, q2⟩ := hz'
      show Good ((memoryMemoryCount y.2.1.m).bind _) _
      rw [show memoryMemoryCount y.2.1.m = some ((y.2.1.m.count, ()), (y.2.1.m, ())) from rfl, obind]
      refine Good.guard q2 fun _ => .some_ ?_
      rw [decide_eq_true (show ((y.2.1.evs.length : Nat) : Int) = 1 by omega)]
    · refine (idle_loop hc (w := w) (T := 2 * W + 4) hw (by omega) (x0 := ⟨w, 0, 0, .nil, 0, 0, 0⟩) (e0 := envV _) (.st (hz.at (by omega)) (fun _ => rfl) (fun k => by have k' : 0 < A := k; omega) (by omega))).bind fun z hz' => ?_
      obtain ⟨y, rfl, q1, q2⟩ := hz'
      show Good ((memoryMemoryCount y.2.1.m).bind _) _
      rw [show memoryMemoryCount y.2.1.m = some ((y.2.1.m.count, ()), (y.2.1.m, ())) from rfl, obind]
      refine Good.guard q2 fun _ => .some_ ?_
      rw [decide_eq_true (show ((y.2.1.evs.length : Nat) : Int) = 1 by omega)]
  obtain ⟨o, e, ho⟩ := hg
  rw [e, ho]
end
end Go.Proofs.YtgiagoeoifgliaaGreat
