/- RunnerFull in the evaluator's form. -/
import Derived.Test.YtgiagoeoifgliaaGreatQcak
set_option linter.all false
namespace Go.Proofs.YtgiagoeoifgliaaGreat
open Go Go.RowKit
set_option maxRecDepth 100000
noncomputable def lockTry (y0 : Int) : Option ((MV × Unit) × (Unit)) :=
 some ((MV.attempt (⟨⟨false, 0, 0⟩, y0, true⟩ : AttemptV), ()), (()))
noncomputable abbrev lockTry_k : Con SR1 := ⟨248, [.sh sI_], [.sh .mach], fun x => lockTry x.1⟩
theorem lockTry_ok : CO Tryz.prog lockTry_k := co_fn mixed Tryz.func248 [] trivial [] trivial (fun _ => []) [] fun x => by kernel_rfl
noncomputable def drainDrainRun (y0 : (DrainV MV)) (y1 : Int) (y2 : MV) : Option ((Unit) × ((DrainV MV) × Unit)) :=
 some ((()), (({ y0 with line := y1, inside := y2 } : (DrainV MV)), ()))
noncomputable abbrev drainDrainRun_k : Con SR1 := ⟨247, [.ref 41, .sh sI_, .sh .mach], [], fun x => drainDrainRun x.1 x.2.1 x.2.2.1⟩
theorem drainDrainRun_ok : CO Tryz.prog drainDrainRun_k := co_fn mixed Tryz.func247 [] trivial [] trivial (fun _ => []) [] fun x => by kernel_rfl
noncomputable def injectorRemove (y0 : Int) : Option ((MV × Unit) × (Unit)) :=
 some ((MV.remove (⟨⟨false, 0, 0⟩, y0, 1, 0, 0, 0, 0, 0, 0⟩ : RemoveV), ()), (()))
noncomputable abbrev injectorRemove_k : Con SR1 := ⟨253, [.sh sI_], [.sh .mach], fun x => injectorRemove x.1⟩
theorem injectorRemove_ok : CO Tryz.prog injectorRemove_k := co_fn mixed Tryz.func253 [] trivial [] trivial (fun _ => []) [] fun x => by kernel_rfl
noncomputable def drainDrainRemove (y0 : (DrainV MV)) : Option ((Unit) × ((DrainV MV) × Unit)) :=
 (injectorRemove y0.worker).bind fun r1 =>
 (drainDrainRun y0 3 r1.1.1).bind fun r2 =>
 some ((()), (r2.2.1, ()))
noncomputable abbrev drainDrainRemove_k : Con SR1 := ⟨250, [.ref 41], [], fun x => drainDrainRemove x.1⟩
theorem drainDrainRemove_ok : CO Tryz.prog drainDrainRemove_k := co_fn mixed Tryz.func250 [injectorRemove_k, drainDrainRun_k] ⟨injectorRemove_ok, drainDrainRun_ok, trivial⟩ [] trivial (fun _ => []) [] fun x => by kernel_rfl
noncomputable def lockRelease  : Option ((MV × Unit) × (Unit)) :=
 some ((MV.release (⟨⟨false, 0, 0⟩⟩ : ReleaseV), ()), (()))
noncomputable abbrev lockRelease_k : Con SR1 := ⟨210, [], [.sh .mach], fun x => lockRelease ⟩
theorem lockRelease_ok : CO Tryz.prog lockRelease_k := co_fn mixed Tryz.func210 [] trivial [] trivial (fun _ => []) [] fun x => by kernel_rfl
noncomputable def drainDrainRelease (y0 : (DrainV MV)) : Option ((Unit) × ((DrainV MV) × Unit)) :=
 (lockRelease).bind fun r1 =>
 (drainDrainRun y0 6 r1.1.1).bind fun r2 =>
 some ((()), (r2.2.1, ()))
noncomputable abbrev drainDrainRelease_k : Con SR1 := ⟨246, [.ref 41], [], fun x => drainDrainRelease x.1⟩
theorem drainDrainRelease_ok : CO Tryz.prog drainDrainRelease_k := co_fn mixed Tryz.func246 [lockRelease_k, drainDrainRun_k] ⟨lockRelease_ok, drainDrainRun_ok, trivial⟩ [] trivial (fun _ => []) [] fun x => by kernel_rfl
noncomputable def drainDrainPushed (y0 : (DrainV MV)) (y1 : Int) : Option ((Unit) × ((DrainV MV) × Unit)) :=
 if y1 = 3 then
  (drainDrainRelease ({ y0 with direct := true } : (DrainV MV))).bind fun r1 =>
  some ((()), (r1.2.1, ()))
 else
 some ((()), (({ y0 with last := y0.p, count := wi (y0.count + 1) } : (DrainV MV)), ()))
noncomputable abbrev drainDrainPushed_k : Con SR1 := ⟨251, [.ref 41, .sh sI_], [], fun x => drainDrainPushed x.1 x.2.1⟩
theorem drainDrainPushed_ok : CO Tryz.prog drainDrainPushed_k := co_fn mixed Tryz.func251 [drainDrainRelease_k] ⟨drainDrainRelease_ok, trivial⟩ [] trivial (fun _ => []) [] fun x => by kernel_rfl
noncomputable def parkWake (y0 : Int) (y1 : Int) : Option ((MV × Unit) × (Unit)) :=
 some ((MV.wake (⟨⟨false, 0, 0⟩, y0, y1, 1, 0, 0⟩ : WakeV), ()), (()))
noncomputable abbrev parkWake_k : Con SR1 := ⟨190, [.sh sI_, .sh sI_], [.sh .mach], fun x => parkWake x.1 x.2.1⟩
theorem parkWake_ok : CO Tryz.prog parkWake_k := co_fn mixed Tryz.func190 [] trivial [] trivial (fun _ => []) [] fun x => by kernel_rfl
noncomputable def drainDrainFinish (y0 : (DrainV MV)) : Option ((Bool × Unit) × ((DrainV MV) × Unit)) :=
 if y0.direct = true then
  (pEnd y0.o 1 y0.x).bind fun r1 =>
  some ((r1.1.1, ()), (({ y0 with o := r1.2.1 } : (DrainV MV)), ()))
 else
 if 0 < y0.count then
  (pEnd y0.o 0 y0.count).bind fun r2 =>
  some ((r2.1.1, ()), (({ y0 with o := r2.2.1 } : (DrainV MV)), ()))
 else
 (pEnd y0.o 2 0).bind fun r3 =>
 some ((r3.1.1, ()), (({ y0 with o := r3.2.1 } : (DrainV MV)), ()))
noncomputable abbrev drainDrainFinish_k : Con SR1 := ⟨252, [.ref 41], [.sh .b], fun x => drainDrainFinish x.1⟩
theorem drainDrainFinish_ok : CO Tryz.prog drainDrainFinish_k := co_fn mixed Tryz.func252 [pEnd_k] ⟨pEnd_ok, trivial⟩ [] trivial (fun _ => []) [] fun x => by kernel_rfl
noncomputable def drainDrainAfter (y0 : (DrainV MV)) (y1 : EnvP) (y2 : Int) (y3 : Int) : Option ((Bool × Unit) × ((DrainV MV) × EnvP × Unit)) :=
 if y0.line = 2 then
  if y2 = 5 then
   (pEnd y0.o 5 0).bind fun r1 =>
   some ((r1.1.1, ()), (({ y0 with o := r1.2.1 } : (DrainV MV)), y1, ()))
  else
  if y0.line = 2 then
   (drainDrainRemove y0).bind fun r2 =>
   some ((false, ()), (r2.2.1, y1, ()))
  else
  if y0.line = 3 then
   if y2 = 2 then
    (drainDrainRelease y0).bind fun r3 =>
    some ((false, ()), (r3.2.1, y1, ()))
   else
   if y0.line = 3 then
    (drainDrainRun ({ y0 with x := y3 } : (DrainV MV)) 4 MV.nil).bind fun r4 =>
    some ((false, ()), (r4.2.1, y1, ()))
   else
   if y0.line = 5 then
    (drainDrainPushed y0 y2).bind fun r5 =>
    if r5.2.1.direct = true then
     some ((false, ()), (r5.2.1, y1, ()))
    else
    if r5.2.1.count < y1.c.batch then
     (drainDrainRemove r5.2.1).bind fun r6 =>
     some ((false, ()), (r6.2.1, y1, ()))
    else
    (drainDrainRelease r5.2.1).bind fun r7 =>
    some ((false, ()), (r7.2.1, y1, ()))
   else
   if y0.line = 6 then
    if 0 < y0.count then
     (parkWake y0.worker y0.last).bind fun r8 =>
     (drainDrainRun y0 7 r8.1.1).bind fun r9 =>
     some ((false, ()), (r9.2.1, y1, ()))
    else
    (drainDrainFinish y0).bind fun r10 =>
    some ((r10.1.1, ()), (r10.2.1, y1, ()))
   else
   (drainDrainFinish y0).bind fun r11 =>
   some ((r11.1.1, ()), (r11.2.1, y1, ()))
  else
  if y0.line = 3 then
   (drainDrainRun ({ y0 with x := y3 } : (DrainV MV)) 4 MV.nil).bind fun r12 =>
   some ((false, ()), (r12.2.1, y1, ()))
  else
  if y0.line = 5 then
   (drainDrainPushed y0 y2).bind fun r13 =>
   if r13.2.1.direct = true then
    some ((false, ()), (r13.2.1, y1, ()))
   else
   if r13.2.1.count < y1.c.batch then
    (drainDrainRemove r13.2.1).bind fun r14 =>
    some ((false, ()), (r14.2.1, y1, ()))
   else
   (drainDrainRelease r13.2.1).bind fun r15 =>
   some ((false, ()), (r15.2.1, y1, ()))
  else
  if y0.line = 6 then
   if 0 < y0.count then
    (parkWake y0.worker y0.last).bind fun r16 =>
    (drainDrainRun y0 7 r16.1.1).bind fun r17 =>
    some ((false, ()), (r17.2.1, y1, ()))
   else
   (drainDrainFinish y0).bind fun r18 =>
   some ((r18.1.1, ()), (r18.2.1, y1, ()))
  else
  (drainDrainFinish y0).bind fun r19 =>
  some ((r19.1.1, ()), (r19.2.1, y1, ()))
 else
 if y0.line = 2 then
  (drainDrainRemove y0).bind fun r20 =>
  some ((false, ()), (r20.2.1, y1, ()))
 else
 if y0.line = 3 then
  if y2 = 2 then
   (drainDrainRelease y0).bind fun r21 =>
   some ((false, ()), (r21.2.1, y1, ()))
  else
  if y0.line = 3 then
   (drainDrainRun ({ y0 with x := y3 } : (DrainV MV)) 4 MV.nil).bind fun r22 =>
   some ((false, ()), (r22.2.1, y1, ()))
  else
  if y0.line = 5 then
   (drainDrainPushed y0 y2).bind fun r23 =>
   if r23.2.1.direct = true then
    some ((false, ()), (r23.2.1, y1, ()))
   else
   if r23.2.1.count < y1.c.batch then
    (drainDrainRemove r23.2.1).bind fun r24 =>
    some ((false, ()), (r24.2.1, y1, ()))
   else
   (drainDrainRelease r23.2.1).bind fun r25 =>
   some ((false, ()), (r25.2.1, y1, ()))
  else
  if y0.line = 6 then
   if 0 < y0.count then
    (parkWake y0.worker y0.last).bind fun r26 =>
    (drainDrainRun y0 7 r26.1.1).bind fun r27 =>
    some ((false, ()), (r27.2.1, y1, ()))
   else
   (drainDrainFinish y0).bind fun r28 =>
   some ((r28.1.1, ()), (r28.2.1, y1, ()))
  else
  (drainDrainFinish y0).bind fun r29 =>
  some ((r29.1.1, ()), (r29.2.1, y1, ()))
 else
 if y0.line = 3 then
  (drainDrainRun ({ y0 with x := y3 } : (DrainV MV)) 4 MV.nil).bind fun r30 =>
  some ((false, ()), (r30.2.1, y1, ()))
 else
 if y0.line = 5 then
  (drainDrainPushed y0 y2).bind fun r31 =>
  if r31.2.1.direct = true then
   some ((false, ()), (r31.2.1, y1, ()))
  else
  if r31.2.1.count < y1.c.batch then
   (drainDrainRemove r31.2.1).bind fun r32 =>
   some ((false, ()), (r32.2.1, y1, ()))
  else
  (drainDrainRelease r31.2.1).bind fun r33 =>
  some ((false, ()), (r33.2.1, y1, ()))
 else
 if y0.line = 6 then
  if 0 < y0.count then
   (parkWake y0.worker y0.last).bind fun r34 =>
   (drainDrainRun y0 7 r34.1.1).bind fun r35 =>
   some ((false, ()), (r35.2.1, y1, ()))
  else
  (drainDrainFinish y0).bind fun r36 =>
  some ((r36.1.1, ()), (r36.2.1, y1, ()))
 else
 (drainDrainFinish y0).bind fun r37 =>
 some ((r37.1.1, ()), (r37.2.1, y1, ()))
noncomputable abbrev drainDrainAfter_k : Con SR1 := ⟨249, [.ref 41, .ref 27, .sh sI_, .sh sI_], [.sh .b], fun x => drainDrainAfter x.1 x.2.1 x.2.2.1 x.2.2.2.1⟩
theorem drainDrainAfter_ok : CO Tryz.prog drainDrainAfter_k := co_fn mixed Tryz.func249 [pEnd_k, drainDrainRemove_k, drainDrainRelease_k, drainDrainRun_k, drainDrainPushed_k, parkWake_k, drainDrainFinish_k] ⟨pEnd_ok, drainDrainRemove_ok, drainDrainRelease_ok, drainDrainRun_ok, drainDrainPushed_ok, parkWake_ok, drainDrainFinish_ok, trivial⟩ [] trivial (fun _ => []) [] fun x => by kernel_rfl
noncomputable def drainDrainStep (y0 : (DrainV MV)) (y1 : EnvP) : Option ((Bool × Unit) × ((DrainV MV) × EnvP × Unit)) :=
 (pEnded y0.o).bind fun r1 =>
 if r1.1.1 = true then
  some ((true, ()), (({ y0 with o := r1.2.1 } : (DrainV MV)), y1, ()))
 else
 if y0.line = 1 then
  (pLSize y1.l).bind fun r2 =>
  (pLoad y1.m r2.1.1).bind fun r3 =>
  if (wi (r3.1.1)) ≤ 0 then
   (pEnd r1.2.1 2 0).bind fun r4 =>
   some ((r4.1.1, ()), (({ y0 with o := r4.2.1 } : (DrainV MV)), ({ y1 with m := r3.2.1 } : EnvP), ()))
  else
  (lockTry y0.worker).bind fun r5 =>
  (drainDrainRun ({ y0 with o := r1.2.1 } : (DrainV MV)) 2 r5.1.1).bind fun r6 =>
  some ((false, ()), (r6.2.1, ({ y1 with m := r3.2.1 } : EnvP), ()))
 else
 if y0.line = 4 then
  (pLevel y1.l y0.x).bind fun r7 =>
  (pLoad y1.m r7.1.1).bind fun r8 =>
  (levelsPush y0.worker (wi (r8.1.1)) y0.x).bind fun r9 =>
  (drainDrainRun ({ y0 with o := r1.2.1, p := wi (r8.1.1) } : (DrainV MV)) 5 r9.1.1).bind fun r10 =>
  some ((false, ()), (r10.2.1, ({ y1 with m := r8.2.1 } : EnvP), ()))
 else
 (stepD1 y0.inside y1).bind fun r11 =>
 if (!r11.1.1) = true then
  some ((false, ()), (({ y0 with o := r1.2.1, inside := r11.2.1 } : (DrainV MV)), r11.2.2.1, ()))
 else
 (resultD1 r11.2.1).bind fun r12 =>
 (drainDrainAfter ({ y0 with o := r1.2.1, inside := r12.2.1 } : (DrainV MV)) r11.2.2.1 r12.1.1 r12.1.2.1).bind fun r13 =>
 some ((r13.1.1, ()), (r13.2.1, r13.2.2.1, ()))
noncomputable abbrev drainDrainStep_k : Con SR1 := ⟨245, [.ref 41, .ref 27], [.sh .b], fun x => drainDrainStep x.1 x.2.1⟩
theorem drainDrainStep_ok : CO Tryz.prog drainDrainStep_k := co_fn mixed Tryz.func245 [pEnded_k, pLSize_k, pLoad_k, pEnd_k, lockTry_k, drainDrainRun_k, pLevel_k, levelsPush_k, stepD1_k, resultD1_k, drainDrainAfter_k] ⟨pEnded_ok, pLSize_ok, pLoad_ok, pEnd_ok, lockTry_ok, drainDrainRun_ok, pLevel_ok, levelsPush_ok, stepD1_ok, resultD1_ok, drainDrainAfter_ok, trivial⟩ [] trivial (fun _ => []) [] fun x => by kernel_rfl
noncomputable def stepD2 (m : MV) (e : EnvP) : Option ((Bool × Unit) × (MV × EnvP × Unit)) :=
 match m with
 | .alloc x => (tableAllocateStep x e).bind fun o => some (o.1, (MV.alloc o.2.1, o.2.2))
 | .publish x => (tablePublishStep x e).bind fun o => some (o.1, (MV.publish o.2.1, o.2.2))
 | .claim x => (tableClaimStep x e).bind fun o => some (o.1, (MV.claim o.2.1, o.2.2))
 | .attempt x => (lockAttemptStep x e).bind fun o => some (o.1, (MV.attempt o.2.1, o.2.2))
 | .release x => (lockReleaseStep x e).bind fun o => some (o.1, (MV.release o.2.1, o.2.2))
 | .opush x => (ownerPushStep x e).bind fun o => some (o.1, (MV.opush o.2.1, o.2.2))
 | .opop x => (ownerPopStep x e).bind fun o => some (o.1, (MV.opop o.2.1, o.2.2))
 | .steal x => (thiefStealStep x e).bind fun o => some (o.1, (MV.steal o.2.1, o.2.2))
 | .set x => (bitmapSetStep x e).bind fun o => some (o.1, (MV.set o.2.1, o.2.2))
 | .reset x => (bitmapResetStep x e).bind fun o => some (o.1, (MV.reset o.2.1, o.2.2))
 | .insert x => (injectorInsertStep x e).bind fun o => some (o.1, (MV.insert o.2.1, o.2.2))
 | .remove x => (injectorRemoveStep x e).bind fun o => some (o.1, (MV.remove o.2.1, o.2.2))
 | .sleep x => (parkSleepStep x e).bind fun o => some (o.1, (MV.sleep o.2.1, o.2.2))
 | .wake x => (parkWakeStep x e).bind fun o => some (o.1, (MV.wake o.2.1, o.2.2))
 | .raise x => (boostRaiseStep x e).bind fun o => some (o.1, (MV.raise o.2.1, o.2.2))
 | .probe x => (probeProbeStep x e).bind fun o => some (o.1, (MV.probe o.2.1, o.2.2))
 | .lpush x => (levelsPushStep x e).bind fun o => some (o.1, (MV.lpush o.2.1, o.2.2))
 | .lpop x => (levelsPopStep x e).bind fun o => some (o.1, (MV.lpop o.2.1, o.2.2))
 | .walk x => (boostWalkStep x e).bind fun o => some (o.1, (MV.walk o.2.1, o.2.2))
 | .take x => (takeTakeStep x e).bind fun o => some (o.1, (MV.take o.2.1, o.2.2))
 | .sweep x => (agingSweepStep x e).bind fun o => some (o.1, (MV.sweep o.2.1, o.2.2))
 | .enter x => (tableEnterStep x e).bind fun o => some (o.1, (MV.enter o.2.1, o.2.2))
 | .drain x => (drainDrainStep x e).bind fun o => some (o.1, (MV.drain o.2.1, o.2.2))
 | _ => none
noncomputable abbrev stepD2_k : Con SR1 := ⟨1000000000, [.mch, .ref 27], [.sh .b], fun x => stepD2 x.1 x.2.1⟩
theorem stepD2_ok : CO Tryz.prog stepD2_k := co_meth (S := SR1) (i := 0) (ps := [.ref 27]) (rs := [.sh .b]) (spec := fun m xs => stepD2 m xs.1) fun m xs out h => by
  cases m with
  | alloc x => exact via_ok (S := SR1) (ps := [.ref 27]) (rs := [.sh .b]) (c := 35) (mk := MV.alloc) (fun _ => rfl) rfl (fun _ _ _ _ => by kernel_rfl) tableAllocateStep_ok h
  | publish x => exact via_ok (S := SR1) (ps := [.ref 27]) (rs := [.sh .b]) (c := 50) (mk := MV.publish) (fun _ => rfl) rfl (fun _ _ _ _ => by kernel_rfl) tablePublishStep_ok h
  | claim x => exact via_ok (S := SR1) (ps := [.ref 27]) (rs := [.sh .b]) (c := 45) (mk := MV.claim) (fun _ => rfl) rfl (fun _ _ _ _ => by kernel_rfl) tableClaimStep_ok h
  | attempt x => exact via_ok (S := SR1) (ps := [.ref 27]) (rs := [.sh .b]) (c := 34) (mk := MV.attempt) (fun _ => rfl) rfl (fun _ _ _ _ => by kernel_rfl) lockAttemptStep_ok h
  | release x => exact via_ok (S := SR1) (ps := [.ref 27]) (rs := [.sh .b]) (c := 37) (mk := MV.release) (fun _ => rfl) rfl (fun _ _ _ _ => by kernel_rfl) lockReleaseStep_ok h
  | opush x => exact via_ok (S := SR1) (ps := [.ref 27]) (rs := [.sh .b]) (c := 53) (mk := MV.opush) (fun _ => rfl) rfl (fun _ _ _ _ => by kernel_rfl) ownerPushStep_ok h
  | opop x => exact via_ok (S := SR1) (ps := [.ref 27]) (rs := [.sh .b]) (c := 52) (mk := MV.opop) (fun _ => rfl) rfl (fun _ _ _ _ => by kernel_rfl) ownerPopStep_ok h
  | steal x => exact via_ok (S := SR1) (ps := [.ref 27]) (rs := [.sh .b]) (c := 42) (mk := MV.steal) (fun _ => rfl) rfl (fun _ _ _ _ => by kernel_rfl) thiefStealStep_ok h
  | set x => exact via_ok (S := SR1) (ps := [.ref 27]) (rs := [.sh .b]) (c := 54) (mk := MV.set) (fun _ => rfl) rfl (fun _ _ _ _ => by kernel_rfl) bitmapSetStep_ok h
  | reset x => exact via_ok (S := SR1) (ps := [.ref 27]) (rs := [.sh .b]) (c := 43) (mk := MV.reset) (fun _ => rfl) rfl (fun _ _ _ _ => by kernel_rfl) bitmapResetStep_ok h
  | insert x => exact via_ok (S := SR1) (ps := [.ref 27]) (rs := [.sh .b]) (c := 36) (mk := MV.insert) (fun _ => rfl) rfl (fun _ _ _ _ => by kernel_rfl) injectorInsertStep_ok h
  | remove x => exact via_ok (S := SR1) (ps := [.ref 27]) (rs := [.sh .b]) (c := 51) (mk := MV.remove) (fun _ => rfl) rfl (fun _ _ _ _ => by kernel_rfl) injectorRemoveStep_ok h
  | sleep x => exact via_ok (S := SR1) (ps := [.ref 27]) (rs := [.sh .b]) (c := 32) (mk := MV.sleep) (fun _ => rfl) rfl (fun _ _ _ _ => by kernel_rfl) parkSleepStep_ok h
  | wake x => exact via_ok (S := SR1) (ps := [.ref 27]) (rs := [.sh .b]) (c := 38) (mk := MV.wake) (fun _ => rfl) rfl (fun _ _ _ _ => by kernel_rfl) parkWakeStep_ok h
  | raise x => exact via_ok (S := SR1) (ps := [.ref 27]) (rs := [.sh .b]) (c := 55) (mk := MV.raise) (fun _ => rfl) rfl (fun _ _ _ _ => by kernel_rfl) boostRaiseStep_ok h
  | probe x => exact via_ok (S := SR1) (ps := [.ref 27]) (rs := [.sh .b]) (c := 46) (mk := MV.probe) (fun _ => rfl) rfl (fun _ _ _ _ => by kernel_rfl) probeProbeStep_ok h
  | lpush x => exact via_ok (S := SR1) (ps := [.ref 27]) (rs := [.sh .b]) (c := 47) (mk := MV.lpush) (fun _ => rfl) rfl (fun _ _ _ _ => by kernel_rfl) levelsPushStep_ok h
  | lpop x => exact via_ok (S := SR1) (ps := [.ref 27]) (rs := [.sh .b]) (c := 44) (mk := MV.lpop) (fun _ => rfl) rfl (fun _ _ _ _ => by kernel_rfl) levelsPopStep_ok h
  | walk x => exact via_ok (S := SR1) (ps := [.ref 27]) (rs := [.sh .b]) (c := 48) (mk := MV.walk) (fun _ => rfl) rfl (fun _ _ _ _ => by kernel_rfl) boostWalkStep_ok h
  | take x => exact via_ok (S := SR1) (ps := [.ref 27]) (rs := [.sh .b]) (c := 39) (mk := MV.take) (fun _ => rfl) rfl (fun _ _ _ _ => by kernel_rfl) takeTakeStep_ok h
  | sweep x => exact via_ok (S := SR1) (ps := [.ref 27]) (rs := [.sh .b]) (c := 40) (mk := MV.sweep) (fun _ => rfl) rfl (fun _ _ _ _ => by kernel_rfl) agingSweepStep_ok h
  | enter x => exact via_ok (S := SR1) (ps := [.ref 27]) (rs := [.sh .b]) (c := 49) (mk := MV.enter) (fun _ => rfl) rfl (fun _ _ _ _ => by kernel_rfl) tableEnterStep_ok h
  | drain x => exact via_ok (S := SR1) (ps := [.ref 27]) (rs := [.sh .b]) (c := 41) (mk := MV.drain) (fun _ => rfl) rfl (fun _ _ _ _ => by kernel_rfl) drainDrainStep_ok h
  | _ => cases h
noncomputable def resultD2 (m : MV) : Option ((Int × Int × Unit) × (MV × Unit)) :=
 match m with
 | .alloc x => some ((x.o.code, x.o.value, ()), (MV.alloc x, ()))
 | .publish x => some ((x.o.code, x.o.value, ()), (MV.publish x, ()))
 | .claim x => some ((x.o.code, x.o.value, ()), (MV.claim x, ()))
 | .attempt x => some ((x.o.code, x.o.value, ()), (MV.attempt x, ()))
 | .release x => some ((x.o.code, x.o.value, ()), (MV.release x, ()))
 | .opush x => some ((x.o.code, x.o.value, ()), (MV.opush x, ()))
 | .opop x => some ((x.o.code, x.o.value, ()), (MV.opop x, ()))
 | .steal x => some ((x.o.code, x.o.value, ()), (MV.steal x, ()))
 | .set x => some ((x.o.code, x.o.value, ()), (MV.set x, ()))
 | .reset x => some ((x.o.code, x.o.value, ()), (MV.reset x, ()))
 | .insert x => some ((x.o.code, x.o.value, ()), (MV.insert x, ()))
 | .remove x => some ((x.o.code, x.o.value, ()), (MV.remove x, ()))
 | .sleep x => some ((x.o.code, x.o.value, ()), (MV.sleep x, ()))
 | .wake x => some ((x.o.code, x.o.value, ()), (MV.wake x, ()))
 | .raise x => some ((x.o.code, x.o.value, ()), (MV.raise x, ()))
 | .probe x => some ((x.o.code, x.o.value, ()), (MV.probe x, ()))
 | .lpush x => some ((x.o.code, x.o.value, ()), (MV.lpush x, ()))
 | .lpop x => some ((x.o.code, x.o.value, ()), (MV.lpop x, ()))
 | .walk x => some ((x.o.code, x.o.value, ()), (MV.walk x, ()))
 | .take x => some ((x.o.code, x.o.value, ()), (MV.take x, ()))
 | .sweep x => some ((x.o.code, x.o.value, ()), (MV.sweep x, ()))
 | .enter x => some ((x.o.code, x.o.value, ()), (MV.enter x, ()))
 | .drain x => some ((x.o.code, x.o.value, ()), (MV.drain x, ()))
 | _ => none
noncomputable abbrev resultD2_k : Con SR1 := ⟨1000000001, [.mch], [.sh sI_, .sh sI_], fun x => resultD2 x.1⟩
theorem resultD2_ok : CO Tryz.prog resultD2_k := co_meth (S := SR1) (i := 1) (ps := []) (rs := [.sh sI_, .sh sI_]) (spec := fun m _ => resultD2 m) fun m xs out h => by
  cases m with
  | alloc x => exact via_ok (S := SR1) (ps := []) (rs := [.sh sI_, .sh sI_]) (c := 35) (mk := MV.alloc) (f := 172) (sp := fun x => some ((x.1.o.code, x.1.o.value, ()), (x.1, ()))) (fun _ => rfl) rfl (fun _ _ _ _ => by kernel_rfl) (co_like [pResult_k] ⟨pResult_ok, trivial⟩ fun x => by kernel_rfl) h
  | publish x => exact via_ok (S := SR1) (ps := []) (rs := [.sh sI_, .sh sI_]) (c := 50) (mk := MV.publish) (f := 172) (sp := fun x => some ((x.1.o.code, x.1.o.value, ()), (x.1, ()))) (fun _ => rfl) rfl (fun _ _ _ _ => by kernel_rfl) (co_like [pResult_k] ⟨pResult_ok, trivial⟩ fun x => by kernel_rfl) h
  | claim x => exact via_ok (S := SR1) (ps := []) (rs := [.sh sI_, .sh sI_]) (c := 45) (mk := MV.claim) (f := 172) (sp := fun x => some ((x.1.o.code, x.1.o.value, ()), (x.1, ()))) (fun _ => rfl) rfl (fun _ _ _ _ => by kernel_rfl) (co_like [pResult_k] ⟨pResult_ok, trivial⟩ fun x => by kernel_rfl) h
  | attempt x => exact via_ok (S := SR1) (ps := []) (rs := [.sh sI_, .sh sI_]) (c := 34) (mk := MV.attempt) (f := 172) (sp := fun x => some ((x.1.o.code, x.1.o.value, ()), (x.1, ()))) (fun _ => rfl) rfl (fun _ _ _ _ => by kernel_rfl) (co_like [pResult_k] ⟨pResult_ok, trivial⟩ fun x => by kernel_rfl) h
  | release x => exact via_ok (S := SR1) (ps := []) (rs := [.sh sI_, .sh sI_]) (c := 37) (mk := MV.release) (f := 172) (sp := fun x => some ((x.1.o.code, x.1.o.value, ()), (x.1, ()))) (fun _ => rfl) rfl (fun _ _ _ _ => by kernel_rfl) (co_like [pResult_k] ⟨pResult_ok, trivial⟩ fun x => by kernel_rfl) h
  | opush x => exact via_ok (S := SR1) (ps := []) (rs := [.sh sI_, .sh sI_]) (c := 53) (mk := MV.opush) (f := 172) (sp := fun x => some ((x.1.o.code, x.1.o.value, ()), (x.1, ()))) (fun _ => rfl) rfl (fun _ _ _ _ => by kernel_rfl) (co_like [pResult_k] ⟨pResult_ok, trivial⟩ fun x => by kernel_rfl) h
  | opop x => exact via_ok (S := SR1) (ps := []) (rs := [.sh sI_, .sh sI_]) (c := 52) (mk := MV.opop) (f := 172) (sp := fun x => some ((x.1.o.code, x.1.o.value, ()), (x.1, ()))) (fun _ => rfl) rfl (fun _ _ _ _ => by kernel_rfl) (co_like [pResult_k] ⟨pResult_ok, trivial⟩ fun x => by kernel_rfl) h
  | steal x => exact via_ok (S := SR1) (ps := []) (rs := [.sh sI_, .sh sI_]) (c := 42) (mk := MV.steal) (f := 172) (sp := fun x => some ((x.1.o.code, x.1.o.value, ()), (x.1, ()))) (fun _ => rfl) rfl (fun _ _ _ _ => by kernel_rfl) (co_like [pResult_k] ⟨pResult_ok, trivial⟩ fun x => by kernel_rfl) h
  | set x => exact via_ok (S := SR1) (ps := []) (rs := [.sh sI_, .sh sI_]) (c := 54) (mk := MV.set) (f := 172) (sp := fun x => some ((x.1.o.code, x.1.o.value, ()), (x.1, ()))) (fun _ => rfl) rfl (fun _ _ _ _ => by kernel_rfl) (co_like [pResult_k] ⟨pResult_ok, trivial⟩ fun x => by kernel_rfl) h
  | reset x => exact via_ok (S := SR1) (ps := []) (rs := [.sh sI_, .sh sI_]) (c := 43) (mk := MV.reset) (f := 172) (sp := fun x => some ((x.1.o.code, x.1.o.value, ()), (x.1, ()))) (fun _ => rfl) rfl (fun _ _ _ _ => by kernel_rfl) (co_like [pResult_k] ⟨pResult_ok, trivial⟩ fun x => by kernel_rfl) h
  | insert x => exact via_ok (S := SR1) (ps := []) (rs := [.sh sI_, .sh sI_]) (c := 36) (mk := MV.insert) (f := 172) (sp := fun x => some ((x.1.o.code, x.1.o.value, ()), (x.1, ()))) (fun _ => rfl) rfl (fun _ _ _ _ => by kernel_rfl) (co_like [pResult_k] ⟨pResult_ok, trivial⟩ fun x => by kernel_rfl) h
  | remove x => exact via_ok (S := SR1) (ps := []) (rs := [.sh sI_, .sh sI_]) (c := 51) (mk := MV.remove) (f := 172) (sp := fun x => some ((x.1.o.code, x.1.o.value, ()), (x.1, ()))) (fun _ => rfl) rfl (fun _ _ _ _ => by kernel_rfl) (co_like [pResult_k] ⟨pResult_ok, trivial⟩ fun x => by kernel_rfl) h
  | sleep x => exact via_ok (S := SR1) (ps := []) (rs := [.sh sI_, .sh sI_]) (c := 32) (mk := MV.sleep) (f := 172) (sp := fun x => some ((x.1.o.code, x.1.o.value, ()), (x.1, ()))) (fun _ => rfl) rfl (fun _ _ _ _ => by kernel_rfl) (co_like [pResult_k] ⟨pResult_ok, trivial⟩ fun x => by kernel_rfl) h
  | wake x => exact via_ok (S := SR1) (ps := []) (rs := [.sh sI_, .sh sI_]) (c := 38) (mk := MV.wake) (f := 172) (sp := fun x => some ((x.1.o.code, x.1.o.value, ()), (x.1, ()))) (fun _ => rfl) rfl (fun _ _ _ _ => by kernel_rfl) (co_like [pResult_k] ⟨pResult_ok, trivial⟩ fun x => by kernel_rfl) h
  | raise x => exact via_ok (S := SR1) (ps := []) (rs := [.sh sI_, .sh sI_]) (c := 55) (mk := MV.raise) (f := 172) (sp := fun x => some ((x.1.o.code, x.1.o.value, ()), (x.1, ()))) (fun _ => rfl) rfl (fun _ _ _ _ => by kernel_rfl) (co_like [pResult_k] ⟨pResult_ok, trivial⟩ fun x => by kernel_rfl) h
  | probe x => exact via_ok (S := SR1) (ps := []) (rs := [.sh sI_, .sh sI_]) (c := 46) (mk := MV.probe) (f := 172) (sp := fun x => some ((x.1.o.code, x.1.o.value, ()), (x.1, ()))) (fun _ => rfl) rfl (fun _ _ _ _ => by kernel_rfl) (co_like [pResult_k] ⟨pResult_ok, trivial⟩ fun x => by kernel_rfl) h
  | lpush x => exact via_ok (S := SR1) (ps := []) (rs := [.sh sI_, .sh sI_]) (c := 47) (mk := MV.lpush) (f := 172) (sp := fun x => some ((x.1.o.code, x.1.o.value, ()), (x.1, ()))) (fun _ => rfl) rfl (fun _ _ _ _ => by kernel_rfl) (co_like [pResult_k] ⟨pResult_ok, trivial⟩ fun x => by kernel_rfl) h
  | lpop x => exact via_ok (S := SR1) (ps := []) (rs := [.sh sI_, .sh sI_]) (c := 44) (mk := MV.lpop) (f := 172) (sp := fun x => some ((x.1.o.code, x.1.o.value, ()), (x.1, ()))) (fun _ => rfl) rfl (fun _ _ _ _ => by kernel_rfl) (co_like [pResult_k] ⟨pResult_ok, trivial⟩ fun x => by kernel_rfl) h
  | walk x => exact via_ok (S := SR1) (ps := []) (rs := [.sh sI_, .sh sI_]) (c := 48) (mk := MV.walk) (f := 172) (sp := fun x => some ((x.1.o.code, x.1.o.value, ()), (x.1, ()))) (fun _ => rfl) rfl (fun _ _ _ _ => by kernel_rfl) (co_like [pResult_k] ⟨pResult_ok, trivial⟩ fun x => by kernel_rfl) h
  | take x => exact via_ok (S := SR1) (ps := []) (rs := [.sh sI_, .sh sI_]) (c := 39) (mk := MV.take) (f := 172) (sp := fun x => some ((x.1.o.code, x.1.o.value, ()), (x.1, ()))) (fun _ => rfl) rfl (fun _ _ _ _ => by kernel_rfl) (co_like [pResult_k] ⟨pResult_ok, trivial⟩ fun x => by kernel_rfl) h
  | sweep x => exact via_ok (S := SR1) (ps := []) (rs := [.sh sI_, .sh sI_]) (c := 40) (mk := MV.sweep) (f := 172) (sp := fun x => some ((x.1.o.code, x.1.o.value, ()), (x.1, ()))) (fun _ => rfl) rfl (fun _ _ _ _ => by kernel_rfl) (co_like [pResult_k] ⟨pResult_ok, trivial⟩ fun x => by kernel_rfl) h
  | enter x => exact via_ok (S := SR1) (ps := []) (rs := [.sh sI_, .sh sI_]) (c := 49) (mk := MV.enter) (f := 172) (sp := fun x => some ((x.1.o.code, x.1.o.value, ()), (x.1, ()))) (fun _ => rfl) rfl (fun _ _ _ _ => by kernel_rfl) (co_like [pResult_k] ⟨pResult_ok, trivial⟩ fun x => by kernel_rfl) h
  | drain x => exact via_ok (S := SR1) (ps := []) (rs := [.sh sI_, .sh sI_]) (c := 41) (mk := MV.drain) (f := 172) (sp := fun x => some ((x.1.o.code, x.1.o.value, ()), (x.1, ()))) (fun _ => rfl) rfl (fun _ _ _ _ => by kernel_rfl) (co_like [pResult_k] ⟨pResult_ok, trivial⟩ fun x => by kernel_rfl) h
  | _ => cases h
noncomputable def runnerRunChoose (y0 : (RunV MV)) (y1 : EnvP) : Option ((Int × Unit) × ((RunV MV) × EnvP × Unit)) :=
 if 0 ≤ wi (((y0.stack.length : Nat) : Int) - 1) ∧ wi (((y0.stack.length : Nat) : Int) - 1) < ((y0.stack.length : Nat) : Int) then
  if 0 ≤ atK1 y0.stack (wi (((y0.stack.length : Nat) : Int) - 1)) ∧ atK1 y0.stack (wi (((y0.stack.length : Nat) : Int) - 1)) < ((y1.recs.length : Nat) : Int) then
   if 0 ≤ wi (((y0.stack.length : Nat) : Int) - 1) ∧ wi (((y0.stack.length : Nat) : Int) - 1) < ((y0.stack.length : Nat) : Int) then
    if 0 ≤ atK1 y0.stack (wi (((y0.stack.length : Nat) : Int) - 1)) ∧ atK1 y0.stack (wi (((y0.stack.length : Nat) : Int) - 1)) < ((y1.recs.length : Nat) : Int) then
     if ((atK26 y1.recs (atK1 y0.stack (wi (((y0.stack.length : Nat) : Int) - 1)))).prog) < 0 then
      if ((atK26 y1.recs (atK1 y0.stack (wi (((y0.stack.length : Nat) : Int) - 1)))).waiting) ≠ (-1) then
       some ((1, ()), (y0, y1, ()))
      else
      if ((atK26 y1.recs (atK1 y0.stack (wi (((y0.stack.length : Nat) : Int) - 1)))).pc) < 0 then
       some ((16, ()), (y0, y1, ()))
      else
      if 0 ≤ ((atK26 y1.recs (atK1 y0.stack (wi (((y0.stack.length : Nat) : Int) - 1)))).pc) then
       some ((16, ()), (y0, y1, ()))
      else
      none
     else
     if ((y1.c.progs.length : Nat) : Int) ≤ ((atK26 y1.recs (atK1 y0.stack (wi (((y0.stack.length : Nat) : Int) - 1)))).prog) then
      if ((atK26 y1.recs (atK1 y0.stack (wi (((y0.stack.length : Nat) : Int) - 1)))).waiting) ≠ (-1) then
       some ((1, ()), (y0, y1, ()))
      else
      if ((atK26 y1.recs (atK1 y0.stack (wi (((y0.stack.length : Nat) : Int) - 1)))).pc) < 0 then
       some ((16, ()), (y0, y1, ()))
      else
      if 0 ≤ ((atK26 y1.recs (atK1 y0.stack (wi (((y0.stack.length : Nat) : Int) - 1)))).pc) then
       some ((16, ()), (y0, y1, ()))
      else
      none
     else
     if 0 ≤ (atK26 y1.recs (atK1 y0.stack (wi (((y0.stack.length : Nat) : Int) - 1)))).prog ∧ (atK26 y1.recs (atK1 y0.stack (wi (((y0.stack.length : Nat) : Int) - 1)))).prog < ((y1.c.progs.length : Nat) : Int) then
      if ((atK26 y1.recs (atK1 y0.stack (wi (((y0.stack.length : Nat) : Int) - 1)))).waiting) ≠ (-1) then
       some ((1, ()), (y0, y1, ()))
      else
      if ((atK26 y1.recs (atK1 y0.stack (wi (((y0.stack.length : Nat) : Int) - 1)))).pc) < 0 then
       some ((16, ()), (y0, y1, ()))
      else
      if (((atL [] y1.c.progs ((atK26 y1.recs (atK1 y0.stack (wi (((y0.stack.length : Nat) : Int) - 1)))).prog)).length : Nat) : Int) ≤ ((atK26 y1.recs (atK1 y0.stack (wi (((y0.stack.length : Nat) : Int) - 1)))).pc) then
       some ((16, ()), (y0, y1, ()))
      else
      if 0 ≤ (atK26 y1.recs (atK1 y0.stack (wi (((y0.stack.length : Nat) : Int) - 1)))).pc ∧ (atK26 y1.recs (atK1 y0.stack (wi (((y0.stack.length : Nat) : Int) - 1)))).pc < (((atL [] y1.c.progs ((atK26 y1.recs (atK1 y0.stack (wi (((y0.stack.length : Nat) : Int) - 1)))).prog)).length : Nat) : Int) then
       if ((atK3 (atL [] y1.c.progs ((atK26 y1.recs (atK1 y0.stack (wi (((y0.stack.length : Nat) : Int) - 1)))).prog)) ((atK26 y1.recs (atK1 y0.stack (wi (((y0.stack.length : Nat) : Int) - 1)))).pc)).op) = 0 then
        some ((2, ()), (y0, y1, ()))
       else
       if 0 ≤ (atK26 y1.recs (atK1 y0.stack (wi (((y0.stack.length : Nat) : Int) - 1)))).pc ∧ (atK26 y1.recs (atK1 y0.stack (wi (((y0.stack.length : Nat) : Int) - 1)))).pc < (((atL [] y1.c.progs ((atK26 y1.recs (atK1 y0.stack (wi (((y0.stack.length : Nat) : Int) - 1)))).prog)).length : Nat) : Int) then
        if ((atK3 (atL [] y1.c.progs ((atK26 y1.recs (atK1 y0.stack (wi (((y0.stack.length : Nat) : Int) - 1)))).prog)) ((atK26 y1.recs (atK1 y0.stack (wi (((y0.stack.length : Nat) : Int) - 1)))).pc)).op) = 1 then
         some ((4, ()), (y0, y1, ()))
        else
        if 0 ≤ (atK26 y1.recs (atK1 y0.stack (wi (((y0.stack.length : Nat) : Int) - 1)))).pc ∧ (atK26 y1.recs (atK1 y0.stack (wi (((y0.stack.length : Nat) : Int) - 1)))).pc < (((atL [] y1.c.progs ((atK26 y1.recs (atK1 y0.stack (wi (((y0.stack.length : Nat) : Int) - 1)))).prog)).length : Nat) : Int) then
         if ((atK3 (atL [] y1.c.progs ((atK26 y1.recs (atK1 y0.stack (wi (((y0.stack.length : Nat) : Int) - 1)))).prog)) ((atK26 y1.recs (atK1 y0.stack (wi (((y0.stack.length : Nat) : Int) - 1)))).pc)).a) < 0 then
          some ((3, ()), (y0, y1, ()))
         else
         if ((((atK26 y1.recs (atK1 y0.stack (wi (((y0.stack.length : Nat) : Int) - 1)))).kids).length : Nat) : Int) ≤ ((atK3 (atL [] y1.c.progs ((atK26 y1.recs (atK1 y0.stack (wi (((y0.stack.length : Nat) : Int) - 1)))).prog)) ((atK26 y1.recs (atK1 y0.stack (wi (((y0.stack.length : Nat) : Int) - 1)))).pc)).a) then
          some ((3, ()), (y0, ({ y1 with recs := y1.recs.set (atK1 y0.stack (wi (((y0.stack.length : Nat) : Int) - 1))).toNat (atK26 y1.recs (atK1 y0.stack (wi (((y0.stack.length : Nat) : Int) - 1)))) } : EnvP), ()))
         else
         if 0 ≤ (atK3 (atL [] y1.c.progs ((atK26 y1.recs (atK1 y0.stack (wi (((y0.stack.length : Nat) : Int) - 1)))).prog)) ((atK26 y1.recs (atK1 y0.stack (wi (((y0.stack.length : Nat) : Int) - 1)))).pc)).a ∧ (atK3 (atL [] y1.c.progs ((atK26 y1.recs (atK1 y0.stack (wi (((y0.stack.length : Nat) : Int) - 1)))).prog)) ((atK26 y1.recs (atK1 y0.stack (wi (((y0.stack.length : Nat) : Int) - 1)))).pc)).a < ((((atK26 y1.recs (atK1 y0.stack (wi (((y0.stack.length : Nat) : Int) - 1)))).kids).length : Nat) : Int) then
          if (atK1 ((atK26 y1.recs (atK1 y0.stack (wi (((y0.stack.length : Nat) : Int) - 1)))).kids) ((atK3 (atL [] y1.c.progs ((atK26 y1.recs (atK1 y0.stack (wi (((y0.stack.length : Nat) : Int) - 1)))).prog)) ((atK26 y1.recs (atK1 y0.stack (wi (((y0.stack.length : Nat) : Int) - 1)))).pc)).a)) = (-1) then
           some ((3, ()), (y0, ({ y1 with recs := y1.recs.set (atK1 y0.stack (wi (((y0.stack.length : Nat) : Int) - 1))).toNat (atK26 y1.recs (atK1 y0.stack (wi (((y0.stack.length : Nat) : Int) - 1)))) } : EnvP), ()))
          else
          some ((9, ()), (y0, ({ y1 with recs := y1.recs.set (atK1 y0.stack (wi (((y0.stack.length : Nat) : Int) - 1))).toNat (atK26 y1.recs (atK1 y0.stack (wi (((y0.stack.length : Nat) : Int) - 1)))) } : EnvP), ()))
         else none
        else none
       else none
      else none
     else none
    else none
   else none
  else none
 else none
noncomputable abbrev runnerRunChoose_k : Con SR1 := ⟨176, [.ref 33, .ref 27], [.sh sI_], fun x => runnerRunChoose x.1 x.2.1⟩
noncomputable def runnerRunChoose_tb : List (Nat × Func) := [(181, Tryz.f181), (174, Tryz.f174), (182, Tryz.f182)]
theorem runnerRunChoose_ok : CO Tryz.prog runnerRunChoose_k := co_fn mixed Tryz.func176 [] trivial runnerRunChoose_tb ⟨Tryz.func181, Tryz.func174, Tryz.func182, trivial⟩ (fun _ => []) [] fun x => by kernel_rfl
noncomputable def tableAllocate  : Option ((MV × Unit) × (Unit)) :=
 some ((MV.alloc (⟨⟨false, 0, 0⟩⟩ : AllocV), ()), (()))
noncomputable abbrev tableAllocate_k : Con SR1 := ⟨58, [], [.sh .mach], fun x => tableAllocate ⟩
theorem tableAllocate_ok : CO Tryz.prog tableAllocate_k := co_fn mixed Tryz.func58 [] trivial [] trivial (fun _ => []) [] fun x => by kernel_rfl
noncomputable def runnerRunTo (y0 : (RunV MV)) (y1 : Int) (y2 : MV) : Option ((Bool × Unit) × ((RunV MV) × Unit)) :=
 some ((false, ()), (({ y0 with line := y1, inside := y2 } : (RunV MV)), ()))
noncomputable abbrev runnerRunTo_k : Con SR1 := ⟨186, [.ref 33, .sh sI_, .sh .mach], [.sh .b], fun x => runnerRunTo x.1 x.2.1 x.2.2.1⟩
theorem runnerRunTo_ok : CO Tryz.prog runnerRunTo_k := co_fn mixed Tryz.func186 [] trivial [] trivial (fun _ => []) [] fun x => by kernel_rfl
noncomputable def runnerRunSimple (y0 : (RunV MV)) (y1 : EnvP) : Option ((Bool × Unit) × ((RunV MV) × EnvP × Unit)) :=
 if 0 ≤ wi (((y0.stack.length : Nat) : Int) - 1) ∧ wi (((y0.stack.length : Nat) : Int) - 1) < ((y0.stack.length : Nat) : Int) then
  if 0 ≤ atK1 y0.stack (wi (((y0.stack.length : Nat) : Int) - 1)) ∧ atK1 y0.stack (wi (((y0.stack.length : Nat) : Int) - 1)) < ((y1.recs.length : Nat) : Int) then
   if y0.line = 1 then
    if 0 ≤ wi (((y0.stack.length : Nat) : Int) - 1) ∧ wi (((y0.stack.length : Nat) : Int) - 1) < ((y0.stack.length : Nat) : Int) then
     if y1.l.workers = y1.l.workers then
      if y1.l.levels = y1.l.levels then
       if y1.l.classes = y1.l.classes then
        if y1.l.tasks = y1.l.tasks then
         if y1.l.deque = y1.l.deque then
          if y1.l.heap = y1.l.heap then
           if y1.l.sleepers = y1.l.sleepers then
            if y1.l.epochs = y1.l.epochs then
             if y1.l.bitmaps = y1.l.bitmaps then
              if y1.l.queues = y1.l.queues then
               if y1.l.table = y1.l.table then
                (pWaits y1.l (atK1 y0.stack (wi (((y0.stack.length : Nat) : Int) - 1)))).bind fun r1 =>
                (pStore y1.m r1.1.1 0).bind fun r2 =>
                (runnerRunTo y0 0 MV.nil).bind fun r3 =>
                some ((r3.1.1, ()), (r3.2.1, ({ y1 with m := r2.2.1, recs := y1.recs.set (atK1 y0.stack (wi (((y0.stack.length : Nat) : Int) - 1))).toNat ({ atK26 y1.recs (atK1 y0.stack (wi (((y0.stack.length : Nat) : Int) - 1))) with waiting := (-1) } : RecP) } : EnvP), ()))
               else none
              else none
             else none
            else none
           else none
          else none
         else none
        else none
       else none
      else none
     else none
    else none
   else
   if y0.line = 2 then
    if ((atK26 y1.recs (atK1 y0.stack (wi (((y0.stack.length : Nat) : Int) - 1)))).left) = 0 then
     if 0 ≤ wi (((y0.stack.length : Nat) : Int) - 1) ∧ wi (((y0.stack.length : Nat) : Int) - 1) < ((y0.stack.length : Nat) : Int) then
      if 0 ≤ atK1 y0.stack (wi (((y0.stack.length : Nat) : Int) - 1)) ∧ atK1 y0.stack (wi (((y0.stack.length : Nat) : Int) - 1)) < ((y1.recs.length : Nat) : Int) then
       if ((atK26 y1.recs (atK1 y0.stack (wi (((y0.stack.length : Nat) : Int) - 1)))).prog) < 0 then
        if 0 ≤ wi (((y0.stack.length : Nat) : Int) - 1) ∧ wi (((y0.stack.length : Nat) : Int) - 1) < ((y0.stack.length : Nat) : Int) then
         if 0 ≤ atK1 y0.stack (wi (((y0.stack.length : Nat) : Int) - 1)) ∧ atK1 y0.stack (wi (((y0.stack.length : Nat) : Int) - 1)) < ((y1.recs.length : Nat) : Int) then
          none
         else none
        else none
       else
       if ((y1.c.progs.length : Nat) : Int) ≤ ((atK26 y1.recs (atK1 y0.stack (wi (((y0.stack.length : Nat) : Int) - 1)))).prog) then
        if 0 ≤ wi (((y0.stack.length : Nat) : Int) - 1) ∧ wi (((y0.stack.length : Nat) : Int) - 1) < ((y0.stack.length : Nat) : Int) then
         if 0 ≤ atK1 y0.stack (wi (((y0.stack.length : Nat) : Int) - 1)) ∧ atK1 y0.stack (wi (((y0.stack.length : Nat) : Int) - 1)) < ((y1.recs.length : Nat) : Int) then
          none
         else none
        else none
       else
       if 0 ≤ (atK26 y1.recs (atK1 y0.stack (wi (((y0.stack.length : Nat) : Int) - 1)))).prog ∧ (atK26 y1.recs (atK1 y0.stack (wi (((y0.stack.length : Nat) : Int) - 1)))).prog < ((y1.c.progs.length : Nat) : Int) then
        if 0 ≤ wi (((y0.stack.length : Nat) : Int) - 1) ∧ wi (((y0.stack.length : Nat) : Int) - 1) < ((y0.stack.length : Nat) : Int) then
         if 0 ≤ atK1 y0.stack (wi (((y0.stack.length : Nat) : Int) - 1)) ∧ atK1 y0.stack (wi (((y0.stack.length : Nat) : Int) - 1)) < ((y1.recs.length : Nat) : Int) then
          if 0 ≤ (atK26 y1.recs (atK1 y0.stack (wi (((y0.stack.length : Nat) : Int) - 1)))).pc ∧ (atK26 y1.recs (atK1 y0.stack (wi (((y0.stack.length : Nat) : Int) - 1)))).pc < (((atL [] y1.c.progs ((atK26 y1.recs (atK1 y0.stack (wi (((y0.stack.length : Nat) : Int) - 1)))).prog)).length : Nat) : Int) then
           if ((atK26 ((y1.recs.set (atK1 y0.stack (wi (((y0.stack.length : Nat) : Int) - 1))).toNat ({ atK26 y1.recs (atK1 y0.stack (wi (((y0.stack.length : Nat) : Int) - 1))) with left := (atK3 (atL [] y1.c.progs ((atK26 y1.recs (atK1 y0.stack (wi (((y0.stack.length : Nat) : Int) - 1)))).prog)) ((atK26 y1.recs (atK1 y0.stack (wi (((y0.stack.length : Nat) : Int) - 1)))).pc)).a } : RecP)).set (atK1 y0.stack (wi (((y0.stack.length : Nat) : Int) - 1))).toNat ({ atK26 (y1.recs.set (atK1 y0.stack (wi (((y0.stack.length : Nat) : Int) - 1))).toNat ({ atK26 y1.recs (atK1 y0.stack (wi (((y0.stack.length : Nat) : Int) - 1))) with left := (atK3 (atL [] y1.c.progs ((atK26 y1.recs (atK1 y0.stack (wi (((y0.stack.length : Nat) : Int) - 1)))).prog)) ((atK26 y1.recs (atK1 y0.stack (wi (((y0.stack.length : Nat) : Int) - 1)))).pc)).a } : RecP)) (atK1 y0.stack (wi (((y0.stack.length : Nat) : Int) - 1))) with left := wi (((atK26 (y1.recs.set (atK1 y0.stack (wi (((y0.stack.length : Nat) : Int) - 1))).toNat ({ atK26 y1.recs (atK1 y0.stack (wi (((y0.stack.length : Nat) : Int) - 1))) with left := (atK3 (atL [] y1.c.progs ((atK26 y1.recs (atK1 y0.stack (wi (((y0.stack.length : Nat) : Int) - 1)))).prog)) ((atK26 y1.recs (atK1 y0.stack (wi (((y0.stack.length : Nat) : Int) - 1)))).pc)).a } : RecP)) (atK1 y0.stack (wi (((y0.stack.length : Nat) : Int) - 1)))).left) - 1) } : RecP)) (atK1 y0.stack (wi (((y0.stack.length : Nat) : Int) - 1)))).left) = 0 then
            (runnerRunTo y0 0 MV.nil).bind fun r4 =>
            some ((r4.1.1, ()), (r4.2.1, ({ y1 with recs := ((y1.recs.set (atK1 y0.stack (wi (((y0.stack.length : Nat) : Int) - 1))).toNat ({ atK26 y1.recs (atK1 y0.stack (wi (((y0.stack.length : Nat) : Int) - 1))) with left := (atK3 (atL [] y1.c.progs ((atK26 y1.recs (atK1 y0.stack (wi (((y0.stack.length : Nat) : Int) - 1)))).prog)) ((atK26 y1.recs (atK1 y0.stack (wi (((y0.stack.length : Nat) : Int) - 1)))).pc)).a } : RecP)).set (atK1 y0.stack (wi (((y0.stack.length : Nat) : Int) - 1))).toNat ({ atK26 (y1.recs.set (atK1 y0.stack (wi (((y0.stack.length : Nat) : Int) - 1))).toNat ({ atK26 y1.recs (atK1 y0.stack (wi (((y0.stack.length : Nat) : Int) - 1))) with left := (atK3 (atL [] y1.c.progs ((atK26 y1.recs (atK1 y0.stack (wi (((y0.stack.length : Nat) : Int) - 1)))).prog)) ((atK26 y1.recs (atK1 y0.stack (wi (((y0.stack.length : Nat) : Int) - 1)))).pc)).a } : RecP)) (atK1 y0.stack (wi (((y0.stack.length : Nat) : Int) - 1))) with left := wi (((atK26 (y1.recs.set (atK1 y0.stack (wi (((y0.stack.length : Nat) : Int) - 1))).toNat ({ atK26 y1.recs (atK1 y0.stack (wi (((y0.stack.length : Nat) : Int) - 1))) with left := (atK3 (atL [] y1.c.progs ((atK26 y1.recs (atK1 y0.stack (wi (((y0.stack.length : Nat) : Int) - 1)))).prog)) ((atK26 y1.recs (atK1 y0.stack (wi (((y0.stack.length : Nat) : Int) - 1)))).pc)).a } : RecP)) (atK1 y0.stack (wi (((y0.stack.length : Nat) : Int) - 1)))).left) - 1) } : RecP)).set (atK1 y0.stack (wi (((y0.stack.length : Nat) : Int) - 1))).toNat ({ atK26 ((y1.recs.set (atK1 y0.stack (wi (((y0.stack.length : Nat) : Int) - 1))).toNat ({ atK26 y1.recs (atK1 y0.stack (wi (((y0.stack.length : Nat) : Int) - 1))) with left := (atK3 (atL [] y1.c.progs ((atK26 y1.recs (atK1 y0.stack (wi (((y0.stack.length : Nat) : Int) - 1)))).prog)) ((atK26 y1.recs (atK1 y0.stack (wi (((y0.stack.length : Nat) : Int) - 1)))).pc)).a } : RecP)).set (atK1 y0.stack (wi (((y0.stack.length : Nat) : Int) - 1))).toNat ({ atK26 (y1.recs.set (atK1 y0.stack (wi (((y0.stack.length : Nat) : Int) - 1))).toNat ({ atK26 y1.recs (atK1 y0.stack (wi (((y0.stack.length : Nat) : Int) - 1))) with left := (atK3 (atL [] y1.c.progs ((atK26 y1.recs (atK1 y0.stack (wi (((y0.stack.length : Nat) : Int) - 1)))).prog)) ((atK26 y1.recs (atK1 y0.stack (wi (((y0.stack.length : Nat) : Int) - 1)))).pc)).a } : RecP)) (atK1 y0.stack (wi (((y0.stack.length : Nat) : Int) - 1))) with left := wi (((atK26 (y1.recs.set (atK1 y0.stack (wi (((y0.stack.length : Nat) : Int) - 1))).toNat ({ atK26 y1.recs (atK1 y0.stack (wi (((y0.stack.length : Nat) : Int) - 1))) with left := (atK3 (atL [] y1.c.progs ((atK26 y1.recs (atK1 y0.stack (wi (((y0.stack.length : Nat) : Int) - 1)))).prog)) ((atK26 y1.recs (atK1 y0.stack (wi (((y0.stack.length : Nat) : Int) - 1)))).pc)).a } : RecP)) (atK1 y0.stack (wi (((y0.stack.length : Nat) : Int) - 1)))).left) - 1) } : RecP)) (atK1 y0.stack (wi (((y0.stack.length : Nat) : Int) - 1))) with pc := wi (((atK26 ((y1.recs.set (atK1 y0.stack (wi (((y0.stack.length : Nat) : Int) - 1))).toNat ({ atK26 y1.recs (atK1 y0.stack (wi (((y0.stack.length : Nat) : Int) - 1))) with left := (atK3 (atL [] y1.c.progs ((atK26 y1.recs (atK1 y0.stack (wi (((y0.stack.length : Nat) : Int) - 1)))).prog)) ((atK26 y1.recs (atK1 y0.stack (wi (((y0.stack.length : Nat) : Int) - 1)))).pc)).a } : RecP)).set (atK1 y0.stack (wi (((y0.stack.length : Nat) : Int) - 1))).toNat ({ atK26 (y1.recs.set (atK1 y0.stack (wi (((y0.stack.length : Nat) : Int) - 1))).toNat ({ atK26 y1.recs (atK1 y0.stack (wi (((y0.stack.length : Nat) : Int) - 1))) with left := (atK3 (atL [] y1.c.progs ((atK26 y1.recs (atK1 y0.stack (wi (((y0.stack.length : Nat) : Int) - 1)))).prog)) ((atK26 y1.recs (atK1 y0.stack (wi (((y0.stack.length : Nat) : Int) - 1)))).pc)).a } : RecP)) (atK1 y0.stack (wi (((y0.stack.length : Nat) : Int) - 1))) with left := wi (((atK26 (y1.recs.set (atK1 y0.stack (wi (((y0.stack.length : Nat) : Int) - 1))).toNat ({ atK26 y1.recs (atK1 y0.stack (wi (((y0.stack.length : Nat) : Int) - 1))) with left := (atK3 (atL [] y1.c.progs ((atK26 y1.recs (atK1 y0.stack (wi (((y0.stack.length : Nat) : Int) - 1)))).prog)) ((atK26 y1.recs (atK1 y0.stack (wi (((y0.stack.length : Nat) : Int) - 1)))).pc)).a } : RecP)) (atK1 y0.stack (wi (((y0.stack.length : Nat) : Int) - 1)))).left) - 1) } : RecP)) (atK1 y0.stack (wi (((y0.stack.length : Nat) : Int) - 1)))).pc) + 1) } : RecP) } : EnvP), ()))
           else
           (runnerRunTo y0 0 MV.nil).bind fun r5 =>
           some ((r5.1.1, ()), (r5.2.1, ({ y1 with recs := (y1.recs.set (atK1 y0.stack (wi (((y0.stack.length : Nat) : Int) - 1))).toNat ({ atK26 y1.recs (atK1 y0.stack (wi (((y0.stack.length : Nat) : Int) - 1))) with left := (atK3 (atL [] y1.c.progs ((atK26 y1.recs (atK1 y0.stack (wi (((y0.stack.length : Nat) : Int) - 1)))).prog)) ((atK26 y1.recs (atK1 y0.stack (wi (((y0.stack.length : Nat) : Int) - 1)))).pc)).a } : RecP)).set (atK1 y0.stack (wi (((y0.stack.length : Nat) : Int) - 1))).toNat ({ atK26 (y1.recs.set (atK1 y0.stack (wi (((y0.stack.length : Nat) : Int) - 1))).toNat ({ atK26 y1.recs (atK1 y0.stack (wi (((y0.stack.length : Nat) : Int) - 1))) with left := (atK3 (atL [] y1.c.progs ((atK26 y1.recs (atK1 y0.stack (wi (((y0.stack.length : Nat) : Int) - 1)))).prog)) ((atK26 y1.recs (atK1 y0.stack (wi (((y0.stack.length : Nat) : Int) - 1)))).pc)).a } : RecP)) (atK1 y0.stack (wi (((y0.stack.length : Nat) : Int) - 1))) with left := wi (((atK26 (y1.recs.set (atK1 y0.stack (wi (((y0.stack.length : Nat) : Int) - 1))).toNat ({ atK26 y1.recs (atK1 y0.stack (wi (((y0.stack.length : Nat) : Int) - 1))) with left := (atK3 (atL [] y1.c.progs ((atK26 y1.recs (atK1 y0.stack (wi (((y0.stack.length : Nat) : Int) - 1)))).prog)) ((atK26 y1.recs (atK1 y0.stack (wi (((y0.stack.length : Nat) : Int) - 1)))).pc)).a } : RecP)) (atK1 y0.stack (wi (((y0.stack.length : Nat) : Int) - 1)))).left) - 1) } : RecP) } : EnvP), ()))
          else none
         else none
        else none
       else none
      else none
     else none
    else
    if ((atK26 (y1.recs.set (atK1 y0.stack (wi (((y0.stack.length : Nat) : Int) - 1))).toNat ({ atK26 y1.recs (atK1 y0.stack (wi (((y0.stack.length : Nat) : Int) - 1))) with left := wi (((atK26 y1.recs (atK1 y0.stack (wi (((y0.stack.length : Nat) : Int) - 1)))).left) - 1) } : RecP)) (atK1 y0.stack (wi (((y0.stack.length : Nat) : Int) - 1)))).left) = 0 then
     (runnerRunTo y0 0 MV.nil).bind fun r6 =>
     some ((r6.1.1, ()), (r6.2.1, ({ y1 with recs := (y1.recs.set (atK1 y0.stack (wi (((y0.stack.length : Nat) : Int) - 1))).toNat ({ atK26 y1.recs (atK1 y0.stack (wi (((y0.stack.length : Nat) : Int) - 1))) with left := wi (((atK26 y1.recs (atK1 y0.stack (wi (((y0.stack.length : Nat) : Int) - 1)))).left) - 1) } : RecP)).set (atK1 y0.stack (wi (((y0.stack.length : Nat) : Int) - 1))).toNat ({ atK26 (y1.recs.set (atK1 y0.stack (wi (((y0.stack.length : Nat) : Int) - 1))).toNat ({ atK26 y1.recs (atK1 y0.stack (wi (((y0.stack.length : Nat) : Int) - 1))) with left := wi (((atK26 y1.recs (atK1 y0.stack (wi (((y0.stack.length : Nat) : Int) - 1)))).left) - 1) } : RecP)) (atK1 y0.stack (wi (((y0.stack.length : Nat) : Int) - 1))) with pc := wi (((atK26 (y1.recs.set (atK1 y0.stack (wi (((y0.stack.length : Nat) : Int) - 1))).toNat ({ atK26 y1.recs (atK1 y0.stack (wi (((y0.stack.length : Nat) : Int) - 1))) with left := wi (((atK26 y1.recs (atK1 y0.stack (wi (((y0.stack.length : Nat) : Int) - 1)))).left) - 1) } : RecP)) (atK1 y0.stack (wi (((y0.stack.length : Nat) : Int) - 1)))).pc) + 1) } : RecP) } : EnvP), ()))
    else
    (runnerRunTo y0 0 MV.nil).bind fun r7 =>
    some ((r7.1.1, ()), (r7.2.1, ({ y1 with recs := y1.recs.set (atK1 y0.stack (wi (((y0.stack.length : Nat) : Int) - 1))).toNat ({ atK26 y1.recs (atK1 y0.stack (wi (((y0.stack.length : Nat) : Int) - 1))) with left := wi (((atK26 y1.recs (atK1 y0.stack (wi (((y0.stack.length : Nat) : Int) - 1)))).left) - 1) } : RecP) } : EnvP), ()))
   else
   (runnerRunTo y0 0 MV.nil).bind fun r8 =>
   some ((r8.1.1, ()), (r8.2.1, ({ y1 with recs := y1.recs.set (atK1 y0.stack (wi (((y0.stack.length : Nat) : Int) - 1))).toNat ({ atK26 y1.recs (atK1 y0.stack (wi (((y0.stack.length : Nat) : Int) - 1))) with pc := wi (((atK26 y1.recs (atK1 y0.stack (wi (((y0.stack.length : Nat) : Int) - 1)))).pc) + 1) } : RecP) } : EnvP), ()))
  else none
 else none
noncomputable abbrev runnerRunSimple_k : Con SR1 := ⟨177, [.ref 33, .ref 27], [.sh .b], fun x => runnerRunSimple x.1 x.2.1⟩
noncomputable def runnerRunSimple_tb : List (Nat × Func) := [(181, Tryz.f181), (174, Tryz.f174), (185, Tryz.f185), (182, Tryz.f182)]
theorem runnerRunSimple_ok : CO Tryz.prog runnerRunSimple_k := co_fn mixed Tryz.func177 [pWaits_k, pStore_k, runnerRunTo_k] ⟨pWaits_ok, pStore_ok, runnerRunTo_ok, trivial⟩ runnerRunSimple_tb ⟨Tryz.func181, Tryz.func174, Tryz.func185, Tryz.func182, trivial⟩ (fun _ => []) [] fun x => by kernel_rfl
noncomputable def runnerRunEmit (y0 : (RunV MV)) (y1 : EnvP) (y2 : Ev) : Option ((Unit) × ((RunV MV) × EnvP × Unit)) :=
 (pEmit y1 ({ y2 with worker := y0.worker } : Ev)).bind fun r1 =>
 some ((()), (y0, r1.2.1, ()))
noncomputable abbrev runnerRunEmit_k : Con SR1 := ⟨188, [.ref 33, .ref 27, .val 2], [], fun x => runnerRunEmit x.1 x.2.1 x.2.2.1⟩
theorem runnerRunEmit_ok : CO Tryz.prog runnerRunEmit_k := co_fn mixed Tryz.func188 [pEmit_k] ⟨pEmit_ok, trivial⟩ [] trivial (fun _ => []) [] fun x => by kernel_rfl
noncomputable def tablePublish (y0 : Int) (y1 : Int) : Option ((MV × Unit) × (Unit)) :=
 some ((MV.publish (⟨⟨false, 0, 0⟩, y0, y1, 1⟩ : PublishV), ()), (()))
noncomputable abbrev tablePublish_k : Con SR1 := ⟨59, [.sh sI_, .sh sI_], [.sh .mach], fun x => tablePublish x.1 x.2.1⟩
theorem tablePublish_ok : CO Tryz.prog tablePublish_k := co_fn mixed Tryz.func59 [] trivial [] trivial (fun _ => []) [] fun x => by kernel_rfl
noncomputable def runnerRunAllocated (y0 : (RunV MV)) (y1 : EnvP) (y2 : Int) (y3 : Int) : Option ((Bool × Unit) × ((RunV MV) × EnvP × Unit)) :=
 if 0 ≤ wi (((y0.stack.length : Nat) : Int) - 1) ∧ wi (((y0.stack.length : Nat) : Int) - 1) < ((y0.stack.length : Nat) : Int) then
  if 0 ≤ atK1 y0.stack (wi (((y0.stack.length : Nat) : Int) - 1)) ∧ atK1 y0.stack (wi (((y0.stack.length : Nat) : Int) - 1)) < ((y1.recs.length : Nat) : Int) then
   if 0 ≤ wi (((y0.stack.length : Nat) : Int) - 1) ∧ wi (((y0.stack.length : Nat) : Int) - 1) < ((y0.stack.length : Nat) : Int) then
    if 0 ≤ atK1 y0.stack (wi (((y0.stack.length : Nat) : Int) - 1)) ∧ atK1 y0.stack (wi (((y0.stack.length : Nat) : Int) - 1)) < ((y1.recs.length : Nat) : Int) then
     if ((atK26 y1.recs (atK1 y0.stack (wi (((y0.stack.length : Nat) : Int) - 1)))).prog) < 0 then
      if 0 ≤ wi (((y0.stack.length : Nat) : Int) - 1) ∧ wi (((y0.stack.length : Nat) : Int) - 1) < ((y0.stack.length : Nat) : Int) then
       if 0 ≤ atK1 y0.stack (wi (((y0.stack.length : Nat) : Int) - 1)) ∧ atK1 y0.stack (wi (((y0.stack.length : Nat) : Int) - 1)) < ((y1.recs.length : Nat) : Int) then
        none
       else none
      else none
     else
     if ((y1.c.progs.length : Nat) : Int) ≤ ((atK26 y1.recs (atK1 y0.stack (wi (((y0.stack.length : Nat) : Int) - 1)))).prog) then
      if 0 ≤ wi (((y0.stack.length : Nat) : Int) - 1) ∧ wi (((y0.stack.length : Nat) : Int) - 1) < ((y0.stack.length : Nat) : Int) then
       if 0 ≤ atK1 y0.stack (wi (((y0.stack.length : Nat) : Int) - 1)) ∧ atK1 y0.stack (wi (((y0.stack.length : Nat) : Int) - 1)) < ((y1.recs.length : Nat) : Int) then
        none
       else none
      else none
     else
     if 0 ≤ (atK26 y1.recs (atK1 y0.stack (wi (((y0.stack.length : Nat) : Int) - 1)))).prog ∧ (atK26 y1.recs (atK1 y0.stack (wi (((y0.stack.length : Nat) : Int) - 1)))).prog < ((y1.c.progs.length : Nat) : Int) then
      if 0 ≤ wi (((y0.stack.length : Nat) : Int) - 1) ∧ wi (((y0.stack.length : Nat) : Int) - 1) < ((y0.stack.length : Nat) : Int) then
       if 0 ≤ atK1 y0.stack (wi (((y0.stack.length : Nat) : Int) - 1)) ∧ atK1 y0.stack (wi (((y0.stack.length : Nat) : Int) - 1)) < ((y1.recs.length : Nat) : Int) then
        if 0 ≤ (atK26 y1.recs (atK1 y0.stack (wi (((y0.stack.length : Nat) : Int) - 1)))).pc ∧ (atK26 y1.recs (atK1 y0.stack (wi (((y0.stack.length : Nat) : Int) - 1)))).pc < (((atL [] y1.c.progs ((atK26 y1.recs (atK1 y0.stack (wi (((y0.stack.length : Nat) : Int) - 1)))).prog)).length : Nat) : Int) then
         if y2 = 3 then
          if (((((atK26 (y1.recs.set (atK1 y0.stack (wi (((y0.stack.length : Nat) : Int) - 1))).toNat ({ atK26 y1.recs (atK1 y0.stack (wi (((y0.stack.length : Nat) : Int) - 1))) with pc := wi (((atK26 y1.recs (atK1 y0.stack (wi (((y0.stack.length : Nat) : Int) - 1)))).pc) + 1) } : RecP)) (atK1 y0.stack (wi (((y0.stack.length : Nat) : Int) - 1)))).kids).length + ([(-1)] : List Int).length : Nat)) : Int) < 1000000000000 then
           if 0 ≤ wi (((y0.stack.length : Nat) : Int) - 1) ∧ wi (((y0.stack.length : Nat) : Int) - 1) < ((y0.stack.length : Nat) : Int) then
            (runnerRunEmit y0 ({ y1 with recs := (y1.recs.set (atK1 y0.stack (wi (((y0.stack.length : Nat) : Int) - 1))).toNat ({ atK26 y1.recs (atK1 y0.stack (wi (((y0.stack.length : Nat) : Int) - 1))) with pc := wi (((atK26 y1.recs (atK1 y0.stack (wi (((y0.stack.length : Nat) : Int) - 1)))).pc) + 1) } : RecP)).set (atK1 y0.stack (wi (((y0.stack.length : Nat) : Int) - 1))).toNat ({ atK26 (y1.recs.set (atK1 y0.stack (wi (((y0.stack.length : Nat) : Int) - 1))).toNat ({ atK26 y1.recs (atK1 y0.stack (wi (((y0.stack.length : Nat) : Int) - 1))) with pc := wi (((atK26 y1.recs (atK1 y0.stack (wi (((y0.stack.length : Nat) : Int) - 1)))).pc) + 1) } : RecP)) (atK1 y0.stack (wi (((y0.stack.length : Nat) : Int) - 1))) with kids := ((atK26 (y1.recs.set (atK1 y0.stack (wi (((y0.stack.length : Nat) : Int) - 1))).toNat ({ atK26 y1.recs (atK1 y0.stack (wi (((y0.stack.length : Nat) : Int) - 1))) with pc := wi (((atK26 y1.recs (atK1 y0.stack (wi (((y0.stack.length : Nat) : Int) - 1)))).pc) + 1) } : RecP)) (atK1 y0.stack (wi (((y0.stack.length : Nat) : Int) - 1)))).kids) ++ ([(-1)]) } : RecP) } : EnvP) (⟨4, 0, atK1 y0.stack (wi (((y0.stack.length : Nat) : Int) - 1)), 0, 0⟩ : Ev)).bind fun r1 =>
            (runnerRunTo r1.2.1 0 MV.nil).bind fun r2 =>
            some ((r2.1.1, ()), (r2.2.1, r1.2.2.1, ()))
           else none
          else none
         else
         if (((((atK26 (y1.recs.set (atK1 y0.stack (wi (((y0.stack.length : Nat) : Int) - 1))).toNat ({ atK26 y1.recs (atK1 y0.stack (wi (((y0.stack.length : Nat) : Int) - 1))) with pc := wi (((atK26 y1.recs (atK1 y0.stack (wi (((y0.stack.length : Nat) : Int) - 1)))).pc) + 1) } : RecP)) (atK1 y0.stack (wi (((y0.stack.length : Nat) : Int) - 1)))).kids).length + ([y3] : List Int).length : Nat)) : Int) < 1000000000000 then
          if 0 ≤ wi (((y0.stack.length : Nat) : Int) - 1) ∧ wi (((y0.stack.length : Nat) : Int) - 1) < ((y0.stack.length : Nat) : Int) then
           if ((atK3 (atL [] y1.c.progs ((atK26 y1.recs (atK1 y0.stack (wi (((y0.stack.length : Nat) : Int) - 1)))).prog)) ((atK26 y1.recs (atK1 y0.stack (wi (((y0.stack.length : Nat) : Int) - 1)))).pc)).a) = ((atK3 (atL [] y1.c.progs ((atK26 y1.recs (atK1 y0.stack (wi (((y0.stack.length : Nat) : Int) - 1)))).prog)) ((atK26 y1.recs (atK1 y0.stack (wi (((y0.stack.length : Nat) : Int) - 1)))).pc)).a) then
            if 0 ≤ y3 ∧ y3 < ((((y1.recs.set (atK1 y0.stack (wi (((y0.stack.length : Nat) : Int) - 1))).toNat ({ atK26 y1.recs (atK1 y0.stack (wi (((y0.stack.length : Nat) : Int) - 1))) with pc := wi (((atK26 y1.recs (atK1 y0.stack (wi (((y0.stack.length : Nat) : Int) - 1)))).pc) + 1) } : RecP)).set (atK1 y0.stack (wi (((y0.stack.length : Nat) : Int) - 1))).toNat ({ atK26 (y1.recs.set (atK1 y0.stack (wi (((y0.stack.length : Nat) : Int) - 1))).toNat ({ atK26 y1.recs (atK1 y0.stack (wi (((y0.stack.length : Nat) : Int) - 1))) with pc := wi (((atK26 y1.recs (atK1 y0.stack (wi (((y0.stack.length : Nat) : Int) - 1)))).pc) + 1) } : RecP)) (atK1 y0.stack (wi (((y0.stack.length : Nat) : Int) - 1))) with kids := ((atK26 (y1.recs.set (atK1 y0.stack (wi (((y0.stack.length : Nat) : Int) - 1))).toNat ({ atK26 y1.recs (atK1 y0.stack (wi (((y0.stack.length : Nat) : Int) - 1))) with pc := wi (((atK26 y1.recs (atK1 y0.stack (wi (((y0.stack.length : Nat) : Int) - 1)))).pc) + 1) } : RecP)) (atK1 y0.stack (wi (((y0.stack.length : Nat) : Int) - 1)))).kids) ++ ([y3]) } : RecP)).length : Nat) : Int) then
             if ((atK3 (atL [] y1.c.progs ((atK26 y1.recs (atK1 y0.stack (wi (((y0.stack.length : Nat) : Int) - 1)))).prog)) ((atK26 y1.recs (atK1 y0.stack (wi (((y0.stack.length : Nat) : Int) - 1)))).pc)).b) = ((atK3 (atL [] y1.c.progs ((atK26 y1.recs (atK1 y0.stack (wi (((y0.stack.length : Nat) : Int) - 1)))).prog)) ((atK26 y1.recs (atK1 y0.stack (wi (((y0.stack.length : Nat) : Int) - 1)))).pc)).b) then
              (tablePublish y3 ((atK3 (atL [] y1.c.progs ((atK26 y1.recs (atK1 y0.stack (wi (((y0.stack.length : Nat) : Int) - 1)))).prog)) ((atK26 y1.recs (atK1 y0.stack (wi (((y0.stack.length : Nat) : Int) - 1)))).pc)).b)).bind fun r3 =>
              (runnerRunTo ({ y0 with id := y3, level := (atK3 (atL [] y1.c.progs ((atK26 y1.recs (atK1 y0.stack (wi (((y0.stack.length : Nat) : Int) - 1)))).prog)) ((atK26 y1.recs (atK1 y0.stack (wi (((y0.stack.length : Nat) : Int) - 1)))).pc)).b } : (RunV MV)) 5 r3.1.1).bind fun r4 =>
              some ((r4.1.1, ()), (r4.2.1, ({ y1 with recs := ((y1.recs.set (atK1 y0.stack (wi (((y0.stack.length : Nat) : Int) - 1))).toNat ({ atK26 y1.recs (atK1 y0.stack (wi (((y0.stack.length : Nat) : Int) - 1))) with pc := wi (((atK26 y1.recs (atK1 y0.stack (wi (((y0.stack.length : Nat) : Int) - 1)))).pc) + 1) } : RecP)).set (atK1 y0.stack (wi (((y0.stack.length : Nat) : Int) - 1))).toNat ({ atK26 (y1.recs.set (atK1 y0.stack (wi (((y0.stack.length : Nat) : Int) - 1))).toNat ({ atK26 y1.recs (atK1 y0.stack (wi (((y0.stack.length : Nat) : Int) - 1))) with pc := wi (((atK26 y1.recs (atK1 y0.stack (wi (((y0.stack.length : Nat) : Int) - 1)))).pc) + 1) } : RecP)) (atK1 y0.stack (wi (((y0.stack.length : Nat) : Int) - 1))) with kids := ((atK26 (y1.recs.set (atK1 y0.stack (wi (((y0.stack.length : Nat) : Int) - 1))).toNat ({ atK26 y1.recs (atK1 y0.stack (wi (((y0.stack.length : Nat) : Int) - 1))) with pc := wi (((atK26 y1.recs (atK1 y0.stack (wi (((y0.stack.length : Nat) : Int) - 1)))).pc) + 1) } : RecP)) (atK1 y0.stack (wi (((y0.stack.length : Nat) : Int) - 1)))).kids) ++ ([y3]) } : RecP)).set y3.toNat (⟨(atK3 (atL [] y1.c.progs ((atK26 y1.recs (atK1 y0.stack (wi (((y0.stack.length : Nat) : Int) - 1)))).prog)) ((atK26 y1.recs (atK1 y0.stack (wi (((y0.stack.length : Nat) : Int) - 1)))).pc)).a, atK1 y0.stack (wi (((y0.stack.length : Nat) : Int) - 1)), 0, 0, (-1), [], false⟩ : RecP) } : EnvP), ()))
             else none
            else none
           else none
          else none
         else none
        else none
       else none
      else none
     else none
    else none
   else none
  else none
 else none
noncomputable abbrev runnerRunAllocated_k : Con SR1 := ⟨187, [.ref 33, .ref 27, .sh sI_, .sh sI_], [.sh .b], fun x => runnerRunAllocated x.1 x.2.1 x.2.2.1 x.2.2.2.1⟩
noncomputable def runnerRunAllocated_tb : List (Nat × Func) := [(181, Tryz.f181), (174, Tryz.f174), (185, Tryz.f185), (182, Tryz.f182)]
theorem runnerRunAllocated_ok : CO Tryz.prog runnerRunAllocated_k := co_fn mixed Tryz.func187 [runnerRunEmit_k, runnerRunTo_k, tablePublish_k] ⟨runnerRunEmit_ok, runnerRunTo_ok, tablePublish_ok, trivial⟩ runnerRunAllocated_tb ⟨Tryz.func181, Tryz.func174, Tryz.func185, Tryz.func182, trivial⟩ (fun _ => []) [(8, .close)] fun x => by kernel_rfl
end Go.Proofs.YtgiagoeoifgliaaGreat
