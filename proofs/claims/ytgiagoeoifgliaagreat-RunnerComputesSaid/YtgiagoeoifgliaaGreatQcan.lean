/- RunnerFull in the evaluator's form. The program's environment made anew, at a valid configuration. The law RunnerComputes answers true. -/
import Derived.Test.YtgiagoeoifgliaaGreatQcam
set_option linter.all false
namespace Go.Proofs.YtgiagoeoifgliaaGreat
section
open Go Go.RowKit
set_option maxRecDepth 100000
noncomputable def runnerRunFinish (y0 : (RunV MV)) (y1 : EnvP) : Option ((Bool × Unit) × ((RunV MV) × EnvP × Unit)) :=
 if 0 ≤ wi (((y0.stack.length : Nat) : Int) - 1) ∧ wi (((y0.stack.length : Nat) : Int) - 1) < ((y0.stack.length : Nat) : Int) then
  if y0.line = 16 then
   (pState y1.l (atK1 y0.stack (wi (((y0.stack.length : Nat) : Int) - 1)))).bind fun r1 =>
   (pStore y1.m r1.1.1 4).bind fun r2 =>
   (runnerRunTo y0 17 MV.nil).bind fun r3 =>
   some ((r3.1.1, ()), (r3.2.1, ({ y1 with m := r2.2.1 } : EnvP), ()))
  else
  if y0.line = 17 then
   (pJoin y1.l (atK1 y0.stack (wi (((y0.stack.length : Nat) : Int) - 1)))).bind fun r4 =>
   (pCAS y1.m r4.1.1 0 4294967296).bind fun r5 =>
   (runnerRunEmit y0 ({ y1 with m := r5.2.1 } : EnvP) (⟨10, 0, atK1 y0.stack (wi (((y0.stack.length : Nat) : Int) - 1)), 0, 0⟩ : Ev)).bind fun r6 =>
   if r5.1.1 = true then
    (runnerRunLeave r6.2.1).bind fun r7 =>
    some ((r7.1.1, ()), (r7.2.1, r6.2.2.1, ()))
   else
   (runnerRunTo r6.2.1 18 MV.nil).bind fun r8 =>
   some ((r8.1.1, ()), (r8.2.1, r6.2.2.1, ()))
  else
  if y0.line = 18 then
   (pJoin y1.l (atK1 y0.stack (wi (((y0.stack.length : Nat) : Int) - 1)))).bind fun r9 =>
   (pLoad y1.m r9.1.1).bind fun r10 =>
   if (wi ((wi (r10.1.1)) - 1)) < 0 then
    (runnerRunLeave ({ y0 with waiter := wi ((wi (r10.1.1)) - 1) } : (RunV MV))).bind fun r11 =>
    some ((r11.1.1, ()), (r11.2.1, ({ y1 with m := r10.2.1 } : EnvP), ()))
   else
   if y1.c.tasks ≤ (wi ((wi (r10.1.1)) - 1)) then
    (runnerRunLeave ({ y0 with waiter := wi ((wi (r10.1.1)) - 1) } : (RunV MV))).bind fun r12 =>
    some ((r12.1.1, ()), (r12.2.1, ({ y1 with m := r10.2.1 } : EnvP), ()))
   else
   (tableEnter y0.worker (wi ((wi (r10.1.1)) - 1))).bind fun r13 =>
   (runnerRunTo ({ y0 with waiter := wi ((wi (r10.1.1)) - 1) } : (RunV MV)) 19 r13.1.1).bind fun r14 =>
   some ((r14.1.1, ()), (r14.2.1, ({ y1 with m := r10.2.1 } : EnvP), ()))
  else
  (stepD2 y0.inside y1).bind fun r15 =>
  if (!r15.1.1) = true then
   some ((false, ()), (({ y0 with inside := r15.2.1 } : (RunV MV)), r15.2.2.1, ()))
  else
  (resultD2 r15.2.1).bind fun r16 =>
  if y0.line = 19 then
   if r16.1.1 = 3 then
    (tableClaim y0.worker y0.waiter).bind fun r17 =>
    (runnerRunTo ({ y0 with inside := r16.2.1 } : (RunV MV)) 21 r17.1.1).bind fun r18 =>
    some ((r18.1.1, ()), (r18.2.1, r15.2.2.1, ()))
   else
   if y0.line = 19 then
    (parkWake y0.worker r16.1.2.1).bind fun r19 =>
    (runnerRunTo ({ y0 with inside := r16.2.1 } : (RunV MV)) 20 r19.1.1).bind fun r20 =>
    some ((r20.1.1, ()), (r20.2.1, r15.2.2.1, ()))
   else
   if y0.line = 21 then
    if r16.1.1 = 1 then
     if 0 ≤ wi (((y0.stack.length : Nat) : Int) - 1) ∧ wi (((y0.stack.length : Nat) : Int) - 1) < ((y0.stack.length : Nat) : Int) then
      (runnerRunTo ({ y0 with stack := y0.stack.set (wi (((y0.stack.length : Nat) : Int) - 1)).toNat y0.waiter, inside := r16.2.1 } : (RunV MV)) 0 MV.nil).bind fun r21 =>
      some ((r21.1.1, ()), (r21.2.1, r15.2.2.1, ()))
     else none
    else
    (runnerRunLeave ({ y0 with inside := r16.2.1 } : (RunV MV))).bind fun r22 =>
    some ((r22.1.1, ()), (r22.2.1, r15.2.2.1, ()))
   else
   (runnerRunLeave ({ y0 with inside := r16.2.1 } : (RunV MV))).bind fun r23 =>
   some ((r23.1.1, ()), (r23.2.1, r15.2.2.1, ()))
  else
  if y0.line = 19 then
   (parkWake y0.worker r16.1.2.1).bind fun r24 =>
   (runnerRunTo ({ y0 with inside := r16.2.1 } : (RunV MV)) 20 r24.1.1).bind fun r25 =>
   some ((r25.1.1, ()), (r25.2.1, r15.2.2.1, ()))
  else
  if y0.line = 21 then
   if r16.1.1 = 1 then
    if 0 ≤ wi (((y0.stack.length : Nat) : Int) - 1) ∧ wi (((y0.stack.length : Nat) : Int) - 1) < ((y0.stack.length : Nat) : Int) then
     (runnerRunTo ({ y0 with stack := y0.stack.set (wi (((y0.stack.length : Nat) : Int) - 1)).toNat y0.waiter, inside := r16.2.1 } : (RunV MV)) 0 MV.nil).bind fun r26 =>
     some ((r26.1.1, ()), (r26.2.1, r15.2.2.1, ()))
    else none
   else
   (runnerRunLeave ({ y0 with inside := r16.2.1 } : (RunV MV))).bind fun r27 =>
   some ((r27.1.1, ()), (r27.2.1, r15.2.2.1, ()))
  else
  (runnerRunLeave ({ y0 with inside := r16.2.1 } : (RunV MV))).bind fun r28 =>
  some ((r28.1.1, ()), (r28.2.1, r15.2.2.1, ()))
 else none
noncomputable abbrev runnerRunFinish_k : Con SR1 := ⟨180, [.ref 33, .ref 27], [.sh .b], fun x => runnerRunFinish x.1 x.2.1⟩
theorem runnerRunFinish_eq (y0 : (RunV MV)) (y1 : EnvP) : runnerRunFinish_a y0 y1 = runnerRunFinish y0 y1 := by
  unfold runnerRunFinish_a runnerRunFinish
  simp only [if_true, agr_self, bind_guard]
theorem runnerRunFinish_ok : CO Tryz.prog runnerRunFinish_k := co_as runnerRunFinish_a_ok fun x out hx => (show runnerRunFinish_a_k.spec x = some out from (runnerRunFinish_eq x.1 x.2.1).trans hx)
noncomputable def runnerRunStep (y0 : (RunV MV)) (y1 : EnvP) : Option ((Bool × Unit) × ((RunV MV) × EnvP × Unit)) :=
 (pEnded y0.o).bind fun r1 =>
 if r1.1.1 = true then
  some ((true, ()), (({ y0 with o := r1.2.1 } : (RunV MV)), y1, ()))
 else
 if 0 ≤ wi (((y0.stack.length : Nat) : Int) - 1) ∧ wi (((y0.stack.length : Nat) : Int) - 1) < ((y0.stack.length : Nat) : Int) then
  if (atK1 y0.stack (wi (((y0.stack.length : Nat) : Int) - 1))) < 0 then
   (pEnd r1.2.1 4 0).bind fun r2 =>
   some ((r2.1.1, ()), (({ y0 with o := r2.2.1 } : (RunV MV)), y1, ()))
  else
  if y1.c.tasks ≤ (atK1 y0.stack (wi (((y0.stack.length : Nat) : Int) - 1))) then
   (pEnd r1.2.1 4 0).bind fun r3 =>
   some ((r3.1.1, ()), (({ y0 with o := r3.2.1 } : (RunV MV)), y1, ()))
  else
  if ((y1.recs.length : Nat) : Int) ≤ (atK1 y0.stack (wi (((y0.stack.length : Nat) : Int) - 1))) then
   (pEnd r1.2.1 4 0).bind fun r4 =>
   some ((r4.1.1, ()), (({ y0 with o := r4.2.1 } : (RunV MV)), y1, ()))
  else
  if y0.line = 0 then
   (runnerRunChoose ({ y0 with o := r1.2.1 } : (RunV MV)) y1).bind fun r5 =>
   if r5.1.1 = 4 then
    (tableAllocate).bind fun r6 =>
    if r5.1.1 = 1 then
     (runnerRunSimple ({ r5.2.1 with line := r5.1.1, inside := r6.1.1 } : (RunV MV)) r5.2.2.1).bind fun r7 =>
     some ((r7.1.1, ()), (r7.2.1, r7.2.2.1, ()))
    else
    if r5.1.1 = 2 then
     (runnerRunSimple ({ r5.2.1 with line := r5.1.1, inside := r6.1.1 } : (RunV MV)) r5.2.2.1).bind fun r8 =>
     some ((r8.1.1, ()), (r8.2.1, r8.2.2.1, ()))
    else
    if r5.1.1 = 3 then
     (runnerRunSimple ({ r5.2.1 with line := r5.1.1, inside := r6.1.1 } : (RunV MV)) r5.2.2.1).bind fun r9 =>
     some ((r9.1.1, ()), (r9.2.1, r9.2.2.1, ()))
    else
    if 4 ≤ r5.1.1 then
     if r5.1.1 ≤ 8 then
      (runnerRunSpawn ({ r5.2.1 with line := r5.1.1, inside := r6.1.1 } : (RunV MV)) r5.2.2.1).bind fun r10 =>
      some ((r10.1.1, ()), (r10.2.1, r10.2.2.1, ()))
     else
     if 9 ≤ r5.1.1 then
      if r5.1.1 ≤ 15 then
       (runnerRunJoin ({ r5.2.1 with line := r5.1.1, inside := r6.1.1 } : (RunV MV)) r5.2.2.1).bind fun r11 =>
       some ((r11.1.1, ()), (r11.2.1, r11.2.2.1, ()))
      else
      (runnerRunFinish ({ r5.2.1 with line := r5.1.1, inside := r6.1.1 } : (RunV MV)) r5.2.2.1).bind fun r12 =>
      some ((r12.1.1, ()), (r12.2.1, r12.2.2.1, ()))
     else
     (runnerRunFinish ({ r5.2.1 with line := r5.1.1, inside := r6.1.1 } : (RunV MV)) r5.2.2.1).bind fun r13 =>
     some ((r13.1.1, ()), (r13.2.1, r13.2.2.1, ()))
    else
    if 9 ≤ r5.1.1 then
     if r5.1.1 ≤ 15 then
      (runnerRunJoin ({ r5.2.1 with line := r5.1.1, inside := r6.1.1 } : (RunV MV)) r5.2.2.1).bind fun r14 =>
      some ((r14.1.1, ()), (r14.2.1, r14.2.2.1, ()))
     else
     (runnerRunFinish ({ r5.2.1 with line := r5.1.1, inside := r6.1.1 } : (RunV MV)) r5.2.2.1).bind fun r15 =>
     some ((r15.1.1, ()), (r15.2.1, r15.2.2.1, ()))
    else
    (runnerRunFinish ({ r5.2.1 with line := r5.1.1, inside := r6.1.1 } : (RunV MV)) r5.2.2.1).bind fun r16 =>
    some ((r16.1.1, ()), (r16.2.1, r16.2.2.1, ()))
   else
   if r5.1.1 = 1 then
    (runnerRunSimple ({ r5.2.1 with line := r5.1.1 } : (RunV MV)) r5.2.2.1).bind fun r17 =>
    some ((r17.1.1, ()), (r17.2.1, r17.2.2.1, ()))
   else
   if r5.1.1 = 2 then
    (runnerRunSimple ({ r5.2.1 with line := r5.1.1 } : (RunV MV)) r5.2.2.1).bind fun r18 =>
    some ((r18.1.1, ()), (r18.2.1, r18.2.2.1, ()))
   else
   if r5.1.1 = 3 then
    (runnerRunSimple ({ r5.2.1 with line := r5.1.1 } : (RunV MV)) r5.2.2.1).bind fun r19 =>
    some ((r19.1.1, ()), (r19.2.1, r19.2.2.1, ()))
   else
   if 4 ≤ r5.1.1 then
    if r5.1.1 ≤ 8 then
     (runnerRunSpawn ({ r5.2.1 with line := r5.1.1 } : (RunV MV)) r5.2.2.1).bind fun r20 =>
     some ((r20.1.1, ()), (r20.2.1, r20.2.2.1, ()))
    else
    if 9 ≤ r5.1.1 then
     if r5.1.1 ≤ 15 then
      (runnerRunJoin ({ r5.2.1 with line := r5.1.1 } : (RunV MV)) r5.2.2.1).bind fun r21 =>
      some ((r21.1.1, ()), (r21.2.1, r21.2.2.1, ()))
     else
     (runnerRunFinish ({ r5.2.1 with line := r5.1.1 } : (RunV MV)) r5.2.2.1).bind fun r22 =>
     some ((r22.1.1, ()), (r22.2.1, r22.2.2.1, ()))
    else
    (runnerRunFinish ({ r5.2.1 with line := r5.1.1 } : (RunV MV)) r5.2.2.1).bind fun r23 =>
    some ((r23.1.1, ()), (r23.2.1, r23.2.2.1, ()))
   else
   if 9 ≤ r5.1.1 then
    if r5.1.1 ≤ 15 then
     (runnerRunJoin ({ r5.2.1 with line := r5.1.1 } : (RunV MV)) r5.2.2.1).bind fun r24 =>
     some ((r24.1.1, ()), (r24.2.1, r24.2.2.1, ()))
    else
    (runnerRunFinish ({ r5.2.1 with line := r5.1.1 } : (RunV MV)) r5.2.2.1).bind fun r25 =>
    some ((r25.1.1, ()), (r25.2.1, r25.2.2.1, ()))
   else
   (runnerRunFinish ({ r5.2.1 with line := r5.1.1 } : (RunV MV)) r5.2.2.1).bind fun r26 =>
   some ((r26.1.1, ()), (r26.2.1, r26.2.2.1, ()))
  else
  if y0.line = 1 then
   (runnerRunSimple ({ y0 with o := r1.2.1 } : (RunV MV)) y1).bind fun r27 =>
   some ((r27.1.1, ()), (r27.2.1, r27.2.2.1, ()))
  else
  if y0.line = 2 then
   (runnerRunSimple ({ y0 with o := r1.2.1 } : (RunV MV)) y1).bind fun r28 =>
   some ((r28.1.1, ()), (r28.2.1, r28.2.2.1, ()))
  else
  if y0.line = 3 then
   (runnerRunSimple ({ y0 with o := r1.2.1 } : (RunV MV)) y1).bind fun r29 =>
   some ((r29.1.1, ()), (r29.2.1, r29.2.2.1, ()))
  else
  if 4 ≤ y0.line then
   if y0.line ≤ 8 then
    (runnerRunSpawn ({ y0 with o := r1.2.1 } : (RunV MV)) y1).bind fun r30 =>
    some ((r30.1.1, ()), (r30.2.1, r30.2.2.1, ()))
   else
   if 9 ≤ y0.line then
    if y0.line ≤ 15 then
     (runnerRunJoin ({ y0 with o := r1.2.1 } : (RunV MV)) y1).bind fun r31 =>
     some ((r31.1.1, ()), (r31.2.1, r31.2.2.1, ()))
    else
    (runnerRunFinish ({ y0 with o := r1.2.1 } : (RunV MV)) y1).bind fun r32 =>
    some ((r32.1.1, ()), (r32.2.1, r32.2.2.1, ()))
   else
   (runnerRunFinish ({ y0 with o := r1.2.1 } : (RunV MV)) y1).bind fun r33 =>
   some ((r33.1.1, ()), (r33.2.1, r33.2.2.1, ()))
  else
  if 9 ≤ y0.line then
   if y0.line ≤ 15 then
    (runnerRunJoin ({ y0 with o := r1.2.1 } : (RunV MV)) y1).bind fun r34 =>
    some ((r34.1.1, ()), (r34.2.1, r34.2.2.1, ()))
   else
   (runnerRunFinish ({ y0 with o := r1.2.1 } : (RunV MV)) y1).bind fun r35 =>
   some ((r35.1.1, ()), (r35.2.1, r35.2.2.1, ()))
  else
  (runnerRunFinish ({ y0 with o := r1.2.1 } : (RunV MV)) y1).bind fun r36 =>
  some ((r36.1.1, ()), (r36.2.1, r36.2.2.1, ()))
 else none
noncomputable abbrev runnerRunStep_k : Con SR1 := ⟨173, [.ref 33, .ref 27], [.sh .b], fun x => runnerRunStep x.1 x.2.1⟩
noncomputable def runnerRunStep_tb : List (Nat × Func) := [(174, Tryz.f174)]
theorem runnerRunStep_ok : CO Tryz.prog runnerRunStep_k := co_fn mixed Tryz.func173 [pEnded_k, pEnd_k, runnerRunChoose_k, tableAllocate_k, runnerRunSimple_k, runnerRunSpawn_k, runnerRunJoin_k, runnerRunFinish_k] ⟨pEnded_ok, pEnd_ok, runnerRunChoose_ok, tableAllocate_ok, runnerRunSimple_ok, runnerRunSpawn_ok, runnerRunJoin_ok, runnerRunFinish_ok, trivial⟩ runnerRunStep_tb ⟨Tryz.func174, trivial⟩ (fun _ => []) [] fun x => by kernel_rfl
noncomputable def stepD3 (m : MV) (e : EnvP) : Option ((Bool × Unit) × (MV × EnvP × Unit)) :=
 match m with
 | .alloc x => (tableAllocateStep x e).bind fun o => some (o.1, (MV.alloc o.2.1, o.2.2))
 | .publish x => (tablePublishStep x e).bind fun o => some (o.1, (MV.publish o.2.1, o.2.2))
 | .claim x => (tableClaimStep x e).bind fun o => some (o.1, (MV.claim o.2.1, o.2.2))
 | .attempt x => (lockAttemptStep x e).bind fun o => some (o.1, (MV.attempt o.2.1, o.2.2))
 | .release x => (lockReleaseStep x e).bind fun o => some (o.1, (MV.release o.2.1, o.2.2))
 | .opush x => (ownerPushStep x e).bind fun o => some (o.1, (MV.opush o.2.1, o.2.2))
 | .opop x => (ownerPopStep x e).bind fun o => some (o.1, (MV.opop o.2.1, o.2.2))
 | .steal x => (thiefStealStep x e).bind fun o => some (o.1, (MV.steal o.2.1, o.2.2))
 | .set x => (bitmapSetStep x e).bind fun o => some (o.1, (MV.set o.2.1, o.2.2))
 | .reset x => (bitmapResetStep x e).bind fun o => some (o.1, (MV.reset o.2.1, o.2.2))
 | .insert x => (injectorInsertStep x e).bind fun o => some (o.1, (MV.insert o.2.1, o.2.2))
 | .remove x => (injectorRemoveStep x e).bind fun o => some (o.1, (MV.remove o.2.1, o.2.2))
 | .sleep x => (parkSleepStep x e).bind fun o => some (o.1, (MV.sleep o.2.1, o.2.2))
 | .wake x => (parkWakeStep x e).bind fun o => some (o.1, (MV.wake o.2.1, o.2.2))
 | .raise x => (boostRaiseStep x e).bind fun o => some (o.1, (MV.raise o.2.1, o.2.2))
 | .probe x => (probeProbeStep x e).bind fun o => some (o.1, (MV.probe o.2.1, o.2.2))
 | .lpush x => (levelsPushStep x e).bind fun o => some (o.1, (MV.lpush o.2.1, o.2.2))
 | .lpop x => (levelsPopStep x e).bind fun o => some (o.1, (MV.lpop o.2.1, o.2.2))
 | .walk x => (boostWalkStep x e).bind fun o => some (o.1, (MV.walk o.2.1, o.2.2))
 | .take x => (takeTakeStep x e).bind fun o => some (o.1, (MV.take o.2.1, o.2.2))
 | .sweep x => (agingSweepStep x e).bind fun o => some (o.1, (MV.sweep o.2.1, o.2.2))
 | .enter x => (tableEnterStep x e).bind fun o => some (o.1, (MV.enter o.2.1, o.2.2))
 | .drain x => (drainDrainStep x e).bind fun o => some (o.1, (MV.drain o.2.1, o.2.2))
 | .run x => (runnerRunStep x e).bind fun o => some (o.1, (MV.run o.2.1, o.2.2))
 | _ => none
noncomputable abbrev stepD3_k : Con SR1 := ⟨1000000000, [.mch, .ref 27], [.sh .b], fun x => stepD3 x.1 x.2.1⟩
theorem stepD3_ok : CO Tryz.prog stepD3_k := co_meth (S := SR1) (i := 0) (ps := [.ref 27]) (rs := [.sh .b]) (spec := fun m xs => stepD3 m xs.1) fun m xs out h => by
  cases m with
  | alloc x => exact via_ok (S := SR1) (ps := [.ref 27]) (rs := [.sh .b]) (c := 35) (mk := MV.alloc) (fun _ => rfl) rfl (fun _ _ _ _ => by kernel_rfl) tableAllocateStep_ok h
  | publish x => exact via_ok (S := SR1) (ps := [.ref 27]) (rs := [.sh .b]) (c := 50) (mk := MV.publish) (fun _ => rfl) rfl (fun _ _ _ _ => by kernel_rfl) tablePublishStep_ok h
  | claim x => exact via_ok (S := SR1) (ps := [.ref 27]) (rs := [.sh .b]) (c := 45) (mk := MV.claim) (fun _ => rfl) rfl (fun _ _ _ _ => by kernel_rfl) tableClaimStep_ok h
  | attempt x => exact via_ok (S := SR1) (ps := [.ref 27]) (rs := [.sh .b]) (c := 34) (mk := MV.attempt) (fun _ => rfl) rfl (fun _ _ _ _ => by kernel_rfl) lockAttemptStep_ok h
  | release x => exact via_ok (S := SR1) (ps := [.ref 27]) (rs := [.sh .b]) (c := 37) (mk := MV.release) (fun _ => rfl) rfl (fun _ _ _ _ => by kernel_rfl) lockReleaseStep_ok h
  | opush x => exact via_ok (S := SR1) (ps := [.ref 27]) (rs := [.sh .b]) (c := 53) (mk := MV.opush) (fun _ => rfl) rfl (fun _ _ _ _ => by kernel_rfl) ownerPushStep_ok h
  | opop x => exact via_ok (S := SR1) (ps := [.ref 27]) (rs := [.sh .b]) (c := 52) (mk := MV.opop) (fun _ => rfl) rfl (fun _ _ _ _ => by kernel_rfl) ownerPopStep_ok h
  | steal x => exact via_ok (S := SR1) (ps := [.ref 27]) (rs := [.sh .b]) (c := 42) (mk := MV.steal) (fun _ => rfl) rfl (fun _ _ _ _ => by kernel_rfl) thiefStealStep_ok h
  | set x => exact via_ok (S := SR1) (ps := [.ref 27]) (rs := [.sh .b]) (c := 54) (mk := MV.set) (fun _ => rfl) rfl (fun _ _ _ _ => by kernel_rfl) bitmapSetStep_ok h
  | reset x => exact via_ok (S := SR1) (ps := [.ref 27]) (rs := [.sh .b]) (c := 43) (mk := MV.reset) (fun _ => rfl) rfl (fun _ _ _ _ => by kernel_rfl) bitmapResetStep_ok h
  | insert x => exact via_ok (S := SR1) (ps := [.ref 27]) (rs := [.sh .b]) (c := 36) (mk := MV.insert) (fun _ => rfl) rfl (fun _ _ _ _ => by kernel_rfl) injectorInsertStep_ok h
  | remove x => exact via_ok (S := SR1) (ps := [.ref 27]) (rs := [.sh .b]) (c := 51) (mk := MV.remove) (fun _ => rfl) rfl (fun _ _ _ _ => by kernel_rfl) injectorRemoveStep_ok h
  | sleep x => exact via_ok (S := SR1) (ps := [.ref 27]) (rs := [.sh .b]) (c := 32) (mk := MV.sleep) (fun _ => rfl) rfl (fun _ _ _ _ => by kernel_rfl) parkSleepStep_ok h
  | wake x => exact via_ok (S := SR1) (ps := [.ref 27]) (rs := [.sh .b]) (c := 38) (mk := MV.wake) (fun _ => rfl) rfl (fun _ _ _ _ => by kernel_rfl) parkWakeStep_ok h
  | raise x => exact via_ok (S := SR1) (ps := [.ref 27]) (rs := [.sh .b]) (c := 55) (mk := MV.raise) (fun _ => rfl) rfl (fun _ _ _ _ => by kernel_rfl) boostRaiseStep_ok h
  | probe x => exact via_ok (S := SR1) (ps := [.ref 27]) (rs := [.sh .b]) (c := 46) (mk := MV.probe) (fun _ => rfl) rfl (fun _ _ _ _ => by kernel_rfl) probeProbeStep_ok h
  | lpush x => exact via_ok (S := SR1) (ps := [.ref 27]) (rs := [.sh .b]) (c := 47) (mk := MV.lpush) (fun _ => rfl) rfl (fun _ _ _ _ => by kernel_rfl) levelsPushStep_ok h
  | lpop x => exact via_ok (S := SR1) (ps := [.ref 27]) (rs := [.sh .b]) (c := 44) (mk := MV.lpop) (fun _ => rfl) rfl (fun _ _ _ _ => by kernel_rfl) levelsPopStep_ok h
  | walk x => exact via_ok (S := SR1) (ps := [.ref 27]) (rs := [.sh .b]) (c := 48) (mk := MV.walk) (fun _ => rfl) rfl (fun _ _ _ _ => by kernel_rfl) boostWalkStep_ok h
  | take x => exact via_ok (S := SR1) (ps := [.ref 27]) (rs := [.sh .b]) (c := 39) (mk := MV.take) (fun _ => rfl) rfl (fun _ _ _ _ => by kernel_rfl) takeTakeStep_ok h
  | sweep x => exact via_ok (S := SR1) (ps := [.ref 27]) (rs := [.sh .b]) (c := 40) (mk := MV.sweep) (fun _ => rfl) rfl (fun _ _ _ _ => by kernel_rfl) agingSweepStep_ok h
  | enter x => exact via_ok (S := SR1) (ps := [.ref 27]) (rs := [.sh .b]) (c := 49) (mk := MV.enter) (fun _ => rfl) rfl (fun _ _ _ _ => by kernel_rfl) tableEnterStep_ok h
  | drain x => exact via_ok (S := SR1) (ps := [.ref 27]) (rs := [.sh .b]) (c := 41) (mk := MV.drain) (fun _ => rfl) rfl (fun _ _ _ _ => by kernel_rfl) drainDrainStep_ok h
  | run x => exact via_ok (S := SR1) (ps := [.ref 27]) (rs := [.sh .b]) (c := 33) (mk := MV.run) (fun _ => rfl) rfl (fun _ _ _ _ => by kernel_rfl) runnerRunStep_ok h
  | _ => cases h
noncomputable def resultD3 (m : MV) : Option ((Int × Int × Unit) × (MV × Unit)) :=
 match m with
 | .alloc x => some ((x.o.code, x.o.value, ()), (MV.alloc x, ()))
 | .publish x => some ((x.o.code, x.o.value, ()), (MV.publish x, ()))
 | .claim x => some ((x.o.code, x.o.value, ()), (MV.claim x, ()))
 | .attempt x => some ((x.o.code, x.o.value, ()), (MV.attempt x, ()))
 | .release x => some ((x.o.code, x.o.value, ()), (MV.release x, ()))
 | .opush x => some ((x.o.code, x.o.value, ()), (MV.opush x, ()))
 | .opop x => some ((x.o.code, x.o.value, ()), (MV.opop x, ()))
 | .steal x => some ((x.o.code, x.o.value, ()), (MV.steal x, ()))
 | .set x => some ((x.o.code, x.o.value, ()), (MV.set x, ()))
 | .reset x => some ((x.o.code, x.o.value, ()), (MV.reset x, ()))
 | .insert x => some ((x.o.code, x.o.value, ()), (MV.insert x, ()))
 | .remove x => some ((x.o.code, x.o.value, ()), (MV.remove x, ()))
 | .sleep x => some ((x.o.code, x.o.value, ()), (MV.sleep x, ()))
 | .wake x => some ((x.o.code, x.o.value, ()), (MV.wake x, ()))
 | .raise x => some ((x.o.code, x.o.value, ()), (MV.raise x, ()))
 | .probe x => some ((x.o.code, x.o.value, ()), (MV.probe x, ()))
 | .lpush x => some ((x.o.code, x.o.value, ()), (MV.lpush x, ()))
 | .lpop x => some ((x.o.code, x.o.value, ()), (MV.lpop x, ()))
 | .walk x => some ((x.o.code, x.o.value, ()), (MV.walk x, ()))
 | .take x => some ((x.o.code, x.o.value, ()), (MV.take x, ()))
 | .sweep x => some ((x.o.code, x.o.value, ()), (MV.sweep x, ()))
 | .enter x => some ((x.o.code, x.o.value, ()), (MV.enter x, ()))
 | .drain x => some ((x.o.code, x.o.value, ()), (MV.drain x, ()))
 | .run x => some ((x.o.code, x.o.value, ()), (MV.run x, ()))
 | _ => none
noncomputable abbrev resultD3_k : Con SR1 := ⟨1000000001, [.mch], [.sh sI_, .sh sI_], fun x => resultD3 x.1⟩
theorem resultD3_ok : CO Tryz.prog resultD3_k := co_meth (S := SR1) (i := 1) (ps := []) (rs := [.sh sI_, .sh sI_]) (spec := fun m _ => resultD3 m) fun m xs out h => by
  cases m with
  | alloc x => exact via_ok (S := SR1) (ps := []) (rs := [.sh sI_, .sh sI_]) (c := 35) (mk := MV.alloc) (f := 172) (sp := fun x => some ((x.1.o.code, x.1.o.value, ()), (x.1, ()))) (fun _ => rfl) rfl (fun _ _ _ _ => by kernel_rfl) (co_like [pResult_k] ⟨pResult_ok, trivial⟩ fun x => by kernel_rfl) h
  | publish x => exact via_ok (S := SR1) (ps := []) (rs := [.sh sI_, .sh sI_]) (c := 50) (mk := MV.publish) (f := 172) (sp := fun x => some ((x.1.o.code, x.1.o.value, ()), (x.1, ()))) (fun _ => rfl) rfl (fun _ _ _ _ => by kernel_rfl) (co_like [pResult_k] ⟨pResult_ok, trivial⟩ fun x => by kernel_rfl) h
  | claim x => exact via_ok (S := SR1) (ps := []) (rs := [.sh sI_, .sh sI_]) (c := 45) (mk := MV.claim) (f := 172) (sp := fun x => some ((x.1.o.code, x.1.o.value, ()), (x.1, ()))) (fun _ => rfl) rfl (fun _ _ _ _ => by kernel_rfl) (co_like [pResult_k] ⟨pResult_ok, trivial⟩ fun x => by kernel_rfl) h
  | attempt x => exact via_ok (S := SR1) (ps := []) (rs := [.sh sI_, .sh sI_]) (c := 34) (mk := MV.attempt) (f := 172) (sp := fun x => some ((x.1.o.code, x.1.o.value, ()), (x.1, ()))) (fun _ => rfl) rfl (fun _ _ _ _ => by kernel_rfl) (co_like [pResult_k] ⟨pResult_ok, trivial⟩ fun x => by kernel_rfl) h
  | release x => exact via_ok (S := SR1) (ps := []) (rs := [.sh sI_, .sh sI_]) (c := 37) (mk := MV.release) (f := 172) (sp := fun x => some ((x.1.o.code, x.1.o.value, ()), (x.1, ()))) (fun _ => rfl) rfl (fun _ _ _ _ => by kernel_rfl) (co_like [pResult_k] ⟨pResult_ok, trivial⟩ fun x => by kernel_rfl) h
  | opush x => exact via_ok (S := SR1) (ps := []) (rs := [.sh sI_, .sh sI_]) (c := 53) (mk := MV.opush) (f := 172) (sp := fun x => some ((x.1.o.code, x.1.o.value, ()), (x.1, ()))) (fun _ => rfl) rfl (fun _ _ _ _ => by kernel_rfl) (co_like [pResult_k] ⟨pResult_ok, trivial⟩ fun x => by kernel_rfl) h
  | opop x => exact via_ok (S := SR1) (ps := []) (rs := [.sh sI_, .sh sI_]) (c := 52) (mk := MV.opop) (f := 172) (sp := fun x => some ((x.1.o.code, x.1.o.value, ()), (x.1, ()))) (fun _ => rfl) rfl (fun _ _ _ _ => by kernel_rfl) (co_like [pResult_k] ⟨pResult_ok, trivial⟩ fun x => by kernel_rfl) h
  | steal x => exact via_ok (S := SR1) (ps := []) (rs := [.sh sI_, .sh sI_]) (c := 42) (mk := MV.steal) (f := 172) (sp := fun x => some ((x.1.o.code, x.1.o.value, ()), (x.1, ()))) (fun _ => rfl) rfl (fun _ _ _ _ => by kernel_rfl) (co_like [pResult_k] ⟨pResult_ok, trivial⟩ fun x => by kernel_rfl) h
  | set x => exact via_ok (S := SR1) (ps := []) (rs := [.sh sI_, .sh sI_]) (c := 54) (mk := MV.set) (f := 172) (sp := fun x => some ((x.1.o.code, x.1.o.value, ()), (x.1, ()))) (fun _ => rfl) rfl (fun _ _ _ _ => by kernel_rfl) (co_like [pResult_k] ⟨pResult_ok, trivial⟩ fun x => by kernel_rfl) h
  | reset x => exact via_ok (S := SR1) (ps := []) (rs := [.sh sI_, .sh sI_]) (c := 43) (mk := MV.reset) (f := 172) (sp := fun x => some ((x.1.o.code, x.1.o.value, ()), (x.1, ()))) (fun _ => rfl) rfl (fun _ _ _ _ => by kernel_rfl) (co_like [pResult_k] ⟨pResult_ok, trivial⟩ fun x => by kernel_rfl) h
  | insert x => exact via_ok (S := SR1) (ps := []) (rs := [.sh sI_, .sh sI_]) (c := 36) (mk := MV.insert) (f := 172) (sp := fun x => some ((x.1.o.code, x.1.o.value, ()), (x.1, ()))) (fun _ => rfl) rfl (fun _ _ _ _ => by kernel_rfl) (co_like [pResult_k] ⟨pResult_ok, trivial⟩ fun x => by kernel_rfl) h
  | remove x => exact via_ok (S := SR1) (ps := []) (rs := [.sh sI_, .sh sI_]) (c := 51) (mk := MV.remove) (f := 172) (sp := fun x => some ((x.1.o.code, x.1.o.value, ()), (x.1, ()))) (fun _ => rfl) rfl (fun _ _ _ _ => by kernel_rfl) (co_like [pResult_k] ⟨pResult_ok, trivial⟩ fun x => by kernel_rfl) h
  | sleep x => exact via_ok (S := SR1) (ps := []) (rs := [.sh sI_, .sh sI_]) (c := 32) (mk := MV.sleep) (f := 172) (sp := fun x => some ((x.1.o.code, x.1.o.value, ()), (x.1, ()))) (fun _ => rfl) rfl (fun _ _ _ _ => by kernel_rfl) (co_like [pResult_k] ⟨pResult_ok, trivial⟩ fun x => by kernel_rfl) h
  | wake x => exact via_ok (S := SR1) (ps := []) (rs := [.sh sI_, .sh sI_]) (c := 38) (mk := MV.wake) (f := 172) (sp := fun x => some ((x.1.o.code, x.1.o.value, ()), (x.1, ()))) (fun _ => rfl) rfl (fun _ _ _ _ => by kernel_rfl) (co_like [pResult_k] ⟨pResult_ok, trivial⟩ fun x => by kernel_rfl) h
  | raise x => exact via_ok (S := SR1) (ps := []) (rs := [.sh sI_, .sh sI_]) (c := 55) (mk := MV.raise) (f := 172) (sp := fun x => some ((x.1.o.code, x.1.o.value, ()), (x.1, ()))) (fun _ => rfl) rfl (fun _ _ _ _ => by kernel_rfl) (co_like [pResult_k] ⟨pResult_ok, trivial⟩ fun x => by kernel_rfl) h
  | probe x => exact via_ok (S := SR1) (ps := []) (rs := [.sh sI_, .sh sI_]) (c := 46) (mk := MV.probe) (f := 172) (sp := fun x => some ((x.1.o.code, x.1.o.value, ()), (x.1, ()))) (fun _ => rfl) rfl (fun _ _ _ _ => by kernel_rfl) (co_like [pResult_k] ⟨pResult_ok, trivial⟩ fun x => by kernel_rfl) h
  | lpush x => exact via_ok (S := SR1) (ps := []) (rs := [.sh sI_, .sh sI_]) (c := 47) (mk := MV.lpush) (f := 172) (sp := fun x => some ((x.1.o.code, x.1.o.value, ()), (x.1, ()))) (fun _ => rfl) rfl (fun _ _ _ _ => by kernel_rfl) (co_like [pResult_k] ⟨pResult_ok, trivial⟩ fun x => by kernel_rfl) h
  | lpop x => exact via_ok (S := SR1) (ps := []) (rs := [.sh sI_, .sh sI_]) (c := 44) (mk := MV.lpop) (f := 172) (sp := fun x => some ((x.1.o.code, x.1.o.value, ()), (x.1, ()))) (fun _ => rfl) rfl (fun _ _ _ _ => by kernel_rfl) (co_like [pResult_k] ⟨pResult_ok, trivial⟩ fun x => by kernel_rfl) h
  | walk x => exact via_ok (S := SR1) (ps := []) (rs := [.sh sI_, .sh sI_]) (c := 48) (mk := MV.walk) (f := 172) (sp := fun x => some ((x.1.o.code, x.1.o.value, ()), (x.1, ()))) (fun _ => rfl) rfl (fun _ _ _ _ => by kernel_rfl) (co_like [pResult_k] ⟨pResult_ok, trivial⟩ fun x => by kernel_rfl) h
  | take x => exact via_ok (S := SR1) (ps := []) (rs := [.sh sI_, .sh sI_]) (c := 39) (mk := MV.take) (f := 172) (sp := fun x => some ((x.1.o.code, x.1.o.value, ()), (x.1, ()))) (fun _ => rfl) rfl (fun _ _ _ _ => by kernel_rfl) (co_like [pResult_k] ⟨pResult_ok, trivial⟩ fun x => by kernel_rfl) h
  | sweep x => exact via_ok (S := SR1) (ps := []) (rs := [.sh sI_, .sh sI_]) (c := 40) (mk := MV.sweep) (f := 172) (sp := fun x => some ((x.1.o.code, x.1.o.value, ()), (x.1, ()))) (fun _ => rfl) rfl (fun _ _ _ _ => by kernel_rfl) (co_like [pResult_k] ⟨pResult_ok, trivial⟩ fun x => by kernel_rfl) h
  | enter x => exact via_ok (S := SR1) (ps := []) (rs := [.sh sI_, .sh sI_]) (c := 49) (mk := MV.enter) (f := 172) (sp := fun x => some ((x.1.o.code, x.1.o.value, ()), (x.1, ()))) (fun _ => rfl) rfl (fun _ _ _ _ => by kernel_rfl) (co_like [pResult_k] ⟨pResult_ok, trivial⟩ fun x => by kernel_rfl) h
  | drain x => exact via_ok (S := SR1) (ps := []) (rs := [.sh sI_, .sh sI_]) (c := 41) (mk := MV.drain) (f := 172) (sp := fun x => some ((x.1.o.code, x.1.o.value, ()), (x.1, ()))) (fun _ => rfl) rfl (fun _ _ _ _ => by kernel_rfl) (co_like [pResult_k] ⟨pResult_ok, trivial⟩ fun x => by kernel_rfl) h
  | run x => exact via_ok (S := SR1) (ps := []) (rs := [.sh sI_, .sh sI_]) (c := 33) (mk := MV.run) (f := 172) (sp := fun x => some ((x.1.o.code, x.1.o.value, ()), (x.1, ()))) (fun _ => rfl) rfl (fun _ _ _ _ => by kernel_rfl) (co_like [pResult_k] ⟨pResult_ok, trivial⟩ fun x => by kernel_rfl) h
  | _ => cases h
noncomputable def runnerRun (y0 : Int) (y1 : Int) : Option ((MV × Unit) × (Unit)) :=
 some ((MV.run (⟨⟨false, 0, 0⟩, y0, [y1], 0, MV.nil, 0, 0, 0, 0⟩ : (RunV MV)), ()), (()))
noncomputable abbrev runnerRun_k : Con SR1 := ⟨15, [.sh sI_, .sh sI_], [.sh .mach], fun x => runnerRun x.1 x.2.1⟩
theorem runnerRun_ok : CO Tryz.prog runnerRun_k := co_fn mixed Tryz.func15 [] trivial [] trivial (fun _ => []) [] fun x => by kernel_rfl
noncomputable def configClone (y0 : Cfg) : Option ((Cfg × Unit) × (Unit)) :=
 (cloneRows y0.progs).bind fun r1 =>
 (lpF (σ := Int × (Int × Int × Int × Int × Int × Int × Int × Int × Int × List (List Ins) × List Sub × Unit) × Unit) (β := Int × (Int × Int × Int × Int × Int × Int × Int × Int × Int × List (List Ins) × List Sub × Unit) × Unit) (fun self4 x2 =>
  if x2.1 < ((r1.1.1.length : Nat) : Int) then
   if 0 ≤ x2.1 ∧ x2.1 < ((x2.2.1.2.2.2.2.2.2.2.2.2.1.length : Nat) : Int) then
    (cloneIns (atK18 x2.2.1.2.2.2.2.2.2.2.2.2.1 x2.1)).bind fun r5 =>
    if 0 ≤ x2.1 ∧ x2.1 < ((x2.2.1.2.2.2.2.2.2.2.2.2.1.length : Nat) : Int) then
     self4 (wi (x2.1 + 1), (x2.2.1.1, x2.2.1.2.1, x2.2.1.2.2.1, x2.2.1.2.2.2.1, x2.2.1.2.2.2.2.1, x2.2.1.2.2.2.2.2.1, x2.2.1.2.2.2.2.2.2.1, x2.2.1.2.2.2.2.2.2.2.1, x2.2.1.2.2.2.2.2.2.2.2.1, x2.2.1.2.2.2.2.2.2.2.2.2.1.set x2.1.toNat r5.1.1, x2.2.1.2.2.2.2.2.2.2.2.2.2.1, ()), ())
    else none
   else none
  else
  some (x2.1, (x2.2.1.1, x2.2.1.2.1, x2.2.1.2.2.1, x2.2.1.2.2.2.1, x2.2.1.2.2.2.2.1, x2.2.1.2.2.2.2.2.1, x2.2.1.2.2.2.2.2.2.1, x2.2.1.2.2.2.2.2.2.2.1, x2.2.1.2.2.2.2.2.2.2.2.1, x2.2.1.2.2.2.2.2.2.2.2.2.1, x2.2.1.2.2.2.2.2.2.2.2.2.2.1, ()), ())
 ) 18446744073709551616 (0, (y0.workers, y0.levels, y0.classes, y0.tasks, y0.deque, y0.heap, y0.batch, y0.age, y0.patience, r1.1.1, y0.subs, ()), ())).bind fun z3 =>
 (cloneSubs z3.2.1.2.2.2.2.2.2.2.2.2.2.1).bind fun r6 =>
 some (((⟨z3.2.1.1, z3.2.1.2.1, z3.2.1.2.2.1, z3.2.1.2.2.2.1, z3.2.1.2.2.2.2.1, z3.2.1.2.2.2.2.2.1, z3.2.1.2.2.2.2.2.2.1, z3.2.1.2.2.2.2.2.2.2.1, z3.2.1.2.2.2.2.2.2.2.2.1, z3.2.1.2.2.2.2.2.2.2.2.2.1, r6.1.1⟩ : Cfg), ()), (()))
noncomputable abbrev configClone_k : Con SR1 := ⟨79, [.val 13], [.val 13], fun x => configClone x.1⟩
theorem configClone_ok : CO Tryz.prog configClone_k := co_fn mixed Tryz.func79 [cloneRows_k, cloneIns_k, cloneSubs_k] ⟨cloneRows_ok, cloneIns_ok, cloneSubs_ok, trivial⟩ [] trivial (fun _ => []) [(3, .loop [.rg 11 sI_, .cs 11 [sI_, sI_, sI_, sI_, sI_, sI_, sI_, sI_, sI_, (.row 18), (.ro 4)]] 18446744073709551616 0)] fun x => by kernel_rfl
noncomputable def layoutNew (y0 : Cfg) : Option ((LayV × Int × Unit) × (Unit)) :=
 (cfgCheck y0).bind fun r1 =>
 if r1.1.1 ≠ 0 then
  some (((⟨0, 0, 0, 0, 0, 0, 0, 0, 0, 0, 0⟩ : LayV), r1.1.1, ()), (()))
 else
 some ((({ y0 with sleepers := wi (4 + y0.heap), epochs := wi ((wi (4 + y0.heap)) + y0.classes), bitmaps := wi ((wi ((wi (4 + y0.heap)) + y0.classes)) + y0.workers), queues := wi ((wi ((wi ((wi (4 + y0.heap)) + y0.classes)) + y0.workers)) + y0.workers), table := wi ((wi ((wi ((wi ((wi (4 + y0.heap)) + y0.classes)) + y0.workers)) + y0.workers)) + (wi ((wi (y0.workers * y0.levels)) * (wi (2 + y0.deque))))) } : LayV), 0, ()), (()))
noncomputable abbrev layoutNew_k : Con SR1 := ⟨76, [.val 13], [.val 24, .sh sI_], fun x => layoutNew x.1⟩
theorem layoutNew_ok : CO Tryz.prog layoutNew_k := co_fn mixed Tryz.func76 [cfgCheck_k] ⟨cfgCheck_ok, trivial⟩ [] trivial (fun _ => []) [] fun x => by kernel_rfl
noncomputable def memoryNew (y0 : Int) : Option ((MemV × Unit) × (Unit)) :=
 if (if 131072 < (if y0 < 0 then 0 else y0) then 131072 else (if y0 < 0 then 0 else y0)) = (if 131072 < (if y0 < 0 then 0 else y0) then 131072 else (if y0 < 0 then 0 else y0)) then
  if 0 ≤ (if 131072 < (if y0 < 0 then 0 else y0) then 131072 else (if y0 < 0 then 0 else y0)) ∧ (if 131072 < (if y0 < 0 then 0 else y0) then 131072 else (if y0 < 0 then 0 else y0)) ≤ 1099511627776 then
   some (((⟨List.replicate ((if 131072 < (if y0 < 0 then 0 else y0) then 131072 else (if y0 < 0 then 0 else y0)) : Int).toNat (0 : Int), ⟨0, 0, 0, 0⟩, 0⟩ : MemV), ()), (()))
  else none
 else none
noncomputable abbrev memoryNew_k : Con SR1 := ⟨119, [.sh sI_], [.sh (.own 9)], fun x => memoryNew x.1⟩
theorem memoryNew_ok : CO Tryz.prog memoryNew_k := co_fn mixed Tryz.func119 [] trivial [] trivial (fun _ => []) [] fun x => by kernel_rfl
noncomputable def clockNew  : Option ((ClkV × Unit) × (Unit)) :=
 some (((⟨0, 0⟩ : ClkV), ()), (()))
noncomputable abbrev clockNew_k : Con SR1 := ⟨120, [], [.sh (.own 25)], fun x => clockNew ⟩
theorem clockNew_ok : CO Tryz.prog clockNew_k := co_fn mixed Tryz.func120 [] trivial [] trivial (fun _ => []) [] fun x => by kernel_rfl
noncomputable def machineBare (y0 : Int) : Option ((EnvP × Unit) × (Unit)) :=
 (memoryNew y0).bind fun r1 =>
 (clockNew).bind fun r2 =>
 some (((⟨⟨0, 0, 0, 0, 0, 0, 0, 0, 0, [], []⟩, ⟨0, 0, 0, 0, 0, 0, 0, 0, 0, 0, 0⟩, r1.1.1, r2.1.1, [], []⟩ : EnvP), ()), (()))
noncomputable abbrev machineBare_k : Con SR1 := ⟨77, [.sh sI_], [.sh (.own 27)], fun x => machineBare x.1⟩
theorem machineBare_ok : CO Tryz.prog machineBare_k := co_fn mixed Tryz.func77 [memoryNew_k, clockNew_k] ⟨memoryNew_ok, clockNew_ok, trivial⟩ [] trivial (fun _ => []) [] fun x => by kernel_rfl
noncomputable def r5number (r : CodV) (k : Int) : Option ((Int × Unit) × (CodV × Unit)) :=
 if r.at_ < ((r.inn.length : Nat) : Int) then
  if 0 ≤ r.at_ ∧ r.at_ < ((r.inn.length : Nat) : Int) then
   if k ≠ 0 then
    some (((Int.tmod (wi (atK17 r.inn r.at_)) k), ()), (({ r with at_ := wi (r.at_ + 1) } : CodV), ()))
   else none
  else none
 else
 some ((0, ()), (({ r with at_ := wi (r.at_ + 1) } : CodV), ()))
noncomputable abbrev r5number_k : Con SR1 := ⟨118, [.ref 19, .sh sI_], [.sh sI_], fun x => r5number x.1 x.2.1⟩
theorem r5number_ok : CO Tryz.prog r5number_k := co_fn mixed Tryz.func118 [] trivial [] trivial (fun _ => []) [] fun x => by kernel_rfl
noncomputable def r5decode (b : List Int) : Option ((Cfg × Unit) × (Unit)) :=
 (r5number (⟨b, [], 0, false⟩ : CodV) 4).bind fun r1 =>
 (r5number r1.2.1 4).bind fun r2 =>
 (r5number r2.2.1 (if wi (1 + r2.1.1) < 3 then wi (1 + r2.1.1) else 3)).bind fun r3 =>
 (r5number r3.2.1 12).bind fun r4 =>
 (r5number r4.2.1 4).bind fun r5 =>
 (r5number r5.2.1 4).bind fun r6 =>
 (r5number r6.2.1 (wi (1 + r5.1.1))).bind fun r7 =>
 (r5number r7.2.1 6).bind fun r8 =>
 (r5number r8.2.1 8).bind fun r9 =>
 (r5number r9.2.1 4).bind fun r10 =>
 (lpF (σ := Int × CodV × Cfg × Unit) (β := Int × CodV × Cfg × Unit) (fun self13 x11 =>
  if x11.1 < (wi (1 + r10.1.1)) then
   (r5number x11.2.1 6).bind fun r14 =>
   (lpF (σ := List Ins × Int × CodV × Unit) (β := List Ins × Int × CodV × Unit) (fun self17 x15 =>
    if 0 < x15.2.1 then
     (r5number x15.2.2.1 3).bind fun r18 =>
     if r18.1.1 = 0 then
      (r5number r18.2.1 4).bind fun r19 =>
      if (((x15.1.length + ([(⟨r18.1.1, wi (1 + r19.1.1), 0⟩ : Ins)] : List Ins).length : Nat)) : Int) < 1000000000000 then
       self17 (x15.1 ++ ([(⟨r18.1.1, wi (1 + r19.1.1), 0⟩ : Ins)]), wi (x15.2.1 - 1), r19.2.1, ())
      else none
     else
     if r18.1.1 = 1 then
      (r5number r18.2.1 (wi (1 + r10.1.1))).bind fun r20 =>
      (r5number r20.2.1 x11.2.2.1.levels).bind fun r21 =>
      if (((x15.1.length + ([(⟨r18.1.1, r20.1.1, r21.1.1⟩ : Ins)] : List Ins).length : Nat)) : Int) < 1000000000000 then
       self17 (x15.1 ++ ([(⟨r18.1.1, r20.1.1, r21.1.1⟩ : Ins)]), wi (x15.2.1 - 1), r21.2.1, ())
      else none
     else
     (r5number r18.2.1 4).bind fun r22 =>
     if (((x15.1.length + ([(⟨r18.1.1, r22.1.1, 0⟩ : Ins)] : List Ins).length : Nat)) : Int) < 1000000000000 then
      self17 (x15.1 ++ ([(⟨r18.1.1, r22.1.1, 0⟩ : Ins)]), wi (x15.2.1 - 1), r22.2.1, ())
     else none
    else
    some (x15.1, x15.2.1, x15.2.2.1, ())
   ) 18446744073709551616 ([], r14.1.1, r14.2.1, ())).bind fun z16 =>
   if (((x11.2.2.1.progs.length + ([z16.1] : List (List Ins)).length : Nat)) : Int) < 100000000000 then
    self13 (wi (x11.1 + 1), z16.2.2.1, ({ x11.2.2.1 with progs := x11.2.2.1.progs ++ ([z16.1]) } : Cfg), ())
   else none
  else
  some (x11.1, x11.2.1, x11.2.2.1, ())
 ) 18446744073709551616 (0, r10.2.1, (⟨wi (1 + r1.1.1), wi (1 + r2.1.1), wi (1 + r3.1.1), wi (1 + r4.1.1), wi (1 + r5.1.1), wi (1 + r6.1.1), wi (1 + r7.1.1), r8.1.1, wi (1 + r9.1.1), [], []⟩ : Cfg), ())).bind fun z12 =>
 (r5number z12.2.1 6).bind fun r23 =>
 (lpF (σ := Int × CodV × Cfg × Unit) (β := Int × CodV × Cfg × Unit) (fun self26 x24 =>
  if 0 < x24.1 then
   (r5number x24.2.1 (wi (1 + r10.1.1))).bind fun r27 =>
   (r5number r27.2.1 x24.2.2.1.levels).bind fun r28 =>
   (r5number r28.2.1 16).bind fun r29 =>
   if (((x24.2.2.1.subs.length + ([(⟨r27.1.1, r28.1.1, r29.1.1⟩ : Sub)] : List Sub).length : Nat)) : Int) < 1000000000000 then
    self26 (wi (x24.1 - 1), r29.2.1, ({ x24.2.2.1 with subs := x24.2.2.1.subs ++ ([(⟨r27.1.1, r28.1.1, r29.1.1⟩ : Sub)]) } : Cfg), ())
   else none
  else
  some (x24.1, x24.2.1, x24.2.2.1, ())
 ) 18446744073709551616 (r23.1.1, r23.2.1, z12.2.2.1, ())).bind fun z25 =>
 some ((z25.2.2.1, ()), (()))
noncomputable abbrev r5decode_k : Con SR1 := ⟨75, [.sh (.ro 17)], [.val 13], fun x => r5decode x.1⟩
theorem r5decode_ok : CO Tryz.prog r5decode_k := co_fn mixed Tryz.func75 [r5number_k] ⟨r5number_ok, trivial⟩ [] trivial (fun _ => []) [(12, .loop [.rg 6 sI_, .rg 3 (.own 19), .rg 4 (.own 20)] 18446744073709551616 0), (16, .loop [.rg 7 (.row 3), .rg 8 sI_, .rg 3 (.own 19)] 18446744073709551616 2), (29, .loop [.rg 10 sI_, .rg 3 (.own 19), .rg 4 (.own 20)] 18446744073709551616 5)] fun x => by kernel_rfl
noncomputable def kconfig (b : List Int) : Option ((Cfg × Unit) × (Unit)) :=
 (r5decode b).bind fun r1 =>
 some ((r1.1.1, ()), (()))
noncomputable abbrev kconfig_k : Con SR1 := ⟨32, [.sh (.ro 17)], [.val 13], fun x => kconfig x.1⟩
theorem kconfig_ok : CO Tryz.prog kconfig_k := co_fn mixed Tryz.func32 [r5decode_k] ⟨r5decode_ok, trivial⟩ [] trivial (fun _ => []) [] fun x => by kernel_rfl
noncomputable def machineNew (y0 : Cfg) : Option ((EnvP × Int × Unit) × (Unit)) :=
 (layoutNew y0).bind fun r1 =>
 if r1.1.2.1 ≠ 0 then
  none
 else
 (pCells r1.1.1).bind fun r2 =>
 (machineBare r2.1.1).bind fun r3 =>
 (configClone y0).bind fun r4 =>
 if r1.1.1.workers = r1.1.1.workers then
  if r1.1.1.levels = r1.1.1.levels then
   if r1.1.1.classes = r1.1.1.classes then
    if r1.1.1.tasks = r1.1.1.tasks then
     if r1.1.1.deque = r1.1.1.deque then
      if r1.1.1.heap = r1.1.1.heap then
       if r1.1.1.sleepers = r1.1.1.sleepers then
        if r1.1.1.epochs = r1.1.1.epochs then
         if r1.1.1.bitmaps = r1.1.1.bitmaps then
          if r1.1.1.queues = r1.1.1.queues then
           if r1.1.1.table = r1.1.1.table then
            if r1.1.1.workers = r1.1.1.workers then
             if r1.1.1.levels = r1.1.1.levels then
              if r1.1.1.classes = r1.1.1.classes then
               if r1.1.1.tasks = r1.1.1.tasks then
                if r1.1.1.deque = r1.1.1.deque then
                 if r1.1.1.heap = r1.1.1.heap then
                  if r1.1.1.sleepers = r1.1.1.sleepers then
                   if r1.1.1.epochs = r1.1.1.epochs then
                    if r1.1.1.bitmaps = r1.1.1.bitmaps then
                     if r1.1.1.queues = r1.1.1.queues then
                      if r1.1.1.table = r1.1.1.table then
                       (lpF (σ := Int × EnvP × Unit) (β := Int × EnvP × Unit) (fun self7 x5 =>
                        if x5.1 < y0.tasks then
                         if (((x5.2.1.recs.length + ([(⟨0, (-1), 0, 0, (-1), [], false⟩ : RecP)] : List RecP).length : Nat)) : Int) < 100000000000 then
                          self7 (wi (x5.1 + 1), ({ x5.2.1 with recs := x5.2.1.recs ++ ([(⟨0, (-1), 0, 0, (-1), [], false⟩ : RecP)]) } : EnvP), ())
                         else none
                        else
                        some (x5.1, x5.2.1, ())
                       ) 18446744073709551616 (0, ({ r3.1.1 with c := r4.1.1, l := r1.1.1 } : EnvP), ())).bind fun z6 =>
                       some ((z6.2.1, 0, ()), (()))
                      else none
                     else none
                    else none
                   else none
                  else none
                 else none
                else none
               else none
              else none
             else none
            else none
           else none
          else none
         else none
        else none
       else none
      else none
     else none
    else none
   else none
  else none
 else none
noncomputable abbrev machineNew_k : Con SR1 := ⟨33, [.val 13], [.sh (.own 27), .sh sI_], fun x => machineNew x.1⟩
theorem machineNew_ok : CO Tryz.prog machineNew_k := co_fn mixed Tryz.func33 [layoutNew_k, pCells_k, machineBare_k, configClone_k] ⟨layoutNew_ok, pCells_ok, machineBare_ok, configClone_ok, trivial⟩ [] trivial (fun _ => []) [(7, .loop [.rg 29 sI_, .rg 6 (.own 27)] 18446744073709551616 0)] fun x => by kernel_rfl
noncomputable def workstealmatchAlone (y0 : EnvP) (y1 : MV) (y2 : Int) : Option ((Int × Int × Int × Unit) × (EnvP × MV × Unit)) :=
 if (SR1.spl y1).isNone = true then
  some (((-1), 0, 0, ()), (y0, y1, ()))
 else
 (lpF (σ := Int × EnvP × MV × Unit) (β := (Int × EnvP × MV × Unit) ⊕ ((Int × Int × Int × Unit) × (EnvP × MV × Unit))) (fun self3 x1 =>
  if x1.1 < y2 then
   (stepD3 x1.2.2.1 x1.2.1).bind fun r4 =>
   if r4.1.1 = true then
    (resultD3 r4.2.1).bind fun r5 =>
    Option.map Sum.inr (
     some ((r5.1.1, r5.1.2.1, wi (x1.1 + 1), ()), (r4.2.2.1, r5.2.1, ()))
    )
   else
   self3 (wi (x1.1 + 1), r4.2.2.1, r4.2.1, ())
  else
  some (Sum.inl (x1.1, x1.2.1, x1.2.2.1, ()))
 ) 18446744073709551616 (0, y0, y1, ())).bind fun z2 => match z2 with
 | .inr o6 => some o6
 | .inl z2 =>
 some (((-1), 0, z2.1, ()), (z2.2.1, z2.2.2.1, ()))
noncomputable abbrev workstealmatchAlone_k : Con SR1 := ⟨14, [.ref 27, .mch, .sh sI_], [.sh sI_, .sh sI_, .sh sI_], fun x => workstealmatchAlone x.1 x.2.1 x.2.2.1⟩
theorem workstealmatchAlone_ok : CO Tryz.prog workstealmatchAlone_k := co_fn mixed Tryz.func14 [stepD3_k, resultD3_k] ⟨stepD3_ok, resultD3_ok, trivial⟩ [] trivial (fun _ => []) [(3, .loopR [.rg 8 sI_, .ob 0 27, .ma 1] 18446744073709551616 0)] fun x => by kernel_rfl
noncomputable def worksteallaw25Begun (y0 : Cfg) : Option ((EnvP × Bool × Unit) × (Unit)) :=
 (machineNew y0).bind fun r1 =>
 if r1.1.2.1 ≠ 0 then
  none
 else
 (tableAllocate).bind fun r2 =>
 (workstealmatchAlone r1.1.1 r2.1.1 5).bind fun r3 =>
 (tablePublish 0 0).bind fun r4 =>
 (workstealmatchAlone r3.2.1 r4.1.1 5).bind fun r5 =>
 (tableClaim 0 0).bind fun r6 =>
 (workstealmatchAlone r5.2.1 r6.1.1 5).bind fun r7 =>
 some ((r7.2.1, true, ()), (()))
noncomputable abbrev worksteallaw25Begun_k : Con SR1 := ⟨12, [.val 13], [.sh (.own 27), .sh .b], fun x => worksteallaw25Begun x.1⟩
theorem worksteallaw25Begun_ok : CO Tryz.prog worksteallaw25Begun_k := co_fn mixed Tryz.func12 [machineNew_k, tableAllocate_k, workstealmatchAlone_k, tablePublish_k, tableClaim_k] ⟨machineNew_ok, tableAllocate_ok, workstealmatchAlone_ok, tablePublish_ok, tableClaim_ok, trivial⟩ [] trivial (fun _ => []) [] fun x => by kernel_rfl
noncomputable def worksteallaw25House (y0 : List Ins) (y1 : List Ins) (y2 : Int) : Option ((Cfg × Unit) × (Unit)) :=
 (kconfig ([])).bind fun r1 =>
 some ((({ r1.1.1 with levels := 2, tasks := 12, deque := y2, progs := [y0, y1] } : Cfg), ()), (()))
noncomputable abbrev worksteallaw25House_k : Con SR1 := ⟨11, [.sh (.ro 3), .sh (.ro 3), .sh sI_], [.val 13], fun x => worksteallaw25House x.1 x.2.1 x.2.2.1⟩
theorem worksteallaw25House_ok : CO Tryz.prog worksteallaw25House_k := co_fn mixed Tryz.func11 [kconfig_k] ⟨kconfig_ok, trivial⟩ [] trivial (fun _ => []) [] fun x => by kernel_rfl
noncomputable def workstealref06Deques (y0 : Cfg) : Option ((Int × Unit) × (Unit)) :=
 some ((wi ((wi ((wi (4 + y0.heap)) + y0.classes)) + (wi (2 * y0.workers))), ()), (()))
noncomputable abbrev workstealref06Deques_k : Con SR1 := ⟨117, [.val 13], [.sh sI_], fun x => workstealref06Deques x.1⟩
theorem workstealref06Deques_ok : CO Tryz.prog workstealref06Deques_k := co_fn mixed Tryz.func117 [] trivial [] trivial (fun _ => []) [] fun x => by kernel_rfl
noncomputable def workstealref06Index (y0 : Int) (y1 : Int) (y2 : Int) (y3 : Int) : Option ((Int × Unit) × (Unit)) :=
 if y1 < 0 then
  some (((-1), ()), (()))
 else
 if y2 ≤ y1 then
  some (((-1), ()), (()))
 else
 some ((wi (y0 + (wi (y1 * y3))), ()), (()))
noncomputable abbrev workstealref06Index_k : Con SR1 := ⟨116, [.sh sI_, .sh sI_, .sh sI_, .sh sI_], [.sh sI_], fun x => workstealref06Index x.1 x.2.1 x.2.2.1 x.2.2.2.1⟩
theorem workstealref06Index_ok : CO Tryz.prog workstealref06Index_k := co_fn mixed Tryz.func116 [] trivial [] trivial (fun _ => []) [] fun x => by kernel_rfl
noncomputable def workstealref06Task (y0 : Cfg) (y1 : Int) (y2 : Int) : Option ((Int × Unit) × (Unit)) :=
 (workstealref06Deques y0).bind fun r1 =>
 if y0.tasks = y0.tasks then
  if y0.deque = y0.deque then
   if y0.levels = y0.levels then
    if y0.workers = y0.workers then
     (workstealref06Index (wi (r1.1.1 + (wi ((wi (y0.workers * y0.levels)) * (wi (2 + y0.deque)))))) y1 y0.tasks 5).bind fun r2 =>
     if r2.1.1 < 0 then
      some (((-1), ()), (()))
     else
     some ((wi (r2.1.1 + y2), ()), (()))
    else none
   else none
  else none
 else none
noncomputable abbrev workstealref06Task_k : Con SR1 := ⟨74, [.val 13, .sh sI_, .sh sI_], [.sh sI_], fun x => workstealref06Task x.1 x.2.1 x.2.2.1⟩
theorem workstealref06Task_ok : CO Tryz.prog workstealref06Task_k := co_fn mixed Tryz.func74 [workstealref06Deques_k, workstealref06Index_k] ⟨workstealref06Deques_ok, workstealref06Index_ok, trivial⟩ [] trivial (fun _ => []) [] fun x => by kernel_rfl
noncomputable def workstealref06State (y0 : Cfg) (y1 : Int) : Option ((Int × Unit) × (Unit)) :=
 (workstealref06Task y0 y1 0).bind fun r1 =>
 some ((r1.1.1, ()), (()))
noncomputable abbrev workstealref06State_k : Con SR1 := ⟨30, [.val 13, .sh sI_], [.sh sI_], fun x => workstealref06State x.1 x.2.1⟩
theorem workstealref06State_ok : CO Tryz.prog workstealref06State_k := co_fn mixed Tryz.func30 [workstealref06Task_k] ⟨workstealref06Task_ok, trivial⟩ [] trivial (fun _ => []) [] fun x => by kernel_rfl
noncomputable def worksteallaw25Awake  : Option ((Bool × Unit) × (Unit)) :=
 (worksteallaw25House ([]) ([]) 2).bind fun r1 =>
 (worksteallaw25Begun r1.1.1).bind fun r2 =>
 (worksteallaw25House ([(⟨1, 1, 1⟩ : Ins), (⟨2, 0, 0⟩ : Ins)]) ([]) 2).bind fun r3 =>
 (worksteallaw25Begun r3.1.1).bind fun r4 =>
 if (!r2.1.2.1) = true then
  some ((false, ()), (()))
 else
 if (!r4.1.2.1) = true then
  some ((false, ()), (()))
 else
 (runnerRun 0 0).bind fun r5 =>
 (workstealmatchAlone r2.1.1 r5.1.1 99).bind fun r6 =>
 (runnerRun 0 0).bind fun r7 =>
 (workstealmatchAlone r4.1.1 r7.1.1 99).bind fun r8 =>
 if r6.1.1 = 0 then
  if r6.1.2.2.1 = 2 then
   if r8.1.1 = 0 then
    if r8.1.2.2.1 = 16 then
     if ((r8.2.1.evs.length : Nat) : Int) = 4 then
      if 0 ≤ (3 : Int) ∧ (3 : Int) < ((r8.2.1.evs.length : Nat) : Int) then
       if ((atK2 r8.2.1.evs 3).kind) = 7 then
        (workstealref06State r8.2.1.c 0).bind fun r9 =>
        if r9.1.1 < 0 then
         some ((false, ()), (()))
        else
        if ((r8.2.1.m.cells.length : Nat) : Int) ≤ r9.1.1 then
         some ((false, ()), (()))
        else
        if 0 ≤ r9.1.1 ∧ r9.1.1 < ((r8.2.1.m.cells.length : Nat) : Int) then
         some ((decide ((atK0 r8.2.1.m.cells r9.1.1) = 3), ()), (()))
        else none
       else
       some ((false, ()), (()))
      else none
     else
     some ((false, ()), (()))
    else
    some ((false, ()), (()))
   else
   some ((false, ()), (()))
  else
  some ((false, ()), (()))
 else
 some ((false, ()), (()))
noncomputable abbrev worksteallaw25Awake_k : Con SR1 := ⟨13, [], [.sh .b], fun x => worksteallaw25Awake ⟩
noncomputable def worksteallaw25Awake_tb : List (Nat × Func) := [(29, Tryz.f29)]
theorem worksteallaw25Awake_ok : CO Tryz.prog worksteallaw25Awake_k := co_fn mixed Tryz.func13 [worksteallaw25House_k, worksteallaw25Begun_k, runnerRun_k, workstealmatchAlone_k, workstealref06State_k] ⟨worksteallaw25House_ok, worksteallaw25Begun_ok, runnerRun_ok, workstealmatchAlone_ok, workstealref06State_ok, trivial⟩ worksteallaw25Awake_tb ⟨Tryz.func29, trivial⟩ (fun _ => []) [] fun x => by kernel_rfl
noncomputable def memoryMemoryCount (y0 : MemV) : Option ((Int × Unit) × (MemV × Unit)) :=
 some ((y0.count, ()), (y0, ()))
noncomputable abbrev memoryMemoryCount_k : Con SR1 := ⟨27, [.ref 9], [.sh sI_], fun x => memoryMemoryCount x.1⟩
theorem memoryMemoryCount_ok : CO Tryz.prog memoryMemoryCount_k := co_fn mixed Tryz.func27 [] trivial [] trivial (fun _ => []) [] fun x => by kernel_rfl
noncomputable def workstealref05Weight (y0 : List Ins) : Option ((Int × Unit) × (Unit)) :=
 (lpF (σ := Int × Int × Unit) (β := Int × Int × Unit) (fun self3 x1 =>
  if x1.2.1 < ((y0.length : Nat) : Int) then
   if 0 ≤ x1.2.1 ∧ x1.2.1 < ((y0.length : Nat) : Int) then
    if ((atK3 y0 x1.2.1).op) = 0 then
     if 0 ≤ x1.2.1 ∧ x1.2.1 < ((y0.length : Nat) : Int) then
      if 0 < ((atK3 y0 x1.2.1).a) then
       if 0 ≤ x1.2.1 ∧ x1.2.1 < ((y0.length : Nat) : Int) then
        self3 (wi (x1.1 + ((atK3 y0 x1.2.1).a)), wi (x1.2.1 + 1), ())
       else none
      else
      self3 (wi (x1.1 + 1), wi (x1.2.1 + 1), ())
     else none
    else
    self3 (wi (x1.1 + 1), wi (x1.2.1 + 1), ())
   else none
  else
  some (x1.1, x1.2.1, ())
 ) 18446744073709551616 (0, 0, ())).bind fun z2 =>
 some ((z2.1, ()), (()))
noncomputable abbrev workstealref05Weight_k : Con SR1 := ⟨28, [.sh (.ro 3)], [.sh sI_], fun x => workstealref05Weight x.1⟩
theorem workstealref05Weight_ok : CO Tryz.prog workstealref05Weight_k := co_fn mixed Tryz.func28 [] trivial [] trivial (fun _ => []) [(3, .loop [.rg 3 sI_, .rg 4 sI_] 18446744073709551616 0)] fun x => by kernel_rfl
noncomputable def workstealref06Join (y0 : Cfg) (y1 : Int) : Option ((Int × Unit) × (Unit)) :=
 (workstealref06Task y0 y1 2).bind fun r1 =>
 some ((r1.1.1, ()), (()))
noncomputable abbrev workstealref06Join_k : Con SR1 := ⟨31, [.val 13, .sh sI_], [.sh sI_], fun x => workstealref06Join x.1 x.2.1⟩
theorem workstealref06Join_ok : CO Tryz.prog workstealref06Join_k := co_fn mixed Tryz.func31 [workstealref06Task_k] ⟨workstealref06Task_ok, trivial⟩ [] trivial (fun _ => []) [] fun x => by kernel_rfl
noncomputable def worksteallaw25RunnerComputes (y0 : List Int) : Option ((Bool × Unit) × (Unit)) :=
 if 32 < ((y0.length : Nat) : Int) then
  some ((true, ()), (()))
 else
 (lpF (σ := List Ins × Int × Unit) (β := List Ins × Int × Unit) (fun self3 x1 =>
  if x1.2.1 < ((y0.length : Nat) : Int) then
   if 0 ≤ x1.2.1 ∧ x1.2.1 < ((y0.length : Nat) : Int) then
    if (((x1.1.length + ([(⟨0, wi (1 + (wi ((Int.tmod (atK17 y0 x1.2.1) 64)))), 0⟩ : Ins)] : List Ins).length : Nat)) : Int) < 1000000000000 then
     self3 (x1.1 ++ ([(⟨0, wi (1 + (wi ((Int.tmod (atK17 y0 x1.2.1) 64)))), 0⟩ : Ins)]), wi (x1.2.1 + 1), ())
    else none
   else none
  else
  some (x1.1, x1.2.1, ())
 ) 18446744073709551616 ([], 0, ())).bind fun z2 =>
 (worksteallaw25House z2.1 ([]) 2).bind fun r4 =>
 (worksteallaw25Begun r4.1.1).bind fun r5 =>
 (worksteallaw25Awake).bind fun r6 =>
 if (!r6.1.1) = true then
  some ((false, ()), (()))
 else
 if (!r5.1.2.1) = true then
  some ((false, ()), (()))
 else
 (memoryMemoryCount r5.1.1.m).bind fun r7 =>
 (runnerRun 0 0).bind fun r8 =>
 (workstealmatchAlone ({ r5.1.1 with m := r7.2.1 } : EnvP) r8.1.1 5000).bind fun r9 =>
 if r9.1.1 = 0 then
  (workstealref05Weight z2.1).bind fun r10 =>
  if r9.1.2.2.1 = (wi (r10.1.1 + 2)) then
   (memoryMemoryCount r9.2.1.m).bind fun r11 =>
   if r11.1.1 = (wi (r7.1.1 + 2)) then
    (workstealref06State r4.1.1 0).bind fun r12 =>
    if r12.1.1 < 0 then
     some ((false, ()), (()))
    else
    if ((r11.2.1.cells.length : Nat) : Int) ≤ r12.1.1 then
     some ((false, ()), (()))
    else
    if 0 ≤ r12.1.1 ∧ r12.1.1 < ((r11.2.1.cells.length : Nat) : Int) then
     if (atK0 r11.2.1.cells r12.1.1) = 4 then
      (workstealref06Join r4.1.1 0).bind fun r13 =>
      if r13.1.1 < 0 then
       some ((false, ()), (()))
      else
      if ((r11.2.1.cells.length : Nat) : Int) ≤ r13.1.1 then
       some ((false, ()), (()))
      else
      if 0 ≤ r13.1.1 ∧ r13.1.1 < ((r11.2.1.cells.length : Nat) : Int) then
       some ((decide ((atK0 r11.2.1.cells r13.1.1) = 4294967296), ()), (()))
      else none
     else
     some ((false, ()), (()))
    else none
   else
   some ((false, ()), (()))
  else
  some ((false, ()), (()))
 else
 some ((false, ()), (()))
noncomputable abbrev worksteallaw25RunnerComputes_k : Con SR1 := ⟨5, [.sh (.ro 17)], [.sh .b], fun x => worksteallaw25RunnerComputes x.1⟩
noncomputable def worksteallaw25RunnerComputes_tb : List (Nat × Func) := [(29, Tryz.f29)]
theorem worksteallaw25RunnerComputes_ok : CO Tryz.prog worksteallaw25RunnerComputes_k := co_fn mixed Tryz.func5 [worksteallaw25House_k, worksteallaw25Begun_k, worksteallaw25Awake_k, memoryMemoryCount_k, runnerRun_k, workstealmatchAlone_k, workstealref05Weight_k, workstealref06State_k, workstealref06Join_k] ⟨worksteallaw25House_ok, worksteallaw25Begun_ok, worksteallaw25Awake_ok, memoryMemoryCount_ok, runnerRun_ok, workstealmatchAlone_ok, workstealref05Weight_ok, workstealref06State_ok, workstealref06Join_ok, trivial⟩ worksteallaw25RunnerComputes_tb ⟨Tryz.func29, trivial⟩ (fun _ => []) [(5, .loop [.rg 3 (.row 3), .rg 4 sI_] 18446744073709551616 0)] fun x => by kernel_rfl
end
section
open Go Go.RowKit
set_option maxRecDepth 100000
theorem obind {α β : Type} (a : α) (f : α → Option β) : (some a).bind f = f a := rfl
/-- The lengths of a configuration's lists are plain. -/
structure LenOk (c : Cfg) : Prop where
  ps : c.progs.length ≤ 1000000
  pl : ∀ p ∈ c.progs, p.length ≤ 1000000
  ss : c.subs.length ≤ 1000000
theorem progs_len {lv np : Int} : ∀ {ps : List (List Ins)}, progsErr lv np ps = 0 → ∀ p ∈ ps, p.length ≤ 32
  | [], _, p, h => by cases h
  | q :: ps, h, p, hm => by
    unfold progsErr at h
    split at h
    · omega
    · split at h
      · rcases List.mem_cons.1 hm with e | e
        · subst e; omega
        · exact progs_len h p e
      · omega
theorem valid_len {c : Cfg} (h : cfgErr c = 0) : numsOk c = true ∧ c.progs.length ≤ 32 ∧ (∀ p ∈ c.progs, p.length ≤ 32) ∧ c.subs.length ≤ 64 := by
  unfold cfgErr at h
  split at h
  · omega
  · rename_i hn
    split at h
    · omega
    · rename_i hp
      have hp0 : progsAll c = 0 := by omega
      unfold progsAll at hp0
      split at hp0
      · omega
      · rename_i hl
        simp only [inB, Bool.not_eq_true', Bool.and_eq_false_iff, decide_eq_false_iff_not, not_or, Classical.not_not, Bool.not_eq_false, Bool.and_eq_true, decide_eq_true_eq] at hl
        refine ⟨by simpa using hn, by omega, progs_len hp0, ?_⟩
        unfold subsAll at h
        split at h
        · omega
        · omega
theorem LenOk.of {c : Cfg} (h : cfgErr c = 0) : LenOk c := by
  obtain ⟨_, h1, h2, h3⟩ := valid_len h
  exact ⟨by omega, fun p hp => by have := h2 p hp; omega, by omega⟩
abbrev ClS := Int × Int × Int × Int × Int × Int × Int × Int × Int × List (List Ins) × List Sub × Unit
def clS (c : Cfg) : ClS := (c.workers, c.levels, c.classes, c.tasks, c.deque, c.heap, c.batch, c.age, c.patience, c.progs, c.subs, ())
theorem set_sameP {α : Type} {xs : List α} {i : Nat} {x : α} (h : xs[i]? = some x) : xs.set i x = xs := by
  obtain ⟨hlt, rfl⟩ := List.getElem?_eq_some_iff.1 h
  simp
theorem clone_eq {c : Cfg} (h : LenOk c) : configClone c = some ((c, ()), ()) := by
  have hg : Good (configClone c) fun o => o.1.1 = c := by
    unfold configClone
    have e0 : cloneRows c.progs = some ((c.progs, ()), ()) := by unfold cloneRows; rw [if_pos h.ps]
    rw [e0, obind]
    refine Good.bind (P := fun z => z.2.1 = clS c) (lp_good (fun x => x.2.1 = clS c ∧ 0 ≤ x.1 ∧ x.1 ≤ (c.progs.length : Int)) (fun x => ((c.progs.length : Int) - x.1).toNat) (fun self x ⟨q0, q1, q2⟩ ih => ?_) _ _ ⟨rfl, Int.le_refl 0, by show (0 : Int) ≤ _; omega⟩ (by show ((c.progs.length : Int) - 0).toNat < _; have := h.ps; omega)) fun z hz => ?_
    rotate_left
    · obtain ⟨i, s, u⟩ := x
      simp only at q0 q1 q2
      subst q0
      refine Good.ite (fun hlt => ?_) fun _ => .some_ rfl
      have hin : 0 ≤ i ∧ i < ((c.progs.length : Nat) : Int) := ⟨q1, hlt⟩
      refine Good.guard (show 0 ≤ i ∧ i < (((clS c).2.2.2.2.2.2.2.2.2.1.length : Nat) : Int) from hin) fun _ => ?_
      have hm := h.pl _ (at_in (d := (dfR 18 : List Ins)) hin)
      have e1 : cloneIns (atK18 (clS c).2.2.2.2.2.2.2.2.2.1 i) = some ((atK18 c.progs i, ()), ()) := by
        unfold cloneIns; exact if_pos hm
      rw [e1, obind]
      refine Good.guard (show 0 ≤ i ∧ i < (((clS c).2.2.2.2.2.2.2.2.2.1.length : Nat) : Int) from hin) fun _ => ?_
      have e2 : wi (i + 1) = i + 1 := wi_id (rg_lit (by have := h.ps; omega))
      have e3 : c.progs.set i.toNat (atK18 c.progs i) = c.progs := set_sameP (atL_get hin)
      rw [e2]
      refine ih _ ⟨?_, by show 0 ≤ i + 1; omega, by show i + 1 ≤ _; omega⟩ (by show ((c.progs.length : Int) - (i + 1)).toNat < ((c.progs.length : Int) - i).toNat; omega)
      show (c.workers, c.levels, c.classes, c.tasks, c.deque, c.heap, c.batch, c.age, c.patience, c.progs.set i.toNat (atK18 c.progs i), c.subs, ()) = clS c
      rw [e3]; rfl
    · rw [hz]
      have e4 : cloneSubs (clS c).2.2.2.2.2.2.2.2.2.2.1 = some ((c.subs, ()), ()) := by unfold cloneSubs; exact if_pos h.ss
      rw [e4, obind]
      exact .some_ rfl
  obtain ⟨o, e, ho⟩ := hg
  rw [e]
  obtain ⟨⟨o1, ⟨⟩⟩, ⟨⟩⟩ := o
  simp only at ho
  rw [ho]
/-- The layout of a configuration. -/
def layV (c : Cfg) : LayV := { workers := c.workers, levels := c.levels, classes := c.classes, tasks := c.tasks, deque := c.deque, heap := c.heap, sleepers := 4 + c.heap, epochs := 4 + c.heap + c.classes, bitmaps := 4 + c.heap + c.classes + c.workers, queues := 4 + c.heap + c.classes + c.workers + c.workers, table := 4 + c.heap + c.classes + c.workers + c.workers + c.workers * c.levels * (2 + c.deque) }
def cellsN (c : Cfg) : Int := (layV c).table + 5 * c.tasks
theorem mulb {a b A B : Int} (ha : 0 ≤ a) (hA : a ≤ A) (hb : 0 ≤ b) (hB : b ≤ B) : 0 ≤ a * b ∧ a * b ≤ A * B :=
  ⟨Int.mul_nonneg ha hb, Int.le_trans (Int.mul_le_mul_of_nonneg_right hA hb) (Int.mul_le_mul_of_nonneg_left hB (Int.le_trans ha hA))⟩
theorem table_rg {c : Cfg} (h : numsOk c = true) : (0 ≤ c.workers * c.levels ∧ c.workers * c.levels ≤ 1024) ∧ (0 ≤ c.workers * c.levels * (2 + c.deque) ∧ c.workers * c.levels * (2 + c.deque) ≤ 67584) := by
  have hs := numsOk_spec h
  have h1 := mulb (a := c.workers) (b := c.levels) (A := 16) (B := 64) (by omega) (by omega) (by omega) (by omega)
  have h2 := mulb (a := c.workers * c.levels) (b := 2 + c.deque) (A := 1024) (B := 66) h1.1 (by omega) (by omega) (by omega)
  omega
theorem layout_eq {c : Cfg} (h : cfgErr c = 0) : layoutNew c = some ((layV c, 0, ()), ()) := by
  have hn := (valid_len h).1
  have hs := numsOk_spec hn
  have ht := table_rg hn
  unfold layoutNew cfgCheck
  rw [obind]
  have e0 : ¬ cfgErr c ≠ 0 := by omega
  simp only [if_neg e0]
  have e1 : wi (4 + c.heap) = 4 + c.heap := wi_id (rg_lit (by omega))
  have e2 : wi (4 + c.heap + c.classes) = 4 + c.heap + c.classes := wi_id (rg_lit (by omega))
  have e3 : wi (4 + c.heap + c.classes + c.workers) = 4 + c.heap + c.classes + c.workers := wi_id (rg_lit (by omega))
  have e4 : wi (4 + c.heap + c.classes + c.workers + c.workers) = 4 + c.heap + c.classes + c.workers + c.workers := wi_id (rg_lit (by omega))
  have e5 : wi (c.workers * c.levels) = c.workers * c.levels := wi_id (rg_lit (by omega))
  have e6 : wi (2 + c.deque) = 2 + c.deque := wi_id (rg_lit (by omega))
  have e7 : wi (c.workers * c.levels * (2 + c.deque)) = c.workers * c.levels * (2 + c.deque) := wi_id (rg_lit (by omega))
  have e8 : wi (4 + c.heap + c.classes + c.workers + c.workers + c.workers * c.levels * (2 + c.deque)) = 4 + c.heap + c.classes + c.workers + c.workers + c.workers * c.levels * (2 + c.deque) := wi_id (rg_lit (by omega))
  simp only [e1, e2, e3, e4, e5, e6, e7, e8]
  rfl
def rec0 : RecP := ⟨0, -1, 0, 0, -1, [], false⟩
/-- The environment behind New. -/
def envV (c : Cfg) : EnvP := ⟨c, layV c, ⟨List.replicate (cellsN c).toNat 0, ⟨0, 0, 0, 0⟩, 0⟩, ⟨0, 0⟩, List.replicate c.tasks.toNat rec0, []⟩
theorem new_eq {c : Cfg} (h : cfgErr c = 0) : machineNew c = some ((envV c, 0, ()), ()) := by
  have hn := (valid_len h).1
  have hs := numsOk_spec hn
  have ht := table_rg hn
  have hg : Good (machineNew c) fun o => o.1.1 = envV c ∧ o.1.2.1 = 0 := by
    unfold machineNew
    rw [layout_eq h, obind]
    refine Good.ite (fun e => absurd rfl e) fun _ => ?_
    have c1 : wi (5 * c.tasks) = 5 * c.tasks := wi_id (rg_lit (by omega))
    have c2 : wi ((layV c).table + 5 * c.tasks) = cellsN c := wi_id (rg_lit (by unfold layV; simp only; omega))
    have e1 : pCells (layV c) = some ((cellsN c, ()), ()) := by
      unfold pCells
      have : wi (5 * (layV c).tasks) = 5 * c.tasks := c1
      rw [this, c2]
    rw [e1, obind]
    have hc : 0 ≤ cellsN c ∧ cellsN c ≤ 131072 := by unfold cellsN layV; simp only; omega
    have e2 : machineBare (cellsN c) = some ((⟨⟨0, 0, 0, 0, 0, 0, 0, 0, 0, [], []⟩, ⟨0, 0, 0, 0, 0, 0, 0, 0, 0, 0, 0⟩, ⟨List.replicate (cellsN c).toNat 0, ⟨0, 0, 0, 0⟩, 0⟩, ⟨0, 0⟩, [], []⟩, ()), ()) := by
      unfold machineBare memoryNew clockNew
      have i1 : (if cellsN c < 0 then (0 : Int) else cellsN c) = cellsN c := if_neg (by omega)
      have i2 : (if 131072 < cellsN c then (131072 : Int) else cellsN c) = cellsN c := if_neg (by omega)
      have i3 : 0 ≤ cellsN c ∧ cellsN c ≤ 1099511627776 := by omega
      simp only [i1, i2, if_true, if_pos i3, obind]
    rw [e2, obind, clone_eq (.of h), obind]
    simp only [if_true]
    refine Good.bind (P := fun z => z.2.1 = envV c) (lp_good (fun x => 0 ≤ x.1 ∧ x.1 ≤ c.tasks ∧ x.2.1 = { envV c with recs := List.replicate x.1.toNat rec0 }) (fun x => (c.tasks - x.1).toNat) (fun self x ⟨q0, q1, q2⟩ ih => ?_) _ _ ⟨Int.le_refl 0, by show (0 : Int) ≤ _; omega, rfl⟩ (by show (c.tasks - 0).toNat < _; omega)) fun z hz => .some_ ⟨hz, rfl⟩
    obtain ⟨i, e, u⟩ := x
    simp only at q0 q1 q2
    subst q2
    refine Good.ite (fun hlt => ?_) fun hge => .some_ ?_
    · have hl : (List.replicate i.toNat rec0).length = i.toNat := List.length_replicate
      refine Good.guard ?_ fun _ => ?_
      · show (((List.replicate i.toNat rec0).length + 1 : Nat) : Int) < 100000000000
        rw [hl]
        have hlt' : i < c.tasks := hlt
        omega
      · have hlt' : i < c.tasks := hlt
        have e2 : wi (i + 1) = i + 1 := wi_id (rg_lit (by omega))
        rw [e2]
        refine ih _ ⟨by show 0 ≤ i + 1; omega, by show i + 1 ≤ _; omega, ?_⟩ (by show (c.tasks - (i + 1)).toNat < (c.tasks - i).toNat; omega)
        show ({ envV c with recs := List.replicate i.toNat rec0 ++ [rec0] } : EnvP) = { envV c with recs := List.replicate (i + 1).toNat rec0 }
        have e3 : (i + 1).toNat = i.toNat + 1 := by omega
        rw [e3, List.replicate_succ']
    · show ({ envV c with recs := List.replicate i.toNat rec0 } : EnvP) = envV c
      have : i = c.tasks := by have hge' : ¬ i < c.tasks := hge; omega
      rw [this]; rfl
  obtain ⟨o, e, ho1, ho2⟩ := hg
  rw [e]
  obtain ⟨⟨o1, o2, ⟨⟩⟩, ⟨⟩⟩ := o
  simp only at ho1 ho2
  rw [ho1, ho2]
end
section
open Go Go.RowKit
set_option maxRecDepth 1000000
def cfgP (p : List Ins) : Cfg := ⟨1, 2, 1, 12, 2, 1, 1, 0, 1, [p, []], []⟩
theorem house_eq (p : List Ins) : worksteallaw25House p [] 2 = some ((cfgP p, ()), ()) := by kernel_rfl
/-- A program that only computes. -/
def Comp (p : List Ins) : Prop := ∀ x ∈ p, x.op = 0 ∧ (1 ≤ x.a ∧ x.a ≤ 64) ∧ x.b = 0
theorem comp_valid {p : List Ins} (h : Comp p) (hl : p.length ≤ 32) : cfgErr (cfgP p) = 0 := by
  have h1 : p.all (insOk 2 2) = true := List.all_eq_true.2 fun x hx => by
    obtain ⟨a, b, c⟩ := h x hx
    unfold insOk
    rw [if_pos a]
    simp only [inB, c, Bool.and_eq_true, decide_eq_true_eq, beq_self_eq_true, and_true]
    omega
  have h2 : progsErr 2 2 [p, []] = 0 := by
    unfold progsErr
    rw [if_neg (by omega), if_pos h1]
    rfl
  have h3 : progsAll (cfgP p) = 0 := by
    show (if !inB (2 : Int) 1 32 then 2 else progsErr 2 2 [p, []]) = 0
    rw [h2]; rfl
  show (if !numsOk (cfgP p) then 1 else if progsAll (cfgP p) ≠ 0 then progsAll (cfgP p) else subsAll (cfgP p)) = 0
  rw [h3]; rfl
noncomputable def envB0 : EnvP := match worksteallaw25Begun (cfgP []) with
  | some o => o.1.1
  | none => dfR 27
noncomputable def envB (p : List Ins) : EnvP := { envB0 with c := cfgP p }
theorem begun_eq {p : List Ins} (h : cfgErr (cfgP p) = 0) : worksteallaw25Begun (cfgP p) = some ((envB p, true, ()), ()) := by
  unfold worksteallaw25Begun
  rw [new_eq h, obind]
  kernel_rfl
def rp (pc left : Int) : RecP := ⟨0, -1, pc, left, -1, [], true⟩
theorem envB_recs : envB0.recs = rp 0 0 :: List.replicate 11 rec0 := by kernel_rfl
noncomputable def EQ (p : List Ins) (pc left : Int) : EnvP := ⟨cfgP p, envB0.l, envB0.m, envB0.k, rp pc left :: List.replicate 11 rec0, envB0.evs⟩
theorem envB_eq (p : List Ins) : envB p = EQ p 0 0 := by
  unfold envB EQ
  rw [← envB_recs]
def R0 : RunV MV := ⟨⟨false, 0, 0⟩, 0, [0], 0, MV.nil, 0, 0, 0, 0⟩
theorem w0 : wi (((([0] : List Int).length : Nat) : Int) - 1) = 0 := by kernel_rfl
theorem choose_c {p : List Ins} {pc left : Int} (h : 0 ≤ pc ∧ pc < ((p.length : Nat) : Int)) (ho : (atK3 p pc).op = 0) : runnerRunChoose R0 (EQ p pc left) = some ((2, ()), (R0, EQ p pc left, ())) := by
  have h1 : ¬ pc < 0 := by omega
  have h2 : ¬ ((p.length : Nat) : Int) ≤ pc := by omega
  unfold runnerRunChoose
  have e1 : R0.stack = [0] := rfl
  have e2 : atK1 [0] 0 = 0 := rfl
  have e3 : atK26 (EQ p pc left).recs 0 = rp pc left := rfl
  have e4 : (EQ p pc left).c.progs = [p, []] := rfl
  have e5 : atL [] [p, []] (rp pc left).prog = p := rfl
  have e6 : (((EQ p pc left).recs.length : Nat) : Int) = 12 := rfl
  have e7 : (rp pc left).pc = pc := rfl
  have c1 : (0 : Int) ≤ 0 ∧ (0 : Int) < ((([0] : List Int).length : Nat) : Int) := by decide
  have c2 : (0 : Int) ≤ 0 ∧ (0 : Int) < 12 := by decide
  have c3 : ¬ (rp pc left).prog < 0 := by show ¬ (0 : Int) < 0; decide
  have c4 : ¬ ((([p, []] : List (List Ins)).length : Nat) : Int) ≤ (rp pc left).prog := by show ¬ (2 : Int) ≤ 0; decide
  have c5 : 0 ≤ (rp pc left).prog ∧ (rp pc left).prog < ((([p, []] : List (List Ins)).length : Nat) : Int) := by show (0 : Int) ≤ 0 ∧ (0 : Int) < 2; decide
  have c6 : ¬ (rp pc left).waiting ≠ -1 := by show ¬ (-1 : Int) ≠ -1; decide
  simp only [e1, w0, e2, e3, e4, e5, e6, e7, if_pos c1, if_pos c2, if_neg c3, if_neg c4, if_pos c5, if_neg c6, if_neg h1, if_neg h2, if_pos h, if_pos ho]
theorem choose_f {p : List Ins} : runnerRunChoose R0 (EQ p ((p.length : Nat) : Int) 0) = some ((16, ()), (R0, EQ p ((p.length : Nat) : Int) 0, ())) := by
  have h1 : ¬ ((p.length : Nat) : Int) < 0 := by omega
  have h2 : ((p.length : Nat) : Int) ≤ ((p.length : Nat) : Int) := Int.le_refl _
  unfold runnerRunChoose
  have e1 : R0.stack = [0] := rfl
  have e2 : atK1 [0] 0 = 0 := rfl
  have e3 : atK26 (EQ p ((p.length : Nat) : Int) 0).recs 0 = rp ((p.length : Nat) : Int) 0 := rfl
  have e4 : (EQ p ((p.length : Nat) : Int) 0).c.progs = [p, []] := rfl
  have e5 : atL [] [p, []] (rp ((p.length : Nat) : Int) 0).prog = p := rfl
  have e6 : (((EQ p ((p.length : Nat) : Int) 0).recs.length : Nat) : Int) = 12 := rfl
  have e7 : (rp ((p.length : Nat) : Int) 0).pc = ((p.length : Nat) : Int) := rfl
  have c1 : (0 : Int) ≤ 0 ∧ (0 : Int) < ((([0] : List Int).length : Nat) : Int) := by decide
  have c2 : (0 : Int) ≤ 0 ∧ (0 : Int) < 12 := by decide
  have c3 : ¬ (rp ((p.length : Nat) : Int) 0).prog < 0 := by show ¬ (0 : Int) < 0; decide
  have c4 : ¬ ((([p, []] : List (List Ins)).length : Nat) : Int) ≤ (rp ((p.length : Nat) : Int) 0).prog := by show ¬ (2 : Int) ≤ 0; decide
  have c5 : 0 ≤ (rp ((p.length : Nat) : Int) 0).prog ∧ (rp ((p.length : Nat) : Int) 0).prog < ((([p, []] : List (List Ins)).length : Nat) : Int) := by show (0 : Int) ≤ 0 ∧ (0 : Int) < 2; decide
  have c6 : ¬ (rp ((p.length : Nat) : Int) 0).waiting ≠ -1 := by show ¬ (-1 : Int) ≠ -1; decide
  simp only [e1, w0, e2, e3, e4, e5, e6, e7, if_pos c1, if_pos c2, if_neg c3, if_neg c4, if_pos c5, if_neg c6, if_neg h1, if_pos h2]
def R2 : RunV MV := ⟨⟨false, 0, 0⟩, 0, [0], 2, MV.nil, 0, 0, 0, 0⟩
theorem simple_c {p : List Ins} {pc left : Int} (h : 0 ≤ pc ∧ pc < ((p.length : Nat) : Int)) (hp : pc ≤ 1000) (ha : 1 ≤ (atK3 p pc).a ∧ (atK3 p pc).a ≤ 64) (hl : 0 ≤ left ∧ left ≤ 64) :
    runnerRunSimple R2 (EQ p pc left) = some ((false, ()), (R0, EQ p (if (if left = 0 then (atK3 p pc).a else left) = 1 then pc + 1 else pc) ((if left = 0 then (atK3 p pc).a else left) - 1), ())) := by
  generalize hq : atK3 p pc = q at ha ⊢
  have v1 : wi (q.a - 1) = q.a - 1 := wi_id (rg_lit (by omega))
  have v2 : wi (left - 1) = left - 1 := wi_id (rg_lit (by omega))
  have v3 : wi (pc + 1) = pc + 1 := wi_id (rg_lit (by omega))
  unfold runnerRunSimple runnerRunTo
  have e1 : R2.stack = [0] := rfl
  have e2 : atK1 [0] 0 = 0 := rfl
  have e3 : atK26 (EQ p pc left).recs 0 = rp pc left := rfl
  have e4 : (EQ p pc left).c.progs = [p, []] := rfl
  have e5 : atL [] [p, []] (rp pc left).prog = p := rfl
  have e6 : (((EQ p pc left).recs.length : Nat) : Int) = 12 := rfl
  have e7 : (rp pc left).pc = pc := rfl
  have e8 : (rp pc left).left = left := rfl
  have e9 : R2.line = 2 := rfl
  have c1 : (0 : Int) ≤ 0 ∧ (0 : Int) < ((([0] : List Int).length : Nat) : Int) := by decide
  have c2 : (0 : Int) ≤ 0 ∧ (0 : Int) < 12 := by decide
  have c3 : ¬ (rp pc left).prog < 0 := by show ¬ (0 : Int) < 0; decide
  have c4 : ¬ ((([p, []] : List (List Ins)).length : Nat) : Int) ≤ (rp pc left).prog := by show ¬ (2 : Int) ≤ 0; decide
  have c5 : 0 ≤ (rp pc left).prog ∧ (rp pc left).prog < ((([p, []] : List (List Ins)).length : Nat) : Int) := by show (0 : Int) ≤ 0 ∧ (0 : Int) < 2; decide
  have c7 : ¬ (2 : Int) = 1 := by decide
  have s1 : ∀ x : RecP, (EQ p pc left).recs.set (0 : Int).toNat x = x :: List.replicate 11 rec0 := fun x => rfl
  have s2 : ∀ x y : RecP, (x :: List.replicate 11 rec0).set (0 : Int).toNat y = y :: List.replicate 11 rec0 := fun x y => rfl
  have s3 : ∀ x : RecP, atK26 (x :: List.replicate 11 rec0) 0 = x := fun x => rfl
  by_cases hz : left = 0
  · subst hz
    by_cases h1 : q.a = 1
    · have v4 : q.a - 1 = 0 := by omega
      simp only [e1, w0, e2, e3, e4, e5, e6, e7, e8, e9, if_pos c1, if_pos c2, if_neg c3, if_neg c4, if_pos c5, if_neg c7, if_pos h, if_true, s1, s2, s3, hq, v1, v3, v4, h1, obind]
      rfl
    · have v4 : ¬ q.a - 1 = 0 := by omega
      simp only [e1, w0, e2, e3, e4, e5, e6, e7, e8, e9, if_pos c1, if_pos c2, if_neg c3, if_neg c4, if_pos c5, if_neg c7, if_pos h, if_true, s1, s2, s3, hq, v1, v3, if_neg v4, if_neg h1, obind]
      rfl
  · by_cases h1 : left = 1
    · subst h1
      have v4 : (1 : Int) - 1 = 0 := rfl
      simp only [e1, w0, e2, e3, e4, e5, e6, e7, e8, e9, if_pos c1, if_pos c2, if_neg c3, if_neg c4, if_pos c5, if_neg c7, if_pos h, if_true, s1, s2, s3, hq, v2, v3, v4, if_neg hz, obind]
      rfl
    · have v4 : ¬ left - 1 = 0 := by omega
      simp only [e1, w0, e2, e3, e4, e5, e6, e7, e8, e9, if_pos c1, if_pos c2, if_neg c3, if_neg c4, if_pos c5, if_neg c7, if_pos h, if_true, s1, s2, s3, hq, v2, v3, if_neg v4, if_neg h1, if_neg hz, obind]
      rfl
theorem step_c {p : List Ins} {pc left : Int} (h : 0 ≤ pc ∧ pc < ((p.length : Nat) : Int)) (hp : pc ≤ 1000) (ho : (atK3 p pc).op = 0) (ha : 1 ≤ (atK3 p pc).a ∧ (atK3 p pc).a ≤ 64) (hl : 0 ≤ left ∧ left ≤ 64) :
    runnerRunStep R0 (EQ p pc left) = some ((false, ()), (R0, EQ p (if (if left = 0 then (atK3 p pc).a else left) = 1 then pc + 1 else pc) ((if left = 0 then (atK3 p pc).a else left) - 1), ())) := by
  unfold runnerRunStep pEnded
  have e0 : R0.o.ended = false := rfl
  have e1 : R0.stack = [0] := rfl
  have e2 : atK1 [0] 0 = 0 := rfl
  have e6 : (((EQ p pc left).recs.length : Nat) : Int) = 12 := rfl
  have e9 : R0.line = 0 := rfl
  have et : (EQ p pc left).c.tasks = 12 := rfl
  have er : ({ R0 with o := R0.o } : RunV MV) = R0 := rfl
  have er2 : ({ R0 with line := 2 } : RunV MV) = R2 := rfl
  have c0 : ¬ false = true := by decide
  have c1 : (0 : Int) ≤ 0 ∧ (0 : Int) < ((([0] : List Int).length : Nat) : Int) := by decide
  have c2 : ¬ (0 : Int) < 0 := by decide
  have c3 : ¬ (12 : Int) ≤ 0 := by decide
  have c4 : ¬ (2 : Int) = 4 := by decide
  have c5 : ¬ (2 : Int) = 1 := by decide
  simp only [obind, e0, e1, w0, e2, e6, e9, et, if_neg c0, if_pos c1, if_neg c2, if_neg c3, if_true]
  have hR : (⟨R0.o, R0.worker, [0], 0, R0.inside, R0.id, R0.child, R0.level, R0.waiter⟩ : RunV MV) = R0 := rfl
  rw [hR, choose_c h ho]
  simp only [obind, if_neg c4, if_neg c5, if_true]
  have hR2 : (⟨R0.o, R0.worker, R0.stack, 2, R0.inside, R0.id, R0.child, R0.level, R0.waiter⟩ : RunV MV) = R2 := rfl
  rw [hR2, simple_c h hp ha hl]
  rfl
def R16 : RunV MV := ⟨⟨false, 0, 0⟩, 0, [0], 16, MV.nil, 0, 0, 0, 0⟩
def R17 : RunV MV := ⟨⟨false, 0, 0⟩, 0, [0], 17, MV.nil, 0, 0, 0, 0⟩
def REnd : RunV MV := ⟨⟨true, 0, 0⟩, 0, [], 17, MV.nil, 0, 0, 0, 0⟩
noncomputable def memF1 : MemV := match (pState envB0.l 0).bind fun r1 => pStore envB0.m r1.1.1 4 with
  | some o => o.2.1
  | none => envB0.m
noncomputable def memF2 : MemV := match (pJoin envB0.l 0).bind fun r1 => pCAS memF1 r1.1.1 0 4294967296 with
  | some o => o.2.1
  | none => memF1
noncomputable def EF1 (p : List Ins) : EnvP := { EQ p ((p.length : Nat) : Int) 0 with m := memF1 }
noncomputable def EF2 (p : List Ins) : EnvP := { EQ p ((p.length : Nat) : Int) 0 with m := memF2, evs := envB0.evs ++ [⟨10, 0, 0, 0, 0⟩] }
theorem finish1 (p : List Ins) : runnerRunFinish R16 (EQ p ((p.length : Nat) : Int) 0) = some ((false, ()), (R17, EF1 p, ())) := by kernel_rfl
theorem step_f1 (p : List Ins) : runnerRunStep R0 (EQ p ((p.length : Nat) : Int) 0) = some ((false, ()), (R17, EF1 p, ())) := by
  unfold runnerRunStep pEnded
  have e0 : R0.o.ended = false := rfl
  have e1 : R0.stack = [0] := rfl
  have e2 : atK1 [0] 0 = 0 := rfl
  have e6 : (((EQ p ((p.length : Nat) : Int) 0).recs.length : Nat) : Int) = 12 := rfl
  have e9 : R0.line = 0 := rfl
  have et : (EQ p ((p.length : Nat) : Int) 0).c.tasks = 12 := rfl
  have c0 : ¬ false = true := by decide
  have c1 : (0 : Int) ≤ 0 ∧ (0 : Int) < ((([0] : List Int).length : Nat) : Int) := by decide
  have c2 : ¬ (0 : Int) < 0 := by decide
  have c3 : ¬ (12 : Int) ≤ 0 := by decide
  simp only [obind, e0, e1, w0, e2, e6, e9, et, if_neg c0, if_pos c1, if_neg c2, if_neg c3, if_true]
  have hR : (⟨R0.o, R0.worker, [0], 0, R0.inside, R0.id, R0.child, R0.level, R0.waiter⟩ : RunV MV) = R0 := rfl
  rw [hR, choose_f]
  have d1 : ¬ (16 : Int) = 4 := by decide
  have d2 : ¬ (16 : Int) = 1 := by decide
  have d3 : ¬ (16 : Int) = 2 := by decide
  have d4 : ¬ (16 : Int) = 3 := by decide
  have d5 : (4 : Int) ≤ 16 := by decide
  have d6 : ¬ (16 : Int) ≤ 8 := by decide
  have d7 : (9 : Int) ≤ 16 := by decide
  have d8 : ¬ (16 : Int) ≤ 15 := by decide
  simp only [obind, if_neg d1, if_neg d2, if_neg d3, if_neg d4, if_pos d5, if_neg d6, if_pos d7, if_neg d8]
  have hR2 : (⟨R0.o, R0.worker, R0.stack, 16, R0.inside, R0.id, R0.child, R0.level, R0.waiter⟩ : RunV MV) = R16 := rfl
  rw [hR2, finish1]
  rfl
theorem step_f2 (p : List Ins) : runnerRunStep R17 (EF1 p) = some ((true, ()), (REnd, EF2 p, ())) := by kernel_rfl
/-! ### All steps -/
abbrev AlS := Int × EnvP × MV × Unit
abbrev AlO := AlS ⊕ ((Int × Int × Int × Unit) × (EnvP × MV × Unit))
noncomputable def alF (y2 : Int) (self3 : AlS → Option AlO) (x1 : AlS) : Option AlO :=
  if x1.1 < y2 then
   (stepD3 x1.2.2.1 x1.2.1).bind fun r4 =>
   if r4.1.1 = true then
    (resultD3 r4.2.1).bind fun r5 =>
    Option.map Sum.inr (
     some ((r5.1.1, r5.1.2.1, wi (x1.1 + 1), ()), (r4.2.2.1, r5.2.1, ()))
    )
   else
   self3 (wi (x1.1 + 1), r4.2.2.1, r4.2.1, ())
  else
  some (Sum.inl (x1.1, x1.2.1, x1.2.2.1, ()))
theorem alone_unf (e : EnvP) (r : RunV MV) (n : Int) : workstealmatchAlone e (.run r) n = (lpF (alF n) 18446744073709551616 (0, e, .run r, ())).bind fun z2 => match z2 with
  | .inr o6 => some o6
  | .inl z2 => some (((-1), 0, z2.1, ()), (z2.2.1, z2.2.2.1, ())) := rfl
theorem stepD3_run {r r' : RunV MV} {e e' : EnvP} {b : Bool} (h : runnerRunStep r e = some ((b, ()), (r', e', ()))) : stepD3 (.run r) e = some ((b, ()), (.run r', e', ())) := by
  show (runnerRunStep r e).bind (fun o => some (o.1, (MV.run o.2.1, o.2.2))) = _
  rw [h]; rfl
theorem al_next {n s : Int} {r r' : RunV MV} {e e' : EnvP} {self : AlS → Option AlO} (hs : s < n) (hb : 0 ≤ s ∧ s ≤ 1000000) (h : runnerRunStep r e = some ((false, ()), (r', e', ()))) : alF n self (s, e, .run r, ()) = self (s + 1, e', .run r', ()) := by
  unfold alF
  have e1 : wi (s + 1) = s + 1 := wi_id (rg_lit (by omega))
  simp only [if_pos hs, stepD3_run h, obind, e1, Bool.false_eq_true, if_false]
theorem al_end {n s : Int} {r r' : RunV MV} {e e' : EnvP} {self : AlS → Option AlO} (hs : s < n) (hb : 0 ≤ s ∧ s ≤ 1000000) (h : runnerRunStep r e = some ((true, ()), (r', e', ()))) : alF n self (s, e, .run r, ()) = some (.inr ((r'.o.code, r'.o.value, s + 1, ()), (e', .run r', ()))) := by
  unfold alF
  have e1 : wi (s + 1) = s + 1 := wi_id (rg_lit (by omega))
  simp only [if_pos hs, stepD3_run h, obind, e1, if_true]
  rfl
def sumA : List Ins → Int
  | [] => 0
  | x :: l => x.a + sumA l
/-- What is left to compute. -/
def remA (p : List Ins) (j : Nat) (left : Int) : Int := if left = 0 then sumA (p.drop j) else left + sumA (p.drop (j + 1))
theorem sumA_drop {p : List Ins} {j : Nat} (h : j < p.length) : sumA (p.drop j) = (p[j]).a + sumA (p.drop (j + 1)) := by
  rw [List.drop_eq_getElem_cons h]; rfl
theorem sumA_nn {p : List Ins} (h : ∀ x ∈ p, 1 ≤ x.a ∧ x.a ≤ 64) : 0 ≤ sumA p ∧ sumA p ≤ 64 * (p.length : Int) := by
  induction p with
  | nil => exact ⟨Int.le_refl _, Int.le_refl _⟩
  | cons x p ih =>
    have h1 := h x (List.mem_cons_self ..)
    have h2 := ih fun y hy => h y (List.mem_cons_of_mem _ hy)
    simp only [sumA, List.length_cons]
    omega
theorem alone_run {p : List Ins} (hc : Comp p) (hl : p.length ≤ 32) : ∀ (k : Nat) (s : Int) (j : Nat) (left : Int), j ≤ p.length → (0 ≤ left ∧ left ≤ 64) → (left ≠ 0 → j < p.length) → 0 ≤ s → s + remA p j left + 2 ≤ 5000 → remA p j left + 2 < (k : Int) →
    lpF (alF 5000) k (s, EQ p (j : Int) left, .run R0, ()) = some (.inr ((0, 0, s + remA p j left + 2, ()), (EF2 p, .run REnd, ())))
  | 0, s, j, left, hj, hle, hlj, hs, h5, hk => by
    exfalso
    have : 0 ≤ remA p j left := by
      unfold remA
      have h1 := (sumA_nn (p := p.drop j) fun x hx => (hc x (List.mem_of_mem_drop hx)).2.1).1
      have h2 := (sumA_nn (p := p.drop (j + 1)) fun x hx => (hc x (List.mem_of_mem_drop hx)).2.1).1
      split <;> omega
    omega
  | k + 1, s, j, left, hj, hle, hlj, hs, h5, hk => by
    have hn1 := (sumA_nn (p := p.drop j) fun x hx => (hc x (List.mem_of_mem_drop hx)).2.1).1
    have hn2 := (sumA_nn (p := p.drop (j + 1)) fun x hx => (hc x (List.mem_of_mem_drop hx)).2.1).1
    have hrn : 0 ≤ remA p j left := by unfold remA; split <;> omega
    show alF 5000 (lpF (alF 5000) k) _ = _
    rcases Nat.lt_or_ge j p.length with hlt | hge
    · have hin : 0 ≤ ((j : Nat) : Int) ∧ ((j : Nat) : Int) < ((p.length : Nat) : Int) := by omega
      have hat : atK3 p (j : Int) = p[j] := by
        have h1 := atL_get (d := (dfR 3 : Ins)) (xs := p) (i := (j : Int)) hin
        have h2 : p[((j : Nat) : Int).toNat]? = some p[j] := by simp [hlt]
        exact Option.some.inj (h1.symm.trans h2)
      have hx := hc (p[j]) (List.getElem_mem hlt)
      have hst := step_c (p := p) (pc := (j : Int)) (left := left) hin (by omega) (by rw [hat]; exact hx.1) (by rw [hat]; exact hx.2.1) hle
      rw [hat] at hst
      rw [al_next (by omega) (by omega) hst]
      have hsum := sumA_drop hlt
      by_cases hz : left = 0
      · subst hz
        simp only [if_true]
        have hr : remA p j 0 = (p[j]).a + sumA (p.drop (j + 1)) := by unfold remA; rw [if_pos rfl, hsum]
        by_cases h1 : (p[j]).a = 1
        · rw [if_pos h1, h1]
          have hr2 : remA p (j + 1) 0 = sumA (p.drop (j + 1)) := by unfold remA; rw [if_pos rfl]
          have ih := alone_run hc hl k (s + 1) (j + 1) 0 (by omega) (by omega) (fun h => absurd rfl h) (by omega) (by omega) (by omega)
          rw [show ((j : Nat) : Int) + 1 = ((j + 1 : Nat) : Int) by omega, show (1 : Int) - 1 = 0 from rfl, ih, hr, hr2, h1]
          exact congrArg (fun t => (some (Sum.inr ((0, 0, t, ()), (EF2 p, MV.run REnd, ()))) : Option AlO)) (by omega)
        · rw [if_neg h1]
          have hr2 : remA p j ((p[j]).a - 1) = (p[j]).a - 1 + sumA (p.drop (j + 1)) := by unfold remA; rw [if_neg (by omega)]
          have ih := alone_run hc hl k (s + 1) j ((p[j]).a - 1) (by omega) (by omega) (fun _ => hlt) (by omega) (by omega) (by omega)
          rw [ih, hr, hr2]
          exact congrArg (fun t => (some (Sum.inr ((0, 0, t, ()), (EF2 p, MV.run REnd, ()))) : Option AlO)) (by omega)
      · simp only [if_neg hz]
        have hr : remA p j left = left + sumA (p.drop (j + 1)) := by unfold remA; rw [if_neg hz]
        by_cases h1 : left = 1
        · rw [if_pos h1, h1]
          have hr2 : remA p (j + 1) 0 = sumA (p.drop (j + 1)) := by unfold remA; rw [if_pos rfl]
          have ih := alone_run hc hl k (s + 1) (j + 1) 0 (by omega) (by omega) (fun h => absurd rfl h) (by omega) (by omega) (by omega)
          rw [show ((j : Nat) : Int) + 1 = ((j + 1 : Nat) : Int) by omega, show (1 : Int) - 1 = 0 from rfl, ih, ← h1, hr, hr2, h1]
          exact congrArg (fun t => (some (Sum.inr ((0, 0, t, ()), (EF2 p, MV.run REnd, ()))) : Option AlO)) (by omega)
        · rw [if_neg h1]
          have hr2 : remA p j (left - 1) = left - 1 + sumA (p.drop (j + 1)) := by unfold remA; rw [if_neg (by omega)]
          have ih := alone_run hc hl k (s + 1) j (left - 1) (by omega) (by omega) (fun _ => hlt) (by omega) (by omega) (by omega)
          rw [ih, hr, hr2]
          exact congrArg (fun t => (some (Sum.inr ((0, 0, t, ()), (EF2 p, MV.run REnd, ()))) : Option AlO)) (by omega)
    · have hjl : j = p.length := by omega
      have hz : left = 0 := Classical.byContradiction fun h => by have := hlj h; omega
      subst hz hjl
      have hr : remA p p.length 0 = 0 := by unfold remA; rw [if_pos rfl]; simp [sumA]
      rw [hr] at h5 hk ⊢
      rw [al_next (by omega) (by omega) (step_f1 p)]
      obtain ⟨k', rfl⟩ : ∃ k', k = k' + 1 := ⟨k - 1, by omega⟩
      show alF 5000 (lpF (alF 5000) k') _ = _
      rw [al_end (by omega) (by omega) (step_f2 p)]
      exact congrArg (fun t => (some (Sum.inr ((0, 0, t, ()), (EF2 p, MV.run REnd, ()))) : Option AlO)) (by omega)
end
end Go.Proofs.YtgiagoeoifgliaaGreat
