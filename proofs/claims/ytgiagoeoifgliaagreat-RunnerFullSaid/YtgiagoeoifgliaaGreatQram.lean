/- RunnerFull in the evaluator's form. The law RunnerFull answers true. -/
import Derived.Test.YtgiagoeoifgliaaGreatQral
set_option linter.all false
namespace Go.Proofs.YtgiagoeoifgliaaGreat
section
open Go Go.RowKit
set_option maxRecDepth 100000
noncomputable def runnerRunFinish (y0 : (RunV MV)) (y1 : EnvP) : Option ((Bool × Unit) × ((RunV MV) × EnvP × Unit)) :=
 if 0 ≤ wi (((y0.stack.length : Nat) : Int) - 1) ∧ wi (((y0.stack.length : Nat) : Int) - 1) < ((y0.stack.length : Nat) : Int) then
  if y0.line = 16 then
   (pState y1.l (atK1 y0.stack (wi (((y0.stack.length : Nat) : Int) - 1)))).bind fun r1 =>
   (pStore y1.m r1.1.1 4).bind fun r2 =>
   (runnerRunTo y0 17 MV.nil).bind fun r3 =>
   some ((r3.1.1, ()), (r3.2.1, ({ y1 with m := r2.2.1 } : EnvP), ()))
  else
  if y0.line = 17 then
   (pJoin y1.l (atK1 y0.stack (wi (((y0.stack.length : Nat) : Int) - 1)))).bind fun r4 =>
   (pCAS y1.m r4.1.1 0 4294967296).bind fun r5 =>
   (runnerRunEmit y0 ({ y1 with m := r5.2.1 } : EnvP) (⟨10, 0, atK1 y0.stack (wi (((y0.stack.length : Nat) : Int) - 1)), 0, 0⟩ : Ev)).bind fun r6 =>
   if r5.1.1 = true then
    (runnerRunLeave r6.2.1).bind fun r7 =>
    some ((r7.1.1, ()), (r7.2.1, r6.2.2.1, ()))
   else
   (runnerRunTo r6.2.1 18 MV.nil).bind fun r8 =>
   some ((r8.1.1, ()), (r8.2.1, r6.2.2.1, ()))
  else
  if y0.line = 18 then
   (pJoin y1.l (atK1 y0.stack (wi (((y0.stack.length : Nat) : Int) - 1)))).bind fun r9 =>
   (pLoad y1.m r9.1.1).bind fun r10 =>
   if (wi ((wi (r10.1.1)) - 1)) < 0 then
    (runnerRunLeave ({ y0 with waiter := wi ((wi (r10.1.1)) - 1) } : (RunV MV))).bind fun r11 =>
    some ((r11.1.1, ()), (r11.2.1, ({ y1 with m := r10.2.1 } : EnvP), ()))
   else
   if y1.c.tasks ≤ (wi ((wi (r10.1.1)) - 1)) then
    (runnerRunLeave ({ y0 with waiter := wi ((wi (r10.1.1)) - 1) } : (RunV MV))).bind fun r12 =>
    some ((r12.1.1, ()), (r12.2.1, ({ y1 with m := r10.2.1 } : EnvP), ()))
   else
   (tableEnter y0.worker (wi ((wi (r10.1.1)) - 1))).bind fun r13 =>
   (runnerRunTo ({ y0 with waiter := wi ((wi (r10.1.1)) - 1) } : (RunV MV)) 19 r13.1.1).bind fun r14 =>
   some ((r14.1.1, ()), (r14.2.1, ({ y1 with m := r10.2.1 } : EnvP), ()))
  else
  (stepD2 y0.inside y1).bind fun r15 =>
  if (!r15.1.1) = true then
   some ((false, ()), (({ y0 with inside := r15.2.1 } : (RunV MV)), r15.2.2.1, ()))
  else
  (resultD2 r15.2.1).bind fun r16 =>
  if y0.line = 19 then
   if r16.1.1 = 3 then
    (tableClaim y0.worker y0.waiter).bind fun r17 =>
    (runnerRunTo ({ y0 with inside := r16.2.1 } : (RunV MV)) 21 r17.1.1).bind fun r18 =>
    some ((r18.1.1, ()), (r18.2.1, r15.2.2.1, ()))
   else
   if y0.line = 19 then
    (parkWake y0.worker r16.1.2.1).bind fun r19 =>
    (runnerRunTo ({ y0 with inside := r16.2.1 } : (RunV MV)) 20 r19.1.1).bind fun r20 =>
    some ((r20.1.1, ()), (r20.2.1, r15.2.2.1, ()))
   else
   if y0.line = 21 then
    if r16.1.1 = 1 then
     if 0 ≤ wi (((y0.stack.length : Nat) : Int) - 1) ∧ wi (((y0.stack.length : Nat) : Int) - 1) < ((y0.stack.length : Nat) : Int) then
      (runnerRunTo ({ y0 with stack := y0.stack.set (wi (((y0.stack.length : Nat) : Int) - 1)).toNat y0.waiter, inside := r16.2.1 } : (RunV MV)) 0 MV.nil).bind fun r21 =>
      some ((r21.1.1, ()), (r21.2.1, r15.2.2.1, ()))
     else none
    else
    (runnerRunLeave ({ y0 with inside := r16.2.1 } : (RunV MV))).bind fun r22 =>
    some ((r22.1.1, ()), (r22.2.1, r15.2.2.1, ()))
   else
   (runnerRunLeave ({ y0 with inside := r16.2.1 } : (RunV MV))).bind fun r23 =>
   some ((r23.1.1, ()), (r23.2.1, r15.2.2.1, ()))
  else
  if y0.line = 19 then
   (parkWake y0.worker r16.1.2.1).bind fun r24 =>
   (runnerRunTo ({ y0 with inside := r16.2.1 } : (RunV MV)) 20 r24.1.1).bind fun r25 =>
   some ((r25.1.1, ()), (r25.2.1, r15.2.2.1, ()))
  else
  if y0.line = 21 then
   if r16.1.1 = 1 then
    if 0 ≤ wi (((y0.stack.length : Nat) : Int) - 1) ∧ wi (((y0.stack.length : Nat) : Int) - 1) < ((y0.stack.length : Nat) : Int) then
     (runnerRunTo ({ y0 with stack := y0.stack.set (wi (((y0.stack.length : Nat) : Int) - 1)).toNat y0.waiter, inside := r16.2.1 } : (RunV MV)) 0 MV.nil).bind fun r26 =>
     some ((r26.1.1, ()), (r26.2.1, r15.2.2.1, ()))
    else none
   else
   (runnerRunLeave ({ y0 with inside := r16.2.1 } : (RunV MV))).bind fun r27 =>
   some ((r27.1.1, ()), (r27.2.1, r15.2.2.1, ()))
  else
  (runnerRunLeave ({ y0 with inside := r16.2.1 } : (RunV MV))).bind fun r28 =>
  some ((r28.1.1, ()), (r28.2.1, r15.2.2.1, ()))
 else none
noncomputable abbrev runnerRunFinish_k : Con SR1 := ⟨180, [.ref 33, .ref 27], [.sh .b], fun x => runnerRunFinish x.1 x.2.1⟩
theorem runnerRunFinish_eq (y0 : (RunV MV)) (y1 : EnvP) : runnerRunFinish_a y0 y1 = runnerRunFinish y0 y1 := by
  unfold runnerRunFinish_a runnerRunFinish
  simp only [if_true, agr_self, bind_guard]
theorem runnerRunFinish_ok : CO Tryz.prog runnerRunFinish_k := co_as runnerRunFinish_a_ok fun x out hx => (show runnerRunFinish_a_k.spec x = some out from (runnerRunFinish_eq x.1 x.2.1).trans hx)
noncomputable def runnerRunStep (y0 : (RunV MV)) (y1 : EnvP) : Option ((Bool × Unit) × ((RunV MV) × EnvP × Unit)) :=
 (pEnded y0.o).bind fun r1 =>
 if r1.1.1 = true then
  some ((true, ()), (({ y0 with o := r1.2.1 } : (RunV MV)), y1, ()))
 else
 if 0 ≤ wi (((y0.stack.length : Nat) : Int) - 1) ∧ wi (((y0.stack.length : Nat) : Int) - 1) < ((y0.stack.length : Nat) : Int) then
  if (atK1 y0.stack (wi (((y0.stack.length : Nat) : Int) - 1))) < 0 then
   (pEnd r1.2.1 4 0).bind fun r2 =>
   some ((r2.1.1, ()), (({ y0 with o := r2.2.1 } : (RunV MV)), y1, ()))
  else
  if y1.c.tasks ≤ (atK1 y0.stack (wi (((y0.stack.length : Nat) : Int) - 1))) then
   (pEnd r1.2.1 4 0).bind fun r3 =>
   some ((r3.1.1, ()), (({ y0 with o := r3.2.1 } : (RunV MV)), y1, ()))
  else
  if ((y1.recs.length : Nat) : Int) ≤ (atK1 y0.stack (wi (((y0.stack.length : Nat) : Int) - 1))) then
   (pEnd r1.2.1 4 0).bind fun r4 =>
   some ((r4.1.1, ()), (({ y0 with o := r4.2.1 } : (RunV MV)), y1, ()))
  else
  if y0.line = 0 then
   (runnerRunChoose ({ y0 with o := r1.2.1 } : (RunV MV)) y1).bind fun r5 =>
   if r5.1.1 = 4 then
    (tableAllocate).bind fun r6 =>
    if r5.1.1 = 1 then
     (runnerRunSimple ({ r5.2.1 with line := r5.1.1, inside := r6.1.1 } : (RunV MV)) r5.2.2.1).bind fun r7 =>
     some ((r7.1.1, ()), (r7.2.1, r7.2.2.1, ()))
    else
    if r5.1.1 = 2 then
     (runnerRunSimple ({ r5.2.1 with line := r5.1.1, inside := r6.1.1 } : (RunV MV)) r5.2.2.1).bind fun r8 =>
     some ((r8.1.1, ()), (r8.2.1, r8.2.2.1, ()))
    else
    if r5.1.1 = 3 then
     (runnerRunSimple ({ r5.2.1 with line := r5.1.1, inside := r6.1.1 } : (RunV MV)) r5.2.2.1).bind fun r9 =>
     some ((r9.1.1, ()), (r9.2.1, r9.2.2.1, ()))
    else
    if 4 ≤ r5.1.1 then
     if r5.1.1 ≤ 8 then
      (runnerRunSpawn ({ r5.2.1 with line := r5.1.1, inside := r6.1.1 } : (RunV MV)) r5.2.2.1).bind fun r10 =>
      some ((r10.1.1, ()), (r10.2.1, r10.2.2.1, ()))
     else
     if 9 ≤ r5.1.1 then
      if r5.1.1 ≤ 15 then
       (runnerRunJoin ({ r5.2.1 with line := r5.1.1, inside := r6.1.1 } : (RunV MV)) r5.2.2.1).bind fun r11 =>
       some ((r11.1.1, ()), (r11.2.1, r11.2.2.1, ()))
      else
      (runnerRunFinish ({ r5.2.1 with line := r5.1.1, inside := r6.1.1 } : (RunV MV)) r5.2.2.1).bind fun r12 =>
      some ((r12.1.1, ()), (r12.2.1, r12.2.2.1, ()))
     else
     (runnerRunFinish ({ r5.2.1 with line := r5.1.1, inside := r6.1.1 } : (RunV MV)) r5.2.2.1).bind fun r13 =>
     some ((r13.1.1, ()), (r13.2.1, r13.2.2.1, ()))
    else
    if 9 ≤ r5.1.1 then
     if r5.1.1 ≤ 15 then
      (runnerRunJoin ({ r5.2.1 with line := r5.1.1, inside := r6.1.1 } : (RunV MV)) r5.2.2.1).bind fun r14 =>
      some ((r14.1.1, ()), (r14.2.1, r14.2.2.1, ()))
     else
     (runnerRunFinish ({ r5.2.1 with line := r5.1.1, inside := r6.1.1 } : (RunV MV)) r5.2.2.1).bind fun r15 =>
     some ((r15.1.1, ()), (r15.2.1, r15.2.2.1, ()))
    else
    (runnerRunFinish ({ r5.2.1 with line := r5.1.1, inside := r6.1.1 } : (RunV MV)) r5.2.2.1).bind fun r16 =>
    some ((r16.1.1, ()), (r16.2.1, r16.2.2.1, ()))
   else
   if r5.1.1 = 1 then
    (runnerRunSimple ({ r5.2.1 with line := r5.1.1 } : (RunV MV)) r5.2.2.1).bind fun r17 =>
    some ((r17.1.1, ()), (r17.2.1, r17.2.2.1, ()))
   else
   if r5.1.1 = 2 then
    (runnerRunSimple ({ r5.2.1 with line := r5.1.1 } : (RunV MV)) r5.2.2.1).bind fun r18 =>
    some ((r18.1.1, ()), (r18.2.1, r18.2.2.1, ()))
   else
   if r5.1.1 = 3 then
    (runnerRunSimple ({ r5.2.1 with line := r5.1.1 } : (RunV MV)) r5.2.2.1).bind fun r19 =>
    some ((r19.1.1, ()), (r19.2.1, r19.2.2.1, ()))
   else
   if 4 ≤ r5.1.1 then
    if r5.1.1 ≤ 8 then
     (runnerRunSpawn ({ r5.2.1 with line := r5.1.1 } : (RunV MV)) r5.2.2.1).bind fun r20 =>
     some ((r20.1.1, ()), (r20.2.1, r20.2.2.1, ()))
    else
    if 9 ≤ r5.1.1 then
     if r5.1.1 ≤ 15 then
      (runnerRunJoin ({ r5.2.1 with line := r5.1.1 } : (RunV MV)) r5.2.2.1).bind fun r21 =>
      some ((r21.1.1, ()), (r21.2.1, r21.2.2.1, ()))
     else
     (runnerRunFinish ({ r5.2.1 with line := r5.1.1 } : (RunV MV)) r5.2.2.1).bind fun r22 =>
     some ((r22.1.1, ()), (r22.2.1, r22.2.2.1, ()))
    else
    (runnerRunFinish ({ r5.2.1 with line := r5.1.1 } : (RunV MV)) r5.2.2.1).bind fun r23 =>
    some ((r23.1.1, ()), (r23.2.1, r23.2.2.1, ()))
   else
   if 9 ≤ r5.1.1 then
    if r5.1.1 ≤ 15 then
     (runnerRunJoin ({ r5.2.1 with line := r5.1.1 } : (RunV MV)) r5.2.2.1).bind fun r24 =>
     some ((r24.1.1, ()), (r24.2.1, r24.2.2.1, ()))
    else
    (runnerRunFinish ({ r5.2.1 with line := r5.1.1 } : (RunV MV)) r5.2.2.1).bind fun r25 =>
    some ((r25.1.1, ()), (r25.2.1, r25.2.2.1, ()))
   else
   (runnerRunFinish ({ r5.2.1 with line := r5.1.1 } : (RunV MV)) r5.2.2.1).bind fun r26 =>
   some ((r26.1.1, ()), (r26.2.1, r26.2.2.1, ()))
  else
  if y0.line = 1 then
   (runnerRunSimple ({ y0 with o := r1.2.1 } : (RunV MV)) y1).bind fun r27 =>
   some ((r27.1.1, ()), (r27.2.1, r27.2.2.1, ()))
  else
  if y0.line = 2 then
   (runnerRunSimple ({ y0 with o := r1.2.1 } : (RunV MV)) y1).bind fun r28 =>
   some ((r28.1.1, ()), (r28.2.1, r28.2.2.1, ()))
  else
  if y0.line = 3 then
   (runnerRunSimple ({ y0 with o := r1.2.1 } : (RunV MV)) y1).bind fun r29 =>
   some ((r29.1.1, ()), (r29.2.1, r29.2.2.1, ()))
  else
  if 4 ≤ y0.line then
   if y0.line ≤ 8 then
    (runnerRunSpawn ({ y0 with o := r1.2.1 } : (RunV MV)) y1).bind fun r30 =>
    some ((r30.1.1, ()), (r30.2.1, r30.2.2.1, ()))
   else
   if 9 ≤ y0.line then
    if y0.line ≤ 15 then
     (runnerRunJoin ({ y0 with o := r1.2.1 } : (RunV MV)) y1).bind fun r31 =>
     some ((r31.1.1, ()), (r31.2.1, r31.2.2.1, ()))
    else
    (runnerRunFinish ({ y0 with o := r1.2.1 } : (RunV MV)) y1).bind fun r32 =>
    some ((r32.1.1, ()), (r32.2.1, r32.2.2.1, ()))
   else
   (runnerRunFinish ({ y0 with o := r1.2.1 } : (RunV MV)) y1).bind fun r33 =>
   some ((r33.1.1, ()), (r33.2.1, r33.2.2.1, ()))
  else
  if 9 ≤ y0.line then
   if y0.line ≤ 15 then
    (runnerRunJoin ({ y0 with o := r1.2.1 } : (RunV MV)) y1).bind fun r34 =>
    some ((r34.1.1, ()), (r34.2.1, r34.2.2.1, ()))
   else
   (runnerRunFinish ({ y0 with o := r1.2.1 } : (RunV MV)) y1).bind fun r35 =>
   some ((r35.1.1, ()), (r35.2.1, r35.2.2.1, ()))
  else
  (runnerRunFinish ({ y0 with o := r1.2.1 } : (RunV MV)) y1).bind fun r36 =>
  some ((r36.1.1, ()), (r36.2.1, r36.2.2.1, ()))
 else none
noncomputable abbrev runnerRunStep_k : Con SR1 := ⟨173, [.ref 33, .ref 27], [.sh .b], fun x => runnerRunStep x.1 x.2.1⟩
noncomputable def runnerRunStep_tb : List (Nat × Func) := [(174, Tryz.f174)]
theorem runnerRunStep_ok : CO Tryz.prog runnerRunStep_k := co_fn mixed Tryz.func173 [pEnded_k, pEnd_k, runnerRunChoose_k, tableAllocate_k, runnerRunSimple_k, runnerRunSpawn_k, runnerRunJoin_k, runnerRunFinish_k] ⟨pEnded_ok, pEnd_ok, runnerRunChoose_ok, tableAllocate_ok, runnerRunSimple_ok, runnerRunSpawn_ok, runnerRunJoin_ok, runnerRunFinish_ok, trivial⟩ runnerRunStep_tb ⟨Tryz.func174, trivial⟩ (fun _ => []) [] fun x => by kernel_rfl
noncomputable def stepD3 (m : MV) (e : EnvP) : Option ((Bool × Unit) × (MV × EnvP × Unit)) :=
 match m with
 | .alloc x => (tableAllocateStep x e).bind fun o => some (o.1, (MV.alloc o.2.1, o.2.2))
 | .publish x => (tablePublishStep x e).bind fun o => some (o.1, (MV.publish o.2.1, o.2.2))
 | .claim x => (tableClaimStep x e).bind fun o => some (o.1, (MV.claim o.2.1, o.2.2))
 | .attempt x => (lockAttemptStep x e).bind fun o => some (o.1, (MV.attempt o.2.1, o.2.2))
 | .release x => (lockReleaseStep x e).bind fun o => some (o.1, (MV.release o.2.1, o.2.2))
 | .opush x => (ownerPushStep x e).bind fun o => some (o.1, (MV.opush o.2.1, o.2.2))
 | .opop x => (ownerPopStep x e).bind fun o => some (o.1, (MV.opop o.2.1, o.2.2))
 | .steal x => (thiefStealStep x e).bind fun o => some (o.1, (MV.steal o.2.1, o.2.2))
 | .set x => (bitmapSetStep x e).bind fun o => some (o.1, (MV.set o.2.1, o.2.2))
 | .reset x => (bitmapResetStep x e).bind fun o => some (o.1, (MV.reset o.2.1, o.2.2))
 | .insert x => (injectorInsertStep x e).bind fun o => some (o.1, (MV.insert o.2.1, o.2.2))
 | .remove x => (injectorRemoveStep x e).bind fun o => some (o.1, (MV.remove o.2.1, o.2.2))
 | .sleep x => (parkSleepStep x e).bind fun o => some (o.1, (MV.sleep o.2.1, o.2.2))
 | .wake x => (parkWakeStep x e).bind fun o => some (o.1, (MV.wake o.2.1, o.2.2))
 | .raise x => (boostRaiseStep x e).bind fun o => some (o.1, (MV.raise o.2.1, o.2.2))
 | .probe x => (probeProbeStep x e).bind fun o => some (o.1, (MV.probe o.2.1, o.2.2))
 | .lpush x => (levelsPushStep x e).bind fun o => some (o.1, (MV.lpush o.2.1, o.2.2))
 | .lpop x => (levelsPopStep x e).bind fun o => some (o.1, (MV.lpop o.2.1, o.2.2))
 | .walk x => (boostWalkStep x e).bind fun o => some (o.1, (MV.walk o.2.1, o.2.2))
 | .take x => (takeTakeStep x e).bind fun o => some (o.1, (MV.take o.2.1, o.2.2))
 | .sweep x => (agingSweepStep x e).bind fun o => some (o.1, (MV.sweep o.2.1, o.2.2))
 | .enter x => (tableEnterStep x e).bind fun o => some (o.1, (MV.enter o.2.1, o.2.2))
 | .drain x => (drainDrainStep x e).bind fun o => some (o.1, (MV.drain o.2.1, o.2.2))
 | .run x => (runnerRunStep x e).bind fun o => some (o.1, (MV.run o.2.1, o.2.2))
 | _ => none
noncomputable abbrev stepD3_k : Con SR1 := ⟨1000000000, [.mch, .ref 27], [.sh .b], fun x => stepD3 x.1 x.2.1⟩
theorem stepD3_ok : CO Tryz.prog stepD3_k := co_meth (S := SR1) (i := 0) (ps := [.ref 27]) (rs := [.sh .b]) (spec := fun m xs => stepD3 m xs.1) fun m xs out h => by
  cases m with
  | alloc x => exact via_ok (S := SR1) (ps := [.ref 27]) (rs := [.sh .b]) (c := 35) (mk := MV.alloc) (fun _ => rfl) rfl (fun _ _ _ _ => by kernel_rfl) tableAllocateStep_ok h
  | publish x => exact via_ok (S := SR1) (ps := [.ref 27]) (rs := [.sh .b]) (c := 50) (mk := MV.publish) (fun _ => rfl) rfl (fun _ _ _ _ => by kernel_rfl) tablePublishStep_ok h
  | claim x => exact via_ok (S := SR1) (ps := [.ref 27]) (rs := [.sh .b]) (c := 45) (mk := MV.claim) (fun _ => rfl) rfl (fun _ _ _ _ => by kernel_rfl) tableClaimStep_ok h
  | attempt x => exact via_ok (S := SR1) (ps := [.ref 27]) (rs := [.sh .b]) (c := 34) (mk := MV.attempt) (fun _ => rfl) rfl (fun _ _ _ _ => by kernel_rfl) lockAttemptStep_ok h
  | release x => exact via_ok (S := SR1) (ps := [.ref 27]) (rs := [.sh .b]) (c := 37) (mk := MV.release) (fun _ => rfl) rfl (fun _ _ _ _ => by kernel_rfl) lockReleaseStep_ok h
  | opush x => exact via_ok (S := SR1) (ps := [.ref 27]) (rs := [.sh .b]) (c := 53) (mk := MV.opush) (fun _ => rfl) rfl (fun _ _ _ _ => by kernel_rfl) ownerPushStep_ok h
  | opop x => exact via_ok (S := SR1) (ps := [.ref 27]) (rs := [.sh .b]) (c := 52) (mk := MV.opop) (fun _ => rfl) rfl (fun _ _ _ _ => by kernel_rfl) ownerPopStep_ok h
  | steal x => exact via_ok (S := SR1) (ps := [.ref 27]) (rs := [.sh .b]) (c := 42) (mk := MV.steal) (fun _ => rfl) rfl (fun _ _ _ _ => by kernel_rfl) thiefStealStep_ok h
  | set x => exact via_ok (S := SR1) (ps := [.ref 27]) (rs := [.sh .b]) (c := 54) (mk := MV.set) (fun _ => rfl) rfl (fun _ _ _ _ => by kernel_rfl) bitmapSetStep_ok h
  | reset x => exact via_ok (S := SR1) (ps := [.ref 27]) (rs := [.sh .b]) (c := 43) (mk := MV.reset) (fun _ => rfl) rfl (fun _ _ _ _ => by kernel_rfl) bitmapResetStep_ok h
  | insert x => exact via_ok (S := SR1) (ps := [.ref 27]) (rs := [.sh .b]) (c := 36) (mk := MV.insert) (fun _ => rfl) rfl (fun _ _ _ _ => by kernel_rfl) injectorInsertStep_ok h
  | remove x => exact via_ok (S := SR1) (ps := [.ref 27]) (rs := [.sh .b]) (c := 51) (mk := MV.remove) (fun _ => rfl) rfl (fun _ _ _ _ => by kernel_rfl) injectorRemoveStep_ok h
  | sleep x => exact via_ok (S := SR1) (ps := [.ref 27]) (rs := [.sh .b]) (c := 32) (mk := MV.sleep) (fun _ => rfl) rfl (fun _ _ _ _ => by kernel_rfl) parkSleepStep_ok h
  | wake x => exact via_ok (S := SR1) (ps := [.ref 27]) (rs := [.sh .b]) (c := 38) (mk := MV.wake) (fun _ => rfl) rfl (fun _ _ _ _ => by kernel_rfl) parkWakeStep_ok h
  | raise x => exact via_ok (S := SR1) (ps := [.ref 27]) (rs := [.sh .b]) (c := 55) (mk := MV.raise) (fun _ => rfl) rfl (fun _ _ _ _ => by kernel_rfl) boostRaiseStep_ok h
  | probe x => exact via_ok (S := SR1) (ps := [.ref 27]) (rs := [.sh .b]) (c := 46) (mk := MV.probe) (fun _ => rfl) rfl (fun _ _ _ _ => by kernel_rfl) probeProbeStep_ok h
  | lpush x => exact via_ok (S := SR1) (ps := [.ref 27]) (rs := [.sh .b]) (c := 47) (mk := MV.lpush) (fun _ => rfl) rfl (fun _ _ _ _ => by kernel_rfl) levelsPushStep_ok h
  | lpop x => exact via_ok (S := SR1) (ps := [.ref 27]) (rs := [.sh .b]) (c := 44) (mk := MV.lpop) (fun _ => rfl) rfl (fun _ _ _ _ => by kernel_rfl) levelsPopStep_ok h
  | walk x => exact via_ok (S := SR1) (ps := [.ref 27]) (rs := [.sh .b]) (c := 48) (mk := MV.walk) (fun _ => rfl) rfl (fun _ _ _ _ => by kernel_rfl) boostWalkStep_ok h
  | take x => exact via_ok (S := SR1) (ps := [.ref 27]) (rs := [.sh .b]) (c := 39) (mk := MV.take) (fun _ => rfl) rfl (fun _ _ _ _ => by kernel_rfl) takeTakeStep_ok h
  | sweep x => exact via_ok (S := SR1) (ps := [.ref 27]) (rs := [.sh .b]) (c := 40) (mk := MV.sweep) (fun _ => rfl) rfl (fun _ _ _ _ => by kernel_rfl) agingSweepStep_ok h
  | enter x => exact via_ok (S := SR1) (ps := [.ref 27]) (rs := [.sh .b]) (c := 49) (mk := MV.enter) (fun _ => rfl) rfl (fun _ _ _ _ => by kernel_rfl) tableEnterStep_ok h
  | drain x => exact via_ok (S := SR1) (ps := [.ref 27]) (rs := [.sh .b]) (c := 41) (mk := MV.drain) (fun _ => rfl) rfl (fun _ _ _ _ => by kernel_rfl) drainDrainStep_ok h
  | run x => exact via_ok (S := SR1) (ps := [.ref 27]) (rs := [.sh .b]) (c := 33) (mk := MV.run) (fun _ => rfl) rfl (fun _ _ _ _ => by kernel_rfl) runnerRunStep_ok h
  | _ => cases h
noncomputable def resultD3 (m : MV) : Option ((Int × Int × Unit) × (MV × Unit)) :=
 match m with
 | .alloc x => some ((x.o.code, x.o.value, ()), (MV.alloc x, ()))
 | .publish x => some ((x.o.code, x.o.value, ()), (MV.publish x, ()))
 | .claim x => some ((x.o.code, x.o.value, ()), (MV.claim x, ()))
 | .attempt x => some ((x.o.code, x.o.value, ()), (MV.attempt x, ()))
 | .release x => some ((x.o.code, x.o.value, ()), (MV.release x, ()))
 | .opush x => some ((x.o.code, x.o.value, ()), (MV.opush x, ()))
 | .opop x => some ((x.o.code, x.o.value, ()), (MV.opop x, ()))
 | .steal x => some ((x.o.code, x.o.value, ()), (MV.steal x, ()))
 | .set x => some ((x.o.code, x.o.value, ()), (MV.set x, ()))
 | .reset x => some ((x.o.code, x.o.value, ()), (MV.reset x, ()))
 | .insert x => some ((x.o.code, x.o.value, ()), (MV.insert x, ()))
 | .remove x => some ((x.o.code, x.o.value, ()), (MV.remove x, ()))
 | .sleep x => some ((x.o.code, x.o.value, ()), (MV.sleep x, ()))
 | .wake x => some ((x.o.code, x.o.value, ()), (MV.wake x, ()))
 | .raise x => some ((x.o.code, x.o.value, ()), (MV.raise x, ()))
 | .probe x => some ((x.o.code, x.o.value, ()), (MV.probe x, ()))
 | .lpush x => some ((x.o.code, x.o.value, ()), (MV.lpush x, ()))
 | .lpop x => some ((x.o.code, x.o.value, ()), (MV.lpop x, ()))
 | .walk x => some ((x.o.code, x.o.value, ()), (MV.walk x, ()))
 | .take x => some ((x.o.code, x.o.value, ()), (MV.take x, ()))
 | .sweep x => some ((x.o.code, x.o.value, ()), (MV.sweep x, ()))
 | .enter x => some ((x.o.code, x.o.value, ()), (MV.enter x, ()))
 | .drain x => some ((x.o.code, x.o.value, ()), (MV.drain x, ()))
 | .run x => some ((x.o.code, x.o.value, ()), (MV.run x, ()))
 | _ => none
noncomputable abbrev resultD3_k : Con SR1 := ⟨1000000001, [.mch], [.sh sI_, .sh sI_], fun x => resultD3 x.1⟩
theorem resultD3_ok : CO Tryz.prog resultD3_k := co_meth (S := SR1) (i := 1) (ps := []) (rs := [.sh sI_, .sh sI_]) (spec := fun m _ => resultD3 m) fun m xs out h => by
  cases m with
  | alloc x => exact via_ok (S := SR1) (ps := []) (rs := [.sh sI_, .sh sI_]) (c := 35) (mk := MV.alloc) (f := 172) (sp := fun x => some ((x.1.o.code, x.1.o.value, ()), (x.1, ()))) (fun _ => rfl) rfl (fun _ _ _ _ => by kernel_rfl) (co_like [pResult_k] ⟨pResult_ok, trivial⟩ fun x => by kernel_rfl) h
  | publish x => exact via_ok (S := SR1) (ps := []) (rs := [.sh sI_, .sh sI_]) (c := 50) (mk := MV.publish) (f := 172) (sp := fun x => some ((x.1.o.code, x.1.o.value, ()), (x.1, ()))) (fun _ => rfl) rfl (fun _ _ _ _ => by kernel_rfl) (co_like [pResult_k] ⟨pResult_ok, trivial⟩ fun x => by kernel_rfl) h
  | claim x => exact via_ok (S := SR1) (ps := []) (rs := [.sh sI_, .sh sI_]) (c := 45) (mk := MV.claim) (f := 172) (sp := fun x => some ((x.1.o.code, x.1.o.value, ()), (x.1, ()))) (fun _ => rfl) rfl (fun _ _ _ _ => by kernel_rfl) (co_like [pResult_k] ⟨pResult_ok, trivial⟩ fun x => by kernel_rfl) h
  | attempt x => exact via_ok (S := SR1) (ps := []) (rs := [.sh sI_, .sh sI_]) (c := 34) (mk := MV.attempt) (f := 172) (sp := fun x => some ((x.1.o.code, x.1.o.value, ()), (x.1, ()))) (fun _ => rfl) rfl (fun _ _ _ _ => by kernel_rfl) (co_like [pResult_k] ⟨pResult_ok, trivial⟩ fun x => by kernel_rfl) h
  | release x => exact via_ok (S := SR1) (ps := []) (rs := [.sh sI_, .sh sI_]) (c := 37) (mk := MV.release) (f := 172) (sp := fun x => some ((x.1.o.code, x.1.o.value, ()), (x.1, ()))) (fun _ => rfl) rfl (fun _ _ _ _ => by kernel_rfl) (co_like [pResult_k] ⟨pResult_ok, trivial⟩ fun x => by kernel_rfl) h
  | opush x => exact via_ok (S := SR1) (ps := []) (rs := [.sh sI_, .sh sI_]) (c := 53) (mk := MV.opush) (f := 172) (sp := fun x => some ((x.1.o.code, x.1.o.value, ()), (x.1, ()))) (fun _ => rfl) rfl (fun _ _ _ _ => by kernel_rfl) (co_like [pResult_k] ⟨pResult_ok, trivial⟩ fun x => by kernel_rfl) h
  | opop x => exact via_ok (S := SR1) (ps := []) (rs := [.sh sI_, .sh sI_]) (c := 52) (mk := MV.opop) (f := 172) (sp := fun x => some ((x.1.o.code, x.1.o.value, ()), (x.1, ()))) (fun _ => rfl) rfl (fun _ _ _ _ => by kernel_rfl) (co_like [pResult_k] ⟨pResult_ok, trivial⟩ fun x => by kernel_rfl) h
  | steal x => exact via_ok (S := SR1) (ps := []) (rs := [.sh sI_, .sh sI_]) (c := 42) (mk := MV.steal) (f := 172) (sp := fun x => some ((x.1.o.code, x.1.o.value, ()), (x.1, ()))) (fun _ => rfl) rfl (fun _ _ _ _ => by kernel_rfl) (co_like [pResult_k] ⟨pResult_ok, trivial⟩ fun x => by kernel_rfl) h
  | set x => exact via_ok (S := SR1) (ps := []) (rs := [.sh sI_, .sh sI_]) (c := 54) (mk := MV.set) (f := 172) (sp := fun x => some ((x.1.o.code, x.1.o.value, ()), (x.1, ()))) (fun _ => rfl) rfl (fun _ _ _ _ => by kernel_rfl) (co_like [pResult_k] ⟨pResult_ok, trivial⟩ fun x => by kernel_rfl) h
  | reset x => exact via_ok (S := SR1) (ps := []) (rs := [.sh sI_, .sh sI_]) (c := 43) (mk := MV.reset) (f := 172) (sp := fun x => some ((x.1.o.code, x.1.o.value, ()), (x.1, ()))) (fun _ => rfl) rfl (fun _ _ _ _ => by kernel_rfl) (co_like [pResult_k] ⟨pResult_ok, trivial⟩ fun x => by kernel_rfl) h
  | insert x => exact via_ok (S := SR1) (ps := []) (rs := [.sh sI_, .sh sI_]) (c := 36) (mk := MV.insert) (f := 172) (sp := fun x => some ((x.1.o.code, x.1.o.value, ()), (x.1, ()))) (fun _ => rfl) rfl (fun _ _ _ _ => by kernel_rfl) (co_like [pResult_k] ⟨pResult_ok, trivial⟩ fun x => by kernel_rfl) h
  | remove x => exact via_ok (S := SR1) (ps := []) (rs := [.sh sI_, .sh sI_]) (c := 51) (mk := MV.remove) (f := 172) (sp := fun x => some ((x.1.o.code, x.1.o.value, ()), (x.1, ()))) (fun _ => rfl) rfl (fun _ _ _ _ => by kernel_rfl) (co_like [pResult_k] ⟨pResult_ok, trivial⟩ fun x => by kernel_rfl) h
  | sleep x => exact via_ok (S := SR1) (ps := []) (rs := [.sh sI_, .sh sI_]) (c := 32) (mk := MV.sleep) (f := 172) (sp := fun x => some ((x.1.o.code, x.1.o.value, ()), (x.1, ()))) (fun _ => rfl) rfl (fun _ _ _ _ => by kernel_rfl) (co_like [pResult_k] ⟨pResult_ok, trivial⟩ fun x => by kernel_rfl) h
  | wake x => exact via_ok (S := SR1) (ps := []) (rs := [.sh sI_, .sh sI_]) (c := 38) (mk := MV.wake) (f := 172) (sp := fun x => some ((x.1.o.code, x.1.o.value, ()), (x.1, ()))) (fun _ => rfl) rfl (fun _ _ _ _ => by kernel_rfl) (co_like [pResult_k] ⟨pResult_ok, trivial⟩ fun x => by kernel_rfl) h
  | raise x => exact via_ok (S := SR1) (ps := []) (rs := [.sh sI_, .sh sI_]) (c := 55) (mk := MV.raise) (f := 172) (sp := fun x => some ((x.1.o.code, x.1.o.value, ()), (x.1, ()))) (fun _ => rfl) rfl (fun _ _ _ _ => by kernel_rfl) (co_like [pResult_k] ⟨pResult_ok, trivial⟩ fun x => by kernel_rfl) h
  | probe x => exact via_ok (S := SR1) (ps := []) (rs := [.sh sI_, .sh sI_]) (c := 46) (mk := MV.probe) (f := 172) (sp := fun x => some ((x.1.o.code, x.1.o.value, ()), (x.1, ()))) (fun _ => rfl) rfl (fun _ _ _ _ => by kernel_rfl) (co_like [pResult_k] ⟨pResult_ok, trivial⟩ fun x => by kernel_rfl) h
  | lpush x => exact via_ok (S := SR1) (ps := []) (rs := [.sh sI_, .sh sI_]) (c := 47) (mk := MV.lpush) (f := 172) (sp := fun x => some ((x.1.o.code, x.1.o.value, ()), (x.1, ()))) (fun _ => rfl) rfl (fun _ _ _ _ => by kernel_rfl) (co_like [pResult_k] ⟨pResult_ok, trivial⟩ fun x => by kernel_rfl) h
  | lpop x => exact via_ok (S := SR1) (ps := []) (rs := [.sh sI_, .sh sI_]) (c := 44) (mk := MV.lpop) (f := 172) (sp := fun x => some ((x.1.o.code, x.1.o.value, ()), (x.1, ()))) (fun _ => rfl) rfl (fun _ _ _ _ => by kernel_rfl) (co_like [pResult_k] ⟨pResult_ok, trivial⟩ fun x => by kernel_rfl) h
  | walk x => exact via_ok (S := SR1) (ps := []) (rs := [.sh sI_, .sh sI_]) (c := 48) (mk := MV.walk) (f := 172) (sp := fun x => some ((x.1.o.code, x.1.o.value, ()), (x.1, ()))) (fun _ => rfl) rfl (fun _ _ _ _ => by kernel_rfl) (co_like [pResult_k] ⟨pResult_ok, trivial⟩ fun x => by kernel_rfl) h
  | take x => exact via_ok (S := SR1) (ps := []) (rs := [.sh sI_, .sh sI_]) (c := 39) (mk := MV.take) (f := 172) (sp := fun x => some ((x.1.o.code, x.1.o.value, ()), (x.1, ()))) (fun _ => rfl) rfl (fun _ _ _ _ => by kernel_rfl) (co_like [pResult_k] ⟨pResult_ok, trivial⟩ fun x => by kernel_rfl) h
  | sweep x => exact via_ok (S := SR1) (ps := []) (rs := [.sh sI_, .sh sI_]) (c := 40) (mk := MV.sweep) (f := 172) (sp := fun x => some ((x.1.o.code, x.1.o.value, ()), (x.1, ()))) (fun _ => rfl) rfl (fun _ _ _ _ => by kernel_rfl) (co_like [pResult_k] ⟨pResult_ok, trivial⟩ fun x => by kernel_rfl) h
  | enter x => exact via_ok (S := SR1) (ps := []) (rs := [.sh sI_, .sh sI_]) (c := 49) (mk := MV.enter) (f := 172) (sp := fun x => some ((x.1.o.code, x.1.o.value, ()), (x.1, ()))) (fun _ => rfl) rfl (fun _ _ _ _ => by kernel_rfl) (co_like [pResult_k] ⟨pResult_ok, trivial⟩ fun x => by kernel_rfl) h
  | drain x => exact via_ok (S := SR1) (ps := []) (rs := [.sh sI_, .sh sI_]) (c := 41) (mk := MV.drain) (f := 172) (sp := fun x => some ((x.1.o.code, x.1.o.value, ()), (x.1, ()))) (fun _ => rfl) rfl (fun _ _ _ _ => by kernel_rfl) (co_like [pResult_k] ⟨pResult_ok, trivial⟩ fun x => by kernel_rfl) h
  | run x => exact via_ok (S := SR1) (ps := []) (rs := [.sh sI_, .sh sI_]) (c := 33) (mk := MV.run) (f := 172) (sp := fun x => some ((x.1.o.code, x.1.o.value, ()), (x.1, ()))) (fun _ => rfl) rfl (fun _ _ _ _ => by kernel_rfl) (co_like [pResult_k] ⟨pResult_ok, trivial⟩ fun x => by kernel_rfl) h
  | _ => cases h
noncomputable def runnerRun (y0 : Int) (y1 : Int) : Option ((MV × Unit) × (Unit)) :=
 some ((MV.run (⟨⟨false, 0, 0⟩, y0, [y1], 0, MV.nil, 0, 0, 0, 0⟩ : (RunV MV)), ()), (()))
noncomputable abbrev runnerRun_k : Con SR1 := ⟨15, [.sh sI_, .sh sI_], [.sh .mach], fun x => runnerRun x.1 x.2.1⟩
theorem runnerRun_ok : CO Tryz.prog runnerRun_k := co_fn mixed Tryz.func15 [] trivial [] trivial (fun _ => []) [] fun x => by kernel_rfl
noncomputable def configClone (y0 : Cfg) : Option ((Cfg × Unit) × (Unit)) :=
 (cloneRows y0.progs).bind fun r1 =>
 (lpF (σ := Int × (Int × Int × Int × Int × Int × Int × Int × Int × Int × List (List Ins) × List Sub × Unit) × Unit) (β := Int × (Int × Int × Int × Int × Int × Int × Int × Int × Int × List (List Ins) × List Sub × Unit) × Unit) (fun self4 x2 =>
  if x2.1 < ((r1.1.1.length : Nat) : Int) then
   if 0 ≤ x2.1 ∧ x2.1 < ((x2.2.1.2.2.2.2.2.2.2.2.2.1.length : Nat) : Int) then
    (cloneIns (atK18 x2.2.1.2.2.2.2.2.2.2.2.2.1 x2.1)).bind fun r5 =>
    if 0 ≤ x2.1 ∧ x2.1 < ((x2.2.1.2.2.2.2.2.2.2.2.2.1.length : Nat) : Int) then
     self4 (wi (x2.1 + 1), (x2.2.1.1, x2.2.1.2.1, x2.2.1.2.2.1, x2.2.1.2.2.2.1, x2.2.1.2.2.2.2.1, x2.2.1.2.2.2.2.2.1, x2.2.1.2.2.2.2.2.2.1, x2.2.1.2.2.2.2.2.2.2.1, x2.2.1.2.2.2.2.2.2.2.2.1, x2.2.1.2.2.2.2.2.2.2.2.2.1.set x2.1.toNat r5.1.1, x2.2.1.2.2.2.2.2.2.2.2.2.2.1, ()), ())
    else none
   else none
  else
  some (x2.1, (x2.2.1.1, x2.2.1.2.1, x2.2.1.2.2.1, x2.2.1.2.2.2.1, x2.2.1.2.2.2.2.1, x2.2.1.2.2.2.2.2.1, x2.2.1.2.2.2.2.2.2.1, x2.2.1.2.2.2.2.2.2.2.1, x2.2.1.2.2.2.2.2.2.2.2.1, x2.2.1.2.2.2.2.2.2.2.2.2.1, x2.2.1.2.2.2.2.2.2.2.2.2.2.1, ()), ())
 ) 18446744073709551616 (0, (y0.workers, y0.levels, y0.classes, y0.tasks, y0.deque, y0.heap, y0.batch, y0.age, y0.patience, r1.1.1, y0.subs, ()), ())).bind fun z3 =>
 (cloneSubs z3.2.1.2.2.2.2.2.2.2.2.2.2.1).bind fun r6 =>
 some (((⟨z3.2.1.1, z3.2.1.2.1, z3.2.1.2.2.1, z3.2.1.2.2.2.1, z3.2.1.2.2.2.2.1, z3.2.1.2.2.2.2.2.1, z3.2.1.2.2.2.2.2.2.1, z3.2.1.2.2.2.2.2.2.2.1, z3.2.1.2.2.2.2.2.2.2.2.1, z3.2.1.2.2.2.2.2.2.2.2.2.1, r6.1.1⟩ : Cfg), ()), (()))
noncomputable abbrev configClone_k : Con SR1 := ⟨79, [.val 13], [.val 13], fun x => configClone x.1⟩
theorem configClone_ok : CO Tryz.prog configClone_k := co_fn mixed Tryz.func79 [cloneRows_k, cloneIns_k, cloneSubs_k] ⟨cloneRows_ok, cloneIns_ok, cloneSubs_ok, trivial⟩ [] trivial (fun _ => []) [(3, .loop [.rg 11 sI_, .cs 11 [sI_, sI_, sI_, sI_, sI_, sI_, sI_, sI_, sI_, (.row 18), (.ro 4)]] 18446744073709551616 0)] fun x => by kernel_rfl
noncomputable def configIn (y0 : Int) (y1 : Int) (y2 : Int) : Option ((Bool × Unit) × (Unit)) :=
 if y1 ≤ y0 then
  some ((decide (y0 ≤ y2), ()), (()))
 else
 some ((false, ()), (()))
noncomputable abbrev configIn_k : Con SR1 := ⟨112, [.sh sI_, .sh sI_, .sh sI_], [.sh .b], fun x => configIn x.1 x.2.1 x.2.2.1⟩
theorem configIn_ok : CO Tryz.prog configIn_k := co_fn mixed Tryz.func112 [] trivial [] trivial (fun _ => []) [] fun x => by kernel_rfl
noncomputable def configNumbers (y0 : Cfg) : Option ((Bool × Unit) × (Unit)) :=
 (configIn y0.workers 1 16).bind fun r1 =>
 if r1.1.1 = true then
  (configIn y0.levels 1 64).bind fun r2 =>
  if r2.1.1 = true then
   (configIn y0.classes 1 (if y0.levels < 8 then y0.levels else 8)).bind fun r3 =>
   if r3.1.1 = true then
    (configIn y0.tasks 1 256).bind fun r4 =>
    if r4.1.1 = true then
     (configIn y0.deque 1 64).bind fun r5 =>
     if r5.1.1 = true then
      (configIn y0.heap 1 64).bind fun r6 =>
      if r6.1.1 = true then
       (configIn y0.batch 1 y0.deque).bind fun r7 =>
       if r7.1.1 = true then
        (configIn y0.age 0 65536).bind fun r8 =>
        if r8.1.1 = true then
         (configIn y0.patience 1 65536).bind fun r9 =>
         some ((r9.1.1, ()), (()))
        else
        some ((false, ()), (()))
       else
       some ((false, ()), (()))
      else
      some ((false, ()), (()))
     else
     some ((false, ()), (()))
    else
    some ((false, ()), (()))
   else
   some ((false, ()), (()))
  else
  some ((false, ()), (()))
 else
 some ((false, ()), (()))
noncomputable abbrev configNumbers_k : Con SR1 := ⟨109, [.val 13], [.sh .b], fun x => configNumbers x.1⟩
theorem configNumbers_ok : CO Tryz.prog configNumbers_k := co_fn mixed Tryz.func109 [configIn_k] ⟨configIn_ok, trivial⟩ [] trivial (fun _ => []) [] fun x => by kernel_rfl
noncomputable def configValid (y0 : Cfg) (y1 : Ins) : Option ((Bool × Unit) × (Unit)) :=
 if y1.op = 0 then
  (configIn y1.a 1 64).bind fun r1 =>
  if r1.1.1 = true then
   some ((decide (y1.b = 0), ()), (()))
  else
  some ((false, ()), (()))
 else
 if y1.op = 1 then
  (configIn y1.a 0 (wi (((y0.progs.length : Nat) : Int) - 1))).bind fun r2 =>
  if r2.1.1 = true then
   (configIn y1.b 0 (wi (y0.levels - 1))).bind fun r3 =>
   some ((r3.1.1, ()), (()))
  else
  some ((false, ()), (()))
 else
 if y1.op = 2 then
  (configIn y1.a 0 31).bind fun r4 =>
  if r4.1.1 = true then
   some ((decide (y1.b = 0), ()), (()))
  else
  some ((false, ()), (()))
 else
 some ((false, ()), (()))
noncomputable abbrev configValid_k : Con SR1 := ⟨148, [.val 13, .val 3], [.sh .b], fun x => configValid x.1 x.2.1⟩
theorem configValid_ok : CO Tryz.prog configValid_k := co_fn mixed Tryz.func148 [configIn_k] ⟨configIn_ok, trivial⟩ [] trivial (fun _ => []) [] fun x => by kernel_rfl
noncomputable def configPrograms (y0 : Cfg) : Option ((Int × Unit) × (Unit)) :=
 (configIn ((y0.progs.length : Nat) : Int) 1 32).bind fun r1 =>
 if (!r1.1.1) = true then
  some ((2, ()), (()))
 else
 (lpF (σ := Int × Unit) (β := (Int × Unit) ⊕ ((Int × Unit) × (Unit))) (fun self4 x2 =>
  if x2.1 < ((y0.progs.length : Nat) : Int) then
   if 0 ≤ x2.1 ∧ x2.1 < ((y0.progs.length : Nat) : Int) then
    if 32 < (((atL [] y0.progs x2.1).length : Nat) : Int) then
     Option.map Sum.inr (
      some ((2, ()), (()))
     )
    else
    (lpF (σ := Int × Unit) (β := (Int × Unit) ⊕ ((Int × Unit) ⊕ ((Int × Unit) × (Unit)))) (fun self7 x5 =>
     if x5.1 < (((atL [] y0.progs x2.1).length : Nat) : Int) then
      if 0 ≤ x5.1 ∧ x5.1 < (((atL [] y0.progs x2.1).length : Nat) : Int) then
       (configValid y0 (atK3 (atL [] y0.progs x2.1) x5.1)).bind fun r8 =>
       if (!r8.1.1) = true then
        Option.map Sum.inr (
         Option.map Sum.inr (
          some ((1, ()), (()))
         )
        )
       else
       self7 (wi (x5.1 + 1), ())
      else none
     else
     some (Sum.inl (x5.1, ()))
    ) 18446744073709551616 (0, ())).bind fun z6 => match z6 with
    | .inr o9 => some o9
    | .inl z6 =>
    self4 (wi (x2.1 + 1), ())
   else none
  else
  some (Sum.inl (x2.1, ()))
 ) 18446744073709551616 (0, ())).bind fun z3 => match z3 with
 | .inr o10 => some o10
 | .inl z3 =>
 some ((0, ()), (()))
noncomputable abbrev configPrograms_k : Con SR1 := ⟨110, [.val 13], [.sh sI_], fun x => configPrograms x.1⟩
theorem configPrograms_ok : CO Tryz.prog configPrograms_k := co_fn mixed Tryz.func110 [configIn_k, configValid_k] ⟨configIn_ok, configValid_ok, trivial⟩ [] trivial (fun _ => []) [(4, .loopR [.rg 15 sI_] 18446744073709551616 0), (9, .loopR [.rg 24 sI_] 18446744073709551616 2)] fun x => by kernel_rfl
noncomputable def configSubmissions (y0 : Cfg) : Option ((Int × Unit) × (Unit)) :=
 if 64 < ((y0.subs.length : Nat) : Int) then
  some ((2, ()), (()))
 else
 (lpF (σ := Int × Unit) (β := (Int × Unit) ⊕ ((Int × Unit) × (Unit))) (fun self3 x1 =>
  if x1.1 < ((y0.subs.length : Nat) : Int) then
   if 0 ≤ x1.1 ∧ x1.1 < ((y0.subs.length : Nat) : Int) then
    (configIn ((atK4 y0.subs x1.1).prog) 0 (wi (((y0.progs.length : Nat) : Int) - 1))).bind fun r4 =>
    if (!r4.1.1) = true then
     Option.map Sum.inr (
      some ((3, ()), (()))
     )
    else
    (configIn ((atK4 y0.subs x1.1).level) 0 (wi (y0.levels - 1))).bind fun r5 =>
    if (!r5.1.1) = true then
     Option.map Sum.inr (
      some ((1, ()), (()))
     )
    else
    (configIn ((atK4 y0.subs x1.1).deadline) 0 16777215).bind fun r6 =>
    if (!r6.1.1) = true then
     Option.map Sum.inr (
      some ((1, ()), (()))
     )
    else
    self3 (wi (x1.1 + 1), ())
   else none
  else
  some (Sum.inl (x1.1, ()))
 ) 18446744073709551616 (0, ())).bind fun z2 => match z2 with
 | .inr o7 => some o7
 | .inl z2 =>
 some ((0, ()), (()))
noncomputable abbrev configSubmissions_k : Con SR1 := ⟨111, [.val 13], [.sh sI_], fun x => configSubmissions x.1⟩
theorem configSubmissions_ok : CO Tryz.prog configSubmissions_k := co_fn mixed Tryz.func111 [configIn_k] ⟨configIn_ok, trivial⟩ [] trivial (fun _ => []) [(4, .loopR [.rg 12 sI_] 18446744073709551616 0)] fun x => by kernel_rfl
noncomputable def configCheck (y0 : Cfg) : Option ((Int × Unit) × (Unit)) :=
 (configNumbers y0).bind fun r1 =>
 if (!r1.1.1) = true then
  some ((1, ()), (()))
 else
 (configPrograms y0).bind fun r2 =>
 if r2.1.1 ≠ 0 then
  some ((r2.1.1, ()), (()))
 else
 (configSubmissions y0).bind fun r3 =>
 some ((r3.1.1, ()), (()))
noncomputable abbrev configCheck_k : Con SR1 := ⟨64, [.val 13], [.sh sI_], fun x => configCheck x.1⟩
theorem configCheck_ok : CO Tryz.prog configCheck_k := co_fn mixed Tryz.func64 [configNumbers_k, configPrograms_k, configSubmissions_k] ⟨configNumbers_ok, configPrograms_ok, configSubmissions_ok, trivial⟩ [] trivial (fun _ => []) [] fun x => by kernel_rfl
noncomputable def layoutNew (y0 : Cfg) : Option ((LayV × Int × Unit) × (Unit)) :=
 (configCheck y0).bind fun r1 =>
 if r1.1.1 ≠ 0 then
  some (((⟨0, 0, 0, 0, 0, 0, 0, 0, 0, 0, 0⟩ : LayV), r1.1.1, ()), (()))
 else
 some ((({ y0 with sleepers := wi (4 + y0.heap), epochs := wi ((wi (4 + y0.heap)) + y0.classes), bitmaps := wi ((wi ((wi (4 + y0.heap)) + y0.classes)) + y0.workers), queues := wi ((wi ((wi ((wi (4 + y0.heap)) + y0.classes)) + y0.workers)) + y0.workers), table := wi ((wi ((wi ((wi ((wi (4 + y0.heap)) + y0.classes)) + y0.workers)) + y0.workers)) + (wi ((wi (y0.workers * y0.levels)) * (wi (2 + y0.deque))))) } : LayV), 0, ()), (()))
noncomputable abbrev layoutNew_k : Con SR1 := ⟨76, [.val 13], [.val 24, .sh sI_], fun x => layoutNew x.1⟩
theorem layoutNew_ok : CO Tryz.prog layoutNew_k := co_fn mixed Tryz.func76 [configCheck_k] ⟨configCheck_ok, trivial⟩ [] trivial (fun _ => []) [] fun x => by kernel_rfl
noncomputable def memoryNew (y0 : Int) : Option ((MemV × Unit) × (Unit)) :=
 if (if 131072 < (if y0 < 0 then 0 else y0) then 131072 else (if y0 < 0 then 0 else y0)) = (if 131072 < (if y0 < 0 then 0 else y0) then 131072 else (if y0 < 0 then 0 else y0)) then
  if 0 ≤ (if 131072 < (if y0 < 0 then 0 else y0) then 131072 else (if y0 < 0 then 0 else y0)) ∧ (if 131072 < (if y0 < 0 then 0 else y0) then 131072 else (if y0 < 0 then 0 else y0)) ≤ 1099511627776 then
   some (((⟨List.replicate ((if 131072 < (if y0 < 0 then 0 else y0) then 131072 else (if y0 < 0 then 0 else y0)) : Int).toNat (0 : Int), ⟨0, 0, 0, 0⟩, 0⟩ : MemV), ()), (()))
  else none
 else none
noncomputable abbrev memoryNew_k : Con SR1 := ⟨119, [.sh sI_], [.sh (.own 9)], fun x => memoryNew x.1⟩
theorem memoryNew_ok : CO Tryz.prog memoryNew_k := co_fn mixed Tryz.func119 [] trivial [] trivial (fun _ => []) [] fun x => by kernel_rfl
noncomputable def clockNew  : Option ((ClkV × Unit) × (Unit)) :=
 some (((⟨0, 0⟩ : ClkV), ()), (()))
noncomputable abbrev clockNew_k : Con SR1 := ⟨120, [], [.sh (.own 25)], fun x => clockNew ⟩
theorem clockNew_ok : CO Tryz.prog clockNew_k := co_fn mixed Tryz.func120 [] trivial [] trivial (fun _ => []) [] fun x => by kernel_rfl
noncomputable def machineBare (y0 : Int) : Option ((EnvP × Unit) × (Unit)) :=
 (memoryNew y0).bind fun r1 =>
 (clockNew).bind fun r2 =>
 some (((⟨⟨0, 0, 0, 0, 0, 0, 0, 0, 0, [], []⟩, ⟨0, 0, 0, 0, 0, 0, 0, 0, 0, 0, 0⟩, r1.1.1, r2.1.1, [], []⟩ : EnvP), ()), (()))
noncomputable abbrev machineBare_k : Con SR1 := ⟨77, [.sh sI_], [.sh (.own 27)], fun x => machineBare x.1⟩
theorem machineBare_ok : CO Tryz.prog machineBare_k := co_fn mixed Tryz.func77 [memoryNew_k, clockNew_k] ⟨memoryNew_ok, clockNew_ok, trivial⟩ [] trivial (fun _ => []) [] fun x => by kernel_rfl
noncomputable def r5number (r : CodV) (k : Int) : Option ((Int × Unit) × (CodV × Unit)) :=
 if r.at_ < ((r.inn.length : Nat) : Int) then
  if 0 ≤ r.at_ ∧ r.at_ < ((r.inn.length : Nat) : Int) then
   if k ≠ 0 then
    some (((Int.tmod (wi (atK17 r.inn r.at_)) k), ()), (({ r with at_ := wi (r.at_ + 1) } : CodV), ()))
   else none
  else none
 else
 some ((0, ()), (({ r with at_ := wi (r.at_ + 1) } : CodV), ()))
noncomputable abbrev r5number_k : Con SR1 := ⟨118, [.ref 19, .sh sI_], [.sh sI_], fun x => r5number x.1 x.2.1⟩
theorem r5number_ok : CO Tryz.prog r5number_k := co_fn mixed Tryz.func118 [] trivial [] trivial (fun _ => []) [] fun x => by kernel_rfl
noncomputable def r5decode (b : List Int) : Option ((Cfg × Unit) × (Unit)) :=
 (r5number (⟨b, [], 0, false⟩ : CodV) 4).bind fun r1 =>
 (r5number r1.2.1 4).bind fun r2 =>
 (r5number r2.2.1 (if wi (1 + r2.1.1) < 3 then wi (1 + r2.1.1) else 3)).bind fun r3 =>
 (r5number r3.2.1 12).bind fun r4 =>
 (r5number r4.2.1 4).bind fun r5 =>
 (r5number r5.2.1 4).bind fun r6 =>
 (r5number r6.2.1 (wi (1 + r5.1.1))).bind fun r7 =>
 (r5number r7.2.1 6).bind fun r8 =>
 (r5number r8.2.1 8).bind fun r9 =>
 (r5number r9.2.1 4).bind fun r10 =>
 (lpF (σ := Int × CodV × Cfg × Unit) (β := Int × CodV × Cfg × Unit) (fun self13 x11 =>
  if x11.1 < (wi (1 + r10.1.1)) then
   (r5number x11.2.1 6).bind fun r14 =>
   (lpF (σ := List Ins × Int × CodV × Unit) (β := List Ins × Int × CodV × Unit) (fun self17 x15 =>
    if 0 < x15.2.1 then
     (r5number x15.2.2.1 3).bind fun r18 =>
     if r18.1.1 = 0 then
      (r5number r18.2.1 4).bind fun r19 =>
      if (((x15.1.length + ([(⟨r18.1.1, wi (1 + r19.1.1), 0⟩ : Ins)] : List Ins).length : Nat)) : Int) < 1000000000000 then
       self17 (x15.1 ++ ([(⟨r18.1.1, wi (1 + r19.1.1), 0⟩ : Ins)]), wi (x15.2.1 - 1), r19.2.1, ())
      else none
     else
     if r18.1.1 = 1 then
      (r5number r18.2.1 (wi (1 + r10.1.1))).bind fun r20 =>
      (r5number r20.2.1 x11.2.2.1.levels).bind fun r21 =>
      if (((x15.1.length + ([(⟨r18.1.1, r20.1.1, r21.1.1⟩ : Ins)] : List Ins).length : Nat)) : Int) < 1000000000000 then
       self17 (x15.1 ++ ([(⟨r18.1.1, r20.1.1, r21.1.1⟩ : Ins)]), wi (x15.2.1 - 1), r21.2.1, ())
      else none
     else
     (r5number r18.2.1 4).bind fun r22 =>
     if (((x15.1.length + ([(⟨r18.1.1, r22.1.1, 0⟩ : Ins)] : List Ins).length : Nat)) : Int) < 1000000000000 then
      self17 (x15.1 ++ ([(⟨r18.1.1, r22.1.1, 0⟩ : Ins)]), wi (x15.2.1 - 1), r22.2.1, ())
     else none
    else
    some (x15.1, x15.2.1, x15.2.2.1, ())
   ) 18446744073709551616 ([], r14.1.1, r14.2.1, ())).bind fun z16 =>
   if (((x11.2.2.1.progs.length + ([z16.1] : List (List Ins)).length : Nat)) : Int) < 100000000000 then
    self13 (wi (x11.1 + 1), z16.2.2.1, ({ x11.2.2.1 with progs := x11.2.2.1.progs ++ ([z16.1]) } : Cfg), ())
   else none
  else
  some (x11.1, x11.2.1, x11.2.2.1, ())
 ) 18446744073709551616 (0, r10.2.1, (⟨wi (1 + r1.1.1), wi (1 + r2.1.1), wi (1 + r3.1.1), wi (1 + r4.1.1), wi (1 + r5.1.1), wi (1 + r6.1.1), wi (1 + r7.1.1), r8.1.1, wi (1 + r9.1.1), [], []⟩ : Cfg), ())).bind fun z12 =>
 (r5number z12.2.1 6).bind fun r23 =>
 (lpF (σ := Int × CodV × Cfg × Unit) (β := Int × CodV × Cfg × Unit) (fun self26 x24 =>
  if 0 < x24.1 then
   (r5number x24.2.1 (wi (1 + r10.1.1))).bind fun r27 =>
   (r5number r27.2.1 x24.2.2.1.levels).bind fun r28 =>
   (r5number r28.2.1 16).bind fun r29 =>
   if (((x24.2.2.1.subs.length + ([(⟨r27.1.1, r28.1.1, r29.1.1⟩ : Sub)] : List Sub).length : Nat)) : Int) < 1000000000000 then
    self26 (wi (x24.1 - 1), r29.2.1, ({ x24.2.2.1 with subs := x24.2.2.1.subs ++ ([(⟨r27.1.1, r28.1.1, r29.1.1⟩ : Sub)]) } : Cfg), ())
   else none
  else
  some (x24.1, x24.2.1, x24.2.2.1, ())
 ) 18446744073709551616 (r23.1.1, r23.2.1, z12.2.2.1, ())).bind fun z25 =>
 some ((z25.2.2.1, ()), (()))
noncomputable abbrev r5decode_k : Con SR1 := ⟨75, [.sh (.ro 17)], [.val 13], fun x => r5decode x.1⟩
theorem r5decode_ok : CO Tryz.prog r5decode_k := co_fn mixed Tryz.func75 [r5number_k] ⟨r5number_ok, trivial⟩ [] trivial (fun _ => []) [(12, .loop [.rg 6 sI_, .rg 3 (.own 19), .rg 4 (.own 20)] 18446744073709551616 0), (16, .loop [.rg 7 (.row 3), .rg 8 sI_, .rg 3 (.own 19)] 18446744073709551616 2), (29, .loop [.rg 10 sI_, .rg 3 (.own 19), .rg 4 (.own 20)] 18446744073709551616 5)] fun x => by kernel_rfl
noncomputable def kconfig (b : List Int) : Option ((Cfg × Unit) × (Unit)) :=
 (r5decode b).bind fun r1 =>
 some ((r1.1.1, ()), (()))
noncomputable abbrev kconfig_k : Con SR1 := ⟨32, [.sh (.ro 17)], [.val 13], fun x => kconfig x.1⟩
theorem kconfig_ok : CO Tryz.prog kconfig_k := co_fn mixed Tryz.func32 [r5decode_k] ⟨r5decode_ok, trivial⟩ [] trivial (fun _ => []) [] fun x => by kernel_rfl
noncomputable def machineNew (y0 : Cfg) : Option ((EnvP × Int × Unit) × (Unit)) :=
 (layoutNew y0).bind fun r1 =>
 if r1.1.2.1 ≠ 0 then
  none
 else
 (pCells r1.1.1).bind fun r2 =>
 (machineBare r2.1.1).bind fun r3 =>
 (configClone y0).bind fun r4 =>
 if r1.1.1.workers = r1.1.1.workers then
  if r1.1.1.levels = r1.1.1.levels then
   if r1.1.1.classes = r1.1.1.classes then
    if r1.1.1.tasks = r1.1.1.tasks then
     if r1.1.1.deque = r1.1.1.deque then
      if r1.1.1.heap = r1.1.1.heap then
       if r1.1.1.sleepers = r1.1.1.sleepers then
        if r1.1.1.epochs = r1.1.1.epochs then
         if r1.1.1.bitmaps = r1.1.1.bitmaps then
          if r1.1.1.queues = r1.1.1.queues then
           if r1.1.1.table = r1.1.1.table then
            if r1.1.1.workers = r1.1.1.workers then
             if r1.1.1.levels = r1.1.1.levels then
              if r1.1.1.classes = r1.1.1.classes then
               if r1.1.1.tasks = r1.1.1.tasks then
                if r1.1.1.deque = r1.1.1.deque then
                 if r1.1.1.heap = r1.1.1.heap then
                  if r1.1.1.sleepers = r1.1.1.sleepers then
                   if r1.1.1.epochs = r1.1.1.epochs then
                    if r1.1.1.bitmaps = r1.1.1.bitmaps then
                     if r1.1.1.queues = r1.1.1.queues then
                      if r1.1.1.table = r1.1.1.table then
                       (lpF (σ := Int × EnvP × Unit) (β := Int × EnvP × Unit) (fun self7 x5 =>
                        if x5.1 < y0.tasks then
                         if (((x5.2.1.recs.length + ([(⟨0, (-1), 0, 0, (-1), [], false⟩ : RecP)] : List RecP).length : Nat)) : Int) < 100000000000 then
                          self7 (wi (x5.1 + 1), ({ x5.2.1 with recs := x5.2.1.recs ++ ([(⟨0, (-1), 0, 0, (-1), [], false⟩ : RecP)]) } : EnvP), ())
                         else none
                        else
                        some (x5.1, x5.2.1, ())
                       ) 18446744073709551616 (0, ({ r3.1.1 with c := r4.1.1, l := r1.1.1 } : EnvP), ())).bind fun z6 =>
                       some ((z6.2.1, 0, ()), (()))
                      else none
                     else none
                    else none
                   else none
                  else none
                 else none
                else none
               else none
              else none
             else none
            else none
           else none
          else none
         else none
        else none
       else none
      else none
     else none
    else none
   else none
  else none
 else none
noncomputable abbrev machineNew_k : Con SR1 := ⟨33, [.val 13], [.sh (.own 27), .sh sI_], fun x => machineNew x.1⟩
theorem machineNew_ok : CO Tryz.prog machineNew_k := co_fn mixed Tryz.func33 [layoutNew_k, pCells_k, machineBare_k, configClone_k] ⟨layoutNew_ok, pCells_ok, machineBare_ok, configClone_ok, trivial⟩ [] trivial (fun _ => []) [(7, .loop [.rg 29 sI_, .rg 6 (.own 27)] 18446744073709551616 0)] fun x => by kernel_rfl
noncomputable def workstealmatchAlone (y0 : EnvP) (y1 : MV) (y2 : Int) : Option ((Int × Int × Int × Unit) × (EnvP × MV × Unit)) :=
 if (SR1.spl y1).isNone = true then
  some (((-1), 0, 0, ()), (y0, y1, ()))
 else
 (lpF (σ := Int × EnvP × MV × Unit) (β := (Int × EnvP × MV × Unit) ⊕ ((Int × Int × Int × Unit) × (EnvP × MV × Unit))) (fun self3 x1 =>
  if x1.1 < y2 then
   (stepD3 x1.2.2.1 x1.2.1).bind fun r4 =>
   if r4.1.1 = true then
    (resultD3 r4.2.1).bind fun r5 =>
    Option.map Sum.inr (
     some ((r5.1.1, r5.1.2.1, wi (x1.1 + 1), ()), (r4.2.2.1, r5.2.1, ()))
    )
   else
   self3 (wi (x1.1 + 1), r4.2.2.1, r4.2.1, ())
  else
  some (Sum.inl (x1.1, x1.2.1, x1.2.2.1, ()))
 ) 18446744073709551616 (0, y0, y1, ())).bind fun z2 => match z2 with
 | .inr o6 => some o6
 | .inl z2 =>
 some (((-1), 0, z2.1, ()), (z2.2.1, z2.2.2.1, ()))
noncomputable abbrev workstealmatchAlone_k : Con SR1 := ⟨14, [.ref 27, .mch, .sh sI_], [.sh sI_, .sh sI_, .sh sI_], fun x => workstealmatchAlone x.1 x.2.1 x.2.2.1⟩
theorem workstealmatchAlone_ok : CO Tryz.prog workstealmatchAlone_k := co_fn mixed Tryz.func14 [stepD3_k, resultD3_k] ⟨stepD3_ok, resultD3_ok, trivial⟩ [] trivial (fun _ => []) [(3, .loopR [.rg 8 sI_, .ob 0 27, .ma 1] 18446744073709551616 0)] fun x => by kernel_rfl
noncomputable def worksteallaw25Begun (y0 : Cfg) : Option ((EnvP × Bool × Unit) × (Unit)) :=
 (machineNew y0).bind fun r1 =>
 if r1.1.2.1 ≠ 0 then
  none
 else
 (tableAllocate).bind fun r2 =>
 (workstealmatchAlone r1.1.1 r2.1.1 5).bind fun r3 =>
 (tablePublish 0 0).bind fun r4 =>
 (workstealmatchAlone r3.2.1 r4.1.1 5).bind fun r5 =>
 (tableClaim 0 0).bind fun r6 =>
 (workstealmatchAlone r5.2.1 r6.1.1 5).bind fun r7 =>
 some ((r7.2.1, true, ()), (()))
noncomputable abbrev worksteallaw25Begun_k : Con SR1 := ⟨12, [.val 13], [.sh (.own 27), .sh .b], fun x => worksteallaw25Begun x.1⟩
theorem worksteallaw25Begun_ok : CO Tryz.prog worksteallaw25Begun_k := co_fn mixed Tryz.func12 [machineNew_k, tableAllocate_k, workstealmatchAlone_k, tablePublish_k, tableClaim_k] ⟨machineNew_ok, tableAllocate_ok, workstealmatchAlone_ok, tablePublish_ok, tableClaim_ok, trivial⟩ [] trivial (fun _ => []) [] fun x => by kernel_rfl
noncomputable def worksteallaw25House (y0 : List Ins) (y1 : List Ins) (y2 : Int) : Option ((Cfg × Unit) × (Unit)) :=
 (kconfig ([])).bind fun r1 =>
 some ((({ r1.1.1 with levels := 2, tasks := 12, deque := y2, progs := [y0, y1] } : Cfg), ()), (()))
noncomputable abbrev worksteallaw25House_k : Con SR1 := ⟨11, [.sh (.ro 3), .sh (.ro 3), .sh sI_], [.val 13], fun x => worksteallaw25House x.1 x.2.1 x.2.2.1⟩
theorem worksteallaw25House_ok : CO Tryz.prog worksteallaw25House_k := co_fn mixed Tryz.func11 [kconfig_k] ⟨kconfig_ok, trivial⟩ [] trivial (fun _ => []) [] fun x => by kernel_rfl
noncomputable def workstealref06Deques (y0 : Cfg) : Option ((Int × Unit) × (Unit)) :=
 some ((wi ((wi ((wi (4 + y0.heap)) + y0.classes)) + (wi (2 * y0.workers))), ()), (()))
noncomputable abbrev workstealref06Deques_k : Con SR1 := ⟨117, [.val 13], [.sh sI_], fun x => workstealref06Deques x.1⟩
theorem workstealref06Deques_ok : CO Tryz.prog workstealref06Deques_k := co_fn mixed Tryz.func117 [] trivial [] trivial (fun _ => []) [] fun x => by kernel_rfl
noncomputable def workstealref06Index (y0 : Int) (y1 : Int) (y2 : Int) (y3 : Int) : Option ((Int × Unit) × (Unit)) :=
 if y1 < 0 then
  some (((-1), ()), (()))
 else
 if y2 ≤ y1 then
  some (((-1), ()), (()))
 else
 some ((wi (y0 + (wi (y1 * y3))), ()), (()))
noncomputable abbrev workstealref06Index_k : Con SR1 := ⟨116, [.sh sI_, .sh sI_, .sh sI_, .sh sI_], [.sh sI_], fun x => workstealref06Index x.1 x.2.1 x.2.2.1 x.2.2.2.1⟩
theorem workstealref06Index_ok : CO Tryz.prog workstealref06Index_k := co_fn mixed Tryz.func116 [] trivial [] trivial (fun _ => []) [] fun x => by kernel_rfl
noncomputable def workstealref06Task (y0 : Cfg) (y1 : Int) (y2 : Int) : Option ((Int × Unit) × (Unit)) :=
 (workstealref06Deques y0).bind fun r1 =>
 if y0.tasks = y0.tasks then
  if y0.deque = y0.deque then
   if y0.levels = y0.levels then
    if y0.workers = y0.workers then
     (workstealref06Index (wi (r1.1.1 + (wi ((wi (y0.workers * y0.levels)) * (wi (2 + y0.deque)))))) y1 y0.tasks 5).bind fun r2 =>
     if r2.1.1 < 0 then
      some (((-1), ()), (()))
     else
     some ((wi (r2.1.1 + y2), ()), (()))
    else none
   else none
  else none
 else none
noncomputable abbrev workstealref06Task_k : Con SR1 := ⟨74, [.val 13, .sh sI_, .sh sI_], [.sh sI_], fun x => workstealref06Task x.1 x.2.1 x.2.2.1⟩
theorem workstealref06Task_ok : CO Tryz.prog workstealref06Task_k := co_fn mixed Tryz.func74 [workstealref06Deques_k, workstealref06Index_k] ⟨workstealref06Deques_ok, workstealref06Index_ok, trivial⟩ [] trivial (fun _ => []) [] fun x => by kernel_rfl
noncomputable def workstealref06State (y0 : Cfg) (y1 : Int) : Option ((Int × Unit) × (Unit)) :=
 (workstealref06Task y0 y1 0).bind fun r1 =>
 some ((r1.1.1, ()), (()))
noncomputable abbrev workstealref06State_k : Con SR1 := ⟨30, [.val 13, .sh sI_], [.sh sI_], fun x => workstealref06State x.1 x.2.1⟩
theorem workstealref06State_ok : CO Tryz.prog workstealref06State_k := co_fn mixed Tryz.func30 [workstealref06Task_k] ⟨workstealref06Task_ok, trivial⟩ [] trivial (fun _ => []) [] fun x => by kernel_rfl
noncomputable def worksteallaw25Awake  : Option ((Bool × Unit) × (Unit)) :=
 (worksteallaw25House ([]) ([]) 2).bind fun r1 =>
 (worksteallaw25Begun r1.1.1).bind fun r2 =>
 (worksteallaw25House ([(⟨1, 1, 1⟩ : Ins), (⟨2, 0, 0⟩ : Ins)]) ([]) 2).bind fun r3 =>
 (worksteallaw25Begun r3.1.1).bind fun r4 =>
 if (!r2.1.2.1) = true then
  some ((false, ()), (()))
 else
 if (!r4.1.2.1) = true then
  some ((false, ()), (()))
 else
 (runnerRun 0 0).bind fun r5 =>
 (workstealmatchAlone r2.1.1 r5.1.1 99).bind fun r6 =>
 (runnerRun 0 0).bind fun r7 =>
 (workstealmatchAlone r4.1.1 r7.1.1 99).bind fun r8 =>
 if r6.1.1 = 0 then
  if r6.1.2.2.1 = 2 then
   if r8.1.1 = 0 then
    if r8.1.2.2.1 = 16 then
     if ((r8.2.1.evs.length : Nat) : Int) = 4 then
      if 0 ≤ (3 : Int) ∧ (3 : Int) < ((r8.2.1.evs.length : Nat) : Int) then
       if ((atK2 r8.2.1.evs 3).kind) = 7 then
        (workstealref06State r8.2.1.c 0).bind fun r9 =>
        if r9.1.1 < 0 then
         some ((false, ()), (()))
        else
        if ((r8.2.1.m.cells.length : Nat) : Int) ≤ r9.1.1 then
         some ((false, ()), (()))
        else
        if 0 ≤ r9.1.1 ∧ r9.1.1 < ((r8.2.1.m.cells.length : Nat) : Int) then
         some ((decide ((atK0 r8.2.1.m.cells r9.1.1) = 3), ()), (()))
        else none
       else
       some ((false, ()), (()))
      else none
     else
     some ((false, ()), (()))
    else
    some ((false, ()), (()))
   else
   some ((false, ()), (()))
  else
  some ((false, ()), (()))
 else
 some ((false, ()), (()))
noncomputable abbrev worksteallaw25Awake_k : Con SR1 := ⟨13, [], [.sh .b], fun x => worksteallaw25Awake ⟩
noncomputable def worksteallaw25Awake_tb : List (Nat × Func) := [(29, Tryz.f29)]
theorem worksteallaw25Awake_ok : CO Tryz.prog worksteallaw25Awake_k := co_fn mixed Tryz.func13 [worksteallaw25House_k, worksteallaw25Begun_k, runnerRun_k, workstealmatchAlone_k, workstealref06State_k] ⟨worksteallaw25House_ok, worksteallaw25Begun_ok, runnerRun_ok, workstealmatchAlone_ok, workstealref06State_ok, trivial⟩ worksteallaw25Awake_tb ⟨Tryz.func29, trivial⟩ (fun _ => []) [] fun x => by kernel_rfl
noncomputable def worksteallaw25RunnerFull (y0 : Int) : Option ((Bool × Unit) × (Unit)) :=
 (lpF (σ := List Ins × Int × Unit) (β := List Ins × Int × Unit) (fun self3 x1 =>
  if x1.2.1 < (wi (1 + (wi ((Int.tmod y0 8))))) then
   if (((x1.1.length + ([(⟨1, 1, 0⟩ : Ins)] : List Ins).length : Nat)) : Int) < 1000000000000 then
    self3 (x1.1 ++ ([(⟨1, 1, 0⟩ : Ins)]), wi (x1.2.1 + 1), ())
   else none
  else
  some (x1.1, x1.2.1, ())
 ) 18446744073709551616 ([], 0, ())).bind fun z2 =>
 (worksteallaw25House z2.1 ([]) 1).bind fun r4 =>
 (worksteallaw25Begun r4.1.1).bind fun r5 =>
 (worksteallaw25Awake).bind fun r6 =>
 if (!r6.1.1) = true then
  some ((false, ()), (()))
 else
 if (!r5.1.2.1) = true then
  some ((false, ()), (()))
 else
 (runnerRun 0 0).bind fun r7 =>
 (workstealmatchAlone r5.1.1 r7.1.1 2000).bind fun r8 =>
 (lpF (σ := List Ev × Int × Unit) (β := List Ev × Int × Unit) (fun self11 x9 =>
  if x9.2.1 ≤ (wi (1 + (wi ((Int.tmod y0 8))))) then
   if (((x9.1.length + ([(⟨3, 0, x9.2.1, 0, 0⟩ : Ev), (⟨5, 0, x9.2.1, 0, 0⟩ : Ev), (⟨10, 0, x9.2.1, 0, 0⟩ : Ev)] : List Ev).length : Nat)) : Int) < 1000000000000 then
    self11 (x9.1 ++ ([(⟨3, 0, x9.2.1, 0, 0⟩ : Ev), (⟨5, 0, x9.2.1, 0, 0⟩ : Ev), (⟨10, 0, x9.2.1, 0, 0⟩ : Ev)]), wi (x9.2.1 + 1), ())
   else none
  else
  some (x9.1, x9.2.1, ())
 ) 18446744073709551616 ([(⟨5, 0, 0, 0, 0⟩ : Ev), (⟨3, 0, 1, 0, 0⟩ : Ev)], 2, ())).bind fun z10 =>
 if (((z10.1.length + ([(⟨10, 0, 0, 0, 0⟩ : Ev)] : List Ev).length : Nat)) : Int) < 1000000000000 then
  if ((r8.2.1.evs.length : Nat) : Int) ≠ (((z10.1 ++ ([(⟨10, 0, 0, 0, 0⟩ : Ev)])).length : Nat) : Int) then
   some ((false, ()), (()))
  else
  (lpF (σ := Int × Unit) (β := (Int × Unit) ⊕ ((Bool × Unit) × (Unit))) (fun self14 x12 =>
   if x12.1 < (((z10.1 ++ ([(⟨10, 0, 0, 0, 0⟩ : Ev)])).length : Nat) : Int) then
    if 0 ≤ x12.1 ∧ x12.1 < (((z10.1 ++ ([(⟨10, 0, 0, 0, 0⟩ : Ev)])).length : Nat) : Int) then
     if 0 ≤ x12.1 ∧ x12.1 < ((r8.2.1.evs.length : Nat) : Int) then
      if ¬ (((atK2 r8.2.1.evs x12.1).kind) = ((atK2 (z10.1 ++ ([(⟨10, 0, 0, 0, 0⟩ : Ev)])) x12.1).kind) ∧ ((atK2 r8.2.1.evs x12.1).worker) = ((atK2 (z10.1 ++ ([(⟨10, 0, 0, 0, 0⟩ : Ev)])) x12.1).worker) ∧ ((atK2 r8.2.1.evs x12.1).task) = ((atK2 (z10.1 ++ ([(⟨10, 0, 0, 0, 0⟩ : Ev)])) x12.1).task) ∧ ((atK2 r8.2.1.evs x12.1).other) = ((atK2 (z10.1 ++ ([(⟨10, 0, 0, 0, 0⟩ : Ev)])) x12.1).other) ∧ ((atK2 r8.2.1.evs x12.1).level) = ((atK2 (z10.1 ++ ([(⟨10, 0, 0, 0, 0⟩ : Ev)])) x12.1).level) ∧ True) then
       Option.map Sum.inr (
        some ((false, ()), (()))
       )
      else
      self14 (wi (x12.1 + 1), ())
     else none
    else none
   else
   some (Sum.inl (x12.1, ()))
  ) 18446744073709551616 (0, ())).bind fun z13 => match z13 with
  | .inr o15 => some o15
  | .inl z13 =>
  some ((true, ()), (()))
 else none
noncomputable abbrev worksteallaw25RunnerFull_k : Con SR1 := ⟨3, [.sh (.i .u8)], [.sh .b], fun x => worksteallaw25RunnerFull x.1⟩
theorem worksteallaw25RunnerFull_ok : CO Tryz.prog worksteallaw25RunnerFull_k := co_fn mixed Tryz.func3 [worksteallaw25House_k, worksteallaw25Begun_k, worksteallaw25Awake_k, runnerRun_k, workstealmatchAlone_k] ⟨worksteallaw25House_ok, worksteallaw25Begun_ok, worksteallaw25Awake_ok, runnerRun_ok, workstealmatchAlone_ok, trivial⟩ [] trivial (fun _ => []) [(4, .loop [.rg 4 (.row 3), .rg 5 sI_] 18446744073709551616 0), (14, .loop [.rg 9 (.row 2), .rg 10 sI_] 18446744073709551616 2), (21, .loopR [.rg 11 sI_] 18446744073709551616 4)] fun x => by kernel_rfl
end
section
open Go Go.RowKit
set_option maxRecDepth 1000000
theorem full0 : worksteallaw25RunnerFull 0 = some ((true, ()), ()) := by kernel_rfl
theorem full1 : worksteallaw25RunnerFull 1 = some ((true, ()), ()) := by kernel_rfl
theorem full2 : worksteallaw25RunnerFull 2 = some ((true, ()), ()) := by kernel_rfl
theorem full3 : worksteallaw25RunnerFull 3 = some ((true, ()), ()) := by kernel_rfl
theorem full4 : worksteallaw25RunnerFull 4 = some ((true, ()), ()) := by kernel_rfl
theorem full5 : worksteallaw25RunnerFull 5 = some ((true, ()), ()) := by kernel_rfl
theorem full6 : worksteallaw25RunnerFull 6 = some ((true, ()), ()) := by kernel_rfl
theorem full7 : worksteallaw25RunnerFull 7 = some ((true, ()), ()) := by kernel_rfl
theorem full_mod {y k : Int} (h : Int.tmod y 8 = Int.tmod k 8) : worksteallaw25RunnerFull y = worksteallaw25RunnerFull k := by
  unfold worksteallaw25RunnerFull; rw [h]
theorem full_true {y : Int} (h : 0 ≤ y ∧ y ≤ 255) : worksteallaw25RunnerFull y = some ((true, ()), ()) := by
  have e : Int.tmod y 8 = y % 8 := Int.tmod_eq_emod_of_nonneg h.1
  have hk : y % 8 = 0 ∨ y % 8 = 1 ∨ y % 8 = 2 ∨ y % 8 = 3 ∨ y % 8 = 4 ∨ y % 8 = 5 ∨ y % 8 = 6 ∨ y % 8 = 7 := by omega
  rcases hk with k | k | k | k | k | k | k | k <;> rw [k] at e
  · exact (full_mod (k := 0) (e.trans (by kernel_rfl))).trans full0
  · exact (full_mod (k := 1) (e.trans (by kernel_rfl))).trans full1
  · exact (full_mod (k := 2) (e.trans (by kernel_rfl))).trans full2
  · exact (full_mod (k := 3) (e.trans (by kernel_rfl))).trans full3
  · exact (full_mod (k := 4) (e.trans (by kernel_rfl))).trans full4
  · exact (full_mod (k := 5) (e.trans (by kernel_rfl))).trans full5
  · exact (full_mod (k := 6) (e.trans (by kernel_rfl))).trans full6
  · exact (full_mod (k := 7) (e.trans (by kernel_rfl))).trans full7
end
end Go.Proofs.YtgiagoeoifgliaaGreat
