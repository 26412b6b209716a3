/- The program's machines in the evaluator's form. -/
import Derived.Test.YtgiagoeoifgliaaGreatBqal
set_option linter.all false
namespace Go.Proofs.YtgiagoeoifgliaaGreat
open Go Go.RowKit
set_option maxRecDepth 100000
variable [Tb]
noncomputable def boostWalkRaise (y0 : (WalkV MV)) (y1 : EnvP) : Option ((Bool × Unit) × ((WalkV MV) × EnvP × Unit)) :=
 if (SR1.spl y0.inside).isNone = true then
  (boostFits y1 y0.task y0.level).bind fun r1 =>
  if (!r1.1.1) = true then
   (pEnd y0.o 4 0).bind fun r2 =>
   some ((r2.1.1, ()), (({ y0 with o := r2.2.1 } : (WalkV MV)), r1.2.1, ()))
  else
  (boostRaise y0.worker y0.task y0.level).bind fun r3 =>
  (stepD1 r3.1.1 r1.2.1).bind fun r4 =>
  if (!r4.1.1) = true then
   some ((false, ()), (({ y0 with inside := r4.2.1 } : (WalkV MV)), r4.2.2.1, ()))
  else
  (resultD1 r4.2.1).bind fun r5 =>
  if r5.1.1 = 1 then
   some ((false, ()), (({ y0 with line := 2, inside := MV.nil } : (WalkV MV)), r4.2.2.1, ()))
  else
  some ((false, ()), (({ y0 with line := 4, inside := MV.nil } : (WalkV MV)), r4.2.2.1, ()))
 else
 (stepD1 y0.inside y1).bind fun r6 =>
 if (!r6.1.1) = true then
  some ((false, ()), (({ y0 with inside := r6.2.1 } : (WalkV MV)), r6.2.2.1, ()))
 else
 (resultD1 r6.2.1).bind fun r7 =>
 if r7.1.1 = 1 then
  some ((false, ()), (({ y0 with line := 2, inside := MV.nil } : (WalkV MV)), r6.2.2.1, ()))
 else
 some ((false, ()), (({ y0 with line := 4, inside := MV.nil } : (WalkV MV)), r6.2.2.1, ()))
noncomputable abbrev boostWalkRaise_k : Con SR1 := ⟨284, [.ref 48, .ref 27], [.sh .b], fun x => boostWalkRaise x.1 x.2.1⟩
theorem boostWalkRaise_ok : CO Tryz.prog boostWalkRaise_k := co_fn mixed Tryz.func284 [boostFits_k, pEnd_k, boostRaise_k, stepD1_k, resultD1_k] ⟨boostFits_ok, pEnd_ok, boostRaise_ok, stepD1_ok, resultD1_ok, trivial⟩ [] trivial (fun _ => []) [] fun x => by kernel_rfl
noncomputable def levelsPush (y0 : Int) (y1 : Int) (y2 : Int) : Option ((MV × Unit) × (Unit)) :=
 some ((MV.lpush (⟨⟨false, 0, 0⟩, y0, y1, y2, 1, MV.nil⟩ : (LPushV MV)), ()), (()))
noncomputable abbrev levelsPush_k : Con SR1 := ⟨189, [.sh sI_, .sh sI_, .sh sI_], [.sh .mach], fun x => levelsPush x.1 x.2.1 x.2.2.1⟩
theorem levelsPush_ok : CO Tryz.prog levelsPush_k := co_fn mixed Tryz.func189 [] trivial [] trivial (fun _ => []) [] fun x => by kernel_rfl
noncomputable def boostWalkPush (y0 : (WalkV MV)) (y1 : EnvP) : Option ((Unit) × ((WalkV MV) × EnvP × Unit)) :=
 (stepD1 y0.inside y1).bind fun r1 =>
 if (!r1.1.1) = true then
  some ((()), (({ y0 with inside := r1.2.1 } : (WalkV MV)), r1.2.2.1, ()))
 else
 (resultD1 r1.2.1).bind fun r2 =>
 if r2.1.1 = 3 then
  (pEmit r1.2.2.1 ({ y0 with kind := 19, other := 0 } : Ev)).bind fun r3 =>
  some ((()), (({ y0 with line := 4, inside := MV.nil } : (WalkV MV)), r3.2.1, ()))
 else
 some ((()), (({ y0 with line := 4, inside := MV.nil } : (WalkV MV)), r1.2.2.1, ()))
noncomputable abbrev boostWalkPush_k : Con SR1 := ⟨285, [.ref 48, .ref 27], [], fun x => boostWalkPush x.1 x.2.1⟩
theorem boostWalkPush_ok : CO Tryz.prog boostWalkPush_k := co_fn mixed Tryz.func285 [stepD1_k, resultD1_k, pEmit_k] ⟨stepD1_ok, resultD1_ok, pEmit_ok, trivial⟩ [] trivial (fun _ => []) [] fun x => by kernel_rfl
noncomputable def boostWalkStep (y0 : (WalkV MV)) (y1 : EnvP) : Option ((Bool × Unit) × ((WalkV MV) × EnvP × Unit)) :=
 (pEnded y0.o).bind fun r1 =>
 if r1.1.1 = true then
  some ((true, ()), (({ y0 with o := r1.2.1 } : (WalkV MV)), y1, ()))
 else
 if y0.line = 1 then
  (boostWalkRaise ({ y0 with o := r1.2.1 } : (WalkV MV)) y1).bind fun r2 =>
  some ((r2.1.1, ()), (r2.2.1, r2.2.2.1, ()))
 else
 if y0.line = 2 then
  (pState y1.l y0.task).bind fun r3 =>
  (pLoad y1.m r3.1.1).bind fun r4 =>
  if r4.1.1 = 1 then
   (levelsPush y0.worker y0.level y0.task).bind fun r5 =>
   some ((false, ()), (({ y0 with o := r1.2.1, line := 3, inside := r5.1.1 } : (WalkV MV)), ({ y1 with m := r4.2.1 } : EnvP), ()))
  else
  some ((false, ()), (({ y0 with o := r1.2.1, line := 4 } : (WalkV MV)), ({ y1 with m := r4.2.1 } : EnvP), ()))
 else
 if y0.line = 3 then
  (boostWalkPush ({ y0 with o := r1.2.1 } : (WalkV MV)) y1).bind fun r6 =>
  some ((false, ()), (r6.2.1, r6.2.2.1, ()))
 else
 (pWaits y1.l y0.task).bind fun r7 =>
 (pLoad y1.m r7.1.1).bind fun r8 =>
 if r8.1.1 = 0 then
  (pEnd r1.2.1 0 0).bind fun r9 =>
  some ((r9.1.1, ()), (({ y0 with o := r9.2.1 } : (WalkV MV)), ({ y1 with m := r8.2.1 } : EnvP), ()))
 else
 some ((false, ()), (({ y0 with o := r1.2.1, task := wi (wu (r8.1.1 - 1)), line := 1 } : (WalkV MV)), ({ y1 with m := r8.2.1 } : EnvP), ()))
noncomputable abbrev boostWalkStep_k : Con SR1 := ⟨283, [.ref 48, .ref 27], [.sh .b], fun x => boostWalkStep x.1 x.2.1⟩
theorem boostWalkStep_ok : CO Tryz.prog boostWalkStep_k := co_fn mixed Tryz.func283 [pEnded_k, boostWalkRaise_k, pState_k, pLoad_k, levelsPush_k, boostWalkPush_k, pWaits_k, pEnd_k] ⟨pEnded_ok, boostWalkRaise_ok, pState_ok, pLoad_ok, levelsPush_ok, boostWalkPush_ok, pWaits_ok, pEnd_ok, trivial⟩ [] trivial (fun _ => []) [] fun x => by kernel_rfl
noncomputable def levelsPop (y0 : Int) : Option ((MV × Unit) × (Unit)) :=
 some ((MV.lpop (⟨⟨false, 0, 0⟩, y0, 0, 1, MV.nil⟩ : (LPopV MV)), ()), (()))
noncomputable abbrev levelsPop_k : Con SR1 := ⟨149, [.sh sI_], [.sh .mach], fun x => levelsPop x.1⟩
theorem levelsPop_ok : CO Tryz.prog levelsPop_k := co_fn mixed Tryz.func149 [] trivial [] trivial (fun _ => []) [] fun x => by kernel_rfl
noncomputable def tableClaim (y0 : Int) (y1 : Int) : Option ((MV × Unit) × (Unit)) :=
 some ((MV.claim (⟨⟨false, 0, 0⟩, y0, y1⟩ : ClaimV), ()), (()))
noncomputable abbrev tableClaim_k : Con SR1 := ⟨60, [.sh sI_, .sh sI_], [.sh .mach], fun x => tableClaim x.1 x.2.1⟩
theorem tableClaim_ok : CO Tryz.prog tableClaim_k := co_fn mixed Tryz.func60 [] trivial [] trivial (fun _ => []) [] fun x => by kernel_rfl
noncomputable def takeTakeStep (y0 : (TakeV MV)) (y1 : EnvP) : Option ((Bool × Unit) × ((TakeV MV) × EnvP × Unit)) :=
 (pEnded y0.o).bind fun r1 =>
 if r1.1.1 = true then
  some ((true, ()), (({ y0 with o := r1.2.1 } : (TakeV MV)), y1, ()))
 else
 (stepD1 y0.inside y1).bind fun r2 =>
 if (!r2.1.1) = true then
  some ((false, ()), (({ y0 with o := r1.2.1, inside := r2.2.1 } : (TakeV MV)), r2.2.2.1, ()))
 else
 (resultD1 r2.2.1).bind fun r3 =>
 if y0.claiming = true then
  if r3.1.1 = 1 then
   (pEnd r1.2.1 1 r3.1.2.1).bind fun r4 =>
   some ((r4.1.1, ()), (({ y0 with o := r4.2.1, inside := r3.2.1 } : (TakeV MV)), r2.2.2.1, ()))
  else
  if y0.claiming = true then
   (levelsPop y0.worker).bind fun r5 =>
   some ((false, ()), ((⟨r1.2.1, y0.worker, false, r5.1.1⟩ : (TakeV MV)), r2.2.2.1, ()))
  else
  if r3.1.1 = 2 then
   (pEnd r1.2.1 2 0).bind fun r6 =>
   some ((r6.1.1, ()), (({ y0 with o := r6.2.1, inside := r3.2.1 } : (TakeV MV)), r2.2.2.1, ()))
  else
  (tableClaim y0.worker r3.1.2.1).bind fun r7 =>
  some ((false, ()), ((⟨r1.2.1, y0.worker, true, r7.1.1⟩ : (TakeV MV)), r2.2.2.1, ()))
 else
 if y0.claiming = true then
  (levelsPop y0.worker).bind fun r8 =>
  some ((false, ()), ((⟨r1.2.1, y0.worker, false, r8.1.1⟩ : (TakeV MV)), r2.2.2.1, ()))
 else
 if r3.1.1 = 2 then
  (pEnd r1.2.1 2 0).bind fun r9 =>
  some ((r9.1.1, ()), (({ y0 with o := r9.2.1, inside := r3.2.1 } : (TakeV MV)), r2.2.2.1, ()))
 else
 (tableClaim y0.worker r3.1.2.1).bind fun r10 =>
 some ((false, ()), ((⟨r1.2.1, y0.worker, true, r10.1.1⟩ : (TakeV MV)), r2.2.2.1, ()))
noncomputable abbrev takeTakeStep_k : Con SR1 := ⟨239, [.ref 39, .ref 27], [.sh .b], fun x => takeTakeStep x.1 x.2.1⟩
theorem takeTakeStep_ok : CO Tryz.prog takeTakeStep_k := co_fn mixed Tryz.func239 [pEnded_k, stepD1_k, resultD1_k, pEnd_k, levelsPop_k, tableClaim_k] ⟨pEnded_ok, stepD1_ok, resultD1_ok, pEnd_ok, levelsPop_ok, tableClaim_ok, trivial⟩ [] trivial (fun _ => []) [] fun x => by kernel_rfl
noncomputable def agingSweepLook (y0 : (SweepV MV)) (y1 : EnvP) : Option ((Bool × Unit) × ((SweepV MV) × EnvP × Unit)) :=
 if y0.line = 1 then
  ((
   if y0.task < 0 then
   some (true, y0, y1, ())
   else
   if y1.c.tasks ≤ y0.task then
   some (true, y0, y1, ())
   else
   some (decide (y1.c.age = 0), y0, y1, ())
  ) : Option (Bool × (SweepV MV) × EnvP × Unit)).bind fun z1 =>
  if z1.1 = true then
   some ((true, ()), (z1.2.1, z1.2.2.1, ()))
  else
  (pState z1.2.2.1.l z1.2.1.task).bind fun r2 =>
  (pLoad z1.2.2.1.m r2.1.1).bind fun r3 =>
  some ((decide (r3.1.1 ≠ 1), ()), (z1.2.1, ({ z1.2.2.1 with m := r3.2.1 } : EnvP), ()))
 else
 if y0.line = 2 then
  (pSince y1.l y0.task).bind fun r4 =>
  (pLoad y1.m r4.1.1).bind fun r5 =>
  (pNow y1.k).bind fun r6 =>
  if y1.c.age = y1.c.age then
   some ((decide ((wi (r6.1.1 - (wi (r5.1.1)))) < y1.c.age), ()), (y0, ({ y1 with m := r5.2.1, k := r6.2.1 } : EnvP), ()))
  else none
 else
 (pLevel y1.l y0.task).bind fun r7 =>
 (pLoad y1.m r7.1.1).bind fun r8 =>
 some ((decide ((wi (y1.c.levels - 1)) ≤ (wi (r8.1.1))), ()), (({ y0 with q := r8.1.1 } : (SweepV MV)), ({ y1 with m := r8.2.1 } : EnvP), ()))
noncomputable abbrev agingSweepLook_k : Con SR1 := ⟨242, [.ref 40, .ref 27], [.sh .b], fun x => agingSweepLook x.1 x.2.1⟩
theorem agingSweepLook_ok : CO Tryz.prog agingSweepLook_k := co_fn mixed Tryz.func242 [pState_k, pLoad_k, pSince_k, pNow_k, pLevel_k] ⟨pState_ok, pLoad_ok, pSince_ok, pNow_ok, pLevel_ok, trivial⟩ [] trivial (fun _ => []) [(4, .cut [.rg 36 .b, .ob 0 40, .ob 1 27] [])] fun x => by kernel_rfl
noncomputable def agingSweepEvent (y0 : (SweepV MV)) (y1 : Int) : Option ((Ev × Unit) × ((SweepV MV) × Unit)) :=
 some ((({ y0 with kind := y1, other := 0, level := wi ((wi (y0.q)) + 1) } : Ev), ()), (y0, ()))
noncomputable abbrev agingSweepEvent_k : Con SR1 := ⟨243, [.ref 40, .sh sI_], [.val 2], fun x => agingSweepEvent x.1 x.2.1⟩
theorem agingSweepEvent_ok : CO Tryz.prog agingSweepEvent_k := co_fn mixed Tryz.func243 [] trivial [] trivial (fun _ => []) [] fun x => by kernel_rfl
noncomputable def agingSweepStep (y0 : (SweepV MV)) (y1 : EnvP) : Option ((Bool × Unit) × ((SweepV MV) × EnvP × Unit)) :=
 (pEnded y0.o).bind fun r1 =>
 if r1.1.1 = true then
  some ((true, ()), (({ y0 with o := r1.2.1 } : (SweepV MV)), y1, ()))
 else
 if y0.line = 1 then
  if y0.line = 1 then
   (agingSweepLook ({ y0 with o := r1.2.1 } : (SweepV MV)) y1).bind fun r2 =>
   if r2.1.1 = true then
   (pEnd r2.2.1.o 0 0).bind fun r3 =>
   some ((r3.1.1, ()), (({ r2.2.1 with o := r3.2.1 } : (SweepV MV)), r2.2.2.1, ()))
   else
   some ((false, ()), (({ r2.2.1 with line := wi (r2.2.1.line + 1) } : (SweepV MV)), r2.2.2.1, ()))
  else
  if y0.line = 4 then
   (pLevel y1.l y0.task).bind fun r4 =>
   if y0.q = y0.q then
   if y0.q = y0.q then
   (pCAS y1.m r4.1.1 y0.q (wu (y0.q + 1))).bind fun r5 =>
   if (!r5.1.1) = true then
   (pEnd r1.2.1 4 0).bind fun r6 =>
   some ((r6.1.1, ()), (({ y0 with o := r6.2.1 } : (SweepV MV)), ({ y1 with m := r5.2.1 } : EnvP), ()))
   else
   (agingSweepEvent ({ y0 with o := r1.2.1 } : (SweepV MV)) 12).bind fun r7 =>
   (pEmit ({ y1 with m := r5.2.1 } : EnvP) r7.1.1).bind fun r8 =>
   some ((false, ()), (({ r7.2.1 with line := wi (r7.2.1.line + 1) } : (SweepV MV)), r8.2.1, ()))
   else none
   else none
  else
  if y0.line = 5 then
   (pSince y1.l y0.task).bind fun r9 =>
   (pNow y1.k).bind fun r10 =>
   (pStore y1.m r9.1.1 (wu (r10.1.1))).bind fun r11 =>
   (levelsPush y0.worker (wi ((wi (y0.q)) + 1)) y0.task).bind fun r12 =>
   some ((false, ()), (({ y0 with o := r1.2.1, line := wi (y0.line + 1), push := r12.1.1 } : (SweepV MV)), ({ y1 with m := r11.2.1, k := r10.2.1 } : EnvP), ()))
  else
  (stepD1 y0.push y1).bind fun r13 =>
  if (!r13.1.1) = true then
   some ((false, ()), (({ y0 with o := r1.2.1, push := r13.2.1 } : (SweepV MV)), r13.2.2.1, ()))
  else
  (resultD1 r13.2.1).bind fun r14 =>
  if r14.1.1 = 3 then
   (agingSweepEvent ({ y0 with o := r1.2.1, push := r14.2.1 } : (SweepV MV)) 19).bind fun r15 =>
   (pEmit r13.2.2.1 r15.1.1).bind fun r16 =>
   (pEnd r15.2.1.o 1 0).bind fun r17 =>
   some ((r17.1.1, ()), (({ r15.2.1 with o := r17.2.1 } : (SweepV MV)), r16.2.1, ()))
  else
  (pEnd r1.2.1 1 0).bind fun r18 =>
  some ((r18.1.1, ()), (({ y0 with o := r18.2.1, push := r14.2.1 } : (SweepV MV)), r13.2.2.1, ()))
 else
 if y0.line = 2 then
  if y0.line = 2 then
   (agingSweepLook ({ y0 with o := r1.2.1 } : (SweepV MV)) y1).bind fun r19 =>
   if r19.1.1 = true then
   (pEnd r19.2.1.o 0 0).bind fun r20 =>
   some ((r20.1.1, ()), (({ r19.2.1 with o := r20.2.1 } : (SweepV MV)), r19.2.2.1, ()))
   else
   some ((false, ()), (({ r19.2.1 with line := wi (r19.2.1.line + 1) } : (SweepV MV)), r19.2.2.1, ()))
  else
  if y0.line = 4 then
   (pLevel y1.l y0.task).bind fun r21 =>
   if y0.q = y0.q then
   if y0.q = y0.q then
   (pCAS y1.m r21.1.1 y0.q (wu (y0.q + 1))).bind fun r22 =>
   if (!r22.1.1) = true then
   (pEnd r1.2.1 4 0).bind fun r23 =>
   some ((r23.1.1, ()), (({ y0 with o := r23.2.1 } : (SweepV MV)), ({ y1 with m := r22.2.1 } : EnvP), ()))
   else
   (agingSweepEvent ({ y0 with o := r1.2.1 } : (SweepV MV)) 12).bind fun r24 =>
   (pEmit ({ y1 with m := r22.2.1 } : EnvP) r24.1.1).bind fun r25 =>
   some ((false, ()), (({ r24.2.1 with line := wi (r24.2.1.line + 1) } : (SweepV MV)), r25.2.1, ()))
   else none
   else none
  else
  if y0.line = 5 then
   (pSince y1.l y0.task).bind fun r26 =>
   (pNow y1.k).bind fun r27 =>
   (pStore y1.m r26.1.1 (wu (r27.1.1))).bind fun r28 =>
   (levelsPush y0.worker (wi ((wi (y0.q)) + 1)) y0.task).bind fun r29 =>
   some ((false, ()), (({ y0 with o := r1.2.1, line := wi (y0.line + 1), push := r29.1.1 } : (SweepV MV)), ({ y1 with m := r28.2.1, k := r27.2.1 } : EnvP), ()))
  else
  (stepD1 y0.push y1).bind fun r30 =>
  if (!r30.1.1) = true then
   some ((false, ()), (({ y0 with o := r1.2.1, push := r30.2.1 } : (SweepV MV)), r30.2.2.1, ()))
  else
  (resultD1 r30.2.1).bind fun r31 =>
  if r31.1.1 = 3 then
   (agingSweepEvent ({ y0 with o := r1.2.1, push := r31.2.1 } : (SweepV MV)) 19).bind fun r32 =>
   (pEmit r30.2.2.1 r32.1.1).bind fun r33 =>
   (pEnd r32.2.1.o 1 0).bind fun r34 =>
   some ((r34.1.1, ()), (({ r32.2.1 with o := r34.2.1 } : (SweepV MV)), r33.2.1, ()))
  else
  (pEnd r1.2.1 1 0).bind fun r35 =>
  some ((r35.1.1, ()), (({ y0 with o := r35.2.1, push := r31.2.1 } : (SweepV MV)), r30.2.2.1, ()))
 else
 if y0.line = 3 then
  (agingSweepLook ({ y0 with o := r1.2.1 } : (SweepV MV)) y1).bind fun r36 =>
  if r36.1.1 = true then
   (pEnd r36.2.1.o 0 0).bind fun r37 =>
   some ((r37.1.1, ()), (({ r36.2.1 with o := r37.2.1 } : (SweepV MV)), r36.2.2.1, ()))
  else
  some ((false, ()), (({ r36.2.1 with line := wi (r36.2.1.line + 1) } : (SweepV MV)), r36.2.2.1, ()))
 else
 if y0.line = 4 then
  (pLevel y1.l y0.task).bind fun r38 =>
  if y0.q = y0.q then
   if y0.q = y0.q then
   (pCAS y1.m r38.1.1 y0.q (wu (y0.q + 1))).bind fun r39 =>
   if (!r39.1.1) = true then
   (pEnd r1.2.1 4 0).bind fun r40 =>
   some ((r40.1.1, ()), (({ y0 with o := r40.2.1 } : (SweepV MV)), ({ y1 with m := r39.2.1 } : EnvP), ()))
   else
   (agingSweepEvent ({ y0 with o := r1.2.1 } : (SweepV MV)) 12).bind fun r41 =>
   (pEmit ({ y1 with m := r39.2.1 } : EnvP) r41.1.1).bind fun r42 =>
   some ((false, ()), (({ r41.2.1 with line := wi (r41.2.1.line + 1) } : (SweepV MV)), r42.2.1, ()))
   else none
  else none
 else
 if y0.line = 5 then
  (pSince y1.l y0.task).bind fun r43 =>
  (pNow y1.k).bind fun r44 =>
  (pStore y1.m r43.1.1 (wu (r44.1.1))).bind fun r45 =>
  (levelsPush y0.worker (wi ((wi (y0.q)) + 1)) y0.task).bind fun r46 =>
  some ((false, ()), (({ y0 with o := r1.2.1, line := wi (y0.line + 1), push := r46.1.1 } : (SweepV MV)), ({ y1 with m := r45.2.1, k := r44.2.1 } : EnvP), ()))
 else
 (stepD1 y0.push y1).bind fun r47 =>
 if (!r47.1.1) = true then
  some ((false, ()), (({ y0 with o := r1.2.1, push := r47.2.1 } : (SweepV MV)), r47.2.2.1, ()))
 else
 (resultD1 r47.2.1).bind fun r48 =>
 if r48.1.1 = 3 then
  (agingSweepEvent ({ y0 with o := r1.2.1, push := r48.2.1 } : (SweepV MV)) 19).bind fun r49 =>
  (pEmit r47.2.2.1 r49.1.1).bind fun r50 =>
  (pEnd r49.2.1.o 1 0).bind fun r51 =>
  some ((r51.1.1, ()), (({ r49.2.1 with o := r51.2.1 } : (SweepV MV)), r50.2.1, ()))
 else
 (pEnd r1.2.1 1 0).bind fun r52 =>
 some ((r52.1.1, ()), (({ y0 with o := r52.2.1, push := r48.2.1 } : (SweepV MV)), r47.2.2.1, ()))
noncomputable abbrev agingSweepStep_k : Con SR1 := ⟨241, [.ref 40, .ref 27], [.sh .b], fun x => agingSweepStep x.1 x.2.1⟩
theorem agingSweepStep_ok : CO Tryz.prog agingSweepStep_k := co_fn mixed Tryz.func241 [pEnded_k, agingSweepLook_k, pEnd_k, pLevel_k, pCAS_k, agingSweepEvent_k, pEmit_k, pSince_k, pNow_k, pStore_k, levelsPush_k, stepD1_k, resultD1_k] ⟨pEnded_ok, agingSweepLook_ok, pEnd_ok, pLevel_ok, pCAS_ok, agingSweepEvent_ok, pEmit_ok, pSince_ok, pNow_ok, pStore_ok, levelsPush_ok, stepD1_ok, resultD1_ok, trivial⟩ [] trivial (fun _ => []) [] fun x => by kernel_rfl
noncomputable def tableEnterStep (y0 : (EnterV MV)) (y1 : EnvP) : Option ((Bool × Unit) × ((EnterV MV) × EnvP × Unit)) :=
 (pEnded y0.o).bind fun r1 =>
 if r1.1.1 = true then
  some ((true, ()), (({ y0 with o := r1.2.1 } : (EnterV MV)), y1, ()))
 else
 if y0.line = 1 then
  (tableIsTask y1 y0.task).bind fun r2 =>
  if (!r2.1.1) = true then
   (pEnd r1.2.1 4 0).bind fun r3 =>
   some ((r3.1.1, ()), (({ y0 with o := r3.2.1 } : (EnterV MV)), r2.2.1, ()))
  else
  (pSince r2.2.1.l y0.task).bind fun r4 =>
  (pNow r2.2.1.k).bind fun r5 =>
  (pStore r2.2.1.m r4.1.1 (wu (r5.1.1))).bind fun r6 =>
  some ((false, ()), (({ y0 with o := r1.2.1, line := wi (y0.line + 1) } : (EnterV MV)), ({ r2.2.1 with m := r6.2.1, k := r5.2.1 } : EnvP), ()))
 else
 if y0.line = 2 then
  (pState y1.l y0.task).bind fun r7 =>
  (pStore y1.m r7.1.1 1).bind fun r8 =>
  some ((false, ()), (({ y0 with o := r1.2.1, line := wi (y0.line + 1) } : (EnterV MV)), ({ y1 with m := r8.2.1 } : EnvP), ()))
 else
 if y0.line = 3 then
  (pLevel y1.l y0.task).bind fun r9 =>
  (pLoad y1.m r9.1.1).bind fun r10 =>
  (levelsPush y0.worker (wi (r10.1.1)) y0.task).bind fun r11 =>
  some ((false, ()), (({ y0 with o := r1.2.1, level := wi (r10.1.1), line := wi (y0.line + 1), push := r11.1.1 } : (EnterV MV)), ({ y1 with m := r10.2.1 } : EnvP), ()))
 else
 (stepD1 y0.push y1).bind fun r12 =>
 if (!r12.1.1) = true then
  some ((false, ()), (({ y0 with o := r1.2.1, push := r12.2.1 } : (EnterV MV)), r12.2.2.1, ()))
 else
 (resultD1 r12.2.1).bind fun r13 =>
 (pEnd r1.2.1 r13.1.1 y0.level).bind fun r14 =>
 some ((r14.1.1, ()), (({ y0 with o := r14.2.1, push := r13.2.1 } : (EnterV MV)), r12.2.2.1, ()))
noncomputable abbrev tableEnterStep_k : Con SR1 := ⟨289, [.ref 49, .ref 27], [.sh .b], fun x => tableEnterStep x.1 x.2.1⟩
theorem tableEnterStep_ok : CO Tryz.prog tableEnterStep_k := co_fn mixed Tryz.func289 [pEnded_k, tableIsTask_k, pEnd_k, pSince_k, pNow_k, pStore_k, pState_k, pLevel_k, pLoad_k, levelsPush_k, stepD1_k, resultD1_k] ⟨pEnded_ok, tableIsTask_ok, pEnd_ok, pSince_ok, pNow_ok, pStore_ok, pState_ok, pLevel_ok, pLoad_ok, levelsPush_ok, stepD1_ok, resultD1_ok, trivial⟩ [] trivial (fun _ => []) [] fun x => by kernel_rfl
noncomputable def lockTry (y0 : Int) : Option ((MV × Unit) × (Unit)) :=
 some ((MV.attempt (⟨⟨false, 0, 0⟩, y0, true⟩ : AttemptV), ()), (()))
noncomputable abbrev lockTry_k : Con SR1 := ⟨248, [.sh sI_], [.sh .mach], fun x => lockTry x.1⟩
theorem lockTry_ok : CO Tryz.prog lockTry_k := co_fn mixed Tryz.func248 [] trivial [] trivial (fun _ => []) [] fun x => by kernel_rfl
noncomputable def drainDrainRun (y0 : (DrainV MV)) (y1 : Int) (y2 : MV) : Option ((Unit) × ((DrainV MV) × Unit)) :=
 some ((()), (({ y0 with line := y1, inside := y2 } : (DrainV MV)), ()))
noncomputable abbrev drainDrainRun_k : Con SR1 := ⟨247, [.ref 41, .sh sI_, .sh .mach], [], fun x => drainDrainRun x.1 x.2.1 x.2.2.1⟩
theorem drainDrainRun_ok : CO Tryz.prog drainDrainRun_k := co_fn mixed Tryz.func247 [] trivial [] trivial (fun _ => []) [] fun x => by kernel_rfl
noncomputable def injectorRemove (y0 : Int) : Option ((MV × Unit) × (Unit)) :=
 some ((MV.remove (⟨⟨false, 0, 0⟩, y0, 1, 0, 0, 0, 0, 0, 0⟩ : RemoveV), ()), (()))
noncomputable abbrev injectorRemove_k : Con SR1 := ⟨253, [.sh sI_], [.sh .mach], fun x => injectorRemove x.1⟩
theorem injectorRemove_ok : CO Tryz.prog injectorRemove_k := co_fn mixed Tryz.func253 [] trivial [] trivial (fun _ => []) [] fun x => by kernel_rfl
noncomputable def drainDrainRemove (y0 : (DrainV MV)) : Option ((Unit) × ((DrainV MV) × Unit)) :=
 (injectorRemove y0.worker).bind fun r1 =>
 (drainDrainRun y0 3 r1.1.1).bind fun r2 =>
 some ((()), (r2.2.1, ()))
noncomputable abbrev drainDrainRemove_k : Con SR1 := ⟨250, [.ref 41], [], fun x => drainDrainRemove x.1⟩
theorem drainDrainRemove_ok : CO Tryz.prog drainDrainRemove_k := co_fn mixed Tryz.func250 [injectorRemove_k, drainDrainRun_k] ⟨injectorRemove_ok, drainDrainRun_ok, trivial⟩ [] trivial (fun _ => []) [] fun x => by kernel_rfl
noncomputable def lockRelease  : Option ((MV × Unit) × (Unit)) :=
 some ((MV.release (⟨⟨false, 0, 0⟩⟩ : ReleaseV), ()), (()))
noncomputable abbrev lockRelease_k : Con SR1 := ⟨210, [], [.sh .mach], fun x => lockRelease ⟩
theorem lockRelease_ok : CO Tryz.prog lockRelease_k := co_fn mixed Tryz.func210 [] trivial [] trivial (fun _ => []) [] fun x => by kernel_rfl
noncomputable def drainDrainRelease (y0 : (DrainV MV)) : Option ((Unit) × ((DrainV MV) × Unit)) :=
 (lockRelease).bind fun r1 =>
 (drainDrainRun y0 6 r1.1.1).bind fun r2 =>
 some ((()), (r2.2.1, ()))
noncomputable abbrev drainDrainRelease_k : Con SR1 := ⟨246, [.ref 41], [], fun x => drainDrainRelease x.1⟩
theorem drainDrainRelease_ok : CO Tryz.prog drainDrainRelease_k := co_fn mixed Tryz.func246 [lockRelease_k, drainDrainRun_k] ⟨lockRelease_ok, drainDrainRun_ok, trivial⟩ [] trivial (fun _ => []) [] fun x => by kernel_rfl
noncomputable def drainDrainPushed (y0 : (DrainV MV)) (y1 : Int) : Option ((Unit) × ((DrainV MV) × Unit)) :=
 if y1 = 3 then
  (drainDrainRelease ({ y0 with direct := true } : (DrainV MV))).bind fun r1 =>
  some ((()), (r1.2.1, ()))
 else
 some ((()), (({ y0 with last := y0.p, count := wi (y0.count + 1) } : (DrainV MV)), ()))
noncomputable abbrev drainDrainPushed_k : Con SR1 := ⟨251, [.ref 41, .sh sI_], [], fun x => drainDrainPushed x.1 x.2.1⟩
theorem drainDrainPushed_ok : CO Tryz.prog drainDrainPushed_k := co_fn mixed Tryz.func251 [drainDrainRelease_k] ⟨drainDrainRelease_ok, trivial⟩ [] trivial (fun _ => []) [] fun x => by kernel_rfl
noncomputable def parkWake (y0 : Int) (y1 : Int) : Option ((MV × Unit) × (Unit)) :=
 some ((MV.wake (⟨⟨false, 0, 0⟩, y0, y1, 1, 0, 0⟩ : WakeV), ()), (()))
noncomputable abbrev parkWake_k : Con SR1 := ⟨190, [.sh sI_, .sh sI_], [.sh .mach], fun x => parkWake x.1 x.2.1⟩
theorem parkWake_ok : CO Tryz.prog parkWake_k := co_fn mixed Tryz.func190 [] trivial [] trivial (fun _ => []) [] fun x => by kernel_rfl
noncomputable def drainDrainFinish (y0 : (DrainV MV)) : Option ((Bool × Unit) × ((DrainV MV) × Unit)) :=
 if y0.direct = true then
  (pEnd y0.o 1 y0.x).bind fun r1 =>
  some ((r1.1.1, ()), (({ y0 with o := r1.2.1 } : (DrainV MV)), ()))
 else
 if 0 < y0.count then
  (pEnd y0.o 0 y0.count).bind fun r2 =>
  some ((r2.1.1, ()), (({ y0 with o := r2.2.1 } : (DrainV MV)), ()))
 else
 (pEnd y0.o 2 0).bind fun r3 =>
 some ((r3.1.1, ()), (({ y0 with o := r3.2.1 } : (DrainV MV)), ()))
noncomputable abbrev drainDrainFinish_k : Con SR1 := ⟨252, [.ref 41], [.sh .b], fun x => drainDrainFinish x.1⟩
theorem drainDrainFinish_ok : CO Tryz.prog drainDrainFinish_k := co_fn mixed Tryz.func252 [pEnd_k] ⟨pEnd_ok, trivial⟩ [] trivial (fun _ => []) [] fun x => by kernel_rfl
noncomputable def drainDrainAfter (y0 : (DrainV MV)) (y1 : EnvP) (y2 : Int) (y3 : Int) : Option ((Bool × Unit) × ((DrainV MV) × EnvP × Unit)) :=
 if y0.line = 2 then
  if y2 = 5 then
   (pEnd y0.o 5 0).bind fun r1 =>
   some ((r1.1.1, ()), (({ y0 with o := r1.2.1 } : (DrainV MV)), y1, ()))
  else
  if y0.line = 2 then
   (drainDrainRemove y0).bind fun r2 =>
   some ((false, ()), (r2.2.1, y1, ()))
  else
  if y0.line = 3 then
   if y2 = 2 then
   (drainDrainRelease y0).bind fun r3 =>
   some ((false, ()), (r3.2.1, y1, ()))
   else
   if y0.line = 3 then
   (drainDrainRun ({ y0 with x := y3 } : (DrainV MV)) 4 MV.nil).bind fun r4 =>
   some ((false, ()), (r4.2.1, y1, ()))
   else
   if y0.line = 5 then
   (drainDrainPushed y0 y2).bind fun r5 =>
   if r5.2.1.direct = true then
   some ((false, ()), (r5.2.1, y1, ()))
   else
   if r5.2.1.count < y1.c.batch then
   (drainDrainRemove r5.2.1).bind fun r6 =>
   some ((false, ()), (r6.2.1, y1, ()))
   else
   (drainDrainRelease r5.2.1).bind fun r7 =>
   some ((false, ()), (r7.2.1, y1, ()))
   else
   if y0.line = 6 then
   if 0 < y0.count then
   (parkWake y0.worker y0.last).bind fun r8 =>
   (drainDrainRun y0 7 r8.1.1).bind fun r9 =>
   some ((false, ()), (r9.2.1, y1, ()))
   else
   (drainDrainFinish y0).bind fun r10 =>
   some ((r10.1.1, ()), (r10.2.1, y1, ()))
   else
   (drainDrainFinish y0).bind fun r11 =>
   some ((r11.1.1, ()), (r11.2.1, y1, ()))
  else
  if y0.line = 3 then
   (drainDrainRun ({ y0 with x := y3 } : (DrainV MV)) 4 MV.nil).bind fun r12 =>
   some ((false, ()), (r12.2.1, y1, ()))
  else
  if y0.line = 5 then
   (drainDrainPushed y0 y2).bind fun r13 =>
   if r13.2.1.direct = true then
   some ((false, ()), (r13.2.1, y1, ()))
   else
   if r13.2.1.count < y1.c.batch then
   (drainDrainRemove r13.2.1).bind fun r14 =>
   some ((false, ()), (r14.2.1, y1, ()))
   else
   (drainDrainRelease r13.2.1).bind fun r15 =>
   some ((false, ()), (r15.2.1, y1, ()))
  else
  if y0.line = 6 then
   if 0 < y0.count then
   (parkWake y0.worker y0.last).bind fun r16 =>
   (drainDrainRun y0 7 r16.1.1).bind fun r17 =>
   some ((false, ()), (r17.2.1, y1, ()))
   else
   (drainDrainFinish y0).bind fun r18 =>
   some ((r18.1.1, ()), (r18.2.1, y1, ()))
  else
  (drainDrainFinish y0).bind fun r19 =>
  some ((r19.1.1, ()), (r19.2.1, y1, ()))
 else
 if y0.line = 2 then
  (drainDrainRemove y0).bind fun r20 =>
  some ((false, ()), (r20.2.1, y1, ()))
 else
 if y0.line = 3 then
  if y2 = 2 then
   (drainDrainRelease y0).bind fun r21 =>
   some ((false, ()), (r21.2.1, y1, ()))
  else
  if y0.line = 3 then
   (drainDrainRun ({ y0 with x := y3 } : (DrainV MV)) 4 MV.nil).bind fun r22 =>
   some ((false, ()), (r22.2.1, y1, ()))
  else
  if y0.line = 5 then
   (drainDrainPushed y0 y2).bind fun r23 =>
   if r23.2.1.direct = true then
   some ((false, ()), (r23.2.1, y1, ()))
   else
   if r23.2.1.count < y1.c.batch then
   (drainDrainRemove r23.2.1).bind fun r24 =>
   some ((false, ()), (r24.2.1, y1, ()))
   else
   (drainDrainRelease r23.2.1).bind fun r25 =>
   some ((false, ()), (r25.2.1, y1, ()))
  else
  if y0.line = 6 then
   if 0 < y0.count then
   (parkWake y0.worker y0.last).bind fun r26 =>
   (drainDrainRun y0 7 r26.1.1).bind fun r27 =>
   some ((false, ()), (r27.2.1, y1, ()))
   else
   (drainDrainFinish y0).bind fun r28 =>
   some ((r28.1.1, ()), (r28.2.1, y1, ()))
  else
  (drainDrainFinish y0).bind fun r29 =>
  some ((r29.1.1, ()), (r29.2.1, y1, ()))
 else
 if y0.line = 3 then
  (drainDrainRun ({ y0 with x := y3 } : (DrainV MV)) 4 MV.nil).bind fun r30 =>
  some ((false, ()), (r30.2.1, y1, ()))
 else
 if y0.line = 5 then
  (drainDrainPushed y0 y2).bind fun r31 =>
  if r31.2.1.direct = true then
   some ((false, ()), (r31.2.1, y1, ()))
  else
  if r31.2.1.count < y1.c.batch then
   (drainDrainRemove r31.2.1).bind fun r32 =>
   some ((false, ()), (r32.2.1, y1, ()))
  else
  (drainDrainRelease r31.2.1).bind fun r33 =>
  some ((false, ()), (r33.2.1, y1, ()))
 else
 if y0.line = 6 then
  if 0 < y0.count then
   (parkWake y0.worker y0.last).bind fun r34 =>
   (drainDrainRun y0 7 r34.1.1).bind fun r35 =>
   some ((false, ()), (r35.2.1, y1, ()))
  else
  (drainDrainFinish y0).bind fun r36 =>
  some ((r36.1.1, ()), (r36.2.1, y1, ()))
 else
 (drainDrainFinish y0).bind fun r37 =>
 some ((r37.1.1, ()), (r37.2.1, y1, ()))
noncomputable abbrev drainDrainAfter_k : Con SR1 := ⟨249, [.ref 41, .ref 27, .sh sI_, .sh sI_], [.sh .b], fun x => drainDrainAfter x.1 x.2.1 x.2.2.1 x.2.2.2.1⟩
theorem drainDrainAfter_ok : CO Tryz.prog drainDrainAfter_k := co_fn mixed Tryz.func249 [pEnd_k, drainDrainRemove_k, drainDrainRelease_k, drainDrainRun_k, drainDrainPushed_k, parkWake_k, drainDrainFinish_k] ⟨pEnd_ok, drainDrainRemove_ok, drainDrainRelease_ok, drainDrainRun_ok, drainDrainPushed_ok, parkWake_ok, drainDrainFinish_ok, trivial⟩ [] trivial (fun _ => []) [] fun x => by kernel_rfl
noncomputable def drainDrainStep (y0 : (DrainV MV)) (y1 : EnvP) : Option ((Bool × Unit) × ((DrainV MV) × EnvP × Unit)) :=
 (pEnded y0.o).bind fun r1 =>
 if r1.1.1 = true then
  some ((true, ()), (({ y0 with o := r1.2.1 } : (DrainV MV)), y1, ()))
 else
 if y0.line = 1 then
  (pLSize y1.l).bind fun r2 =>
  (pLoad y1.m r2.1.1).bind fun r3 =>
  if (wi (r3.1.1)) ≤ 0 then
   (pEnd r1.2.1 2 0).bind fun r4 =>
   some ((r4.1.1, ()), (({ y0 with o := r4.2.1 } : (DrainV MV)), ({ y1 with m := r3.2.1 } : EnvP), ()))
  else
  (lockTry y0.worker).bind fun r5 =>
  (drainDrainRun ({ y0 with o := r1.2.1 } : (DrainV MV)) 2 r5.1.1).bind fun r6 =>
  some ((false, ()), (r6.2.1, ({ y1 with m := r3.2.1 } : EnvP), ()))
 else
 if y0.line = 4 then
  (pLevel y1.l y0.x).bind fun r7 =>
  (pLoad y1.m r7.1.1).bind fun r8 =>
  (levelsPush y0.worker (wi (r8.1.1)) y0.x).bind fun r9 =>
  (drainDrainRun ({ y0 with o := r1.2.1, p := wi (r8.1.1) } : (DrainV MV)) 5 r9.1.1).bind fun r10 =>
  some ((false, ()), (r10.2.1, ({ y1 with m := r8.2.1 } : EnvP), ()))
 else
 (stepD1 y0.inside y1).bind fun r11 =>
 if (!r11.1.1) = true then
  some ((false, ()), (({ y0 with o := r1.2.1, inside := r11.2.1 } : (DrainV MV)), r11.2.2.1, ()))
 else
 (resultD1 r11.2.1).bind fun r12 =>
 (drainDrainAfter ({ y0 with o := r1.2.1, inside := r12.2.1 } : (DrainV MV)) r11.2.2.1 r12.1.1 r12.1.2.1).bind fun r13 =>
 some ((r13.1.1, ()), (r13.2.1, r13.2.2.1, ()))
noncomputable abbrev drainDrainStep_k : Con SR1 := ⟨245, [.ref 41, .ref 27], [.sh .b], fun x => drainDrainStep x.1 x.2.1⟩
theorem drainDrainStep_ok : CO Tryz.prog drainDrainStep_k := co_fn mixed Tryz.func245 [pEnded_k, pLSize_k, pLoad_k, pEnd_k, lockTry_k, drainDrainRun_k, pLevel_k, levelsPush_k, stepD1_k, resultD1_k, drainDrainAfter_k] ⟨pEnded_ok, pLSize_ok, pLoad_ok, pEnd_ok, lockTry_ok, drainDrainRun_ok, pLevel_ok, levelsPush_ok, stepD1_ok, resultD1_ok, drainDrainAfter_ok, trivial⟩ [] trivial (fun _ => []) [] fun x => by kernel_rfl
noncomputable def stepD2 (m : MV) (e : EnvP) : Option ((Bool × Unit) × (MV × EnvP × Unit)) :=
 match m with
 | .alloc x => (tableAllocateStep x e).bind fun o => some (o.1, (MV.alloc o.2.1, o.2.2))
 | .publish x => (tablePublishStep x e).bind fun o => some (o.1, (MV.publish o.2.1, o.2.2))
 | .claim x => (tableClaimStep x e).bind fun o => some (o.1, (MV.claim o.2.1, o.2.2))
 | .attempt x => (lockAttemptStep x e).bind fun o => some (o.1, (MV.attempt o.2.1, o.2.2))
 | .release x => (lockReleaseStep x e).bind fun o => some (o.1, (MV.release o.2.1, o.2.2))
 | .opush x => (ownerPushStep x e).bind fun o => some (o.1, (MV.opush o.2.1, o.2.2))
 | .opop x => (ownerPopStep x e).bind fun o => some (o.1, (MV.opop o.2.1, o.2.2))
 | .steal x => (thiefStealStep x e).bind fun o => some (o.1, (MV.steal o.2.1, o.2.2))
 | .set x => (bitmapSetStep x e).bind fun o => some (o.1, (MV.set o.2.1, o.2.2))
 | .reset x => (bitmapResetStep x e).bind fun o => some (o.1, (MV.reset o.2.1, o.2.2))
 | .insert x => (injectorInsertStep x e).bind fun o => some (o.1, (MV.insert o.2.1, o.2.2))
 | .remove x => (injectorRemoveStep x e).bind fun o => some (o.1, (MV.remove o.2.1, o.2.2))
 | .sleep x => (parkSleepStep x e).bind fun o => some (o.1, (MV.sleep o.2.1, o.2.2))
 | .wake x => (parkWakeStep x e).bind fun o => some (o.1, (MV.wake o.2.1, o.2.2))
 | .raise x => (boostRaiseStep x e).bind fun o => some (o.1, (MV.raise o.2.1, o.2.2))
 | .probe x => (probeProbeStep x e).bind fun o => some (o.1, (MV.probe o.2.1, o.2.2))
 | .lpush x => (levelsPushStep x e).bind fun o => some (o.1, (MV.lpush o.2.1, o.2.2))
 | .lpop x => (levelsPopStep x e).bind fun o => some (o.1, (MV.lpop o.2.1, o.2.2))
 | .walk x => (boostWalkStep x e).bind fun o => some (o.1, (MV.walk o.2.1, o.2.2))
 | .take x => (takeTakeStep x e).bind fun o => some (o.1, (MV.take o.2.1, o.2.2))
 | .sweep x => (agingSweepStep x e).bind fun o => some (o.1, (MV.sweep o.2.1, o.2.2))
 | .enter x => (tableEnterStep x e).bind fun o => some (o.1, (MV.enter o.2.1, o.2.2))
 | .drain x => (drainDrainStep x e).bind fun o => some (o.1, (MV.drain o.2.1, o.2.2))
 | _ => none
noncomputable abbrev stepD2_k : Con SR1 := ⟨1000000000, [.mch, .ref 27], [.sh .b], fun x => stepD2 x.1 x.2.1⟩
theorem stepD2_ok : CO Tryz.prog stepD2_k := co_meth (S := SR1) (i := 0) (ps := [.ref 27]) (rs := [.sh .b]) (spec := fun m xs => stepD2 m xs.1) fun m xs out h => by
  cases m with
  | alloc x => exact via_ok (S := SR1) (ps := [.ref 27]) (rs := [.sh .b]) (c := 35) (mk := MV.alloc) (fun _ => rfl) rfl (fun _ _ _ _ => by kernel_rfl) tableAllocateStep_ok h
  | publish x => exact via_ok (S := SR1) (ps := [.ref 27]) (rs := [.sh .b]) (c := 50) (mk := MV.publish) (fun _ => rfl) rfl (fun _ _ _ _ => by kernel_rfl) tablePublishStep_ok h
  | claim x => exact via_ok (S := SR1) (ps := [.ref 27]) (rs := [.sh .b]) (c := 45) (mk := MV.claim) (fun _ => rfl) rfl (fun _ _ _ _ => by kernel_rfl) tableClaimStep_ok h
  | attempt x => exact via_ok (S := SR1) (ps := [.ref 27]) (rs := [.sh .b]) (c := 34) (mk := MV.attempt) (fun _ => rfl) rfl (fun _ _ _ _ => by kernel_rfl) lockAttemptStep_ok h
  | release x => exact via_ok (S := SR1) (ps := [.ref 27]) (rs := [.sh .b]) (c := 37) (mk := MV.release) (fun _ => rfl) rfl (fun _ _ _ _ => by kernel_rfl) lockReleaseStep_ok h
  | opush x => exact via_ok (S := SR1) (ps := [.ref 27]) (rs := [.sh .b]) (c := 53) (mk := MV.opush) (fun _ => rfl) rfl (fun _ _ _ _ => by kernel_rfl) ownerPushStep_ok h
  | opop x => exact via_ok (S := SR1) (ps := [.ref 27]) (rs := [.sh .b]) (c := 52) (mk := MV.opop) (fun _ => rfl) rfl (fun _ _ _ _ => by kernel_rfl) ownerPopStep_ok h
  | steal x => exact via_ok (S := SR1) (ps := [.ref 27]) (rs := [.sh .b]) (c := 42) (mk := MV.steal) (fun _ => rfl) rfl (fun _ _ _ _ => by kernel_rfl) thiefStealStep_ok h
  | set x => exact via_ok (S := SR1) (ps := [.ref 27]) (rs := [.sh .b]) (c := 54) (mk := MV.set) (fun _ => rfl) rfl (fun _ _ _ _ => by kernel_rfl) bitmapSetStep_ok h
  | reset x => exact via_ok (S := SR1) (ps := [.ref 27]) (rs := [.sh .b]) (c := 43) (mk := MV.reset) (fun _ => rfl) rfl (fun _ _ _ _ => by kernel_rfl) bitmapResetStep_ok h
  | insert x => exact via_ok (S := SR1) (ps := [.ref 27]) (rs := [.sh .b]) (c := 36) (mk := MV.insert) (fun _ => rfl) rfl (fun _ _ _ _ => by kernel_rfl) injectorInsertStep_ok h
  | remove x => exact via_ok (S := SR1) (ps := [.ref 27]) (rs := [.sh .b]) (c := 51) (mk := MV.remove) (fun _ => rfl) rfl (fun _ _ _ _ => by kernel_rfl) injectorRemoveStep_ok h
  | sleep x => exact via_ok (S := SR1) (ps := [.ref 27]) (rs := [.sh .b]) (c := 32) (mk := MV.sleep) (fun _ => rfl) rfl (fun _ _ _ _ => by kernel_rfl) parkSleepStep_ok h
  | wake x => exact via_ok (S := SR1) (ps := [.ref 27]) (rs := [.sh .b]) (c := 38) (mk := MV.wake) (fun _ => rfl) rfl (fun _ _ _ _ => by kernel_rfl) parkWakeStep_ok h
  | raise x => exact via_ok (S := SR1) (ps := [.ref 27]) (rs := [.sh .b]) (c := 55) (mk := MV.raise) (fun _ => rfl) rfl (fun _ _ _ _ => by kernel_rfl) boostRaiseStep_ok h
  | probe x => exact via_ok (S := SR1) (ps := [.ref 27]) (rs := [.sh .b]) (c := 46) (mk := MV.probe) (fun _ => rfl) rfl (fun _ _ _ _ => by kernel_rfl) probeProbeStep_ok h
  | lpush x => exact via_ok (S := SR1) (ps := [.ref 27]) (rs := [.sh .b]) (c := 47) (mk := MV.lpush) (fun _ => rfl) rfl (fun _ _ _ _ => by kernel_rfl) levelsPushStep_ok h
  | lpop x => exact via_ok (S := SR1) (ps := [.ref 27]) (rs := [.sh .b]) (c := 44) (mk := MV.lpop) (fun _ => rfl) rfl (fun _ _ _ _ => by kernel_rfl) levelsPopStep_ok h
  | walk x => exact via_ok (S := SR1) (ps := [.ref 27]) (rs := [.sh .b]) (c := 48) (mk := MV.walk) (fun _ => rfl) rfl (fun _ _ _ _ => by kernel_rfl) boostWalkStep_ok h
  | take x => exact via_ok (S := SR1) (ps := [.ref 27]) (rs := [.sh .b]) (c := 39) (mk := MV.take) (fun _ => rfl) rfl (fun _ _ _ _ => by kernel_rfl) takeTakeStep_ok h
  | sweep x => exact via_ok (S := SR1) (ps := [.ref 27]) (rs := [.sh .b]) (c := 40) (mk := MV.sweep) (fun _ => rfl) rfl (fun _ _ _ _ => by kernel_rfl) agingSweepStep_ok h
  | enter x => exact via_ok (S := SR1) (ps := [.ref 27]) (rs := [.sh .b]) (c := 49) (mk := MV.enter) (fun _ => rfl) rfl (fun _ _ _ _ => by kernel_rfl) tableEnterStep_ok h
  | drain x => exact via_ok (S := SR1) (ps := [.ref 27]) (rs := [.sh .b]) (c := 41) (mk := MV.drain) (fun _ => rfl) rfl (fun _ _ _ _ => by kernel_rfl) drainDrainStep_ok h
  | _ => cases h
noncomputable def resultD2 (m : MV) : Option ((Int × Int × Unit) × (MV × Unit)) :=
 match m with
 | .alloc x => some ((x.o.code, x.o.value, ()), (MV.alloc x, ()))
 | .publish x => some ((x.o.code, x.o.value, ()), (MV.publish x, ()))
 | .claim x => some ((x.o.code, x.o.value, ()), (MV.claim x, ()))
 | .attempt x => some ((x.o.code, x.o.value, ()), (MV.attempt x, ()))
 | .release x => some ((x.o.code, x.o.value, ()), (MV.release x, ()))
 | .opush x => some ((x.o.code, x.o.value, ()), (MV.opush x, ()))
 | .opop x => some ((x.o.code, x.o.value, ()), (MV.opop x, ()))
 | .steal x => some ((x.o.code, x.o.value, ()), (MV.steal x, ()))
 | .set x => some ((x.o.code, x.o.value, ()), (MV.set x, ()))
 | .reset x => some ((x.o.code, x.o.value, ()), (MV.reset x, ()))
 | .insert x => some ((x.o.code, x.o.value, ()), (MV.insert x, ()))
 | .remove x => some ((x.o.code, x.o.value, ()), (MV.remove x, ()))
 | .sleep x => some ((x.o.code, x.o.value, ()), (MV.sleep x, ()))
 | .wake x => some ((x.o.code, x.o.value, ()), (MV.wake x, ()))
 | .raise x => some ((x.o.code, x.o.value, ()), (MV.raise x, ()))
 | .probe x => some ((x.o.code, x.o.value, ()), (MV.probe x, ()))
 | .lpush x => some ((x.o.code, x.o.value, ()), (MV.lpush x, ()))
 | .lpop x => some ((x.o.code, x.o.value, ()), (MV.lpop x, ()))
 | .walk x => some ((x.o.code, x.o.value, ()), (MV.walk x, ()))
 | .take x => some ((x.o.code, x.o.value, ()), (MV.take x, ()))
 | .sweep x => some ((x.o.code, x.o.value, ()), (MV.sweep x, ()))
 | .enter x => some ((x.o.code, x.o.value, ()), (MV.enter x, ()))
 | .drain x => some ((x.o.code, x.o.value, ()), (MV.drain x, ()))
 | _ => none
noncomputable abbrev resultD2_k : Con SR1 := ⟨1000000001, [.mch], [.sh sI_, .sh sI_], fun x => resultD2 x.1⟩
theorem resultD2_ok : CO Tryz.prog resultD2_k := co_meth (S := SR1) (i := 1) (ps := []) (rs := [.sh sI_, .sh sI_]) (spec := fun m _ => resultD2 m) fun m xs out h => by
  cases m with
  | alloc x => exact via_ok (S := SR1) (ps := []) (rs := [.sh sI_, .sh sI_]) (c := 35) (mk := MV.alloc) (f := 172) (sp := fun x => some ((x.1.o.code, x.1.o.value, ()), (x.1, ()))) (fun _ => rfl) rfl (fun _ _ _ _ => by kernel_rfl) (co_like [pResult_k] ⟨pResult_ok, trivial⟩ fun x => by kernel_rfl) h
  | publish x => exact via_ok (S := SR1) (ps := []) (rs := [.sh sI_, .sh sI_]) (c := 50) (mk := MV.publish) (f := 172) (sp := fun x => some ((x.1.o.code, x.1.o.value, ()), (x.1, ()))) (fun _ => rfl) rfl (fun _ _ _ _ => by kernel_rfl) (co_like [pResult_k] ⟨pResult_ok, trivial⟩ fun x => by kernel_rfl) h
  | claim x => exact via_ok (S := SR1) (ps := []) (rs := [.sh sI_, .sh sI_]) (c := 45) (mk := MV.claim) (f := 172) (sp := fun x => some ((x.1.o.code, x.1.o.value, ()), (x.1, ()))) (fun _ => rfl) rfl (fun _ _ _ _ => by kernel_rfl) (co_like [pResult_k] ⟨pResult_ok, trivial⟩ fun x => by kernel_rfl) h
  | attempt x => exact via_ok (S := SR1) (ps := []) (rs := [.sh sI_, .sh sI_]) (c := 34) (mk := MV.attempt) (f := 172) (sp := fun x => some ((x.1.o.code, x.1.o.value, ()), (x.1, ()))) (fun _ => rfl) rfl (fun _ _ _ _ => by kernel_rfl) (co_like [pResult_k] ⟨pResult_ok, trivial⟩ fun x => by kernel_rfl) h
  | release x => exact via_ok (S := SR1) (ps := []) (rs := [.sh sI_, .sh sI_]) (c := 37) (mk := MV.release) (f := 172) (sp := fun x => some ((x.1.o.code, x.1.o.value, ()), (x.1, ()))) (fun _ => rfl) rfl (fun _ _ _ _ => by kernel_rfl) (co_like [pResult_k] ⟨pResult_ok, trivial⟩ fun x => by kernel_rfl) h
  | opush x => exact via_ok (S := SR1) (ps := []) (rs := [.sh sI_, .sh sI_]) (c := 53) (mk := MV.opush) (f := 172) (sp := fun x => some ((x.1.o.code, x.1.o.value, ()), (x.1, ()))) (fun _ => rfl) rfl (fun _ _ _ _ => by kernel_rfl) (co_like [pResult_k] ⟨pResult_ok, trivial⟩ fun x => by kernel_rfl) h
  | opop x => exact via_ok (S := SR1) (ps := []) (rs := [.sh sI_, .sh sI_]) (c := 52) (mk := MV.opop) (f := 172) (sp := fun x => some ((x.1.o.code, x.1.o.value, ()), (x.1, ()))) (fun _ => rfl) rfl (fun _ _ _ _ => by kernel_rfl) (co_like [pResult_k] ⟨pResult_ok, trivial⟩ fun x => by kernel_rfl) h
  | steal x => exact via_ok (S := SR1) (ps := []) (rs := [.sh sI_, .sh sI_]) (c := 42) (mk := MV.steal) (f := 172) (sp := fun x => some ((x.1.o.code, x.1.o.value, ()), (x.1, ()))) (fun _ => rfl) rfl (fun _ _ _ _ => by kernel_rfl) (co_like [pResult_k] ⟨pResult_ok, trivial⟩ fun x => by kernel_rfl) h
  | set x => exact via_ok (S := SR1) (ps := []) (rs := [.sh sI_, .sh sI_]) (c := 54) (mk := MV.set) (f := 172) (sp := fun x => some ((x.1.o.code, x.1.o.value, ()), (x.1, ()))) (fun _ => rfl) rfl (fun _ _ _ _ => by kernel_rfl) (co_like [pResult_k] ⟨pResult_ok, trivial⟩ fun x => by kernel_rfl) h
  | reset x => exact via_ok (S := SR1) (ps := []) (rs := [.sh sI_, .sh sI_]) (c := 43) (mk := MV.reset) (f := 172) (sp := fun x => some ((x.1.o.code, x.1.o.value, ()), (x.1, ()))) (fun _ => rfl) rfl (fun _ _ _ _ => by kernel_rfl) (co_like [pResult_k] ⟨pResult_ok, trivial⟩ fun x => by kernel_rfl) h
  | insert x => exact via_ok (S := SR1) (ps := []) (rs := [.sh sI_, .sh sI_]) (c := 36) (mk := MV.insert) (f := 172) (sp := fun x => some ((x.1.o.code, x.1.o.value, ()), (x.1, ()))) (fun _ => rfl) rfl (fun _ _ _ _ => by kernel_rfl) (co_like [pResult_k] ⟨pResult_ok, trivial⟩ fun x => by kernel_rfl) h
  | remove x => exact via_ok (S := SR1) (ps := []) (rs := [.sh sI_, .sh sI_]) (c := 51) (mk := MV.remove) (f := 172) (sp := fun x => some ((x.1.o.code, x.1.o.value, ()), (x.1, ()))) (fun _ => rfl) rfl (fun _ _ _ _ => by kernel_rfl) (co_like [pResult_k] ⟨pResult_ok, trivial⟩ fun x => by kernel_rfl) h
  | sleep x => exact via_ok (S := SR1) (ps := []) (rs := [.sh sI_, .sh sI_]) (c := 32) (mk := MV.sleep) (f := 172) (sp := fun x => some ((x.1.o.code, x.1.o.value, ()), (x.1, ()))) (fun _ => rfl) rfl (fun _ _ _ _ => by kernel_rfl) (co_like [pResult_k] ⟨pResult_ok, trivial⟩ fun x => by kernel_rfl) h
  | wake x => exact via_ok (S := SR1) (ps := []) (rs := [.sh sI_, .sh sI_]) (c := 38) (mk := MV.wake) (f := 172) (sp := fun x => some ((x.1.o.code, x.1.o.value, ()), (x.1, ()))) (fun _ => rfl) rfl (fun _ _ _ _ => by kernel_rfl) (co_like [pResult_k] ⟨pResult_ok, trivial⟩ fun x => by kernel_rfl) h
  | raise x => exact via_ok (S := SR1) (ps := []) (rs := [.sh sI_, .sh sI_]) (c := 55) (mk := MV.raise) (f := 172) (sp := fun x => some ((x.1.o.code, x.1.o.value, ()), (x.1, ()))) (fun _ => rfl) rfl (fun _ _ _ _ => by kernel_rfl) (co_like [pResult_k] ⟨pResult_ok, trivial⟩ fun x => by kernel_rfl) h
  | probe x => exact via_ok (S := SR1) (ps := []) (rs := [.sh sI_, .sh sI_]) (c := 46) (mk := MV.probe) (f := 172) (sp := fun x => some ((x.1.o.code, x.1.o.value, ()), (x.1, ()))) (fun _ => rfl) rfl (fun _ _ _ _ => by kernel_rfl) (co_like [pResult_k] ⟨pResult_ok, trivial⟩ fun x => by kernel_rfl) h
  | lpush x => exact via_ok (S := SR1) (ps := []) (rs := [.sh sI_, .sh sI_]) (c := 47) (mk := MV.lpush) (f := 172) (sp := fun x => some ((x.1.o.code, x.1.o.value, ()), (x.1, ()))) (fun _ => rfl) rfl (fun _ _ _ _ => by kernel_rfl) (co_like [pResult_k] ⟨pResult_ok, trivial⟩ fun x => by kernel_rfl) h
  | lpop x => exact via_ok (S := SR1) (ps := []) (rs := [.sh sI_, .sh sI_]) (c := 44) (mk := MV.lpop) (f := 172) (sp := fun x => some ((x.1.o.code, x.1.o.value, ()), (x.1, ()))) (fun _ => rfl) rfl (fun _ _ _ _ => by kernel_rfl) (co_like [pResult_k] ⟨pResult_ok, trivial⟩ fun x => by kernel_rfl) h
  | walk x => exact via_ok (S := SR1) (ps := []) (rs := [.sh sI_, .sh sI_]) (c := 48) (mk := MV.walk) (f := 172) (sp := fun x => some ((x.1.o.code, x.1.o.value, ()), (x.1, ()))) (fun _ => rfl) rfl (fun _ _ _ _ => by kernel_rfl) (co_like [pResult_k] ⟨pResult_ok, trivial⟩ fun x => by kernel_rfl) h
  | take x => exact via_ok (S := SR1) (ps := []) (rs := [.sh sI_, .sh sI_]) (c := 39) (mk := MV.take) (f := 172) (sp := fun x => some ((x.1.o.code, x.1.o.value, ()), (x.1, ()))) (fun _ => rfl) rfl (fun _ _ _ _ => by kernel_rfl) (co_like [pResult_k] ⟨pResult_ok, trivial⟩ fun x => by kernel_rfl) h
  | sweep x => exact via_ok (S := SR1) (ps := []) (rs := [.sh sI_, .sh sI_]) (c := 40) (mk := MV.sweep) (f := 172) (sp := fun x => some ((x.1.o.code, x.1.o.value, ()), (x.1, ()))) (fun _ => rfl) rfl (fun _ _ _ _ => by kernel_rfl) (co_like [pResult_k] ⟨pResult_ok, trivial⟩ fun x => by kernel_rfl) h
  | enter x => exact via_ok (S := SR1) (ps := []) (rs := [.sh sI_, .sh sI_]) (c := 49) (mk := MV.enter) (f := 172) (sp := fun x => some ((x.1.o.code, x.1.o.value, ()), (x.1, ()))) (fun _ => rfl) rfl (fun _ _ _ _ => by kernel_rfl) (co_like [pResult_k] ⟨pResult_ok, trivial⟩ fun x => by kernel_rfl) h
  | drain x => exact via_ok (S := SR1) (ps := []) (rs := [.sh sI_, .sh sI_]) (c := 41) (mk := MV.drain) (f := 172) (sp := fun x => some ((x.1.o.code, x.1.o.value, ()), (x.1, ()))) (fun _ => rfl) rfl (fun _ _ _ _ => by kernel_rfl) (co_like [pResult_k] ⟨pResult_ok, trivial⟩ fun x => by kernel_rfl) h
  | _ => cases h
noncomputable def runnerRunChoose (y0 : (RunV MV)) (y1 : EnvP) : Option ((Int × Unit) × ((RunV MV) × EnvP × Unit)) :=
 if 0 ≤ wi (((y0.stack.length : Nat) : Int) - 1) ∧ wi (((y0.stack.length : Nat) : Int) - 1) < ((y0.stack.length : Nat) : Int) then
  if 0 ≤ atK1 y0.stack (wi (((y0.stack.length : Nat) : Int) - 1)) ∧ atK1 y0.stack (wi (((y0.stack.length : Nat) : Int) - 1)) < ((y1.recs.length : Nat) : Int) then
   if 0 ≤ wi (((y0.stack.length : Nat) : Int) - 1) ∧ wi (((y0.stack.length : Nat) : Int) - 1) < ((y0.stack.length : Nat) : Int) then
   if 0 ≤ atK1 y0.stack (wi (((y0.stack.length : Nat) : Int) - 1)) ∧ atK1 y0.stack (wi (((y0.stack.length : Nat) : Int) - 1)) < ((y1.recs.length : Nat) : Int) then
   if ((atK26 y1.recs (atK1 y0.stack (wi (((y0.stack.length : Nat) : Int) - 1)))).prog) < 0 then
   if ((atK26 y1.recs (atK1 y0.stack (wi (((y0.stack.length : Nat) : Int) - 1)))).waiting) ≠ (-1) then
   some ((1, ()), (y0, y1, ()))
   else
   if ((atK26 y1.recs (atK1 y0.stack (wi (((y0.stack.length : Nat) : Int) - 1)))).pc) < 0 then
   some ((16, ()), (y0, y1, ()))
   else
   if 0 ≤ ((atK26 y1.recs (atK1 y0.stack (wi (((y0.stack.length : Nat) : Int) - 1)))).pc) then
   some ((16, ()), (y0, y1, ()))
   else
   none
   else
   if ((y1.c.progs.length : Nat) : Int) ≤ ((atK26 y1.recs (atK1 y0.stack (wi (((y0.stack.length : Nat) : Int) - 1)))).prog) then
   if ((atK26 y1.recs (atK1 y0.stack (wi (((y0.stack.length : Nat) : Int) - 1)))).waiting) ≠ (-1) then
   some ((1, ()), (y0, y1, ()))
   else
   if ((atK26 y1.recs (atK1 y0.stack (wi (((y0.stack.length : Nat) : Int) - 1)))).pc) < 0 then
   some ((16, ()), (y0, y1, ()))
   else
   if 0 ≤ ((atK26 y1.recs (atK1 y0.stack (wi (((y0.stack.length : Nat) : Int) - 1)))).pc) then
   some ((16, ()), (y0, y1, ()))
   else
   none
   else
   if 0 ≤ (atK26 y1.recs (atK1 y0.stack (wi (((y0.stack.length : Nat) : Int) - 1)))).prog ∧ (atK26 y1.recs (atK1 y0.stack (wi (((y0.stack.length : Nat) : Int) - 1)))).prog < ((y1.c.progs.length : Nat) : Int) then
   if ((atK26 y1.recs (atK1 y0.stack (wi (((y0.stack.length : Nat) : Int) - 1)))).waiting) ≠ (-1) then
   some ((1, ()), (y0, y1, ()))
   else
   if ((atK26 y1.recs (atK1 y0.stack (wi (((y0.stack.length : Nat) : Int) - 1)))).pc) < 0 then
   some ((16, ()), (y0, y1, ()))
   else
   if (((atL [] y1.c.progs ((atK26 y1.recs (atK1 y0.stack (wi (((y0.stack.length : Nat) : Int) - 1)))).prog)).length : Nat) : Int) ≤ ((atK26 y1.recs (atK1 y0.stack (wi (((y0.stack.length : Nat) : Int) - 1)))).pc) then
   some ((16, ()), (y0, y1, ()))
   else
   if 0 ≤ (atK26 y1.recs (atK1 y0.stack (wi (((y0.stack.length : Nat) : Int) - 1)))).pc ∧ (atK26 y1.recs (atK1 y0.stack (wi (((y0.stack.length : Nat) : Int) - 1)))).pc < (((atL [] y1.c.progs ((atK26 y1.recs (atK1 y0.stack (wi (((y0.stack.length : Nat) : Int) - 1)))).prog)).length : Nat) : Int) then
   if ((atK3 (atL [] y1.c.progs ((atK26 y1.recs (atK1 y0.stack (wi (((y0.stack.length : Nat) : Int) - 1)))).prog)) ((atK26 y1.recs (atK1 y0.stack (wi (((y0.stack.length : Nat) : Int) - 1)))).pc)).op) = 0 then
   some ((2, ()), (y0, y1, ()))
   else
   if 0 ≤ (atK26 y1.recs (atK1 y0.stack (wi (((y0.stack.length : Nat) : Int) - 1)))).pc ∧ (atK26 y1.recs (atK1 y0.stack (wi (((y0.stack.length : Nat) : Int) - 1)))).pc < (((atL [] y1.c.progs ((atK26 y1.recs (atK1 y0.stack (wi (((y0.stack.length : Nat) : Int) - 1)))).prog)).length : Nat) : Int) then
   if ((atK3 (atL [] y1.c.progs ((atK26 y1.recs (atK1 y0.stack (wi (((y0.stack.length : Nat) : Int) - 1)))).prog)) ((atK26 y1.recs (atK1 y0.stack (wi (((y0.stack.length : Nat) : Int) - 1)))).pc)).op) = 1 then
   some ((4, ()), (y0, y1, ()))
   else
   if 0 ≤ (atK26 y1.recs (atK1 y0.stack (wi (((y0.stack.length : Nat) : Int) - 1)))).pc ∧ (atK26 y1.recs (atK1 y0.stack (wi (((y0.stack.length : Nat) : Int) - 1)))).pc < (((atL [] y1.c.progs ((atK26 y1.recs (atK1 y0.stack (wi (((y0.stack.length : Nat) : Int) - 1)))).prog)).length : Nat) : Int) then
   if ((atK3 (atL [] y1.c.progs ((atK26 y1.recs (atK1 y0.stack (wi (((y0.stack.length : Nat) : Int) - 1)))).prog)) ((atK26 y1.recs (atK1 y0.stack (wi (((y0.stack.length : Nat) : Int) - 1)))).pc)).a) < 0 then
   some ((3, ()), (y0, y1, ()))
   else
   if ((((atK26 y1.recs (atK1 y0.stack (wi (((y0.stack.length : Nat) : Int) - 1)))).kids).length : Nat) : Int) ≤ ((atK3 (atL [] y1.c.progs ((atK26 y1.recs (atK1 y0.stack (wi (((y0.stack.length : Nat) : Int) - 1)))).prog)) ((atK26 y1.recs (atK1 y0.stack (wi (((y0.stack.length : Nat) : Int) - 1)))).pc)).a) then
   some ((3, ()), (y0, ({ y1 with recs := y1.recs.set (atK1 y0.stack (wi (((y0.stack.length : Nat) : Int) - 1))).toNat (atK26 y1.recs (atK1 y0.stack (wi (((y0.stack.length : Nat) : Int) - 1)))) } : EnvP), ()))
   else
   if 0 ≤ (atK3 (atL [] y1.c.progs ((atK26 y1.recs (atK1 y0.stack (wi (((y0.stack.length : Nat) : Int) - 1)))).prog)) ((atK26 y1.recs (atK1 y0.stack (wi (((y0.stack.length : Nat) : Int) - 1)))).pc)).a ∧ (atK3 (atL [] y1.c.progs ((atK26 y1.recs (atK1 y0.stack (wi (((y0.stack.length : Nat) : Int) - 1)))).prog)) ((atK26 y1.recs (atK1 y0.stack (wi (((y0.stack.length : Nat) : Int) - 1)))).pc)).a < ((((atK26 y1.recs (atK1 y0.stack (wi (((y0.stack.length : Nat) : Int) - 1)))).kids).length : Nat) : Int) then
   if (atK1 ((atK26 y1.recs (atK1 y0.stack (wi (((y0.stack.length : Nat) : Int) - 1)))).kids) ((atK3 (atL [] y1.c.progs ((atK26 y1.recs (atK1 y0.stack (wi (((y0.stack.length : Nat) : Int) - 1)))).prog)) ((atK26 y1.recs (atK1 y0.stack (wi (((y0.stack.length : Nat) : Int) - 1)))).pc)).a)) = (-1) then
   some ((3, ()), (y0, ({ y1 with recs := y1.recs.set (atK1 y0.stack (wi (((y0.stack.length : Nat) : Int) - 1))).toNat (atK26 y1.recs (atK1 y0.stack (wi (((y0.stack.length : Nat) : Int) - 1)))) } : EnvP), ()))
   else
   some ((9, ()), (y0, ({ y1 with recs := y1.recs.set (atK1 y0.stack (wi (((y0.stack.length : Nat) : Int) - 1))).toNat (atK26 y1.recs (atK1 y0.stack (wi (((y0.stack.length : Nat) : Int) - 1)))) } : EnvP), ()))
   else none
   else none
   else none
   else none
   else none
   else none
   else none
  else none
 else none
noncomputable abbrev runnerRunChoose_k : Con SR1 := ⟨176, [.ref 33, .ref 27], [.sh sI_], fun x => runnerRunChoose x.1 x.2.1⟩
noncomputable def runnerRunChoose_tb : List (Nat × Func) := [(181, Tryz.f181), (174, Tryz.f174), (182, Tryz.f182)]
theorem runnerRunChoose_ok : CO Tryz.prog runnerRunChoose_k := co_fn mixed Tryz.func176 [] trivial runnerRunChoose_tb ⟨Tryz.func181, Tryz.func174, Tryz.func182, trivial⟩ (fun _ => []) [] fun x => by kernel_rfl
noncomputable def tableAllocate  : Option ((MV × Unit) × (Unit)) :=
 some ((MV.alloc (⟨⟨false, 0, 0⟩⟩ : AllocV), ()), (()))
noncomputable abbrev tableAllocate_k : Con SR1 := ⟨58, [], [.sh .mach], fun x => tableAllocate ⟩
theorem tableAllocate_ok : CO Tryz.prog tableAllocate_k := co_fn mixed Tryz.func58 [] trivial [] trivial (fun _ => []) [] fun x => by kernel_rfl
noncomputable def runnerRunTo (y0 : (RunV MV)) (y1 : Int) (y2 : MV) : Option ((Bool × Unit) × ((RunV MV) × Unit)) :=
 some ((false, ()), (({ y0 with line := y1, inside := y2 } : (RunV MV)), ()))
noncomputable abbrev runnerRunTo_k : Con SR1 := ⟨186, [.ref 33, .sh sI_, .sh .mach], [.sh .b], fun x => runnerRunTo x.1 x.2.1 x.2.2.1⟩
theorem runnerRunTo_ok : CO Tryz.prog runnerRunTo_k := co_fn mixed Tryz.func186 [] trivial [] trivial (fun _ => []) [] fun x => by kernel_rfl
end Go.Proofs.YtgiagoeoifgliaaGreat
