/- The program's machines in the evaluator's form. -/
import Derived.Test.YtlcelajkhklkbaaGreatRcal
set_option linter.all false
namespace Go.Proofs.YtlcelajkhklkbaaGreat
open Go Go.RowKit
set_option maxRecDepth 100000
variable [Tb]
noncomputable def aeB (y0 : (SweepV MV)) (y1 : EnvP) : Option ((Bool × Unit) × ((SweepV MV) × EnvP × Unit)) :=
 (aaH y0.o).bind fun r1 =>
 if r1.1.1 = true then
  some ((true, ()), (({ y0 with o := r1.2.1 } : (SweepV MV)), y1, ()))
 else
 if y0.line = 1 then
  if y0.line = 1 then
   (adt ({ y0 with o := r1.2.1 } : (SweepV MV)) y1).bind fun r2 =>
   if r2.1.1 = true then
   (abi r2.2.1.o 0 0).bind fun r3 =>
   some ((r3.1.1, ()), (({ r2.2.1 with o := r3.2.1 } : (SweepV MV)), r2.2.2.1, ()))
   else
   some ((false, ()), (({ r2.2.1 with line := wi (r2.2.1.line + 1) } : (SweepV MV)), r2.2.2.1, ()))
  else
  if y0.line = 4 then
   (aed y1.l y0.task).bind fun r4 =>
   if y0.q = y0.q then
   if y0.q = y0.q then
   (amf y1.m r4.1.1 y0.q (wu (y0.q + 1))).bind fun r5 =>
   if (!r5.1.1) = true then
   (abi r1.2.1 4 0).bind fun r6 =>
   some ((r6.1.1, ()), (({ y0 with o := r6.2.1 } : (SweepV MV)), ({ y1 with m := r5.2.1 } : EnvP), ()))
   else
   (abp ({ y0 with o := r1.2.1 } : (SweepV MV)) 12).bind fun r7 =>
   (aei ({ y1 with m := r5.2.1 } : EnvP) r7.1.1).bind fun r8 =>
   some ((false, ()), (({ r7.2.1 with line := wi (r7.2.1.line + 1) } : (SweepV MV)), r8.2.1, ()))
   else none
   else none
  else
  if y0.line = 5 then
   (ahG y1.l y0.task).bind fun r9 =>
   (aqy y1.k).bind fun r10 =>
   (aa0 y1.m r9.1.1 (wu (r10.1.1))).bind fun r11 =>
   (abG y0.worker (wi ((wi (y0.q)) + 1)) y0.task).bind fun r12 =>
   some ((false, ()), (({ y0 with o := r1.2.1, line := wi (y0.line + 1), push := r12.1.1 } : (SweepV MV)), ({ y1 with m := r11.2.1, k := r10.2.1 } : EnvP), ()))
  else
  (ad4 y0.push y1).bind fun r13 =>
  if (!r13.1.1) = true then
   some ((false, ()), (({ y0 with o := r1.2.1, push := r13.2.1 } : (SweepV MV)), r13.2.2.1, ()))
  else
  (abR r13.2.1).bind fun r14 =>
  if r14.1.1 = 3 then
   (abp ({ y0 with o := r1.2.1, push := r14.2.1 } : (SweepV MV)) 19).bind fun r15 =>
   (aei r13.2.2.1 r15.1.1).bind fun r16 =>
   (abi r15.2.1.o 1 0).bind fun r17 =>
   some ((r17.1.1, ()), (({ r15.2.1 with o := r17.2.1 } : (SweepV MV)), r16.2.1, ()))
  else
  (abi r1.2.1 1 0).bind fun r18 =>
  some ((r18.1.1, ()), (({ y0 with o := r18.2.1, push := r14.2.1 } : (SweepV MV)), r13.2.2.1, ()))
 else
 if y0.line = 2 then
  if y0.line = 2 then
   (adt ({ y0 with o := r1.2.1 } : (SweepV MV)) y1).bind fun r19 =>
   if r19.1.1 = true then
   (abi r19.2.1.o 0 0).bind fun r20 =>
   some ((r20.1.1, ()), (({ r19.2.1 with o := r20.2.1 } : (SweepV MV)), r19.2.2.1, ()))
   else
   some ((false, ()), (({ r19.2.1 with line := wi (r19.2.1.line + 1) } : (SweepV MV)), r19.2.2.1, ()))
  else
  if y0.line = 4 then
   (aed y1.l y0.task).bind fun r21 =>
   if y0.q = y0.q then
   if y0.q = y0.q then
   (amf y1.m r21.1.1 y0.q (wu (y0.q + 1))).bind fun r22 =>
   if (!r22.1.1) = true then
   (abi r1.2.1 4 0).bind fun r23 =>
   some ((r23.1.1, ()), (({ y0 with o := r23.2.1 } : (SweepV MV)), ({ y1 with m := r22.2.1 } : EnvP), ()))
   else
   (abp ({ y0 with o := r1.2.1 } : (SweepV MV)) 12).bind fun r24 =>
   (aei ({ y1 with m := r22.2.1 } : EnvP) r24.1.1).bind fun r25 =>
   some ((false, ()), (({ r24.2.1 with line := wi (r24.2.1.line + 1) } : (SweepV MV)), r25.2.1, ()))
   else none
   else none
  else
  if y0.line = 5 then
   (ahG y1.l y0.task).bind fun r26 =>
   (aqy y1.k).bind fun r27 =>
   (aa0 y1.m r26.1.1 (wu (r27.1.1))).bind fun r28 =>
   (abG y0.worker (wi ((wi (y0.q)) + 1)) y0.task).bind fun r29 =>
   some ((false, ()), (({ y0 with o := r1.2.1, line := wi (y0.line + 1), push := r29.1.1 } : (SweepV MV)), ({ y1 with m := r28.2.1, k := r27.2.1 } : EnvP), ()))
  else
  (ad4 y0.push y1).bind fun r30 =>
  if (!r30.1.1) = true then
   some ((false, ()), (({ y0 with o := r1.2.1, push := r30.2.1 } : (SweepV MV)), r30.2.2.1, ()))
  else
  (abR r30.2.1).bind fun r31 =>
  if r31.1.1 = 3 then
   (abp ({ y0 with o := r1.2.1, push := r31.2.1 } : (SweepV MV)) 19).bind fun r32 =>
   (aei r30.2.2.1 r32.1.1).bind fun r33 =>
   (abi r32.2.1.o 1 0).bind fun r34 =>
   some ((r34.1.1, ()), (({ r32.2.1 with o := r34.2.1 } : (SweepV MV)), r33.2.1, ()))
  else
  (abi r1.2.1 1 0).bind fun r35 =>
  some ((r35.1.1, ()), (({ y0 with o := r35.2.1, push := r31.2.1 } : (SweepV MV)), r30.2.2.1, ()))
 else
 if y0.line = 3 then
  (adt ({ y0 with o := r1.2.1 } : (SweepV MV)) y1).bind fun r36 =>
  if r36.1.1 = true then
   (abi r36.2.1.o 0 0).bind fun r37 =>
   some ((r37.1.1, ()), (({ r36.2.1 with o := r37.2.1 } : (SweepV MV)), r36.2.2.1, ()))
  else
  some ((false, ()), (({ r36.2.1 with line := wi (r36.2.1.line + 1) } : (SweepV MV)), r36.2.2.1, ()))
 else
 if y0.line = 4 then
  (aed y1.l y0.task).bind fun r38 =>
  if y0.q = y0.q then
   if y0.q = y0.q then
   (amf y1.m r38.1.1 y0.q (wu (y0.q + 1))).bind fun r39 =>
   if (!r39.1.1) = true then
   (abi r1.2.1 4 0).bind fun r40 =>
   some ((r40.1.1, ()), (({ y0 with o := r40.2.1 } : (SweepV MV)), ({ y1 with m := r39.2.1 } : EnvP), ()))
   else
   (abp ({ y0 with o := r1.2.1 } : (SweepV MV)) 12).bind fun r41 =>
   (aei ({ y1 with m := r39.2.1 } : EnvP) r41.1.1).bind fun r42 =>
   some ((false, ()), (({ r41.2.1 with line := wi (r41.2.1.line + 1) } : (SweepV MV)), r42.2.1, ()))
   else none
  else none
 else
 if y0.line = 5 then
  (ahG y1.l y0.task).bind fun r43 =>
  (aqy y1.k).bind fun r44 =>
  (aa0 y1.m r43.1.1 (wu (r44.1.1))).bind fun r45 =>
  (abG y0.worker (wi ((wi (y0.q)) + 1)) y0.task).bind fun r46 =>
  some ((false, ()), (({ y0 with o := r1.2.1, line := wi (y0.line + 1), push := r46.1.1 } : (SweepV MV)), ({ y1 with m := r45.2.1, k := r44.2.1 } : EnvP), ()))
 else
 (ad4 y0.push y1).bind fun r47 =>
 if (!r47.1.1) = true then
  some ((false, ()), (({ y0 with o := r1.2.1, push := r47.2.1 } : (SweepV MV)), r47.2.2.1, ()))
 else
 (abR r47.2.1).bind fun r48 =>
 if r48.1.1 = 3 then
  (abp ({ y0 with o := r1.2.1, push := r48.2.1 } : (SweepV MV)) 19).bind fun r49 =>
  (aei r47.2.2.1 r49.1.1).bind fun r50 =>
  (abi r49.2.1.o 1 0).bind fun r51 =>
  some ((r51.1.1, ()), (({ r49.2.1 with o := r51.2.1 } : (SweepV MV)), r50.2.1, ()))
 else
 (abi r1.2.1 1 0).bind fun r52 =>
 some ((r52.1.1, ()), (({ y0 with o := r52.2.1, push := r48.2.1 } : (SweepV MV)), r47.2.2.1, ()))
noncomputable abbrev aje : Con SR1 := ⟨184, [.ref 38, .ref 27], [.sh .b], fun x => aeB x.1 x.2.1⟩
theorem ae4 : CO Tryz.prog aje := aar aaq Tryz.func184 [aaW, afH, abq, aeo, ahI, ae5, aew, ahF, ajO, acG, acP, afb, adh] ⟨aaL, aiE, aaX, aec, af8, ah4, adV, ahE, aiq, acg, ac0, aeH, adg, trivial⟩ [] trivial (fun _ => []) [] fun x => by kernel_rfl
noncomputable def aa5 (y0 : (EnterV MV)) (y1 : EnvP) : Option ((Bool × Unit) × ((EnterV MV) × EnvP × Unit)) :=
 (aaH y0.o).bind fun r1 =>
 if r1.1.1 = true then
  some ((true, ()), (({ y0 with o := r1.2.1 } : (EnterV MV)), y1, ()))
 else
 if y0.line = 1 then
  (ade y1 y0.task).bind fun r2 =>
  if (!r2.1.1) = true then
   (abi r1.2.1 4 0).bind fun r3 =>
   some ((r3.1.1, ()), (({ y0 with o := r3.2.1 } : (EnterV MV)), r2.2.1, ()))
  else
  (ahG r2.2.1.l y0.task).bind fun r4 =>
  (aqy r2.2.1.k).bind fun r5 =>
  (aa0 r2.2.1.m r4.1.1 (wu (r5.1.1))).bind fun r6 =>
  some ((false, ()), (({ y0 with o := r1.2.1, line := wi (y0.line + 1) } : (EnterV MV)), ({ r2.2.1 with m := r6.2.1, k := r5.2.1 } : EnvP), ()))
 else
 if y0.line = 2 then
  (adA y1.l y0.task).bind fun r7 =>
  (aa0 y1.m r7.1.1 1).bind fun r8 =>
  some ((false, ()), (({ y0 with o := r1.2.1, line := wi (y0.line + 1) } : (EnterV MV)), ({ y1 with m := r8.2.1 } : EnvP), ()))
 else
 if y0.line = 3 then
  (aed y1.l y0.task).bind fun r9 =>
  (abz y1.m r9.1.1).bind fun r10 =>
  (abG y0.worker (wi (r10.1.1)) y0.task).bind fun r11 =>
  some ((false, ()), (({ y0 with o := r1.2.1, level := wi (r10.1.1), line := wi (y0.line + 1), push := r11.1.1 } : (EnterV MV)), ({ y1 with m := r10.2.1 } : EnvP), ()))
 else
 (ad4 y0.push y1).bind fun r12 =>
 if (!r12.1.1) = true then
  some ((false, ()), (({ y0 with o := r1.2.1, push := r12.2.1 } : (EnterV MV)), r12.2.2.1, ()))
 else
 (abR r12.2.1).bind fun r13 =>
 (abi r1.2.1 r13.1.1 y0.level).bind fun r14 =>
 some ((r14.1.1, ()), (({ y0 with o := r14.2.1, push := r13.2.1 } : (EnterV MV)), r12.2.2.1, ()))
noncomputable abbrev aiU : Con SR1 := ⟨233, [.ref 47, .ref 27], [.sh .b], fun x => aa5 x.1 x.2.1⟩
theorem aeF : CO Tryz.prog aiU := aar aaq Tryz.func233 [aaW, adS, abq, ahF, ajO, acG, aen, aeo, aby, acP, afb, adh] ⟨aaL, aeu, aaX, ahE, aiq, acg, ad9, aec, abd, ac0, aeH, adg, trivial⟩ [] trivial (fun _ => []) [] fun x => by kernel_rfl
noncomputable def aqT (y0 : Int) : Option ((MV × Unit) × (Unit)) :=
 some ((MV.attempt (⟨⟨false, 0, 0⟩, y0, true⟩ : AttemptV), ()), (()))
noncomputable abbrev amW : Con SR1 := ⟨191, [.sh sI_], [.sh .mach], fun x => aqT x.1⟩
theorem apH : CO Tryz.prog amW := aar aaq Tryz.func191 [] trivial [] trivial (fun _ => []) [] fun x => by kernel_rfl
noncomputable def aaN (y0 : (DrainV MV)) (y1 : Int) (y2 : MV) : Option ((Unit) × ((DrainV MV) × Unit)) :=
 some ((()), (({ y0 with line := y1, inside := y2 } : (DrainV MV)), ()))
noncomputable abbrev acl : Con SR1 := ⟨190, [.ref 39, .sh sI_, .sh .mach], [], fun x => aaN x.1 x.2.1 x.2.2.1⟩
theorem acI : CO Tryz.prog acl := aar aaq Tryz.func190 [] trivial [] trivial (fun _ => []) [] fun x => by kernel_rfl
noncomputable def agU (y0 : Int) : Option ((MV × Unit) × (Unit)) :=
 some ((MV.remove (⟨⟨false, 0, 0⟩, y0, 1, 0, 0, 0, 0, 0, 0⟩ : RemoveV), ()), (()))
noncomputable abbrev afE : Con SR1 := ⟨197, [.sh sI_], [.sh .mach], fun x => agU x.1⟩
theorem aix : CO Tryz.prog afE := aar aaq Tryz.func197 [] trivial [] trivial (fun _ => []) [] fun x => by kernel_rfl
noncomputable def abh (y0 : (DrainV MV)) : Option ((Unit) × ((DrainV MV) × Unit)) :=
 (agU y0.worker).bind fun r1 =>
 (aaN y0 3 r1.1.1).bind fun r2 =>
 some ((()), (r2.2.1, ()))
noncomputable abbrev aeq : Con SR1 := ⟨193, [.ref 39], [], fun x => abh x.1⟩
theorem ag4 : CO Tryz.prog aeq := aar aaq Tryz.func193 [afE, acl] ⟨aix, acI, trivial⟩ [] trivial (fun _ => []) [] fun x => by kernel_rfl
noncomputable def aj1  : Option ((MV × Unit) × (Unit)) :=
 some ((MV.release (⟨⟨false, 0, 0⟩⟩ : ReleaseV), ()), (()))
noncomputable abbrev ahQ : Con SR1 := ⟨196, [], [.sh .mach], fun x => aj1 ⟩
theorem akK : CO Tryz.prog ahQ := aar aaq Tryz.func196 [] trivial [] trivial (fun _ => []) [] fun x => by kernel_rfl
noncomputable def aaV (y0 : (DrainV MV)) : Option ((Unit) × ((DrainV MV) × Unit)) :=
 (aj1).bind fun r1 =>
 (aaN y0 6 r1.1.1).bind fun r2 =>
 some ((()), (r2.2.1, ()))
noncomputable abbrev acL : Con SR1 := ⟨189, [.ref 39], [], fun x => aaV x.1⟩
theorem adM : CO Tryz.prog acL := aar aaq Tryz.func189 [ahQ, acl] ⟨akK, acI, trivial⟩ [] trivial (fun _ => []) [] fun x => by kernel_rfl
noncomputable def abX (y0 : (DrainV MV)) (y1 : Int) : Option ((Unit) × ((DrainV MV) × Unit)) :=
 if y1 = 3 then
  (aaV ({ y0 with direct := true } : (DrainV MV))).bind fun r1 =>
  some ((()), (r1.2.1, ()))
 else
 some ((()), (({ y0 with last := y0.p, count := wi (y0.count + 1) } : (DrainV MV)), ()))
noncomputable abbrev aer : Con SR1 := ⟨194, [.ref 39, .sh sI_], [], fun x => abX x.1 x.2.1⟩
theorem ag5 : CO Tryz.prog aer := aar aaq Tryz.func194 [acL] ⟨adM, trivial⟩ [] trivial (fun _ => []) [] fun x => by kernel_rfl
noncomputable def ab3 (y0 : Int) (y1 : Int) : Option ((MV × Unit) × (Unit)) :=
 some ((MV.wake (⟨⟨false, 0, 0⟩, y0, y1, 1, 0, 0⟩ : WakeV), ()), (()))
noncomputable abbrev agy : Con SR1 := ⟨146, [.sh sI_, .sh sI_], [.sh .mach], fun x => ab3 x.1 x.2.1⟩
theorem ag1 : CO Tryz.prog agy := aar aaq Tryz.func146 [] trivial [] trivial (fun _ => []) [] fun x => by kernel_rfl
noncomputable def aaS (y0 : (DrainV MV)) : Option ((Bool × Unit) × ((DrainV MV) × Unit)) :=
 if y0.direct = true then
  (abi y0.o 1 y0.x).bind fun r1 =>
  some ((r1.1.1, ()), (({ y0 with o := r1.2.1 } : (DrainV MV)), ()))
 else
 if 0 < y0.count then
  (abi y0.o 0 y0.count).bind fun r2 =>
  some ((r2.1.1, ()), (({ y0 with o := r2.2.1 } : (DrainV MV)), ()))
 else
 (abi y0.o 2 0).bind fun r3 =>
 some ((r3.1.1, ()), (({ y0 with o := r3.2.1 } : (DrainV MV)), ()))
noncomputable abbrev aes : Con SR1 := ⟨195, [.ref 39], [.sh .b], fun x => aaS x.1⟩
theorem ag6 : CO Tryz.prog aes := aar aaq Tryz.func195 [abq] ⟨aaX, trivial⟩ [] trivial (fun _ => []) [] fun x => by kernel_rfl
noncomputable def agh (y0 : (DrainV MV)) (y1 : EnvP) (y2 : Int) (y3 : Int) : Option ((Bool × Unit) × ((DrainV MV) × EnvP × Unit)) :=
 if y0.line = 2 then
  if y2 = 5 then
   (abi y0.o 5 0).bind fun r1 =>
   some ((r1.1.1, ()), (({ y0 with o := r1.2.1 } : (DrainV MV)), y1, ()))
  else
  if y0.line = 2 then
   (abh y0).bind fun r2 =>
   some ((false, ()), (r2.2.1, y1, ()))
  else
  if y0.line = 3 then
   if y2 = 2 then
   (aaV y0).bind fun r3 =>
   some ((false, ()), (r3.2.1, y1, ()))
   else
   if y0.line = 3 then
   (aaN ({ y0 with x := y3 } : (DrainV MV)) 4 MV.nil).bind fun r4 =>
   some ((false, ()), (r4.2.1, y1, ()))
   else
   if y0.line = 5 then
   (abX y0 y2).bind fun r5 =>
   if r5.2.1.direct = true then
   some ((false, ()), (r5.2.1, y1, ()))
   else
   if r5.2.1.count < y1.c.batch then
   (abh r5.2.1).bind fun r6 =>
   some ((false, ()), (r6.2.1, y1, ()))
   else
   (aaV r5.2.1).bind fun r7 =>
   some ((false, ()), (r7.2.1, y1, ()))
   else
   if y0.line = 6 then
   if 0 < y0.count then
   (ab3 y0.worker y0.last).bind fun r8 =>
   (aaN y0 7 r8.1.1).bind fun r9 =>
   some ((false, ()), (r9.2.1, y1, ()))
   else
   (aaS y0).bind fun r10 =>
   some ((r10.1.1, ()), (r10.2.1, y1, ()))
   else
   (aaS y0).bind fun r11 =>
   some ((r11.1.1, ()), (r11.2.1, y1, ()))
  else
  if y0.line = 3 then
   (aaN ({ y0 with x := y3 } : (DrainV MV)) 4 MV.nil).bind fun r12 =>
   some ((false, ()), (r12.2.1, y1, ()))
  else
  if y0.line = 5 then
   (abX y0 y2).bind fun r13 =>
   if r13.2.1.direct = true then
   some ((false, ()), (r13.2.1, y1, ()))
   else
   if r13.2.1.count < y1.c.batch then
   (abh r13.2.1).bind fun r14 =>
   some ((false, ()), (r14.2.1, y1, ()))
   else
   (aaV r13.2.1).bind fun r15 =>
   some ((false, ()), (r15.2.1, y1, ()))
  else
  if y0.line = 6 then
   if 0 < y0.count then
   (ab3 y0.worker y0.last).bind fun r16 =>
   (aaN y0 7 r16.1.1).bind fun r17 =>
   some ((false, ()), (r17.2.1, y1, ()))
   else
   (aaS y0).bind fun r18 =>
   some ((r18.1.1, ()), (r18.2.1, y1, ()))
  else
  (aaS y0).bind fun r19 =>
  some ((r19.1.1, ()), (r19.2.1, y1, ()))
 else
 if y0.line = 2 then
  (abh y0).bind fun r20 =>
  some ((false, ()), (r20.2.1, y1, ()))
 else
 if y0.line = 3 then
  if y2 = 2 then
   (aaV y0).bind fun r21 =>
   some ((false, ()), (r21.2.1, y1, ()))
  else
  if y0.line = 3 then
   (aaN ({ y0 with x := y3 } : (DrainV MV)) 4 MV.nil).bind fun r22 =>
   some ((false, ()), (r22.2.1, y1, ()))
  else
  if y0.line = 5 then
   (abX y0 y2).bind fun r23 =>
   if r23.2.1.direct = true then
   some ((false, ()), (r23.2.1, y1, ()))
   else
   if r23.2.1.count < y1.c.batch then
   (abh r23.2.1).bind fun r24 =>
   some ((false, ()), (r24.2.1, y1, ()))
   else
   (aaV r23.2.1).bind fun r25 =>
   some ((false, ()), (r25.2.1, y1, ()))
  else
  if y0.line = 6 then
   if 0 < y0.count then
   (ab3 y0.worker y0.last).bind fun r26 =>
   (aaN y0 7 r26.1.1).bind fun r27 =>
   some ((false, ()), (r27.2.1, y1, ()))
   else
   (aaS y0).bind fun r28 =>
   some ((r28.1.1, ()), (r28.2.1, y1, ()))
  else
  (aaS y0).bind fun r29 =>
  some ((r29.1.1, ()), (r29.2.1, y1, ()))
 else
 if y0.line = 3 then
  (aaN ({ y0 with x := y3 } : (DrainV MV)) 4 MV.nil).bind fun r30 =>
  some ((false, ()), (r30.2.1, y1, ()))
 else
 if y0.line = 5 then
  (abX y0 y2).bind fun r31 =>
  if r31.2.1.direct = true then
   some ((false, ()), (r31.2.1, y1, ()))
  else
  if r31.2.1.count < y1.c.batch then
   (abh r31.2.1).bind fun r32 =>
   some ((false, ()), (r32.2.1, y1, ()))
  else
  (aaV r31.2.1).bind fun r33 =>
  some ((false, ()), (r33.2.1, y1, ()))
 else
 if y0.line = 6 then
  if 0 < y0.count then
   (ab3 y0.worker y0.last).bind fun r34 =>
   (aaN y0 7 r34.1.1).bind fun r35 =>
   some ((false, ()), (r35.2.1, y1, ()))
  else
  (aaS y0).bind fun r36 =>
  some ((r36.1.1, ()), (r36.2.1, y1, ()))
 else
 (aaS y0).bind fun r37 =>
 some ((r37.1.1, ()), (r37.2.1, y1, ()))
noncomputable abbrev aeZ : Con SR1 := ⟨192, [.ref 39, .ref 27, .sh sI_, .sh sI_], [.sh .b], fun x => agh x.1 x.2.1 x.2.2.1 x.2.2.2.1⟩
theorem ahV : CO Tryz.prog aeZ := aar aaq Tryz.func192 [abq, aeq, acL, acl, aer, agy, aes] ⟨aaX, ag4, adM, acI, ag5, ag1, ag6, trivial⟩ [] trivial (fun _ => []) [] fun x => by kernel_rfl
noncomputable def aex (y0 : (DrainV MV)) (y1 : EnvP) : Option ((Bool × Unit) × ((DrainV MV) × EnvP × Unit)) :=
 (aaH y0.o).bind fun r1 =>
 if r1.1.1 = true then
  some ((true, ()), (({ y0 with o := r1.2.1 } : (DrainV MV)), y1, ()))
 else
 if y0.line = 1 then
  (amG y1.l).bind fun r2 =>
  (abz y1.m r2.1.1).bind fun r3 =>
  if (wi (r3.1.1)) ≤ 0 then
   (abi r1.2.1 2 0).bind fun r4 =>
   some ((r4.1.1, ()), (({ y0 with o := r4.2.1 } : (DrainV MV)), ({ y1 with m := r3.2.1 } : EnvP), ()))
  else
  (aqT y0.worker).bind fun r5 =>
  (aaN ({ y0 with o := r1.2.1 } : (DrainV MV)) 2 r5.1.1).bind fun r6 =>
  some ((false, ()), (r6.2.1, ({ y1 with m := r3.2.1 } : EnvP), ()))
 else
 if y0.line = 4 then
  (aed y1.l y0.x).bind fun r7 =>
  (abz y1.m r7.1.1).bind fun r8 =>
  (abG y0.worker (wi (r8.1.1)) y0.x).bind fun r9 =>
  (aaN ({ y0 with o := r1.2.1, p := wi (r8.1.1) } : (DrainV MV)) 5 r9.1.1).bind fun r10 =>
  some ((false, ()), (r10.2.1, ({ y1 with m := r8.2.1 } : EnvP), ()))
 else
 (ad4 y0.inside y1).bind fun r11 =>
 if (!r11.1.1) = true then
  some ((false, ()), (({ y0 with o := r1.2.1, inside := r11.2.1 } : (DrainV MV)), r11.2.2.1, ()))
 else
 (abR r11.2.1).bind fun r12 =>
 (agh ({ y0 with o := r1.2.1, inside := r12.2.1 } : (DrainV MV)) r11.2.2.1 r12.1.1 r12.1.2.1).bind fun r13 =>
 some ((r13.1.1, ()), (r13.2.1, r13.2.2.1, ()))
noncomputable abbrev aja : Con SR1 := ⟨188, [.ref 39, .ref 27], [.sh .b], fun x => aex x.1 x.2.1⟩
theorem aeY : CO Tryz.prog aja := aar aaq Tryz.func188 [aaW, ajk, aby, abq, amW, acl, aeo, acP, afb, adh, aeZ] ⟨aaL, ajP, abd, aaX, apH, acI, aec, ac0, aeH, adg, ahV, trivial⟩ [] trivial (fun _ => []) [] fun x => by kernel_rfl
noncomputable def adb (m : MV) (e : EnvP) : Option ((Bool × Unit) × (MV × EnvP × Unit)) :=
 match m with
 | .alloc x => (aa4 x e).bind fun o => some (o.1, (MV.alloc o.2.1, o.2.2))
 | .publish x => (aaZ x e).bind fun o => some (o.1, (MV.publish o.2.1, o.2.2))
 | .claim x => (abx x e).bind fun o => some (o.1, (MV.claim o.2.1, o.2.2))
 | .attempt x => (acj x e).bind fun o => some (o.1, (MV.attempt o.2.1, o.2.2))
 | .release x => (aci x e).bind fun o => some (o.1, (MV.release o.2.1, o.2.2))
 | .opush x => (abU x e).bind fun o => some (o.1, (MV.opush o.2.1, o.2.2))
 | .opop x => (adB x e).bind fun o => some (o.1, (MV.opop o.2.1, o.2.2))
 | .steal x => (acx x e).bind fun o => some (o.1, (MV.steal o.2.1, o.2.2))
 | .set x => (abV x e).bind fun o => some (o.1, (MV.set o.2.1, o.2.2))
 | .reset x => (acn x e).bind fun o => some (o.1, (MV.reset o.2.1, o.2.2))
 | .remove x => (abv x e).bind fun o => some (o.1, (MV.remove o.2.1, o.2.2))
 | .sleep x => (acX x e).bind fun o => some (o.1, (MV.sleep o.2.1, o.2.2))
 | .wake x => (abL x e).bind fun o => some (o.1, (MV.wake o.2.1, o.2.2))
 | .raise x => (abn x e).bind fun o => some (o.1, (MV.raise o.2.1, o.2.2))
 | .probe x => (acy x e).bind fun o => some (o.1, (MV.probe o.2.1, o.2.2))
 | .lpush x => (abm x e).bind fun o => some (o.1, (MV.lpush o.2.1, o.2.2))
 | .lpop x => (adW x e).bind fun o => some (o.1, (MV.lpop o.2.1, o.2.2))
 | .walk x => (aa8 x e).bind fun o => some (o.1, (MV.walk o.2.1, o.2.2))
 | .take x => (afV x e).bind fun o => some (o.1, (MV.take o.2.1, o.2.2))
 | .sweep x => (aeB x e).bind fun o => some (o.1, (MV.sweep o.2.1, o.2.2))
 | .enter x => (aa5 x e).bind fun o => some (o.1, (MV.enter o.2.1, o.2.2))
 | .drain x => (aex x e).bind fun o => some (o.1, (MV.drain o.2.1, o.2.2))
 | _ => none
noncomputable abbrev ajf : Con SR1 := ⟨1000000000, [.mch, .ref 27], [.sh .b], fun x => adb x.1 x.2.1⟩
theorem aju : CO Tryz.prog ajf := agi (S := SR1) (i := 0) (ps := [.ref 27]) (rs := [.sh .b]) (spec := fun m xs => adb m xs.1) fun m xs out h => by
  cases m with
  | alloc x => exact aah (S := SR1) (ps := [.ref 27]) (rs := [.sh .b]) (c := 34) (mk := MV.alloc) (fun _ => rfl) rfl (fun _ _ _ _ => by kernel_rfl) abE h
  | publish x => exact aah (S := SR1) (ps := [.ref 27]) (rs := [.sh .b]) (c := 48) (mk := MV.publish) (fun _ => rfl) rfl (fun _ _ _ _ => by kernel_rfl) abO h
  | claim x => exact aah (S := SR1) (ps := [.ref 27]) (rs := [.sh .b]) (c := 43) (mk := MV.claim) (fun _ => rfl) rfl (fun _ _ _ _ => by kernel_rfl) acp h
  | attempt x => exact aah (S := SR1) (ps := [.ref 27]) (rs := [.sh .b]) (c := 33) (mk := MV.attempt) (fun _ => rfl) rfl (fun _ _ _ _ => by kernel_rfl) ab5 h
  | release x => exact aah (S := SR1) (ps := [.ref 27]) (rs := [.sh .b]) (c := 35) (mk := MV.release) (fun _ => rfl) rfl (fun _ _ _ _ => by kernel_rfl) ab4 h
  | opush x => exact aah (S := SR1) (ps := [.ref 27]) (rs := [.sh .b]) (c := 51) (mk := MV.opush) (fun _ => rfl) rfl (fun _ _ _ _ => by kernel_rfl) acH h
  | opop x => exact aah (S := SR1) (ps := [.ref 27]) (rs := [.sh .b]) (c := 50) (mk := MV.opop) (fun _ => rfl) rfl (fun _ _ _ _ => by kernel_rfl) acZ h
  | steal x => exact aah (S := SR1) (ps := [.ref 27]) (rs := [.sh .b]) (c := 40) (mk := MV.steal) (fun _ => rfl) rfl (fun _ _ _ _ => by kernel_rfl) aco h
  | set x => exact aah (S := SR1) (ps := [.ref 27]) (rs := [.sh .b]) (c := 52) (mk := MV.set) (fun _ => rfl) rfl (fun _ _ _ _ => by kernel_rfl) acJ h
  | reset x => exact aah (S := SR1) (ps := [.ref 27]) (rs := [.sh .b]) (c := 41) (mk := MV.reset) (fun _ => rfl) rfl (fun _ _ _ _ => by kernel_rfl) ab7 h
  | remove x => exact aah (S := SR1) (ps := [.ref 27]) (rs := [.sh .b]) (c := 49) (mk := MV.remove) (fun _ => rfl) rfl (fun _ _ _ _ => by kernel_rfl) abu h
  | sleep x => exact aah (S := SR1) (ps := [.ref 27]) (rs := [.sh .b]) (c := 31) (mk := MV.sleep) (fun _ => rfl) rfl (fun _ _ _ _ => by kernel_rfl) acF h
  | wake x => exact aah (S := SR1) (ps := [.ref 27]) (rs := [.sh .b]) (c := 36) (mk := MV.wake) (fun _ => rfl) rfl (fun _ _ _ _ => by kernel_rfl) acW h
  | raise x => exact aah (S := SR1) (ps := [.ref 27]) (rs := [.sh .b]) (c := 53) (mk := MV.raise) (fun _ => rfl) rfl (fun _ _ _ _ => by kernel_rfl) acs h
  | probe x => exact aah (S := SR1) (ps := [.ref 27]) (rs := [.sh .b]) (c := 44) (mk := MV.probe) (fun _ => rfl) rfl (fun _ _ _ _ => by kernel_rfl) acq h
  | lpush x => exact aah (S := SR1) (ps := [.ref 27]) (rs := [.sh .b]) (c := 45) (mk := MV.lpush) (fun _ => rfl) rfl (fun _ _ _ _ => by kernel_rfl) adi h
  | lpop x => exact aah (S := SR1) (ps := [.ref 27]) (rs := [.sh .b]) (c := 42) (mk := MV.lpop) (fun _ => rfl) rfl (fun _ _ _ _ => by kernel_rfl) adI h
  | walk x => exact aah (S := SR1) (ps := [.ref 27]) (rs := [.sh .b]) (c := 46) (mk := MV.walk) (fun _ => rfl) rfl (fun _ _ _ _ => by kernel_rfl) afF h
  | take x => exact aah (S := SR1) (ps := [.ref 27]) (rs := [.sh .b]) (c := 37) (mk := MV.take) (fun _ => rfl) rfl (fun _ _ _ _ => by kernel_rfl) afU h
  | sweep x => exact aah (S := SR1) (ps := [.ref 27]) (rs := [.sh .b]) (c := 38) (mk := MV.sweep) (fun _ => rfl) rfl (fun _ _ _ _ => by kernel_rfl) ae4 h
  | enter x => exact aah (S := SR1) (ps := [.ref 27]) (rs := [.sh .b]) (c := 47) (mk := MV.enter) (fun _ => rfl) rfl (fun _ _ _ _ => by kernel_rfl) aeF h
  | drain x => exact aah (S := SR1) (ps := [.ref 27]) (rs := [.sh .b]) (c := 39) (mk := MV.drain) (fun _ => rfl) rfl (fun _ _ _ _ => by kernel_rfl) aeY h
  | _ => cases h
noncomputable def ab2 (m : MV) : Option ((Int × Int × Unit) × (MV × Unit)) :=
 match m with
 | .alloc x => some ((x.o.code, x.o.value, ()), (MV.alloc x, ()))
 | .publish x => some ((x.o.code, x.o.value, ()), (MV.publish x, ()))
 | .claim x => some ((x.o.code, x.o.value, ()), (MV.claim x, ()))
 | .attempt x => some ((x.o.code, x.o.value, ()), (MV.attempt x, ()))
 | .release x => some ((x.o.code, x.o.value, ()), (MV.release x, ()))
 | .opush x => some ((x.o.code, x.o.value, ()), (MV.opush x, ()))
 | .opop x => some ((x.o.code, x.o.value, ()), (MV.opop x, ()))
 | .steal x => some ((x.o.code, x.o.value, ()), (MV.steal x, ()))
 | .set x => some ((x.o.code, x.o.value, ()), (MV.set x, ()))
 | .reset x => some ((x.o.code, x.o.value, ()), (MV.reset x, ()))
 | .remove x => some ((x.o.code, x.o.value, ()), (MV.remove x, ()))
 | .sleep x => some ((x.o.code, x.o.value, ()), (MV.sleep x, ()))
 | .wake x => some ((x.o.code, x.o.value, ()), (MV.wake x, ()))
 | .raise x => some ((x.o.code, x.o.value, ()), (MV.raise x, ()))
 | .probe x => some ((x.o.code, x.o.value, ()), (MV.probe x, ()))
 | .lpush x => some ((x.o.code, x.o.value, ()), (MV.lpush x, ()))
 | .lpop x => some ((x.o.code, x.o.value, ()), (MV.lpop x, ()))
 | .walk x => some ((x.o.code, x.o.value, ()), (MV.walk x, ()))
 | .take x => some ((x.o.code, x.o.value, ()), (MV.take x, ()))
 | .sweep x => some ((x.o.code, x.o.value, ()), (MV.sweep x, ()))
 | .enter x => some ((x.o.code, x.o.value, ()), (MV.enter x, ()))
 | .drain x => some ((x.o.code, x.o.value, ()), (MV.drain x, ()))
 | _ => none
noncomputable abbrev aid : Con SR1 := ⟨1000000001, [.mch], [.sh sI_, .sh sI_], fun x => ab2 x.1⟩
theorem ajC : CO Tryz.prog aid := agi (S := SR1) (i := 1) (ps := []) (rs := [.sh sI_, .sh sI_]) (spec := fun m _ => ab2 m) fun m xs out h => by
  cases m with
  | alloc x => exact aah (S := SR1) (ps := []) (rs := [.sh sI_, .sh sI_]) (c := 34) (mk := MV.alloc) (f := 129) (sp := fun x => some ((x.1.o.code, x.1.o.value, ()), (x.1, ()))) (fun _ => rfl) rfl (fun _ _ _ _ => by kernel_rfl) (aak [aag] ⟨aad, trivial⟩ fun x => by kernel_rfl) h
  | publish x => exact aah (S := SR1) (ps := []) (rs := [.sh sI_, .sh sI_]) (c := 48) (mk := MV.publish) (f := 129) (sp := fun x => some ((x.1.o.code, x.1.o.value, ()), (x.1, ()))) (fun _ => rfl) rfl (fun _ _ _ _ => by kernel_rfl) (aak [aag] ⟨aad, trivial⟩ fun x => by kernel_rfl) h
  | claim x => exact aah (S := SR1) (ps := []) (rs := [.sh sI_, .sh sI_]) (c := 43) (mk := MV.claim) (f := 129) (sp := fun x => some ((x.1.o.code, x.1.o.value, ()), (x.1, ()))) (fun _ => rfl) rfl (fun _ _ _ _ => by kernel_rfl) (aak [aag] ⟨aad, trivial⟩ fun x => by kernel_rfl) h
  | attempt x => exact aah (S := SR1) (ps := []) (rs := [.sh sI_, .sh sI_]) (c := 33) (mk := MV.attempt) (f := 129) (sp := fun x => some ((x.1.o.code, x.1.o.value, ()), (x.1, ()))) (fun _ => rfl) rfl (fun _ _ _ _ => by kernel_rfl) (aak [aag] ⟨aad, trivial⟩ fun x => by kernel_rfl) h
  | release x => exact aah (S := SR1) (ps := []) (rs := [.sh sI_, .sh sI_]) (c := 35) (mk := MV.release) (f := 129) (sp := fun x => some ((x.1.o.code, x.1.o.value, ()), (x.1, ()))) (fun _ => rfl) rfl (fun _ _ _ _ => by kernel_rfl) (aak [aag] ⟨aad, trivial⟩ fun x => by kernel_rfl) h
  | opush x => exact aah (S := SR1) (ps := []) (rs := [.sh sI_, .sh sI_]) (c := 51) (mk := MV.opush) (f := 129) (sp := fun x => some ((x.1.o.code, x.1.o.value, ()), (x.1, ()))) (fun _ => rfl) rfl (fun _ _ _ _ => by kernel_rfl) (aak [aag] ⟨aad, trivial⟩ fun x => by kernel_rfl) h
  | opop x => exact aah (S := SR1) (ps := []) (rs := [.sh sI_, .sh sI_]) (c := 50) (mk := MV.opop) (f := 129) (sp := fun x => some ((x.1.o.code, x.1.o.value, ()), (x.1, ()))) (fun _ => rfl) rfl (fun _ _ _ _ => by kernel_rfl) (aak [aag] ⟨aad, trivial⟩ fun x => by kernel_rfl) h
  | steal x => exact aah (S := SR1) (ps := []) (rs := [.sh sI_, .sh sI_]) (c := 40) (mk := MV.steal) (f := 129) (sp := fun x => some ((x.1.o.code, x.1.o.value, ()), (x.1, ()))) (fun _ => rfl) rfl (fun _ _ _ _ => by kernel_rfl) (aak [aag] ⟨aad, trivial⟩ fun x => by kernel_rfl) h
  | set x => exact aah (S := SR1) (ps := []) (rs := [.sh sI_, .sh sI_]) (c := 52) (mk := MV.set) (f := 129) (sp := fun x => some ((x.1.o.code, x.1.o.value, ()), (x.1, ()))) (fun _ => rfl) rfl (fun _ _ _ _ => by kernel_rfl) (aak [aag] ⟨aad, trivial⟩ fun x => by kernel_rfl) h
  | reset x => exact aah (S := SR1) (ps := []) (rs := [.sh sI_, .sh sI_]) (c := 41) (mk := MV.reset) (f := 129) (sp := fun x => some ((x.1.o.code, x.1.o.value, ()), (x.1, ()))) (fun _ => rfl) rfl (fun _ _ _ _ => by kernel_rfl) (aak [aag] ⟨aad, trivial⟩ fun x => by kernel_rfl) h
  | remove x => exact aah (S := SR1) (ps := []) (rs := [.sh sI_, .sh sI_]) (c := 49) (mk := MV.remove) (f := 129) (sp := fun x => some ((x.1.o.code, x.1.o.value, ()), (x.1, ()))) (fun _ => rfl) rfl (fun _ _ _ _ => by kernel_rfl) (aak [aag] ⟨aad, trivial⟩ fun x => by kernel_rfl) h
  | sleep x => exact aah (S := SR1) (ps := []) (rs := [.sh sI_, .sh sI_]) (c := 31) (mk := MV.sleep) (f := 129) (sp := fun x => some ((x.1.o.code, x.1.o.value, ()), (x.1, ()))) (fun _ => rfl) rfl (fun _ _ _ _ => by kernel_rfl) (aak [aag] ⟨aad, trivial⟩ fun x => by kernel_rfl) h
  | wake x => exact aah (S := SR1) (ps := []) (rs := [.sh sI_, .sh sI_]) (c := 36) (mk := MV.wake) (f := 129) (sp := fun x => some ((x.1.o.code, x.1.o.value, ()), (x.1, ()))) (fun _ => rfl) rfl (fun _ _ _ _ => by kernel_rfl) (aak [aag] ⟨aad, trivial⟩ fun x => by kernel_rfl) h
  | raise x => exact aah (S := SR1) (ps := []) (rs := [.sh sI_, .sh sI_]) (c := 53) (mk := MV.raise) (f := 129) (sp := fun x => some ((x.1.o.code, x.1.o.value, ()), (x.1, ()))) (fun _ => rfl) rfl (fun _ _ _ _ => by kernel_rfl) (aak [aag] ⟨aad, trivial⟩ fun x => by kernel_rfl) h
  | probe x => exact aah (S := SR1) (ps := []) (rs := [.sh sI_, .sh sI_]) (c := 44) (mk := MV.probe) (f := 129) (sp := fun x => some ((x.1.o.code, x.1.o.value, ()), (x.1, ()))) (fun _ => rfl) rfl (fun _ _ _ _ => by kernel_rfl) (aak [aag] ⟨aad, trivial⟩ fun x => by kernel_rfl) h
  | lpush x => exact aah (S := SR1) (ps := []) (rs := [.sh sI_, .sh sI_]) (c := 45) (mk := MV.lpush) (f := 129) (sp := fun x => some ((x.1.o.code, x.1.o.value, ()), (x.1, ()))) (fun _ => rfl) rfl (fun _ _ _ _ => by kernel_rfl) (aak [aag] ⟨aad, trivial⟩ fun x => by kernel_rfl) h
  | lpop x => exact aah (S := SR1) (ps := []) (rs := [.sh sI_, .sh sI_]) (c := 42) (mk := MV.lpop) (f := 129) (sp := fun x => some ((x.1.o.code, x.1.o.value, ()), (x.1, ()))) (fun _ => rfl) rfl (fun _ _ _ _ => by kernel_rfl) (aak [aag] ⟨aad, trivial⟩ fun x => by kernel_rfl) h
  | walk x => exact aah (S := SR1) (ps := []) (rs := [.sh sI_, .sh sI_]) (c := 46) (mk := MV.walk) (f := 129) (sp := fun x => some ((x.1.o.code, x.1.o.value, ()), (x.1, ()))) (fun _ => rfl) rfl (fun _ _ _ _ => by kernel_rfl) (aak [aag] ⟨aad, trivial⟩ fun x => by kernel_rfl) h
  | take x => exact aah (S := SR1) (ps := []) (rs := [.sh sI_, .sh sI_]) (c := 37) (mk := MV.take) (f := 129) (sp := fun x => some ((x.1.o.code, x.1.o.value, ()), (x.1, ()))) (fun _ => rfl) rfl (fun _ _ _ _ => by kernel_rfl) (aak [aag] ⟨aad, trivial⟩ fun x => by kernel_rfl) h
  | sweep x => exact aah (S := SR1) (ps := []) (rs := [.sh sI_, .sh sI_]) (c := 38) (mk := MV.sweep) (f := 129) (sp := fun x => some ((x.1.o.code, x.1.o.value, ()), (x.1, ()))) (fun _ => rfl) rfl (fun _ _ _ _ => by kernel_rfl) (aak [aag] ⟨aad, trivial⟩ fun x => by kernel_rfl) h
  | enter x => exact aah (S := SR1) (ps := []) (rs := [.sh sI_, .sh sI_]) (c := 47) (mk := MV.enter) (f := 129) (sp := fun x => some ((x.1.o.code, x.1.o.value, ()), (x.1, ()))) (fun _ => rfl) rfl (fun _ _ _ _ => by kernel_rfl) (aak [aag] ⟨aad, trivial⟩ fun x => by kernel_rfl) h
  | drain x => exact aah (S := SR1) (ps := []) (rs := [.sh sI_, .sh sI_]) (c := 39) (mk := MV.drain) (f := 129) (sp := fun x => some ((x.1.o.code, x.1.o.value, ()), (x.1, ()))) (fun _ => rfl) rfl (fun _ _ _ _ => by kernel_rfl) (aak [aag] ⟨aad, trivial⟩ fun x => by kernel_rfl) h
  | _ => cases h
noncomputable def acV (y0 : (RunV MV)) (y1 : EnvP) : Option ((Int × Unit) × ((RunV MV) × EnvP × Unit)) :=
 if 0 ≤ wi (((y0.stack.length : Nat) : Int) - 1) ∧ wi (((y0.stack.length : Nat) : Int) - 1) < ((y0.stack.length : Nat) : Int) then
  if 0 ≤ aae y0.stack (wi (((y0.stack.length : Nat) : Int) - 1)) ∧ aae y0.stack (wi (((y0.stack.length : Nat) : Int) - 1)) < ((y1.recs.length : Nat) : Int) then
   if 0 ≤ wi (((y0.stack.length : Nat) : Int) - 1) ∧ wi (((y0.stack.length : Nat) : Int) - 1) < ((y0.stack.length : Nat) : Int) then
   if 0 ≤ aae y0.stack (wi (((y0.stack.length : Nat) : Int) - 1)) ∧ aae y0.stack (wi (((y0.stack.length : Nat) : Int) - 1)) < ((y1.recs.length : Nat) : Int) then
   if ((aab y1.recs (aae y0.stack (wi (((y0.stack.length : Nat) : Int) - 1)))).prog) < 0 then
   if ((aab y1.recs (aae y0.stack (wi (((y0.stack.length : Nat) : Int) - 1)))).waiting) ≠ (-1) then
   some ((1, ()), (y0, y1, ()))
   else
   if ((aab y1.recs (aae y0.stack (wi (((y0.stack.length : Nat) : Int) - 1)))).pc) < 0 then
   some ((16, ()), (y0, y1, ()))
   else
   if 0 ≤ ((aab y1.recs (aae y0.stack (wi (((y0.stack.length : Nat) : Int) - 1)))).pc) then
   some ((16, ()), (y0, y1, ()))
   else
   none
   else
   if ((y1.c.progs.length : Nat) : Int) ≤ ((aab y1.recs (aae y0.stack (wi (((y0.stack.length : Nat) : Int) - 1)))).prog) then
   if ((aab y1.recs (aae y0.stack (wi (((y0.stack.length : Nat) : Int) - 1)))).waiting) ≠ (-1) then
   some ((1, ()), (y0, y1, ()))
   else
   if ((aab y1.recs (aae y0.stack (wi (((y0.stack.length : Nat) : Int) - 1)))).pc) < 0 then
   some ((16, ()), (y0, y1, ()))
   else
   if 0 ≤ ((aab y1.recs (aae y0.stack (wi (((y0.stack.length : Nat) : Int) - 1)))).pc) then
   some ((16, ()), (y0, y1, ()))
   else
   none
   else
   if 0 ≤ (aab y1.recs (aae y0.stack (wi (((y0.stack.length : Nat) : Int) - 1)))).prog ∧ (aab y1.recs (aae y0.stack (wi (((y0.stack.length : Nat) : Int) - 1)))).prog < ((y1.c.progs.length : Nat) : Int) then
   if ((aab y1.recs (aae y0.stack (wi (((y0.stack.length : Nat) : Int) - 1)))).waiting) ≠ (-1) then
   some ((1, ()), (y0, y1, ()))
   else
   if ((aab y1.recs (aae y0.stack (wi (((y0.stack.length : Nat) : Int) - 1)))).pc) < 0 then
   some ((16, ()), (y0, y1, ()))
   else
   if (((atL [] y1.c.progs ((aab y1.recs (aae y0.stack (wi (((y0.stack.length : Nat) : Int) - 1)))).prog)).length : Nat) : Int) ≤ ((aab y1.recs (aae y0.stack (wi (((y0.stack.length : Nat) : Int) - 1)))).pc) then
   some ((16, ()), (y0, y1, ()))
   else
   if 0 ≤ (aab y1.recs (aae y0.stack (wi (((y0.stack.length : Nat) : Int) - 1)))).pc ∧ (aab y1.recs (aae y0.stack (wi (((y0.stack.length : Nat) : Int) - 1)))).pc < (((atL [] y1.c.progs ((aab y1.recs (aae y0.stack (wi (((y0.stack.length : Nat) : Int) - 1)))).prog)).length : Nat) : Int) then
   if ((aaY (atL [] y1.c.progs ((aab y1.recs (aae y0.stack (wi (((y0.stack.length : Nat) : Int) - 1)))).prog)) ((aab y1.recs (aae y0.stack (wi (((y0.stack.length : Nat) : Int) - 1)))).pc)).op) = 0 then
   some ((2, ()), (y0, y1, ()))
   else
   if 0 ≤ (aab y1.recs (aae y0.stack (wi (((y0.stack.length : Nat) : Int) - 1)))).pc ∧ (aab y1.recs (aae y0.stack (wi (((y0.stack.length : Nat) : Int) - 1)))).pc < (((atL [] y1.c.progs ((aab y1.recs (aae y0.stack (wi (((y0.stack.length : Nat) : Int) - 1)))).prog)).length : Nat) : Int) then
   if ((aaY (atL [] y1.c.progs ((aab y1.recs (aae y0.stack (wi (((y0.stack.length : Nat) : Int) - 1)))).prog)) ((aab y1.recs (aae y0.stack (wi (((y0.stack.length : Nat) : Int) - 1)))).pc)).op) = 1 then
   some ((4, ()), (y0, y1, ()))
   else
   if 0 ≤ (aab y1.recs (aae y0.stack (wi (((y0.stack.length : Nat) : Int) - 1)))).pc ∧ (aab y1.recs (aae y0.stack (wi (((y0.stack.length : Nat) : Int) - 1)))).pc < (((atL [] y1.c.progs ((aab y1.recs (aae y0.stack (wi (((y0.stack.length : Nat) : Int) - 1)))).prog)).length : Nat) : Int) then
   if ((aaY (atL [] y1.c.progs ((aab y1.recs (aae y0.stack (wi (((y0.stack.length : Nat) : Int) - 1)))).prog)) ((aab y1.recs (aae y0.stack (wi (((y0.stack.length : Nat) : Int) - 1)))).pc)).a) < 0 then
   some ((3, ()), (y0, y1, ()))
   else
   if ((((aab y1.recs (aae y0.stack (wi (((y0.stack.length : Nat) : Int) - 1)))).kids).length : Nat) : Int) ≤ ((aaY (atL [] y1.c.progs ((aab y1.recs (aae y0.stack (wi (((y0.stack.length : Nat) : Int) - 1)))).prog)) ((aab y1.recs (aae y0.stack (wi (((y0.stack.length : Nat) : Int) - 1)))).pc)).a) then
   some ((3, ()), (y0, ({ y1 with recs := y1.recs.set (aae y0.stack (wi (((y0.stack.length : Nat) : Int) - 1))).toNat (aab y1.recs (aae y0.stack (wi (((y0.stack.length : Nat) : Int) - 1)))) } : EnvP), ()))
   else
   if 0 ≤ (aaY (atL [] y1.c.progs ((aab y1.recs (aae y0.stack (wi (((y0.stack.length : Nat) : Int) - 1)))).prog)) ((aab y1.recs (aae y0.stack (wi (((y0.stack.length : Nat) : Int) - 1)))).pc)).a ∧ (aaY (atL [] y1.c.progs ((aab y1.recs (aae y0.stack (wi (((y0.stack.length : Nat) : Int) - 1)))).prog)) ((aab y1.recs (aae y0.stack (wi (((y0.stack.length : Nat) : Int) - 1)))).pc)).a < ((((aab y1.recs (aae y0.stack (wi (((y0.stack.length : Nat) : Int) - 1)))).kids).length : Nat) : Int) then
   if (aae ((aab y1.recs (aae y0.stack (wi (((y0.stack.length : Nat) : Int) - 1)))).kids) ((aaY (atL [] y1.c.progs ((aab y1.recs (aae y0.stack (wi (((y0.stack.length : Nat) : Int) - 1)))).prog)) ((aab y1.recs (aae y0.stack (wi (((y0.stack.length : Nat) : Int) - 1)))).pc)).a)) = (-1) then
   some ((3, ()), (y0, ({ y1 with recs := y1.recs.set (aae y0.stack (wi (((y0.stack.length : Nat) : Int) - 1))).toNat (aab y1.recs (aae y0.stack (wi (((y0.stack.length : Nat) : Int) - 1)))) } : EnvP), ()))
   else
   some ((9, ()), (y0, ({ y1 with recs := y1.recs.set (aae y0.stack (wi (((y0.stack.length : Nat) : Int) - 1))).toNat (aab y1.recs (aae y0.stack (wi (((y0.stack.length : Nat) : Int) - 1)))) } : EnvP), ()))
   else none
   else none
   else none
   else none
   else none
   else none
   else none
  else none
 else none
noncomputable abbrev aeP : Con SR1 := ⟨133, [.ref 32, .ref 27], [.sh sI_], fun x => acV x.1 x.2.1⟩
noncomputable def ahp : List (Nat × Func) := [(138, Tryz.f138), (131, Tryz.f131), (139, Tryz.f139)]
theorem ahq : CO Tryz.prog aeP := aar aaq Tryz.func133 [] trivial ahp ⟨Tryz.func138, Tryz.func131, Tryz.func139, trivial⟩ (fun _ => []) [] fun x => by kernel_rfl
noncomputable def adT  : Option ((MV × Unit) × (Unit)) :=
 some ((MV.alloc (⟨⟨false, 0, 0⟩⟩ : AllocV), ()), (()))
noncomputable abbrev ad3 : Con SR1 := ⟨32, [], [.sh .mach], fun x => adT ⟩
theorem afy : CO Tryz.prog ad3 := aar aaq Tryz.func32 [] trivial [] trivial (fun _ => []) [] fun x => by kernel_rfl
noncomputable def aac (y0 : (RunV MV)) (y1 : Int) (y2 : MV) : Option ((Bool × Unit) × ((RunV MV) × Unit)) :=
 some ((false, ()), (({ y0 with line := y1, inside := y2 } : (RunV MV)), ()))
noncomputable abbrev abQ : Con SR1 := ⟨142, [.ref 32, .sh sI_, .sh .mach], [.sh .b], fun x => aac x.1 x.2.1 x.2.2.1⟩
theorem abZ : CO Tryz.prog abQ := aar aaq Tryz.func142 [] trivial [] trivial (fun _ => []) [] fun x => by kernel_rfl
noncomputable def aav (y0 : (RunV MV)) (y1 : EnvP) : Option ((Bool × Unit) × ((RunV MV) × EnvP × Unit)) :=
 if 0 ≤ wi (((y0.stack.length : Nat) : Int) - 1) ∧ wi (((y0.stack.length : Nat) : Int) - 1) < ((y0.stack.length : Nat) : Int) then
  if 0 ≤ aae y0.stack (wi (((y0.stack.length : Nat) : Int) - 1)) ∧ aae y0.stack (wi (((y0.stack.length : Nat) : Int) - 1)) < ((y1.recs.length : Nat) : Int) then
   if y0.line = 1 then
   if 0 ≤ wi (((y0.stack.length : Nat) : Int) - 1) ∧ wi (((y0.stack.length : Nat) : Int) - 1) < ((y0.stack.length : Nat) : Int) then
   if y1.l.workers = y1.l.workers then
   if y1.l.levels = y1.l.levels then
   if y1.l.classes = y1.l.classes then
   if y1.l.tasks = y1.l.tasks then
   if y1.l.deque = y1.l.deque then
   if y1.l.heap = y1.l.heap then
   if y1.l.sleepers = y1.l.sleepers then
   if y1.l.epochs = y1.l.epochs then
   if y1.l.bitmaps = y1.l.bitmaps then
   if y1.l.queues = y1.l.queues then
   if y1.l.table = y1.l.table then
   (af7 y1.l (aae y0.stack (wi (((y0.stack.length : Nat) : Int) - 1)))).bind fun r1 =>
   (aa0 y1.m r1.1.1 0).bind fun r2 =>
   (aac y0 0 MV.nil).bind fun r3 =>
   some ((r3.1.1, ()), (r3.2.1, ({ y1 with m := r2.2.1, recs := y1.recs.set (aae y0.stack (wi (((y0.stack.length : Nat) : Int) - 1))).toNat ({ aab y1.recs (aae y0.stack (wi (((y0.stack.length : Nat) : Int) - 1))) with waiting := (-1) } : RecP) } : EnvP), ()))
   else none
   else none
   else none
   else none
   else none
   else none
   else none
   else none
   else none
   else none
   else none
   else none
   else
   if y0.line = 2 then
   if ((aab y1.recs (aae y0.stack (wi (((y0.stack.length : Nat) : Int) - 1)))).left) = 0 then
   if 0 ≤ wi (((y0.stack.length : Nat) : Int) - 1) ∧ wi (((y0.stack.length : Nat) : Int) - 1) < ((y0.stack.length : Nat) : Int) then
   if 0 ≤ aae y0.stack (wi (((y0.stack.length : Nat) : Int) - 1)) ∧ aae y0.stack (wi (((y0.stack.length : Nat) : Int) - 1)) < ((y1.recs.length : Nat) : Int) then
   if ((aab y1.recs (aae y0.stack (wi (((y0.stack.length : Nat) : Int) - 1)))).prog) < 0 then
   if 0 ≤ wi (((y0.stack.length : Nat) : Int) - 1) ∧ wi (((y0.stack.length : Nat) : Int) - 1) < ((y0.stack.length : Nat) : Int) then
   if 0 ≤ aae y0.stack (wi (((y0.stack.length : Nat) : Int) - 1)) ∧ aae y0.stack (wi (((y0.stack.length : Nat) : Int) - 1)) < ((y1.recs.length : Nat) : Int) then
   none
   else none
   else none
   else
   if ((y1.c.progs.length : Nat) : Int) ≤ ((aab y1.recs (aae y0.stack (wi (((y0.stack.length : Nat) : Int) - 1)))).prog) then
   if 0 ≤ wi (((y0.stack.length : Nat) : Int) - 1) ∧ wi (((y0.stack.length : Nat) : Int) - 1) < ((y0.stack.length : Nat) : Int) then
   if 0 ≤ aae y0.stack (wi (((y0.stack.length : Nat) : Int) - 1)) ∧ aae y0.stack (wi (((y0.stack.length : Nat) : Int) - 1)) < ((y1.recs.length : Nat) : Int) then
   none
   else none
   else none
   else
   if 0 ≤ (aab y1.recs (aae y0.stack (wi (((y0.stack.length : Nat) : Int) - 1)))).prog ∧ (aab y1.recs (aae y0.stack (wi (((y0.stack.length : Nat) : Int) - 1)))).prog < ((y1.c.progs.length : Nat) : Int) then
   if 0 ≤ wi (((y0.stack.length : Nat) : Int) - 1) ∧ wi (((y0.stack.length : Nat) : Int) - 1) < ((y0.stack.length : Nat) : Int) then
   if 0 ≤ aae y0.stack (wi (((y0.stack.length : Nat) : Int) - 1)) ∧ aae y0.stack (wi (((y0.stack.length : Nat) : Int) - 1)) < ((y1.recs.length : Nat) : Int) then
   if 0 ≤ (aab y1.recs (aae y0.stack (wi (((y0.stack.length : Nat) : Int) - 1)))).pc ∧ (aab y1.recs (aae y0.stack (wi (((y0.stack.length : Nat) : Int) - 1)))).pc < (((atL [] y1.c.progs ((aab y1.recs (aae y0.stack (wi (((y0.stack.length : Nat) : Int) - 1)))).prog)).length : Nat) : Int) then
   if ((aab ((y1.recs.set (aae y0.stack (wi (((y0.stack.length : Nat) : Int) - 1))).toNat ({ aab y1.recs (aae y0.stack (wi (((y0.stack.length : Nat) : Int) - 1))) with left := (aaY (atL [] y1.c.progs ((aab y1.recs (aae y0.stack (wi (((y0.stack.length : Nat) : Int) - 1)))).prog)) ((aab y1.recs (aae y0.stack (wi (((y0.stack.length : Nat) : Int) - 1)))).pc)).a } : RecP)).set (aae y0.stack (wi (((y0.stack.length : Nat) : Int) - 1))).toNat ({ aab (y1.recs.set (aae y0.stack (wi (((y0.stack.length : Nat) : Int) - 1))).toNat ({ aab y1.recs (aae y0.stack (wi (((y0.stack.length : Nat) : Int) - 1))) with left := (aaY (atL [] y1.c.progs ((aab y1.recs (aae y0.stack (wi (((y0.stack.length : Nat) : Int) - 1)))).prog)) ((aab y1.recs (aae y0.stack (wi (((y0.stack.length : Nat) : Int) - 1)))).pc)).a } : RecP)) (aae y0.stack (wi (((y0.stack.length : Nat) : Int) - 1))) with left := wi (((aab (y1.recs.set (aae y0.stack (wi (((y0.stack.length : Nat) : Int) - 1))).toNat ({ aab y1.recs (aae y0.stack (wi (((y0.stack.length : Nat) : Int) - 1))) with left := (aaY (atL [] y1.c.progs ((aab y1.recs (aae y0.stack (wi (((y0.stack.length : Nat) : Int) - 1)))).prog)) ((aab y1.recs (aae y0.stack (wi (((y0.stack.length : Nat) : Int) - 1)))).pc)).a } : RecP)) (aae y0.stack (wi (((y0.stack.length : Nat) : Int) - 1)))).left) - 1) } : RecP)) (aae y0.stack (wi (((y0.stack.length : Nat) : Int) - 1)))).left) = 0 then
   (aac y0 0 MV.nil).bind fun r4 =>
   some ((r4.1.1, ()), (r4.2.1, ({ y1 with recs := ((y1.recs.set (aae y0.stack (wi (((y0.stack.length : Nat) : Int) - 1))).toNat ({ aab y1.recs (aae y0.stack (wi (((y0.stack.length : Nat) : Int) - 1))) with left := (aaY (atL [] y1.c.progs ((aab y1.recs (aae y0.stack (wi (((y0.stack.length : Nat) : Int) - 1)))).prog)) ((aab y1.recs (aae y0.stack (wi (((y0.stack.length : Nat) : Int) - 1)))).pc)).a } : RecP)).set (aae y0.stack (wi (((y0.stack.length : Nat) : Int) - 1))).toNat ({ aab (y1.recs.set (aae y0.stack (wi (((y0.stack.length : Nat) : Int) - 1))).toNat ({ aab y1.recs (aae y0.stack (wi (((y0.stack.length : Nat) : Int) - 1))) with left := (aaY (atL [] y1.c.progs ((aab y1.recs (aae y0.stack (wi (((y0.stack.length : Nat) : Int) - 1)))).prog)) ((aab y1.recs (aae y0.stack (wi (((y0.stack.length : Nat) : Int) - 1)))).pc)).a } : RecP)) (aae y0.stack (wi (((y0.stack.length : Nat) : Int) - 1))) with left := wi (((aab (y1.recs.set (aae y0.stack (wi (((y0.stack.length : Nat) : Int) - 1))).toNat ({ aab y1.recs (aae y0.stack (wi (((y0.stack.length : Nat) : Int) - 1))) with left := (aaY (atL [] y1.c.progs ((aab y1.recs (aae y0.stack (wi (((y0.stack.length : Nat) : Int) - 1)))).prog)) ((aab y1.recs (aae y0.stack (wi (((y0.stack.length : Nat) : Int) - 1)))).pc)).a } : RecP)) (aae y0.stack (wi (((y0.stack.length : Nat) : Int) - 1)))).left) - 1) } : RecP)).set (aae y0.stack (wi (((y0.stack.length : Nat) : Int) - 1))).toNat ({ aab ((y1.recs.set (aae y0.stack (wi (((y0.stack.length : Nat) : Int) - 1))).toNat ({ aab y1.recs (aae y0.stack (wi (((y0.stack.length : Nat) : Int) - 1))) with left := (aaY (atL [] y1.c.progs ((aab y1.recs (aae y0.stack (wi (((y0.stack.length : Nat) : Int) - 1)))).prog)) ((aab y1.recs (aae y0.stack (wi (((y0.stack.length : Nat) : Int) - 1)))).pc)).a } : RecP)).set (aae y0.stack (wi (((y0.stack.length : Nat) : Int) - 1))).toNat ({ aab (y1.recs.set (aae y0.stack (wi (((y0.stack.length : Nat) : Int) - 1))).toNat ({ aab y1.recs (aae y0.stack (wi (((y0.stack.length : Nat) : Int) - 1))) with left := (aaY (atL [] y1.c.progs ((aab y1.recs (aae y0.stack (wi (((y0.stack.length : Nat) : Int) - 1)))).prog)) ((aab y1.recs (aae y0.stack (wi (((y0.stack.length : Nat) : Int) - 1)))).pc)).a } : RecP)) (aae y0.stack (wi (((y0.stack.length : Nat) : Int) - 1))) with left := wi (((aab (y1.recs.set (aae y0.stack (wi (((y0.stack.length : Nat) : Int) - 1))).toNat ({ aab y1.recs (aae y0.stack (wi (((y0.stack.length : Nat) : Int) - 1))) with left := (aaY (atL [] y1.c.progs ((aab y1.recs (aae y0.stack (wi (((y0.stack.length : Nat) : Int) - 1)))).prog)) ((aab y1.recs (aae y0.stack (wi (((y0.stack.length : Nat) : Int) - 1)))).pc)).a } : RecP)) (aae y0.stack (wi (((y0.stack.length : Nat) : Int) - 1)))).left) - 1) } : RecP)) (aae y0.stack (wi (((y0.stack.length : Nat) : Int) - 1))) with pc := wi (((aab ((y1.recs.set (aae y0.stack (wi (((y0.stack.length : Nat) : Int) - 1))).toNat ({ aab y1.recs (aae y0.stack (wi (((y0.stack.length : Nat) : Int) - 1))) with left := (aaY (atL [] y1.c.progs ((aab y1.recs (aae y0.stack (wi (((y0.stack.length : Nat) : Int) - 1)))).prog)) ((aab y1.recs (aae y0.stack (wi (((y0.stack.length : Nat) : Int) - 1)))).pc)).a } : RecP)).set (aae y0.stack (wi (((y0.stack.length : Nat) : Int) - 1))).toNat ({ aab (y1.recs.set (aae y0.stack (wi (((y0.stack.length : Nat) : Int) - 1))).toNat ({ aab y1.recs (aae y0.stack (wi (((y0.stack.length : Nat) : Int) - 1))) with left := (aaY (atL [] y1.c.progs ((aab y1.recs (aae y0.stack (wi (((y0.stack.length : Nat) : Int) - 1)))).prog)) ((aab y1.recs (aae y0.stack (wi (((y0.stack.length : Nat) : Int) - 1)))).pc)).a } : RecP)) (aae y0.stack (wi (((y0.stack.length : Nat) : Int) - 1))) with left := wi (((aab (y1.recs.set (aae y0.stack (wi (((y0.stack.length : Nat) : Int) - 1))).toNat ({ aab y1.recs (aae y0.stack (wi (((y0.stack.length : Nat) : Int) - 1))) with left := (aaY (atL [] y1.c.progs ((aab y1.recs (aae y0.stack (wi (((y0.stack.length : Nat) : Int) - 1)))).prog)) ((aab y1.recs (aae y0.stack (wi (((y0.stack.length : Nat) : Int) - 1)))).pc)).a } : RecP)) (aae y0.stack (wi (((y0.stack.length : Nat) : Int) - 1)))).left) - 1) } : RecP)) (aae y0.stack (wi (((y0.stack.length : Nat) : Int) - 1)))).pc) + 1) } : RecP) } : EnvP), ()))
   else
   (aac y0 0 MV.nil).bind fun r5 =>
   some ((r5.1.1, ()), (r5.2.1, ({ y1 with recs := (y1.recs.set (aae y0.stack (wi (((y0.stack.length : Nat) : Int) - 1))).toNat ({ aab y1.recs (aae y0.stack (wi (((y0.stack.length : Nat) : Int) - 1))) with left := (aaY (atL [] y1.c.progs ((aab y1.recs (aae y0.stack (wi (((y0.stack.length : Nat) : Int) - 1)))).prog)) ((aab y1.recs (aae y0.stack (wi (((y0.stack.length : Nat) : Int) - 1)))).pc)).a } : RecP)).set (aae y0.stack (wi (((y0.stack.length : Nat) : Int) - 1))).toNat ({ aab (y1.recs.set (aae y0.stack (wi (((y0.stack.length : Nat) : Int) - 1))).toNat ({ aab y1.recs (aae y0.stack (wi (((y0.stack.length : Nat) : Int) - 1))) with left := (aaY (atL [] y1.c.progs ((aab y1.recs (aae y0.stack (wi (((y0.stack.length : Nat) : Int) - 1)))).prog)) ((aab y1.recs (aae y0.stack (wi (((y0.stack.length : Nat) : Int) - 1)))).pc)).a } : RecP)) (aae y0.stack (wi (((y0.stack.length : Nat) : Int) - 1))) with left := wi (((aab (y1.recs.set (aae y0.stack (wi (((y0.stack.length : Nat) : Int) - 1))).toNat ({ aab y1.recs (aae y0.stack (wi (((y0.stack.length : Nat) : Int) - 1))) with left := (aaY (atL [] y1.c.progs ((aab y1.recs (aae y0.stack (wi (((y0.stack.length : Nat) : Int) - 1)))).prog)) ((aab y1.recs (aae y0.stack (wi (((y0.stack.length : Nat) : Int) - 1)))).pc)).a } : RecP)) (aae y0.stack (wi (((y0.stack.length : Nat) : Int) - 1)))).left) - 1) } : RecP) } : EnvP), ()))
   else none
   else none
   else none
   else none
   else none
   else none
   else
   if ((aab (y1.recs.set (aae y0.stack (wi (((y0.stack.length : Nat) : Int) - 1))).toNat ({ aab y1.recs (aae y0.stack (wi (((y0.stack.length : Nat) : Int) - 1))) with left := wi (((aab y1.recs (aae y0.stack (wi (((y0.stack.length : Nat) : Int) - 1)))).left) - 1) } : RecP)) (aae y0.stack (wi (((y0.stack.length : Nat) : Int) - 1)))).left) = 0 then
   (aac y0 0 MV.nil).bind fun r6 =>
   some ((r6.1.1, ()), (r6.2.1, ({ y1 with recs := (y1.recs.set (aae y0.stack (wi (((y0.stack.length : Nat) : Int) - 1))).toNat ({ aab y1.recs (aae y0.stack (wi (((y0.stack.length : Nat) : Int) - 1))) with left := wi (((aab y1.recs (aae y0.stack (wi (((y0.stack.length : Nat) : Int) - 1)))).left) - 1) } : RecP)).set (aae y0.stack (wi (((y0.stack.length : Nat) : Int) - 1))).toNat ({ aab (y1.recs.set (aae y0.stack (wi (((y0.stack.length : Nat) : Int) - 1))).toNat ({ aab y1.recs (aae y0.stack (wi (((y0.stack.length : Nat) : Int) - 1))) with left := wi (((aab y1.recs (aae y0.stack (wi (((y0.stack.length : Nat) : Int) - 1)))).left) - 1) } : RecP)) (aae y0.stack (wi (((y0.stack.length : Nat) : Int) - 1))) with pc := wi (((aab (y1.recs.set (aae y0.stack (wi (((y0.stack.length : Nat) : Int) - 1))).toNat ({ aab y1.recs (aae y0.stack (wi (((y0.stack.length : Nat) : Int) - 1))) with left := wi (((aab y1.recs (aae y0.stack (wi (((y0.stack.length : Nat) : Int) - 1)))).left) - 1) } : RecP)) (aae y0.stack (wi (((y0.stack.length : Nat) : Int) - 1)))).pc) + 1) } : RecP) } : EnvP), ()))
   else
   (aac y0 0 MV.nil).bind fun r7 =>
   some ((r7.1.1, ()), (r7.2.1, ({ y1 with recs := y1.recs.set (aae y0.stack (wi (((y0.stack.length : Nat) : Int) - 1))).toNat ({ aab y1.recs (aae y0.stack (wi (((y0.stack.length : Nat) : Int) - 1))) with left := wi (((aab y1.recs (aae y0.stack (wi (((y0.stack.length : Nat) : Int) - 1)))).left) - 1) } : RecP) } : EnvP), ()))
   else
   (aac y0 0 MV.nil).bind fun r8 =>
   some ((r8.1.1, ()), (r8.2.1, ({ y1 with recs := y1.recs.set (aae y0.stack (wi (((y0.stack.length : Nat) : Int) - 1))).toNat ({ aab y1.recs (aae y0.stack (wi (((y0.stack.length : Nat) : Int) - 1))) with pc := wi (((aab y1.recs (aae y0.stack (wi (((y0.stack.length : Nat) : Int) - 1)))).pc) + 1) } : RecP) } : EnvP), ()))
  else none
 else none
noncomputable abbrev aeL : Con SR1 := ⟨134, [.ref 32, .ref 27], [.sh .b], fun x => aav x.1 x.2.1⟩
noncomputable def ahj : List (Nat × Func) := [(138, Tryz.f138), (131, Tryz.f131), (141, Tryz.f141), (139, Tryz.f139)]
theorem ahk : CO Tryz.prog aeL := aar aaq Tryz.func134 [aji, acG, abQ] ⟨ajM, acg, abZ, trivial⟩ ahj ⟨Tryz.func138, Tryz.func131, Tryz.func141, Tryz.func139, trivial⟩ (fun _ => []) [] fun x => by kernel_rfl
noncomputable def aaw (y0 : (RunV MV)) (y1 : EnvP) (y2 : Ev) : Option ((Unit) × ((RunV MV) × EnvP × Unit)) :=
 (aei y1 ({ y2 with worker := y0.worker } : Ev)).bind fun r1 =>
 some ((()), (y0, r1.2.1, ()))
noncomputable abbrev ace : Con SR1 := ⟨144, [.ref 32, .ref 27, .val 2], [], fun x => aaw x.1 x.2.1 x.2.2.1⟩
theorem acE : CO Tryz.prog ace := aar aaq Tryz.func144 [aew] ⟨adV, trivial⟩ [] trivial (fun _ => []) [] fun x => by kernel_rfl
noncomputable def aek (y0 : Int) (y1 : Int) : Option ((MV × Unit) × (Unit)) :=
 some ((MV.publish (⟨⟨false, 0, 0⟩, y0, y1, 1⟩ : PublishV), ()), (()))
noncomputable abbrev aet : Con SR1 := ⟨33, [.sh sI_, .sh sI_], [.sh .mach], fun x => aek x.1 x.2.1⟩
theorem afW : CO Tryz.prog aet := aar aaq Tryz.func33 [] trivial [] trivial (fun _ => []) [] fun x => by kernel_rfl
end Go.Proofs.YtlcelajkhklkbaaGreat
