/- The program's machines in the evaluator's form. -/
import Derived.Test.YtlcelajkhklkbaaGreatAqal
set_option linter.all false
namespace Go.Proofs.YtlcelajkhklkbaaGreat
open Go Go.RowKit
set_option maxRecDepth 100000
variable [Tb]
noncomputable def agb (y0 : (SweepV MV)) (y1 : EnvP) : Option ((Bool × Unit) × ((SweepV MV) × EnvP × Unit)) :=
 (aaS y0.o).bind fun r1 =>
 if r1.1.1 = true then
  some ((true, ()), (({ y0 with o := r1.2.1 } : (SweepV MV)), y1, ()))
 else
 if y0.line = 1 then
  if y0.line = 1 then
   (aer ({ y0 with o := r1.2.1 } : (SweepV MV)) y1).bind fun r2 =>
   if r2.1.1 = true then
   (abH r2.2.1.o 0 0).bind fun r3 =>
   some ((r3.1.1, ()), (({ r2.2.1 with o := r3.2.1 } : (SweepV MV)), r2.2.2.1, ()))
   else
   some ((false, ()), (({ r2.2.1 with line := wi (r2.2.1.line + 1) } : (SweepV MV)), r2.2.2.1, ()))
  else
  if y0.line = 4 then
   (afw y1.l y0.task).bind fun r4 =>
   if y0.q = y0.q then
   if y0.q = y0.q then
   (aog y1.m r4.1.1 y0.q (wu (y0.q + 1))).bind fun r5 =>
   if (!r5.1.1) = true then
   (abH r1.2.1 4 0).bind fun r6 =>
   some ((r6.1.1, ()), (({ y0 with o := r6.2.1 } : (SweepV MV)), ({ y1 with m := r5.2.1 } : EnvP), ()))
   else
   (abQ ({ y0 with o := r1.2.1 } : (SweepV MV)) 12).bind fun r7 =>
   (afL ({ y1 with m := r5.2.1 } : EnvP) r7.1.1).bind fun r8 =>
   some ((false, ()), (({ r7.2.1 with line := wi (r7.2.1.line + 1) } : (SweepV MV)), r8.2.1, ()))
   else none
   else none
  else
  if y0.line = 5 then
   (ajy y1.l y0.task).bind fun r9 =>
   (asB y1.k).bind fun r10 =>
   (abf y1.m r9.1.1 (wu (r10.1.1))).bind fun r11 =>
   (ack y0.worker (wi ((wi (y0.q)) + 1)) y0.task).bind fun r12 =>
   some ((false, ()), (({ y0 with o := r1.2.1, line := wi (y0.line + 1), push := r12.1.1 } : (SweepV MV)), ({ y1 with m := r11.2.1, k := r10.2.1 } : EnvP), ()))
  else
  (afm y0.push y1).bind fun r13 =>
  if (!r13.1.1) = true then
   some ((false, ()), (({ y0 with o := r1.2.1, push := r13.2.1 } : (SweepV MV)), r13.2.2.1, ()))
  else
  (acv r13.2.1).bind fun r14 =>
  if r14.1.1 = 3 then
   (abQ ({ y0 with o := r1.2.1, push := r14.2.1 } : (SweepV MV)) 19).bind fun r15 =>
   (afL r13.2.2.1 r15.1.1).bind fun r16 =>
   (abH r15.2.1.o 1 0).bind fun r17 =>
   some ((r17.1.1, ()), (({ r15.2.1 with o := r17.2.1 } : (SweepV MV)), r16.2.1, ()))
  else
  (abH r1.2.1 1 0).bind fun r18 =>
  some ((r18.1.1, ()), (({ y0 with o := r18.2.1, push := r14.2.1 } : (SweepV MV)), r13.2.2.1, ()))
 else
 if y0.line = 2 then
  if y0.line = 2 then
   (aer ({ y0 with o := r1.2.1 } : (SweepV MV)) y1).bind fun r19 =>
   if r19.1.1 = true then
   (abH r19.2.1.o 0 0).bind fun r20 =>
   some ((r20.1.1, ()), (({ r19.2.1 with o := r20.2.1 } : (SweepV MV)), r19.2.2.1, ()))
   else
   some ((false, ()), (({ r19.2.1 with line := wi (r19.2.1.line + 1) } : (SweepV MV)), r19.2.2.1, ()))
  else
  if y0.line = 4 then
   (afw y1.l y0.task).bind fun r21 =>
   if y0.q = y0.q then
   if y0.q = y0.q then
   (aog y1.m r21.1.1 y0.q (wu (y0.q + 1))).bind fun r22 =>
   if (!r22.1.1) = true then
   (abH r1.2.1 4 0).bind fun r23 =>
   some ((r23.1.1, ()), (({ y0 with o := r23.2.1 } : (SweepV MV)), ({ y1 with m := r22.2.1 } : EnvP), ()))
   else
   (abQ ({ y0 with o := r1.2.1 } : (SweepV MV)) 12).bind fun r24 =>
   (afL ({ y1 with m := r22.2.1 } : EnvP) r24.1.1).bind fun r25 =>
   some ((false, ()), (({ r24.2.1 with line := wi (r24.2.1.line + 1) } : (SweepV MV)), r25.2.1, ()))
   else none
   else none
  else
  if y0.line = 5 then
   (ajy y1.l y0.task).bind fun r26 =>
   (asB y1.k).bind fun r27 =>
   (abf y1.m r26.1.1 (wu (r27.1.1))).bind fun r28 =>
   (ack y0.worker (wi ((wi (y0.q)) + 1)) y0.task).bind fun r29 =>
   some ((false, ()), (({ y0 with o := r1.2.1, line := wi (y0.line + 1), push := r29.1.1 } : (SweepV MV)), ({ y1 with m := r28.2.1, k := r27.2.1 } : EnvP), ()))
  else
  (afm y0.push y1).bind fun r30 =>
  if (!r30.1.1) = true then
   some ((false, ()), (({ y0 with o := r1.2.1, push := r30.2.1 } : (SweepV MV)), r30.2.2.1, ()))
  else
  (acv r30.2.1).bind fun r31 =>
  if r31.1.1 = 3 then
   (abQ ({ y0 with o := r1.2.1, push := r31.2.1 } : (SweepV MV)) 19).bind fun r32 =>
   (afL r30.2.2.1 r32.1.1).bind fun r33 =>
   (abH r32.2.1.o 1 0).bind fun r34 =>
   some ((r34.1.1, ()), (({ r32.2.1 with o := r34.2.1 } : (SweepV MV)), r33.2.1, ()))
  else
  (abH r1.2.1 1 0).bind fun r35 =>
  some ((r35.1.1, ()), (({ y0 with o := r35.2.1, push := r31.2.1 } : (SweepV MV)), r30.2.2.1, ()))
 else
 if y0.line = 3 then
  (aer ({ y0 with o := r1.2.1 } : (SweepV MV)) y1).bind fun r36 =>
  if r36.1.1 = true then
   (abH r36.2.1.o 0 0).bind fun r37 =>
   some ((r37.1.1, ()), (({ r36.2.1 with o := r37.2.1 } : (SweepV MV)), r36.2.2.1, ()))
  else
  some ((false, ()), (({ r36.2.1 with line := wi (r36.2.1.line + 1) } : (SweepV MV)), r36.2.2.1, ()))
 else
 if y0.line = 4 then
  (afw y1.l y0.task).bind fun r38 =>
  if y0.q = y0.q then
   if y0.q = y0.q then
   (aog y1.m r38.1.1 y0.q (wu (y0.q + 1))).bind fun r39 =>
   if (!r39.1.1) = true then
   (abH r1.2.1 4 0).bind fun r40 =>
   some ((r40.1.1, ()), (({ y0 with o := r40.2.1 } : (SweepV MV)), ({ y1 with m := r39.2.1 } : EnvP), ()))
   else
   (abQ ({ y0 with o := r1.2.1 } : (SweepV MV)) 12).bind fun r41 =>
   (afL ({ y1 with m := r39.2.1 } : EnvP) r41.1.1).bind fun r42 =>
   some ((false, ()), (({ r41.2.1 with line := wi (r41.2.1.line + 1) } : (SweepV MV)), r42.2.1, ()))
   else none
  else none
 else
 if y0.line = 5 then
  (ajy y1.l y0.task).bind fun r43 =>
  (asB y1.k).bind fun r44 =>
  (abf y1.m r43.1.1 (wu (r44.1.1))).bind fun r45 =>
  (ack y0.worker (wi ((wi (y0.q)) + 1)) y0.task).bind fun r46 =>
  some ((false, ()), (({ y0 with o := r1.2.1, line := wi (y0.line + 1), push := r46.1.1 } : (SweepV MV)), ({ y1 with m := r45.2.1, k := r44.2.1 } : EnvP), ()))
 else
 (afm y0.push y1).bind fun r47 =>
 if (!r47.1.1) = true then
  some ((false, ()), (({ y0 with o := r1.2.1, push := r47.2.1 } : (SweepV MV)), r47.2.2.1, ()))
 else
 (acv r47.2.1).bind fun r48 =>
 if r48.1.1 = 3 then
  (abQ ({ y0 with o := r1.2.1, push := r48.2.1 } : (SweepV MV)) 19).bind fun r49 =>
  (afL r47.2.2.1 r49.1.1).bind fun r50 =>
  (abH r49.2.1.o 1 0).bind fun r51 =>
  some ((r51.1.1, ()), (({ r49.2.1 with o := r51.2.1 } : (SweepV MV)), r50.2.1, ()))
 else
 (abH r1.2.1 1 0).bind fun r52 =>
 some ((r52.1.1, ()), (({ y0 with o := r52.2.1, push := r48.2.1 } : (SweepV MV)), r47.2.2.1, ()))
noncomputable abbrev ak9 : Con SR1 := ⟨184, [.ref 38, .ref 27], [.sh .b], fun x => agb x.1 x.2.1⟩
theorem agO : CO Tryz.prog ak9 := aas aar Tryz.func184 [aba, ahr, abS, afV, ajA, agP, af5, ajx, alM, adC, adM, agU, aef] ⟨aaY, aky, abd, afv, ahU, aj1, ae0, ajw, akm, ac2, adY, agm, aee, trivial⟩ [] trivial (fun _ => []) [] fun x => by kernel_rfl
noncomputable def abo (y0 : (EnterV MV)) (y1 : EnvP) : Option ((Bool × Unit) × ((EnterV MV) × EnvP × Unit)) :=
 (aaS y0.o).bind fun r1 =>
 if r1.1.1 = true then
  some ((true, ()), (({ y0 with o := r1.2.1 } : (EnterV MV)), y1, ()))
 else
 if y0.line = 1 then
  (aec y1 y0.task).bind fun r2 =>
  if (!r2.1.1) = true then
   (abH r1.2.1 4 0).bind fun r3 =>
   some ((r3.1.1, ()), (({ y0 with o := r3.2.1 } : (EnterV MV)), r2.2.1, ()))
  else
  (ajy r2.2.1.l y0.task).bind fun r4 =>
  (asB r2.2.1.k).bind fun r5 =>
  (abf r2.2.1.m r4.1.1 (wu (r5.1.1))).bind fun r6 =>
  some ((false, ()), (({ y0 with o := r1.2.1, line := wi (y0.line + 1) } : (EnterV MV)), ({ r2.2.1 with m := r6.2.1, k := r5.2.1 } : EnvP), ()))
 else
 if y0.line = 2 then
  (aex y1.l y0.task).bind fun r7 =>
  (abf y1.m r7.1.1 1).bind fun r8 =>
  some ((false, ()), (({ y0 with o := r1.2.1, line := wi (y0.line + 1) } : (EnterV MV)), ({ y1 with m := r8.2.1 } : EnvP), ()))
 else
 if y0.line = 3 then
  (afw y1.l y0.task).bind fun r9 =>
  (acb y1.m r9.1.1).bind fun r10 =>
  (ack y0.worker (wi (r10.1.1)) y0.task).bind fun r11 =>
  some ((false, ()), (({ y0 with o := r1.2.1, level := wi (r10.1.1), line := wi (y0.line + 1), push := r11.1.1 } : (EnterV MV)), ({ y1 with m := r10.2.1 } : EnvP), ()))
 else
 (afm y0.push y1).bind fun r12 =>
 if (!r12.1.1) = true then
  some ((false, ()), (({ y0 with o := r1.2.1, push := r12.2.1 } : (EnterV MV)), r12.2.2.1, ()))
 else
 (acv r12.2.1).bind fun r13 =>
 (abH r1.2.1 r13.1.1 y0.level).bind fun r14 =>
 some ((r14.1.1, ()), (({ y0 with o := r14.2.1, push := r13.2.1 } : (EnterV MV)), r12.2.2.1, ()))
noncomputable abbrev akQ : Con SR1 := ⟨233, [.ref 47, .ref 27], [.sh .b], fun x => abo x.1 x.2.1⟩
theorem agj : CO Tryz.prog akQ := aas aar Tryz.func233 [aba, aeW, abS, ajx, alM, adC, afU, afV, aca, adM, agU, aef] ⟨aaY, af2, abd, ajw, akm, ac2, afs, afv, abz, adY, agm, aee, trivial⟩ [] trivial (fun _ => []) [] fun x => by kernel_rfl
noncomputable def as0 (y0 : Int) : Option ((MV × Unit) × (Unit)) :=
 some ((MV.attempt (⟨⟨false, 0, 0⟩, y0, true⟩ : AttemptV), ()), (()))
noncomputable abbrev aoY : Con SR1 := ⟨191, [.sh sI_], [.sh .mach], fun x => as0 x.1⟩
theorem arG : CO Tryz.prog aoY := aas aar Tryz.func191 [] trivial [] trivial (fun _ => []) [] fun x => by kernel_rfl
noncomputable def aaZ (y0 : (DrainV MV)) (y1 : Int) (y2 : MV) : Option ((Unit) × ((DrainV MV) × Unit)) :=
 some ((()), (({ y0 with line := y1, inside := y2 } : (DrainV MV)), ()))
noncomputable abbrev ac7 : Con SR1 := ⟨190, [.ref 39, .sh sI_, .sh .mach], [], fun x => aaZ x.1 x.2.1 x.2.2.1⟩
theorem adE : CO Tryz.prog ac7 := aas aar Tryz.func190 [] trivial [] trivial (fun _ => []) [] fun x => by kernel_rfl
noncomputable def aiD (y0 : Int) : Option ((MV × Unit) × (Unit)) :=
 some ((MV.remove (⟨⟨false, 0, 0⟩, y0, 1, 0, 0, 0, 0, 0, 0⟩ : RemoveV), ()), (()))
noncomputable abbrev aho : Con SR1 := ⟨197, [.sh sI_], [.sh .mach], fun x => aiD x.1⟩
theorem aks : CO Tryz.prog aho := aas aar Tryz.func197 [] trivial [] trivial (fun _ => []) [] fun x => by kernel_rfl
noncomputable def abG (y0 : (DrainV MV)) : Option ((Unit) × ((DrainV MV) × Unit)) :=
 (aiD y0.worker).bind fun r1 =>
 (aaZ y0 3 r1.1.1).bind fun r2 =>
 some ((()), (r2.2.1, ()))
noncomputable abbrev afX : Con SR1 := ⟨193, [.ref 39], [], fun x => abG x.1⟩
theorem aiT : CO Tryz.prog afX := aas aar Tryz.func193 [aho, ac7] ⟨aks, adE, trivial⟩ [] trivial (fun _ => []) [] fun x => by kernel_rfl
noncomputable def alZ  : Option ((MV × Unit) × (Unit)) :=
 some ((MV.release (⟨⟨false, 0, 0⟩⟩ : ReleaseV), ()), (()))
noncomputable abbrev ajJ : Con SR1 := ⟨196, [], [.sh .mach], fun x => alZ ⟩
theorem amL : CO Tryz.prog ajJ := aas aar Tryz.func196 [] trivial [] trivial (fun _ => []) [] fun x => by kernel_rfl
noncomputable def aa8 (y0 : (DrainV MV)) : Option ((Unit) × ((DrainV MV) × Unit)) :=
 (alZ).bind fun r1 =>
 (aaZ y0 6 r1.1.1).bind fun r2 =>
 some ((()), (r2.2.1, ()))
noncomputable abbrev adI : Con SR1 := ⟨189, [.ref 39], [], fun x => aa8 x.1⟩
theorem aeP : CO Tryz.prog adI := aas aar Tryz.func189 [ajJ, ac7] ⟨amL, adE, trivial⟩ [] trivial (fun _ => []) [] fun x => by kernel_rfl
noncomputable def acB (y0 : (DrainV MV)) (y1 : Int) : Option ((Unit) × ((DrainV MV) × Unit)) :=
 if y1 = 3 then
  (aa8 ({ y0 with direct := true } : (DrainV MV))).bind fun r1 =>
  some ((()), (r1.2.1, ()))
 else
 some ((()), (({ y0 with last := y0.p, count := wi (y0.count + 1) } : (DrainV MV)), ()))
noncomputable abbrev afY : Con SR1 := ⟨194, [.ref 39, .sh sI_], [], fun x => acB x.1 x.2.1⟩
theorem aiU : CO Tryz.prog afY := aas aar Tryz.func194 [adI] ⟨aeP, trivial⟩ [] trivial (fun _ => []) [] fun x => by kernel_rfl
noncomputable def acL (y0 : Int) (y1 : Int) : Option ((MV × Unit) × (Unit)) :=
 some ((MV.wake (⟨⟨false, 0, 0⟩, y0, y1, 1, 0, 0⟩ : WakeV), ()), (()))
noncomputable abbrev aii : Con SR1 := ⟨146, [.sh sI_, .sh sI_], [.sh .mach], fun x => acL x.1 x.2.1⟩
theorem aiO : CO Tryz.prog aii := aas aar Tryz.func146 [] trivial [] trivial (fun _ => []) [] fun x => by kernel_rfl
noncomputable def aa3 (y0 : (DrainV MV)) : Option ((Bool × Unit) × ((DrainV MV) × Unit)) :=
 if y0.direct = true then
  (abH y0.o 1 y0.x).bind fun r1 =>
  some ((r1.1.1, ()), (({ y0 with o := r1.2.1 } : (DrainV MV)), ()))
 else
 if 0 < y0.count then
  (abH y0.o 0 y0.count).bind fun r2 =>
  some ((r2.1.1, ()), (({ y0 with o := r2.2.1 } : (DrainV MV)), ()))
 else
 (abH y0.o 2 0).bind fun r3 =>
 some ((r3.1.1, ()), (({ y0 with o := r3.2.1 } : (DrainV MV)), ()))
noncomputable abbrev afZ : Con SR1 := ⟨195, [.ref 39], [.sh .b], fun x => aa3 x.1⟩
theorem aiV : CO Tryz.prog afZ := aas aar Tryz.func195 [abS] ⟨abd, trivial⟩ [] trivial (fun _ => []) [] fun x => by kernel_rfl
noncomputable def ah0 (y0 : (DrainV MV)) (y1 : EnvP) (y2 : Int) (y3 : Int) : Option ((Bool × Unit) × ((DrainV MV) × EnvP × Unit)) :=
 if y0.line = 2 then
  if y2 = 5 then
   (abH y0.o 5 0).bind fun r1 =>
   some ((r1.1.1, ()), (({ y0 with o := r1.2.1 } : (DrainV MV)), y1, ()))
  else
  if y0.line = 2 then
   (abG y0).bind fun r2 =>
   some ((false, ()), (r2.2.1, y1, ()))
  else
  if y0.line = 3 then
   if y2 = 2 then
   (aa8 y0).bind fun r3 =>
   some ((false, ()), (r3.2.1, y1, ()))
   else
   if y0.line = 3 then
   (aaZ ({ y0 with x := y3 } : (DrainV MV)) 4 MV.nil).bind fun r4 =>
   some ((false, ()), (r4.2.1, y1, ()))
   else
   if y0.line = 5 then
   (acB y0 y2).bind fun r5 =>
   if r5.2.1.direct = true then
   some ((false, ()), (r5.2.1, y1, ()))
   else
   if r5.2.1.count < y1.c.batch then
   (abG r5.2.1).bind fun r6 =>
   some ((false, ()), (r6.2.1, y1, ()))
   else
   (aa8 r5.2.1).bind fun r7 =>
   some ((false, ()), (r7.2.1, y1, ()))
   else
   if y0.line = 6 then
   if 0 < y0.count then
   (acL y0.worker y0.last).bind fun r8 =>
   (aaZ y0 7 r8.1.1).bind fun r9 =>
   some ((false, ()), (r9.2.1, y1, ()))
   else
   (aa3 y0).bind fun r10 =>
   some ((r10.1.1, ()), (r10.2.1, y1, ()))
   else
   (aa3 y0).bind fun r11 =>
   some ((r11.1.1, ()), (r11.2.1, y1, ()))
  else
  if y0.line = 3 then
   (aaZ ({ y0 with x := y3 } : (DrainV MV)) 4 MV.nil).bind fun r12 =>
   some ((false, ()), (r12.2.1, y1, ()))
  else
  if y0.line = 5 then
   (acB y0 y2).bind fun r13 =>
   if r13.2.1.direct = true then
   some ((false, ()), (r13.2.1, y1, ()))
   else
   if r13.2.1.count < y1.c.batch then
   (abG r13.2.1).bind fun r14 =>
   some ((false, ()), (r14.2.1, y1, ()))
   else
   (aa8 r13.2.1).bind fun r15 =>
   some ((false, ()), (r15.2.1, y1, ()))
  else
  if y0.line = 6 then
   if 0 < y0.count then
   (acL y0.worker y0.last).bind fun r16 =>
   (aaZ y0 7 r16.1.1).bind fun r17 =>
   some ((false, ()), (r17.2.1, y1, ()))
   else
   (aa3 y0).bind fun r18 =>
   some ((r18.1.1, ()), (r18.2.1, y1, ()))
  else
  (aa3 y0).bind fun r19 =>
  some ((r19.1.1, ()), (r19.2.1, y1, ()))
 else
 if y0.line = 2 then
  (abG y0).bind fun r20 =>
  some ((false, ()), (r20.2.1, y1, ()))
 else
 if y0.line = 3 then
  if y2 = 2 then
   (aa8 y0).bind fun r21 =>
   some ((false, ()), (r21.2.1, y1, ()))
  else
  if y0.line = 3 then
   (aaZ ({ y0 with x := y3 } : (DrainV MV)) 4 MV.nil).bind fun r22 =>
   some ((false, ()), (r22.2.1, y1, ()))
  else
  if y0.line = 5 then
   (acB y0 y2).bind fun r23 =>
   if r23.2.1.direct = true then
   some ((false, ()), (r23.2.1, y1, ()))
   else
   if r23.2.1.count < y1.c.batch then
   (abG r23.2.1).bind fun r24 =>
   some ((false, ()), (r24.2.1, y1, ()))
   else
   (aa8 r23.2.1).bind fun r25 =>
   some ((false, ()), (r25.2.1, y1, ()))
  else
  if y0.line = 6 then
   if 0 < y0.count then
   (acL y0.worker y0.last).bind fun r26 =>
   (aaZ y0 7 r26.1.1).bind fun r27 =>
   some ((false, ()), (r27.2.1, y1, ()))
   else
   (aa3 y0).bind fun r28 =>
   some ((r28.1.1, ()), (r28.2.1, y1, ()))
  else
  (aa3 y0).bind fun r29 =>
  some ((r29.1.1, ()), (r29.2.1, y1, ()))
 else
 if y0.line = 3 then
  (aaZ ({ y0 with x := y3 } : (DrainV MV)) 4 MV.nil).bind fun r30 =>
  some ((false, ()), (r30.2.1, y1, ()))
 else
 if y0.line = 5 then
  (acB y0 y2).bind fun r31 =>
  if r31.2.1.direct = true then
   some ((false, ()), (r31.2.1, y1, ()))
  else
  if r31.2.1.count < y1.c.batch then
   (abG r31.2.1).bind fun r32 =>
   some ((false, ()), (r32.2.1, y1, ()))
  else
  (aa8 r31.2.1).bind fun r33 =>
  some ((false, ()), (r33.2.1, y1, ()))
 else
 if y0.line = 6 then
  if 0 < y0.count then
   (acL y0.worker y0.last).bind fun r34 =>
   (aaZ y0 7 r34.1.1).bind fun r35 =>
   some ((false, ()), (r35.2.1, y1, ()))
  else
  (aa3 y0).bind fun r36 =>
  some ((r36.1.1, ()), (r36.2.1, y1, ()))
 else
 (aa3 y0).bind fun r37 =>
 some ((r37.1.1, ()), (r37.2.1, y1, ()))
noncomputable abbrev agI : Con SR1 := ⟨192, [.ref 39, .ref 27, .sh sI_, .sh sI_], [.sh .b], fun x => ah0 x.1 x.2.1 x.2.2.1 x.2.2.2.1⟩
theorem ajQ : CO Tryz.prog agI := aas aar Tryz.func192 [abS, afX, adI, ac7, afY, aii, afZ] ⟨abd, aiT, aeP, adE, aiU, aiO, aiV, trivial⟩ [] trivial (fun _ => []) [] fun x => by kernel_rfl
noncomputable def af8 (y0 : (DrainV MV)) (y1 : EnvP) : Option ((Bool × Unit) × ((DrainV MV) × EnvP × Unit)) :=
 (aaS y0.o).bind fun r1 =>
 if r1.1.1 = true then
  some ((true, ()), (({ y0 with o := r1.2.1 } : (DrainV MV)), y1, ()))
 else
 if y0.line = 1 then
  (aoJ y1.l).bind fun r2 =>
  (acb y1.m r2.1.1).bind fun r3 =>
  if (wi (r3.1.1)) ≤ 0 then
   (abH r1.2.1 2 0).bind fun r4 =>
   some ((r4.1.1, ()), (({ y0 with o := r4.2.1 } : (DrainV MV)), ({ y1 with m := r3.2.1 } : EnvP), ()))
  else
  (as0 y0.worker).bind fun r5 =>
  (aaZ ({ y0 with o := r1.2.1 } : (DrainV MV)) 2 r5.1.1).bind fun r6 =>
  some ((false, ()), (r6.2.1, ({ y1 with m := r3.2.1 } : EnvP), ()))
 else
 if y0.line = 4 then
  (afw y1.l y0.x).bind fun r7 =>
  (acb y1.m r7.1.1).bind fun r8 =>
  (ack y0.worker (wi (r8.1.1)) y0.x).bind fun r9 =>
  (aaZ ({ y0 with o := r1.2.1, p := wi (r8.1.1) } : (DrainV MV)) 5 r9.1.1).bind fun r10 =>
  some ((false, ()), (r10.2.1, ({ y1 with m := r8.2.1 } : EnvP), ()))
 else
 (afm y0.inside y1).bind fun r11 =>
 if (!r11.1.1) = true then
  some ((false, ()), (({ y0 with o := r1.2.1, inside := r11.2.1 } : (DrainV MV)), r11.2.2.1, ()))
 else
 (acv r11.2.1).bind fun r12 =>
 (ah0 ({ y0 with o := r1.2.1, inside := r12.2.1 } : (DrainV MV)) r11.2.2.1 r12.1.1 r12.1.2.1).bind fun r13 =>
 some ((r13.1.1, ()), (r13.2.1, r13.2.2.1, ()))
noncomputable abbrev ak5 : Con SR1 := ⟨188, [.ref 39, .ref 27], [.sh .b], fun x => af8 x.1 x.2.1⟩
theorem agH : CO Tryz.prog ak5 := aas aar Tryz.func188 [aba, alg, aca, abS, aoY, ac7, afV, adM, agU, aef, agI] ⟨aaY, alN, abz, abd, arG, adE, afv, adY, agm, aee, ajQ, trivial⟩ [] trivial (fun _ => []) [] fun x => by kernel_rfl
noncomputable def ad8 (m : MV) (e : EnvP) : Option ((Bool × Unit) × (MV × EnvP × Unit)) :=
 match m with
 | .alloc x => (abm x e).bind fun o => some (o.1, (MV.alloc o.2.1, o.2.2))
 | .publish x => (abe x e).bind fun o => some (o.1, (MV.publish o.2.1, o.2.2))
 | .claim x => (ab8 x e).bind fun o => some (o.1, (MV.claim o.2.1, o.2.2))
 | .attempt x => (ac5 x e).bind fun o => some (o.1, (MV.attempt o.2.1, o.2.2))
 | .release x => (ac4 x e).bind fun o => some (o.1, (MV.release o.2.1, o.2.2))
 | .opush x => (acx x e).bind fun o => some (o.1, (MV.opush o.2.1, o.2.2))
 | .opop x => (aey x e).bind fun o => some (o.1, (MV.opop o.2.1, o.2.2))
 | .steal x => (adu x e).bind fun o => some (o.1, (MV.steal o.2.1, o.2.2))
 | .set x => (acz x e).bind fun o => some (o.1, (MV.set o.2.1, o.2.2))
 | .reset x => (ada x e).bind fun o => some (o.1, (MV.reset o.2.1, o.2.2))
 | .remove x => (ab3 x e).bind fun o => some (o.1, (MV.remove o.2.1, o.2.2))
 | .sleep x => (adV x e).bind fun o => some (o.1, (MV.sleep o.2.1, o.2.2))
 | .wake x => (acq x e).bind fun o => some (o.1, (MV.wake o.2.1, o.2.2))
 | .raise x => (abL x e).bind fun o => some (o.1, (MV.raise o.2.1, o.2.2))
 | .probe x => (adv x e).bind fun o => some (o.1, (MV.probe o.2.1, o.2.2))
 | .lpush x => (abK x e).bind fun o => some (o.1, (MV.lpush o.2.1, o.2.2))
 | .lpop x => (ae1 x e).bind fun o => some (o.1, (MV.lpop o.2.1, o.2.2))
 | .walk x => (abr x e).bind fun o => some (o.1, (MV.walk o.2.1, o.2.2))
 | .take x => (ahJ x e).bind fun o => some (o.1, (MV.take o.2.1, o.2.2))
 | .sweep x => (agb x e).bind fun o => some (o.1, (MV.sweep o.2.1, o.2.2))
 | .enter x => (abo x e).bind fun o => some (o.1, (MV.enter o.2.1, o.2.2))
 | .drain x => (af8 x e).bind fun o => some (o.1, (MV.drain o.2.1, o.2.2))
 | _ => none
noncomputable abbrev ala : Con SR1 := ⟨1000000000, [.mch, .ref 27], [.sh .b], fun x => ad8 x.1 x.2.1⟩
theorem alu : CO Tryz.prog ala := ah1 (S := SR1) (i := 0) (ps := [.ref 27]) (rs := [.sh .b]) (spec := fun m xs => ad8 m xs.1) fun m xs out h => by
  cases m with
  | alloc x => exact aaj (S := SR1) (ps := [.ref 27]) (rs := [.sh .b]) (c := 34) (mk := MV.alloc) (fun _ => rfl) rfl (fun _ _ _ _ => by kernel_rfl) ach h
  | publish x => exact aaj (S := SR1) (ps := [.ref 27]) (rs := [.sh .b]) (c := 48) (mk := MV.publish) (fun _ => rfl) rfl (fun _ _ _ _ => by kernel_rfl) acr h
  | claim x => exact aaj (S := SR1) (ps := [.ref 27]) (rs := [.sh .b]) (c := 43) (mk := MV.claim) (fun _ => rfl) rfl (fun _ _ _ _ => by kernel_rfl) adc h
  | attempt x => exact aaj (S := SR1) (ps := [.ref 27]) (rs := [.sh .b]) (c := 33) (mk := MV.attempt) (fun _ => rfl) rfl (fun _ _ _ _ => by kernel_rfl) acN h
  | release x => exact aaj (S := SR1) (ps := [.ref 27]) (rs := [.sh .b]) (c := 35) (mk := MV.release) (fun _ => rfl) rfl (fun _ _ _ _ => by kernel_rfl) acM h
  | opush x => exact aaj (S := SR1) (ps := [.ref 27]) (rs := [.sh .b]) (c := 51) (mk := MV.opush) (fun _ => rfl) rfl (fun _ _ _ _ => by kernel_rfl) adD h
  | opop x => exact aaj (S := SR1) (ps := [.ref 27]) (rs := [.sh .b]) (c := 50) (mk := MV.opop) (fun _ => rfl) rfl (fun _ _ _ _ => by kernel_rfl) adX h
  | steal x => exact aaj (S := SR1) (ps := [.ref 27]) (rs := [.sh .b]) (c := 40) (mk := MV.steal) (fun _ => rfl) rfl (fun _ _ _ _ => by kernel_rfl) adb h
  | set x => exact aaj (S := SR1) (ps := [.ref 27]) (rs := [.sh .b]) (c := 52) (mk := MV.set) (fun _ => rfl) rfl (fun _ _ _ _ => by kernel_rfl) adF h
  | reset x => exact aaj (S := SR1) (ps := [.ref 27]) (rs := [.sh .b]) (c := 41) (mk := MV.reset) (fun _ => rfl) rfl (fun _ _ _ _ => by kernel_rfl) acP h
  | remove x => exact aaj (S := SR1) (ps := [.ref 27]) (rs := [.sh .b]) (c := 49) (mk := MV.remove) (fun _ => rfl) rfl (fun _ _ _ _ => by kernel_rfl) ab2 h
  | sleep x => exact aaj (S := SR1) (ps := [.ref 27]) (rs := [.sh .b]) (c := 31) (mk := MV.sleep) (fun _ => rfl) rfl (fun _ _ _ _ => by kernel_rfl) adB h
  | wake x => exact aaj (S := SR1) (ps := [.ref 27]) (rs := [.sh .b]) (c := 36) (mk := MV.wake) (fun _ => rfl) rfl (fun _ _ _ _ => by kernel_rfl) adU h
  | raise x => exact aaj (S := SR1) (ps := [.ref 27]) (rs := [.sh .b]) (c := 53) (mk := MV.raise) (fun _ => rfl) rfl (fun _ _ _ _ => by kernel_rfl) adg h
  | probe x => exact aaj (S := SR1) (ps := [.ref 27]) (rs := [.sh .b]) (c := 44) (mk := MV.probe) (fun _ => rfl) rfl (fun _ _ _ _ => by kernel_rfl) ade h
  | lpush x => exact aaj (S := SR1) (ps := [.ref 27]) (rs := [.sh .b]) (c := 45) (mk := MV.lpush) (fun _ => rfl) rfl (fun _ _ _ _ => by kernel_rfl) aeg h
  | lpop x => exact aaj (S := SR1) (ps := [.ref 27]) (rs := [.sh .b]) (c := 42) (mk := MV.lpop) (fun _ => rfl) rfl (fun _ _ _ _ => by kernel_rfl) aeJ h
  | walk x => exact aaj (S := SR1) (ps := [.ref 27]) (rs := [.sh .b]) (c := 46) (mk := MV.walk) (fun _ => rfl) rfl (fun _ _ _ _ => by kernel_rfl) ahp h
  | take x => exact aaj (S := SR1) (ps := [.ref 27]) (rs := [.sh .b]) (c := 37) (mk := MV.take) (fun _ => rfl) rfl (fun _ _ _ _ => by kernel_rfl) ahI h
  | sweep x => exact aaj (S := SR1) (ps := [.ref 27]) (rs := [.sh .b]) (c := 38) (mk := MV.sweep) (fun _ => rfl) rfl (fun _ _ _ _ => by kernel_rfl) agO h
  | enter x => exact aaj (S := SR1) (ps := [.ref 27]) (rs := [.sh .b]) (c := 47) (mk := MV.enter) (fun _ => rfl) rfl (fun _ _ _ _ => by kernel_rfl) agj h
  | drain x => exact aaj (S := SR1) (ps := [.ref 27]) (rs := [.sh .b]) (c := 39) (mk := MV.drain) (fun _ => rfl) rfl (fun _ _ _ _ => by kernel_rfl) agH h
  | _ => cases h
noncomputable def acK (m : MV) : Option ((Int × Int × Unit) × (MV × Unit)) :=
 match m with
 | .alloc x => some ((x.o.code, x.o.value, ()), (MV.alloc x, ()))
 | .publish x => some ((x.o.code, x.o.value, ()), (MV.publish x, ()))
 | .claim x => some ((x.o.code, x.o.value, ()), (MV.claim x, ()))
 | .attempt x => some ((x.o.code, x.o.value, ()), (MV.attempt x, ()))
 | .release x => some ((x.o.code, x.o.value, ()), (MV.release x, ()))
 | .opush x => some ((x.o.code, x.o.value, ()), (MV.opush x, ()))
 | .opop x => some ((x.o.code, x.o.value, ()), (MV.opop x, ()))
 | .steal x => some ((x.o.code, x.o.value, ()), (MV.steal x, ()))
 | .set x => some ((x.o.code, x.o.value, ()), (MV.set x, ()))
 | .reset x => some ((x.o.code, x.o.value, ()), (MV.reset x, ()))
 | .remove x => some ((x.o.code, x.o.value, ()), (MV.remove x, ()))
 | .sleep x => some ((x.o.code, x.o.value, ()), (MV.sleep x, ()))
 | .wake x => some ((x.o.code, x.o.value, ()), (MV.wake x, ()))
 | .raise x => some ((x.o.code, x.o.value, ()), (MV.raise x, ()))
 | .probe x => some ((x.o.code, x.o.value, ()), (MV.probe x, ()))
 | .lpush x => some ((x.o.code, x.o.value, ()), (MV.lpush x, ()))
 | .lpop x => some ((x.o.code, x.o.value, ()), (MV.lpop x, ()))
 | .walk x => some ((x.o.code, x.o.value, ()), (MV.walk x, ()))
 | .take x => some ((x.o.code, x.o.value, ()), (MV.take x, ()))
 | .sweep x => some ((x.o.code, x.o.value, ()), (MV.sweep x, ()))
 | .enter x => some ((x.o.code, x.o.value, ()), (MV.enter x, ()))
 | .drain x => some ((x.o.code, x.o.value, ()), (MV.drain x, ()))
 | _ => none
noncomputable abbrev aka : Con SR1 := ⟨1000000001, [.mch], [.sh sI_, .sh sI_], fun x => acK x.1⟩
theorem alC : CO Tryz.prog aka := ah1 (S := SR1) (i := 1) (ps := []) (rs := [.sh sI_, .sh sI_]) (spec := fun m _ => acK m) fun m xs out h => by
  cases m with
  | alloc x => exact aaj (S := SR1) (ps := []) (rs := [.sh sI_, .sh sI_]) (c := 34) (mk := MV.alloc) (f := 129) (sp := fun x => some ((x.1.o.code, x.1.o.value, ()), (x.1, ()))) (fun _ => rfl) rfl (fun _ _ _ _ => by kernel_rfl) (aap [aai] ⟨aag, trivial⟩ fun x => by kernel_rfl) h
  | publish x => exact aaj (S := SR1) (ps := []) (rs := [.sh sI_, .sh sI_]) (c := 48) (mk := MV.publish) (f := 129) (sp := fun x => some ((x.1.o.code, x.1.o.value, ()), (x.1, ()))) (fun _ => rfl) rfl (fun _ _ _ _ => by kernel_rfl) (aap [aai] ⟨aag, trivial⟩ fun x => by kernel_rfl) h
  | claim x => exact aaj (S := SR1) (ps := []) (rs := [.sh sI_, .sh sI_]) (c := 43) (mk := MV.claim) (f := 129) (sp := fun x => some ((x.1.o.code, x.1.o.value, ()), (x.1, ()))) (fun _ => rfl) rfl (fun _ _ _ _ => by kernel_rfl) (aap [aai] ⟨aag, trivial⟩ fun x => by kernel_rfl) h
  | attempt x => exact aaj (S := SR1) (ps := []) (rs := [.sh sI_, .sh sI_]) (c := 33) (mk := MV.attempt) (f := 129) (sp := fun x => some ((x.1.o.code, x.1.o.value, ()), (x.1, ()))) (fun _ => rfl) rfl (fun _ _ _ _ => by kernel_rfl) (aap [aai] ⟨aag, trivial⟩ fun x => by kernel_rfl) h
  | release x => exact aaj (S := SR1) (ps := []) (rs := [.sh sI_, .sh sI_]) (c := 35) (mk := MV.release) (f := 129) (sp := fun x => some ((x.1.o.code, x.1.o.value, ()), (x.1, ()))) (fun _ => rfl) rfl (fun _ _ _ _ => by kernel_rfl) (aap [aai] ⟨aag, trivial⟩ fun x => by kernel_rfl) h
  | opush x => exact aaj (S := SR1) (ps := []) (rs := [.sh sI_, .sh sI_]) (c := 51) (mk := MV.opush) (f := 129) (sp := fun x => some ((x.1.o.code, x.1.o.value, ()), (x.1, ()))) (fun _ => rfl) rfl (fun _ _ _ _ => by kernel_rfl) (aap [aai] ⟨aag, trivial⟩ fun x => by kernel_rfl) h
  | opop x => exact aaj (S := SR1) (ps := []) (rs := [.sh sI_, .sh sI_]) (c := 50) (mk := MV.opop) (f := 129) (sp := fun x => some ((x.1.o.code, x.1.o.value, ()), (x.1, ()))) (fun _ => rfl) rfl (fun _ _ _ _ => by kernel_rfl) (aap [aai] ⟨aag, trivial⟩ fun x => by kernel_rfl) h
  | steal x => exact aaj (S := SR1) (ps := []) (rs := [.sh sI_, .sh sI_]) (c := 40) (mk := MV.steal) (f := 129) (sp := fun x => some ((x.1.o.code, x.1.o.value, ()), (x.1, ()))) (fun _ => rfl) rfl (fun _ _ _ _ => by kernel_rfl) (aap [aai] ⟨aag, trivial⟩ fun x => by kernel_rfl) h
  | set x => exact aaj (S := SR1) (ps := []) (rs := [.sh sI_, .sh sI_]) (c := 52) (mk := MV.set) (f := 129) (sp := fun x => some ((x.1.o.code, x.1.o.value, ()), (x.1, ()))) (fun _ => rfl) rfl (fun _ _ _ _ => by kernel_rfl) (aap [aai] ⟨aag, trivial⟩ fun x => by kernel_rfl) h
  | reset x => exact aaj (S := SR1) (ps := []) (rs := [.sh sI_, .sh sI_]) (c := 41) (mk := MV.reset) (f := 129) (sp := fun x => some ((x.1.o.code, x.1.o.value, ()), (x.1, ()))) (fun _ => rfl) rfl (fun _ _ _ _ => by kernel_rfl) (aap [aai] ⟨aag, trivial⟩ fun x => by kernel_rfl) h
  | remove x => exact aaj (S := SR1) (ps := []) (rs := [.sh sI_, .sh sI_]) (c := 49) (mk := MV.remove) (f := 129) (sp := fun x => some ((x.1.o.code, x.1.o.value, ()), (x.1, ()))) (fun _ => rfl) rfl (fun _ _ _ _ => by kernel_rfl) (aap [aai] ⟨aag, trivial⟩ fun x => by kernel_rfl) h
  | sleep x => exact aaj (S := SR1) (ps := []) (rs := [.sh sI_, .sh sI_]) (c := 31) (mk := MV.sleep) (f := 129) (sp := fun x => some ((x.1.o.code, x.1.o.value, ()), (x.1, ()))) (fun _ => rfl) rfl (fun _ _ _ _ => by kernel_rfl) (aap [aai] ⟨aag, trivial⟩ fun x => by kernel_rfl) h
  | wake x => exact aaj (S := SR1) (ps := []) (rs := [.sh sI_, .sh sI_]) (c := 36) (mk := MV.wake) (f := 129) (sp := fun x => some ((x.1.o.code, x.1.o.value, ()), (x.1, ()))) (fun _ => rfl) rfl (fun _ _ _ _ => by kernel_rfl) (aap [aai] ⟨aag, trivial⟩ fun x => by kernel_rfl) h
  | raise x => exact aaj (S := SR1) (ps := []) (rs := [.sh sI_, .sh sI_]) (c := 53) (mk := MV.raise) (f := 129) (sp := fun x => some ((x.1.o.code, x.1.o.value, ()), (x.1, ()))) (fun _ => rfl) rfl (fun _ _ _ _ => by kernel_rfl) (aap [aai] ⟨aag, trivial⟩ fun x => by kernel_rfl) h
  | probe x => exact aaj (S := SR1) (ps := []) (rs := [.sh sI_, .sh sI_]) (c := 44) (mk := MV.probe) (f := 129) (sp := fun x => some ((x.1.o.code, x.1.o.value, ()), (x.1, ()))) (fun _ => rfl) rfl (fun _ _ _ _ => by kernel_rfl) (aap [aai] ⟨aag, trivial⟩ fun x => by kernel_rfl) h
  | lpush x => exact aaj (S := SR1) (ps := []) (rs := [.sh sI_, .sh sI_]) (c := 45) (mk := MV.lpush) (f := 129) (sp := fun x => some ((x.1.o.code, x.1.o.value, ()), (x.1, ()))) (fun _ => rfl) rfl (fun _ _ _ _ => by kernel_rfl) (aap [aai] ⟨aag, trivial⟩ fun x => by kernel_rfl) h
  | lpop x => exact aaj (S := SR1) (ps := []) (rs := [.sh sI_, .sh sI_]) (c := 42) (mk := MV.lpop) (f := 129) (sp := fun x => some ((x.1.o.code, x.1.o.value, ()), (x.1, ()))) (fun _ => rfl) rfl (fun _ _ _ _ => by kernel_rfl) (aap [aai] ⟨aag, trivial⟩ fun x => by kernel_rfl) h
  | walk x => exact aaj (S := SR1) (ps := []) (rs := [.sh sI_, .sh sI_]) (c := 46) (mk := MV.walk) (f := 129) (sp := fun x => some ((x.1.o.code, x.1.o.value, ()), (x.1, ()))) (fun _ => rfl) rfl (fun _ _ _ _ => by kernel_rfl) (aap [aai] ⟨aag, trivial⟩ fun x => by kernel_rfl) h
  | take x => exact aaj (S := SR1) (ps := []) (rs := [.sh sI_, .sh sI_]) (c := 37) (mk := MV.take) (f := 129) (sp := fun x => some ((x.1.o.code, x.1.o.value, ()), (x.1, ()))) (fun _ => rfl) rfl (fun _ _ _ _ => by kernel_rfl) (aap [aai] ⟨aag, trivial⟩ fun x => by kernel_rfl) h
  | sweep x => exact aaj (S := SR1) (ps := []) (rs := [.sh sI_, .sh sI_]) (c := 38) (mk := MV.sweep) (f := 129) (sp := fun x => some ((x.1.o.code, x.1.o.value, ()), (x.1, ()))) (fun _ => rfl) rfl (fun _ _ _ _ => by kernel_rfl) (aap [aai] ⟨aag, trivial⟩ fun x => by kernel_rfl) h
  | enter x => exact aaj (S := SR1) (ps := []) (rs := [.sh sI_, .sh sI_]) (c := 47) (mk := MV.enter) (f := 129) (sp := fun x => some ((x.1.o.code, x.1.o.value, ()), (x.1, ()))) (fun _ => rfl) rfl (fun _ _ _ _ => by kernel_rfl) (aap [aai] ⟨aag, trivial⟩ fun x => by kernel_rfl) h
  | drain x => exact aaj (S := SR1) (ps := []) (rs := [.sh sI_, .sh sI_]) (c := 39) (mk := MV.drain) (f := 129) (sp := fun x => some ((x.1.o.code, x.1.o.value, ()), (x.1, ()))) (fun _ => rfl) rfl (fun _ _ _ _ => by kernel_rfl) (aap [aai] ⟨aag, trivial⟩ fun x => by kernel_rfl) h
  | _ => cases h
noncomputable def adS (y0 : (RunV MV)) (y1 : EnvP) : Option ((Int × Unit) × ((RunV MV) × EnvP × Unit)) :=
 if 0 ≤ wi (((y0.stack.length : Nat) : Int) - 1) ∧ wi (((y0.stack.length : Nat) : Int) - 1) < ((y0.stack.length : Nat) : Int) then
  if 0 ≤ aaf y0.stack (wi (((y0.stack.length : Nat) : Int) - 1)) ∧ aaf y0.stack (wi (((y0.stack.length : Nat) : Int) - 1)) < ((y1.recs.length : Nat) : Int) then
   if 0 ≤ wi (((y0.stack.length : Nat) : Int) - 1) ∧ wi (((y0.stack.length : Nat) : Int) - 1) < ((y0.stack.length : Nat) : Int) then
   if 0 ≤ aaf y0.stack (wi (((y0.stack.length : Nat) : Int) - 1)) ∧ aaf y0.stack (wi (((y0.stack.length : Nat) : Int) - 1)) < ((y1.recs.length : Nat) : Int) then
   if ((aad y1.recs (aaf y0.stack (wi (((y0.stack.length : Nat) : Int) - 1)))).prog) < 0 then
   if ((aad y1.recs (aaf y0.stack (wi (((y0.stack.length : Nat) : Int) - 1)))).waiting) ≠ (-1) then
   some ((1, ()), (y0, y1, ()))
   else
   if ((aad y1.recs (aaf y0.stack (wi (((y0.stack.length : Nat) : Int) - 1)))).pc) < 0 then
   some ((16, ()), (y0, y1, ()))
   else
   if 0 ≤ ((aad y1.recs (aaf y0.stack (wi (((y0.stack.length : Nat) : Int) - 1)))).pc) then
   some ((16, ()), (y0, y1, ()))
   else
   none
   else
   if ((y1.c.progs.length : Nat) : Int) ≤ ((aad y1.recs (aaf y0.stack (wi (((y0.stack.length : Nat) : Int) - 1)))).prog) then
   if ((aad y1.recs (aaf y0.stack (wi (((y0.stack.length : Nat) : Int) - 1)))).waiting) ≠ (-1) then
   some ((1, ()), (y0, y1, ()))
   else
   if ((aad y1.recs (aaf y0.stack (wi (((y0.stack.length : Nat) : Int) - 1)))).pc) < 0 then
   some ((16, ()), (y0, y1, ()))
   else
   if 0 ≤ ((aad y1.recs (aaf y0.stack (wi (((y0.stack.length : Nat) : Int) - 1)))).pc) then
   some ((16, ()), (y0, y1, ()))
   else
   none
   else
   if 0 ≤ (aad y1.recs (aaf y0.stack (wi (((y0.stack.length : Nat) : Int) - 1)))).prog ∧ (aad y1.recs (aaf y0.stack (wi (((y0.stack.length : Nat) : Int) - 1)))).prog < ((y1.c.progs.length : Nat) : Int) then
   if ((aad y1.recs (aaf y0.stack (wi (((y0.stack.length : Nat) : Int) - 1)))).waiting) ≠ (-1) then
   some ((1, ()), (y0, y1, ()))
   else
   if ((aad y1.recs (aaf y0.stack (wi (((y0.stack.length : Nat) : Int) - 1)))).pc) < 0 then
   some ((16, ()), (y0, y1, ()))
   else
   if (((atL [] y1.c.progs ((aad y1.recs (aaf y0.stack (wi (((y0.stack.length : Nat) : Int) - 1)))).prog)).length : Nat) : Int) ≤ ((aad y1.recs (aaf y0.stack (wi (((y0.stack.length : Nat) : Int) - 1)))).pc) then
   some ((16, ()), (y0, y1, ()))
   else
   if 0 ≤ (aad y1.recs (aaf y0.stack (wi (((y0.stack.length : Nat) : Int) - 1)))).pc ∧ (aad y1.recs (aaf y0.stack (wi (((y0.stack.length : Nat) : Int) - 1)))).pc < (((atL [] y1.c.progs ((aad y1.recs (aaf y0.stack (wi (((y0.stack.length : Nat) : Int) - 1)))).prog)).length : Nat) : Int) then
   if ((abb (atL [] y1.c.progs ((aad y1.recs (aaf y0.stack (wi (((y0.stack.length : Nat) : Int) - 1)))).prog)) ((aad y1.recs (aaf y0.stack (wi (((y0.stack.length : Nat) : Int) - 1)))).pc)).op) = 0 then
   some ((2, ()), (y0, y1, ()))
   else
   if 0 ≤ (aad y1.recs (aaf y0.stack (wi (((y0.stack.length : Nat) : Int) - 1)))).pc ∧ (aad y1.recs (aaf y0.stack (wi (((y0.stack.length : Nat) : Int) - 1)))).pc < (((atL [] y1.c.progs ((aad y1.recs (aaf y0.stack (wi (((y0.stack.length : Nat) : Int) - 1)))).prog)).length : Nat) : Int) then
   if ((abb (atL [] y1.c.progs ((aad y1.recs (aaf y0.stack (wi (((y0.stack.length : Nat) : Int) - 1)))).prog)) ((aad y1.recs (aaf y0.stack (wi (((y0.stack.length : Nat) : Int) - 1)))).pc)).op) = 1 then
   some ((4, ()), (y0, y1, ()))
   else
   if 0 ≤ (aad y1.recs (aaf y0.stack (wi (((y0.stack.length : Nat) : Int) - 1)))).pc ∧ (aad y1.recs (aaf y0.stack (wi (((y0.stack.length : Nat) : Int) - 1)))).pc < (((atL [] y1.c.progs ((aad y1.recs (aaf y0.stack (wi (((y0.stack.length : Nat) : Int) - 1)))).prog)).length : Nat) : Int) then
   if ((abb (atL [] y1.c.progs ((aad y1.recs (aaf y0.stack (wi (((y0.stack.length : Nat) : Int) - 1)))).prog)) ((aad y1.recs (aaf y0.stack (wi (((y0.stack.length : Nat) : Int) - 1)))).pc)).a) < 0 then
   some ((3, ()), (y0, y1, ()))
   else
   if ((((aad y1.recs (aaf y0.stack (wi (((y0.stack.length : Nat) : Int) - 1)))).kids).length : Nat) : Int) ≤ ((abb (atL [] y1.c.progs ((aad y1.recs (aaf y0.stack (wi (((y0.stack.length : Nat) : Int) - 1)))).prog)) ((aad y1.recs (aaf y0.stack (wi (((y0.stack.length : Nat) : Int) - 1)))).pc)).a) then
   some ((3, ()), (y0, ({ y1 with recs := y1.recs.set (aaf y0.stack (wi (((y0.stack.length : Nat) : Int) - 1))).toNat (aad y1.recs (aaf y0.stack (wi (((y0.stack.length : Nat) : Int) - 1)))) } : EnvP), ()))
   else
   if 0 ≤ (abb (atL [] y1.c.progs ((aad y1.recs (aaf y0.stack (wi (((y0.stack.length : Nat) : Int) - 1)))).prog)) ((aad y1.recs (aaf y0.stack (wi (((y0.stack.length : Nat) : Int) - 1)))).pc)).a ∧ (abb (atL [] y1.c.progs ((aad y1.recs (aaf y0.stack (wi (((y0.stack.length : Nat) : Int) - 1)))).prog)) ((aad y1.recs (aaf y0.stack (wi (((y0.stack.length : Nat) : Int) - 1)))).pc)).a < ((((aad y1.recs (aaf y0.stack (wi (((y0.stack.length : Nat) : Int) - 1)))).kids).length : Nat) : Int) then
   if (aaf ((aad y1.recs (aaf y0.stack (wi (((y0.stack.length : Nat) : Int) - 1)))).kids) ((abb (atL [] y1.c.progs ((aad y1.recs (aaf y0.stack (wi (((y0.stack.length : Nat) : Int) - 1)))).prog)) ((aad y1.recs (aaf y0.stack (wi (((y0.stack.length : Nat) : Int) - 1)))).pc)).a)) = (-1) then
   some ((3, ()), (y0, ({ y1 with recs := y1.recs.set (aaf y0.stack (wi (((y0.stack.length : Nat) : Int) - 1))).toNat (aad y1.recs (aaf y0.stack (wi (((y0.stack.length : Nat) : Int) - 1)))) } : EnvP), ()))
   else
   some ((9, ()), (y0, ({ y1 with recs := y1.recs.set (aaf y0.stack (wi (((y0.stack.length : Nat) : Int) - 1))).toNat (aad y1.recs (aaf y0.stack (wi (((y0.stack.length : Nat) : Int) - 1)))) } : EnvP), ()))
   else none
   else none
   else none
   else none
   else none
   else none
   else none
  else none
 else none
noncomputable abbrev agv : Con SR1 := ⟨133, [.ref 32, .ref 27], [.sh sI_], fun x => adS x.1 x.2.1⟩
noncomputable def ajh : List (Nat × Func) := [(138, Tryz.f138), (131, Tryz.f131), (139, Tryz.f139)]
theorem aji : CO Tryz.prog agv := aas aar Tryz.func133 [] trivial ajh ⟨Tryz.func138, Tryz.func131, Tryz.func139, trivial⟩ (fun _ => []) [] fun x => by kernel_rfl
noncomputable def aeY  : Option ((MV × Unit) × (Unit)) :=
 some ((MV.alloc (⟨⟨false, 0, 0⟩⟩ : AllocV), ()), (()))
noncomputable abbrev afl : Con SR1 := ⟨32, [], [.sh .mach], fun x => aeY ⟩
theorem ahh : CO Tryz.prog afl := aas aar Tryz.func32 [] trivial [] trivial (fun _ => []) [] fun x => by kernel_rfl
noncomputable def aae (y0 : (RunV MV)) (y1 : Int) (y2 : MV) : Option ((Bool × Unit) × ((RunV MV) × Unit)) :=
 some ((false, ()), (({ y0 with line := y1, inside := y2 } : (RunV MV)), ()))
noncomputable abbrev acu : Con SR1 := ⟨142, [.ref 32, .sh sI_, .sh .mach], [.sh .b], fun x => aae x.1 x.2.1 x.2.2.1⟩
theorem acE : CO Tryz.prog acu := aas aar Tryz.func142 [] trivial [] trivial (fun _ => []) [] fun x => by kernel_rfl
noncomputable def aaB (y0 : (RunV MV)) (y1 : EnvP) : Option ((Bool × Unit) × ((RunV MV) × EnvP × Unit)) :=
 if 0 ≤ wi (((y0.stack.length : Nat) : Int) - 1) ∧ wi (((y0.stack.length : Nat) : Int) - 1) < ((y0.stack.length : Nat) : Int) then
  if 0 ≤ aaf y0.stack (wi (((y0.stack.length : Nat) : Int) - 1)) ∧ aaf y0.stack (wi (((y0.stack.length : Nat) : Int) - 1)) < ((y1.recs.length : Nat) : Int) then
   if y0.line = 1 then
   if 0 ≤ wi (((y0.stack.length : Nat) : Int) - 1) ∧ wi (((y0.stack.length : Nat) : Int) - 1) < ((y0.stack.length : Nat) : Int) then
   if y1.l.workers = y1.l.workers then
   if y1.l.levels = y1.l.levels then
   if y1.l.classes = y1.l.classes then
   if y1.l.tasks = y1.l.tasks then
   if y1.l.deque = y1.l.deque then
   if y1.l.heap = y1.l.heap then
   if y1.l.sleepers = y1.l.sleepers then
   if y1.l.epochs = y1.l.epochs then
   if y1.l.bitmaps = y1.l.bitmaps then
   if y1.l.queues = y1.l.queues then
   if y1.l.table = y1.l.table then
   (ahT y1.l (aaf y0.stack (wi (((y0.stack.length : Nat) : Int) - 1)))).bind fun r1 =>
   (abf y1.m r1.1.1 0).bind fun r2 =>
   (aae y0 0 MV.nil).bind fun r3 =>
   some ((r3.1.1, ()), (r3.2.1, ({ y1 with m := r2.2.1, recs := y1.recs.set (aaf y0.stack (wi (((y0.stack.length : Nat) : Int) - 1))).toNat ({ aad y1.recs (aaf y0.stack (wi (((y0.stack.length : Nat) : Int) - 1))) with waiting := (-1) } : RecP) } : EnvP), ()))
   else none
   else none
   else none
   else none
   else none
   else none
   else none
   else none
   else none
   else none
   else none
   else none
   else
   if y0.line = 2 then
   if ((aad y1.recs (aaf y0.stack (wi (((y0.stack.length : Nat) : Int) - 1)))).left) = 0 then
   if 0 ≤ wi (((y0.stack.length : Nat) : Int) - 1) ∧ wi (((y0.stack.length : Nat) : Int) - 1) < ((y0.stack.length : Nat) : Int) then
   if 0 ≤ aaf y0.stack (wi (((y0.stack.length : Nat) : Int) - 1)) ∧ aaf y0.stack (wi (((y0.stack.length : Nat) : Int) - 1)) < ((y1.recs.length : Nat) : Int) then
   if ((aad y1.recs (aaf y0.stack (wi (((y0.stack.length : Nat) : Int) - 1)))).prog) < 0 then
   if 0 ≤ wi (((y0.stack.length : Nat) : Int) - 1) ∧ wi (((y0.stack.length : Nat) : Int) - 1) < ((y0.stack.length : Nat) : Int) then
   if 0 ≤ aaf y0.stack (wi (((y0.stack.length : Nat) : Int) - 1)) ∧ aaf y0.stack (wi (((y0.stack.length : Nat) : Int) - 1)) < ((y1.recs.length : Nat) : Int) then
   none
   else none
   else none
   else
   if ((y1.c.progs.length : Nat) : Int) ≤ ((aad y1.recs (aaf y0.stack (wi (((y0.stack.length : Nat) : Int) - 1)))).prog) then
   if 0 ≤ wi (((y0.stack.length : Nat) : Int) - 1) ∧ wi (((y0.stack.length : Nat) : Int) - 1) < ((y0.stack.length : Nat) : Int) then
   if 0 ≤ aaf y0.stack (wi (((y0.stack.length : Nat) : Int) - 1)) ∧ aaf y0.stack (wi (((y0.stack.length : Nat) : Int) - 1)) < ((y1.recs.length : Nat) : Int) then
   none
   else none
   else none
   else
   if 0 ≤ (aad y1.recs (aaf y0.stack (wi (((y0.stack.length : Nat) : Int) - 1)))).prog ∧ (aad y1.recs (aaf y0.stack (wi (((y0.stack.length : Nat) : Int) - 1)))).prog < ((y1.c.progs.length : Nat) : Int) then
   if 0 ≤ wi (((y0.stack.length : Nat) : Int) - 1) ∧ wi (((y0.stack.length : Nat) : Int) - 1) < ((y0.stack.length : Nat) : Int) then
   if 0 ≤ aaf y0.stack (wi (((y0.stack.length : Nat) : Int) - 1)) ∧ aaf y0.stack (wi (((y0.stack.length : Nat) : Int) - 1)) < ((y1.recs.length : Nat) : Int) then
   if 0 ≤ (aad y1.recs (aaf y0.stack (wi (((y0.stack.length : Nat) : Int) - 1)))).pc ∧ (aad y1.recs (aaf y0.stack (wi (((y0.stack.length : Nat) : Int) - 1)))).pc < (((atL [] y1.c.progs ((aad y1.recs (aaf y0.stack (wi (((y0.stack.length : Nat) : Int) - 1)))).prog)).length : Nat) : Int) then
   if ((aad ((y1.recs.set (aaf y0.stack (wi (((y0.stack.length : Nat) : Int) - 1))).toNat ({ aad y1.recs (aaf y0.stack (wi (((y0.stack.length : Nat) : Int) - 1))) with left := (abb (atL [] y1.c.progs ((aad y1.recs (aaf y0.stack (wi (((y0.stack.length : Nat) : Int) - 1)))).prog)) ((aad y1.recs (aaf y0.stack (wi (((y0.stack.length : Nat) : Int) - 1)))).pc)).a } : RecP)).set (aaf y0.stack (wi (((y0.stack.length : Nat) : Int) - 1))).toNat ({ aad (y1.recs.set (aaf y0.stack (wi (((y0.stack.length : Nat) : Int) - 1))).toNat ({ aad y1.recs (aaf y0.stack (wi (((y0.stack.length : Nat) : Int) - 1))) with left := (abb (atL [] y1.c.progs ((aad y1.recs (aaf y0.stack (wi (((y0.stack.length : Nat) : Int) - 1)))).prog)) ((aad y1.recs (aaf y0.stack (wi (((y0.stack.length : Nat) : Int) - 1)))).pc)).a } : RecP)) (aaf y0.stack (wi (((y0.stack.length : Nat) : Int) - 1))) with left := wi (((aad (y1.recs.set (aaf y0.stack (wi (((y0.stack.length : Nat) : Int) - 1))).toNat ({ aad y1.recs (aaf y0.stack (wi (((y0.stack.length : Nat) : Int) - 1))) with left := (abb (atL [] y1.c.progs ((aad y1.recs (aaf y0.stack (wi (((y0.stack.length : Nat) : Int) - 1)))).prog)) ((aad y1.recs (aaf y0.stack (wi (((y0.stack.length : Nat) : Int) - 1)))).pc)).a } : RecP)) (aaf y0.stack (wi (((y0.stack.length : Nat) : Int) - 1)))).left) - 1) } : RecP)) (aaf y0.stack (wi (((y0.stack.length : Nat) : Int) - 1)))).left) = 0 then
   (aae y0 0 MV.nil).bind fun r4 =>
   some ((r4.1.1, ()), (r4.2.1, ({ y1 with recs := ((y1.recs.set (aaf y0.stack (wi (((y0.stack.length : Nat) : Int) - 1))).toNat ({ aad y1.recs (aaf y0.stack (wi (((y0.stack.length : Nat) : Int) - 1))) with left := (abb (atL [] y1.c.progs ((aad y1.recs (aaf y0.stack (wi (((y0.stack.length : Nat) : Int) - 1)))).prog)) ((aad y1.recs (aaf y0.stack (wi (((y0.stack.length : Nat) : Int) - 1)))).pc)).a } : RecP)).set (aaf y0.stack (wi (((y0.stack.length : Nat) : Int) - 1))).toNat ({ aad (y1.recs.set (aaf y0.stack (wi (((y0.stack.length : Nat) : Int) - 1))).toNat ({ aad y1.recs (aaf y0.stack (wi (((y0.stack.length : Nat) : Int) - 1))) with left := (abb (atL [] y1.c.progs ((aad y1.recs (aaf y0.stack (wi (((y0.stack.length : Nat) : Int) - 1)))).prog)) ((aad y1.recs (aaf y0.stack (wi (((y0.stack.length : Nat) : Int) - 1)))).pc)).a } : RecP)) (aaf y0.stack (wi (((y0.stack.length : Nat) : Int) - 1))) with left := wi (((aad (y1.recs.set (aaf y0.stack (wi (((y0.stack.length : Nat) : Int) - 1))).toNat ({ aad y1.recs (aaf y0.stack (wi (((y0.stack.length : Nat) : Int) - 1))) with left := (abb (atL [] y1.c.progs ((aad y1.recs (aaf y0.stack (wi (((y0.stack.length : Nat) : Int) - 1)))).prog)) ((aad y1.recs (aaf y0.stack (wi (((y0.stack.length : Nat) : Int) - 1)))).pc)).a } : RecP)) (aaf y0.stack (wi (((y0.stack.length : Nat) : Int) - 1)))).left) - 1) } : RecP)).set (aaf y0.stack (wi (((y0.stack.length : Nat) : Int) - 1))).toNat ({ aad ((y1.recs.set (aaf y0.stack (wi (((y0.stack.length : Nat) : Int) - 1))).toNat ({ aad y1.recs (aaf y0.stack (wi (((y0.stack.length : Nat) : Int) - 1))) with left := (abb (atL [] y1.c.progs ((aad y1.recs (aaf y0.stack (wi (((y0.stack.length : Nat) : Int) - 1)))).prog)) ((aad y1.recs (aaf y0.stack (wi (((y0.stack.length : Nat) : Int) - 1)))).pc)).a } : RecP)).set (aaf y0.stack (wi (((y0.stack.length : Nat) : Int) - 1))).toNat ({ aad (y1.recs.set (aaf y0.stack (wi (((y0.stack.length : Nat) : Int) - 1))).toNat ({ aad y1.recs (aaf y0.stack (wi (((y0.stack.length : Nat) : Int) - 1))) with left := (abb (atL [] y1.c.progs ((aad y1.recs (aaf y0.stack (wi (((y0.stack.length : Nat) : Int) - 1)))).prog)) ((aad y1.recs (aaf y0.stack (wi (((y0.stack.length : Nat) : Int) - 1)))).pc)).a } : RecP)) (aaf y0.stack (wi (((y0.stack.length : Nat) : Int) - 1))) with left := wi (((aad (y1.recs.set (aaf y0.stack (wi (((y0.stack.length : Nat) : Int) - 1))).toNat ({ aad y1.recs (aaf y0.stack (wi (((y0.stack.length : Nat) : Int) - 1))) with left := (abb (atL [] y1.c.progs ((aad y1.recs (aaf y0.stack (wi (((y0.stack.length : Nat) : Int) - 1)))).prog)) ((aad y1.recs (aaf y0.stack (wi (((y0.stack.length : Nat) : Int) - 1)))).pc)).a } : RecP)) (aaf y0.stack (wi (((y0.stack.length : Nat) : Int) - 1)))).left) - 1) } : RecP)) (aaf y0.stack (wi (((y0.stack.length : Nat) : Int) - 1))) with pc := wi (((aad ((y1.recs.set (aaf y0.stack (wi (((y0.stack.length : Nat) : Int) - 1))).toNat ({ aad y1.recs (aaf y0.stack (wi (((y0.stack.length : Nat) : Int) - 1))) with left := (abb (atL [] y1.c.progs ((aad y1.recs (aaf y0.stack (wi (((y0.stack.length : Nat) : Int) - 1)))).prog)) ((aad y1.recs (aaf y0.stack (wi (((y0.stack.length : Nat) : Int) - 1)))).pc)).a } : RecP)).set (aaf y0.stack (wi (((y0.stack.length : Nat) : Int) - 1))).toNat ({ aad (y1.recs.set (aaf y0.stack (wi (((y0.stack.length : Nat) : Int) - 1))).toNat ({ aad y1.recs (aaf y0.stack (wi (((y0.stack.length : Nat) : Int) - 1))) with left := (abb (atL [] y1.c.progs ((aad y1.recs (aaf y0.stack (wi (((y0.stack.length : Nat) : Int) - 1)))).prog)) ((aad y1.recs (aaf y0.stack (wi (((y0.stack.length : Nat) : Int) - 1)))).pc)).a } : RecP)) (aaf y0.stack (wi (((y0.stack.length : Nat) : Int) - 1))) with left := wi (((aad (y1.recs.set (aaf y0.stack (wi (((y0.stack.length : Nat) : Int) - 1))).toNat ({ aad y1.recs (aaf y0.stack (wi (((y0.stack.length : Nat) : Int) - 1))) with left := (abb (atL [] y1.c.progs ((aad y1.recs (aaf y0.stack (wi (((y0.stack.length : Nat) : Int) - 1)))).prog)) ((aad y1.recs (aaf y0.stack (wi (((y0.stack.length : Nat) : Int) - 1)))).pc)).a } : RecP)) (aaf y0.stack (wi (((y0.stack.length : Nat) : Int) - 1)))).left) - 1) } : RecP)) (aaf y0.stack (wi (((y0.stack.length : Nat) : Int) - 1)))).pc) + 1) } : RecP) } : EnvP), ()))
   else
   (aae y0 0 MV.nil).bind fun r5 =>
   some ((r5.1.1, ()), (r5.2.1, ({ y1 with recs := (y1.recs.set (aaf y0.stack (wi (((y0.stack.length : Nat) : Int) - 1))).toNat ({ aad y1.recs (aaf y0.stack (wi (((y0.stack.length : Nat) : Int) - 1))) with left := (abb (atL [] y1.c.progs ((aad y1.recs (aaf y0.stack (wi (((y0.stack.length : Nat) : Int) - 1)))).prog)) ((aad y1.recs (aaf y0.stack (wi (((y0.stack.length : Nat) : Int) - 1)))).pc)).a } : RecP)).set (aaf y0.stack (wi (((y0.stack.length : Nat) : Int) - 1))).toNat ({ aad (y1.recs.set (aaf y0.stack (wi (((y0.stack.length : Nat) : Int) - 1))).toNat ({ aad y1.recs (aaf y0.stack (wi (((y0.stack.length : Nat) : Int) - 1))) with left := (abb (atL [] y1.c.progs ((aad y1.recs (aaf y0.stack (wi (((y0.stack.length : Nat) : Int) - 1)))).prog)) ((aad y1.recs (aaf y0.stack (wi (((y0.stack.length : Nat) : Int) - 1)))).pc)).a } : RecP)) (aaf y0.stack (wi (((y0.stack.length : Nat) : Int) - 1))) with left := wi (((aad (y1.recs.set (aaf y0.stack (wi (((y0.stack.length : Nat) : Int) - 1))).toNat ({ aad y1.recs (aaf y0.stack (wi (((y0.stack.length : Nat) : Int) - 1))) with left := (abb (atL [] y1.c.progs ((aad y1.recs (aaf y0.stack (wi (((y0.stack.length : Nat) : Int) - 1)))).prog)) ((aad y1.recs (aaf y0.stack (wi (((y0.stack.length : Nat) : Int) - 1)))).pc)).a } : RecP)) (aaf y0.stack (wi (((y0.stack.length : Nat) : Int) - 1)))).left) - 1) } : RecP) } : EnvP), ()))
   else none
   else none
   else none
   else none
   else none
   else none
   else
   if ((aad (y1.recs.set (aaf y0.stack (wi (((y0.stack.length : Nat) : Int) - 1))).toNat ({ aad y1.recs (aaf y0.stack (wi (((y0.stack.length : Nat) : Int) - 1))) with left := wi (((aad y1.recs (aaf y0.stack (wi (((y0.stack.length : Nat) : Int) - 1)))).left) - 1) } : RecP)) (aaf y0.stack (wi (((y0.stack.length : Nat) : Int) - 1)))).left) = 0 then
   (aae y0 0 MV.nil).bind fun r6 =>
   some ((r6.1.1, ()), (r6.2.1, ({ y1 with recs := (y1.recs.set (aaf y0.stack (wi (((y0.stack.length : Nat) : Int) - 1))).toNat ({ aad y1.recs (aaf y0.stack (wi (((y0.stack.length : Nat) : Int) - 1))) with left := wi (((aad y1.recs (aaf y0.stack (wi (((y0.stack.length : Nat) : Int) - 1)))).left) - 1) } : RecP)).set (aaf y0.stack (wi (((y0.stack.length : Nat) : Int) - 1))).toNat ({ aad (y1.recs.set (aaf y0.stack (wi (((y0.stack.length : Nat) : Int) - 1))).toNat ({ aad y1.recs (aaf y0.stack (wi (((y0.stack.length : Nat) : Int) - 1))) with left := wi (((aad y1.recs (aaf y0.stack (wi (((y0.stack.length : Nat) : Int) - 1)))).left) - 1) } : RecP)) (aaf y0.stack (wi (((y0.stack.length : Nat) : Int) - 1))) with pc := wi (((aad (y1.recs.set (aaf y0.stack (wi (((y0.stack.length : Nat) : Int) - 1))).toNat ({ aad y1.recs (aaf y0.stack (wi (((y0.stack.length : Nat) : Int) - 1))) with left := wi (((aad y1.recs (aaf y0.stack (wi (((y0.stack.length : Nat) : Int) - 1)))).left) - 1) } : RecP)) (aaf y0.stack (wi (((y0.stack.length : Nat) : Int) - 1)))).pc) + 1) } : RecP) } : EnvP), ()))
   else
   (aae y0 0 MV.nil).bind fun r7 =>
   some ((r7.1.1, ()), (r7.2.1, ({ y1 with recs := y1.recs.set (aaf y0.stack (wi (((y0.stack.length : Nat) : Int) - 1))).toNat ({ aad y1.recs (aaf y0.stack (wi (((y0.stack.length : Nat) : Int) - 1))) with left := wi (((aad y1.recs (aaf y0.stack (wi (((y0.stack.length : Nat) : Int) - 1)))).left) - 1) } : RecP) } : EnvP), ()))
   else
   (aae y0 0 MV.nil).bind fun r8 =>
   some ((r8.1.1, ()), (r8.2.1, ({ y1 with recs := y1.recs.set (aaf y0.stack (wi (((y0.stack.length : Nat) : Int) - 1))).toNat ({ aad y1.recs (aaf y0.stack (wi (((y0.stack.length : Nat) : Int) - 1))) with pc := wi (((aad y1.recs (aaf y0.stack (wi (((y0.stack.length : Nat) : Int) - 1)))).pc) + 1) } : RecP) } : EnvP), ()))
  else none
 else none
noncomputable abbrev agq : Con SR1 := ⟨134, [.ref 32, .ref 27], [.sh .b], fun x => aaB x.1 x.2.1⟩
noncomputable def ajb : List (Nat × Func) := [(138, Tryz.f138), (131, Tryz.f131), (141, Tryz.f141), (139, Tryz.f139)]
theorem ajc : CO Tryz.prog agq := aas aar Tryz.func134 [ale, adC, acu] ⟨alK, ac2, acE, trivial⟩ ajb ⟨Tryz.func138, Tryz.func131, Tryz.func141, Tryz.func139, trivial⟩ (fun _ => []) [] fun x => by kernel_rfl
noncomputable def aaC (y0 : (RunV MV)) (y1 : EnvP) (y2 : Ev) : Option ((Unit) × ((RunV MV) × EnvP × Unit)) :=
 (afL y1 ({ y2 with worker := y0.worker } : Ev)).bind fun r1 =>
 some ((()), (y0, r1.2.1, ()))
noncomputable abbrev ac1 : Con SR1 := ⟨144, [.ref 32, .ref 27, .val 2], [], fun x => aaC x.1 x.2.1 x.2.2.1⟩
theorem adA : CO Tryz.prog ac1 := aas aar Tryz.func144 [af5] ⟨ae0, trivial⟩ [] trivial (fun _ => []) [] fun x => by kernel_rfl
noncomputable def afP (y0 : Int) (y1 : Int) : Option ((MV × Unit) × (Unit)) :=
 some ((MV.publish (⟨⟨false, 0, 0⟩, y0, y1, 1⟩ : PublishV), ()), (()))
noncomputable abbrev af1 : Con SR1 := ⟨33, [.sh sI_, .sh sI_], [.sh .mach], fun x => afP x.1 x.2.1⟩
theorem ahK : CO Tryz.prog af1 := aas aar Tryz.func33 [] trivial [] trivial (fun _ => []) [] fun x => by kernel_rfl
end Go.Proofs.YtlcelajkhklkbaaGreat
