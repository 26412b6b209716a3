/- The program's machines in the evaluator's form. -/
import Derived.Test.YtlcelajkhklkbaaGreatRcak
set_option linter.all false
namespace Go.Proofs.YtlcelajkhklkbaaGreat
open Go Go.RowKit
set_option maxRecDepth 100000
variable [Tb]
noncomputable def abv (y0 : RemoveV) (y1 : EnvP) : Option ((Bool × Unit) × (RemoveV × EnvP × Unit)) :=
 (aaH y0.o).bind fun r1 =>
 if r1.1.1 = true then
  some ((true, ()), (({ y0 with o := r1.2.1 } : RemoveV), y1, ()))
 else
 if y1.l.workers = y1.l.workers then
  if y1.l.levels = y1.l.levels then
   if y1.l.classes = y1.l.classes then
   if y1.l.tasks = y1.l.tasks then
   if y1.l.deque = y1.l.deque then
   if y1.l.heap = y1.l.heap then
   if y1.l.sleepers = y1.l.sleepers then
   if y1.l.epochs = y1.l.epochs then
   if y1.l.bitmaps = y1.l.bitmaps then
   if y1.l.queues = y1.l.queues then
   if y1.l.table = y1.l.table then
   if y0.line = 5 then
   (anR y1.l (wi ((wi (2 * y0.i)) + 1))).bind fun r2 =>
   (abz y1.m r2.1.1).bind fun r3 =>
   (abw ({ y0 with o := r1.2.1, c := wi ((wi (2 * y0.i)) + 1), z := r3.1.1 } : RemoveV)).bind fun r4 =>
   if (wi (r4.2.1.c + 1)) < (wi (r4.2.1.n - 1)) then
   some ((false, ()), (({ r4.2.1 with line := 6 } : RemoveV), ({ y1 with m := r3.2.1 } : EnvP), ()))
   else
   some ((false, ()), (({ r4.2.1 with line := r4.1.1 } : RemoveV), ({ y1 with m := r3.2.1 } : EnvP), ()))
   else
   if y0.line = 6 then
   (anR y1.l (wi ((wi (2 * y0.i)) + 2))).bind fun r5 =>
   (abz y1.m r5.1.1).bind fun r6 =>
   if r6.1.1 < y0.z then
   (abw ({ y0 with o := r1.2.1, c := wi ((wi (2 * y0.i)) + 2), z := r6.1.1 } : RemoveV)).bind fun r7 =>
   some ((false, ()), (({ r7.2.1 with line := r7.1.1 } : RemoveV), ({ y1 with m := r6.2.1 } : EnvP), ()))
   else
   (abw ({ y0 with o := r1.2.1 } : RemoveV)).bind fun r8 =>
   some ((false, ()), (({ r8.2.1 with line := r8.1.1 } : RemoveV), ({ y1 with m := r6.2.1 } : EnvP), ()))
   else
   if y0.line = 7 then
   (anR y1.l y0.i).bind fun r9 =>
   if y0.z = y0.z then
   (aa0 y1.m r9.1.1 y0.z).bind fun r10 =>
   (ab1 ({ y0 with o := r1.2.1, i := y0.c } : RemoveV)).bind fun r11 =>
   some ((false, ()), (({ r11.2.1 with line := r11.1.1 } : RemoveV), ({ y1 with m := r10.2.1 } : EnvP), ()))
   else none
   else
   if y0.line = 8 then
   (anR y1.l y0.i).bind fun r12 =>
   if y0.y = y0.y then
   (aa0 y1.m r12.1.1 y0.y).bind fun r13 =>
   (ab6 ({ y0 with o := r1.2.1 } : RemoveV)).bind fun r14 =>
   (abi r14.2.1.o 1 r14.1.1).bind fun r15 =>
   some ((r15.1.1, ()), (({ r14.2.1 with o := r15.2.1 } : RemoveV), ({ y1 with m := r13.2.1 } : EnvP), ()))
   else none
   else
   (aef ({ y0 with o := r1.2.1 } : RemoveV) y1).bind fun r16 =>
   some ((r16.1.1, ()), (r16.2.1, r16.2.2.1, ()))
   else none
   else none
   else none
   else none
   else none
   else none
   else none
   else none
   else none
  else none
 else none
noncomputable abbrev agL : Con SR1 := ⟨240, [.ref 49, .ref 27], [.sh .b], fun x => abv x.1 x.2.1⟩
theorem abu : CO Tryz.prog agL := aar aaq Tryz.func240 [aaW, anQ, aby, ac1, acG, abI, acw, abq, adE] ⟨aaL, aoO, abd, aeX, acg, acA, adD, aaX, afO, trivial⟩ [] trivial (fun _ => []) [] fun x => by kernel_rfl
noncomputable def ahz (y0 : SleepV) (y1 : EnvP) : Option ((Unit) × (SleepV × EnvP × Unit)) :=
 (afe y1.l y0.v).bind fun r1 =>
 (abz y1.m r1.1.1).bind fun r2 =>
 if r2.1.1 ≠ 0 then
  some ((()), (({ y0 with line := 7 } : SleepV), ({ y1 with m := r2.2.1 } : EnvP), ()))
 else
 if y1.c.workers ≤ (wi (y0.v + 1)) then
  (aei ({ y1 with m := r2.2.1 } : EnvP) (⟨16, y0.worker, 0, 0, 0⟩ : Ev)).bind fun r3 =>
  (aqy r3.2.1.k).bind fun r4 =>
  some ((()), (({ y0 with line := 5, v := wi (y0.v + 1), since := r4.1.1 } : SleepV), ({ r3.2.1 with k := r4.2.1 } : EnvP), ()))
 else
 some ((()), (({ y0 with v := wi (y0.v + 1) } : SleepV), ({ y1 with m := r2.2.1 } : EnvP), ()))
noncomputable abbrev af6 : Con SR1 := ⟨176, [.ref 31, .ref 27], [], fun x => ahz x.1 x.2.1⟩
theorem ai5 : CO Tryz.prog af6 := aar aaq Tryz.func176 [aeT, aby, aew, ajO] ⟨aeS, abd, adV, aiq, trivial⟩ [] trivial (fun _ => []) [] fun x => by kernel_rfl
noncomputable def ahy (y0 : SleepV) (y1 : EnvP) : Option ((Unit) × (SleepV × EnvP × Unit)) :=
 (akX y1.l y0.worker).bind fun r1 =>
 (abz y1.m r1.1.1).bind fun r2 =>
 if r2.1.1 ≠ y0.ep then
  (aei ({ y1 with m := r2.2.1 } : EnvP) (⟨17, y0.worker, 0, 1, 0⟩ : Ev)).bind fun r3 =>
  some ((()), (({ y0 with line := 6 } : SleepV), r3.2.1, ()))
 else
 (aqy y1.k).bind fun r4 =>
 if y1.c.patience = y1.c.patience then
  if y0.since = y0.since then
   if y1.c.patience ≤ (wi (r4.1.1 - y0.since)) then
   (aei ({ y1 with m := r2.2.1, k := r4.2.1 } : EnvP) (⟨17, y0.worker, 0, 2, 0⟩ : Ev)).bind fun r5 =>
   some ((()), (({ y0 with line := 6 } : SleepV), r5.2.1, ()))
   else
   some ((()), (y0, ({ y1 with m := r2.2.1, k := r4.2.1 } : EnvP), ()))
  else none
 else none
noncomputable abbrev af5 : Con SR1 := ⟨177, [.ref 31, .ref 27], [], fun x => ahy x.1 x.2.1⟩
theorem ai3 : CO Tryz.prog af5 := aar aaq Tryz.func177 [ajl, aby, aew, ajO] ⟨ajQ, abd, adV, aiq, trivial⟩ [] trivial (fun _ => []) [] fun x => by kernel_rfl
noncomputable def acX (y0 : SleepV) (y1 : EnvP) : Option ((Bool × Unit) × (SleepV × EnvP × Unit)) :=
 (aaH y0.o).bind fun r1 =>
 if r1.1.1 = true then
  some ((true, ()), (({ y0 with o := r1.2.1 } : SleepV), y1, ()))
 else
 if y0.line = 1 then
  (akX y1.l y0.worker).bind fun r2 =>
  (abz y1.m r2.1.1).bind fun r3 =>
  some ((false, ()), (({ y0 with o := r1.2.1, line := 2, ep := r3.1.1 } : SleepV), ({ y1 with m := r3.2.1 } : EnvP), ()))
 else
 if y0.line = 2 then
  ((
   if y1.c.classes < 1 then
   if y0.worker = y0.worker then
   (arW y0.worker).bind fun r4 =>
   (pOr y1.m (-1) r4.1.1).bind fun r5 =>
   some (({ y1 with m := r5.2.1 } : EnvP), ())
   else none
   else
   (atn y0.worker y1.c.classes).bind fun r6 =>
   if y1.l.workers = y1.l.workers then
   if y1.l.levels = y1.l.levels then
   if y1.l.classes = y1.l.classes then
   if y1.l.tasks = y1.l.tasks then
   if y1.l.deque = y1.l.deque then
   if y1.l.heap = y1.l.heap then
   if y1.l.sleepers = y1.l.sleepers then
   if y1.l.epochs = y1.l.epochs then
   if y1.l.bitmaps = y1.l.bitmaps then
   if y1.l.queues = y1.l.queues then
   if y1.l.table = y1.l.table then
   (aeb y1.l r6.1.1).bind fun r7 =>
   if y0.worker = y0.worker then
   (arW y0.worker).bind fun r8 =>
   (pOr y1.m r7.1.1 r8.1.1).bind fun r9 =>
   some (({ y1 with m := r9.2.1 } : EnvP), ())
   else none
   else none
   else none
   else none
   else none
   else none
   else none
   else none
   else none
   else none
   else none
   else none
  ) : Option (EnvP × Unit)).bind fun z10 =>
  some ((false, ()), (({ y0 with o := r1.2.1, line := 3 } : SleepV), z10.1, ()))
 else
 if y0.line = 3 then
  (amG y1.l).bind fun r11 =>
  (abz y1.m r11.1.1).bind fun r12 =>
  if r12.1.1 ≠ 0 then
   some ((false, ()), (({ y0 with o := r1.2.1, line := 7 } : SleepV), ({ y1 with m := r12.2.1 } : EnvP), ()))
  else
  some ((false, ()), (({ y0 with o := r1.2.1, line := 4 } : SleepV), ({ y1 with m := r12.2.1 } : EnvP), ()))
 else
 if y0.line = 4 then
  (ahz ({ y0 with o := r1.2.1 } : SleepV) y1).bind fun r13 =>
  some ((false, ()), (r13.2.1, r13.2.2.1, ()))
 else
 if y0.line = 5 then
  (ahy ({ y0 with o := r1.2.1 } : SleepV) y1).bind fun r14 =>
  some ((false, ()), (r14.2.1, r14.2.2.1, ()))
 else
 ((
  if y1.c.classes < 1 then
   if y0.worker = y0.worker then
   (arW y0.worker).bind fun r15 =>
   (atp y1.m (-1) (avv r15.1.1)).bind fun r16 =>
   some (({ y1 with m := r16.2.1 } : EnvP), ())
   else none
  else
  (atn y0.worker y1.c.classes).bind fun r17 =>
  if y1.l.workers = y1.l.workers then
   if y1.l.levels = y1.l.levels then
   if y1.l.classes = y1.l.classes then
   if y1.l.tasks = y1.l.tasks then
   if y1.l.deque = y1.l.deque then
   if y1.l.heap = y1.l.heap then
   if y1.l.sleepers = y1.l.sleepers then
   if y1.l.epochs = y1.l.epochs then
   if y1.l.bitmaps = y1.l.bitmaps then
   if y1.l.queues = y1.l.queues then
   if y1.l.table = y1.l.table then
   (aeb y1.l r17.1.1).bind fun r18 =>
   if y0.worker = y0.worker then
   (arW y0.worker).bind fun r19 =>
   (atp y1.m r18.1.1 (avv r19.1.1)).bind fun r20 =>
   some (({ y1 with m := r20.2.1 } : EnvP), ())
   else none
   else none
   else none
   else none
   else none
   else none
   else none
   else none
   else none
   else none
   else none
  else none
 ) : Option (EnvP × Unit)).bind fun z21 =>
 if y0.line = 6 then
  (abi r1.2.1 1 0).bind fun r22 =>
  some ((r22.1.1, ()), (({ y0 with o := r22.2.1 } : SleepV), z21.1, ()))
 else
 (abi r1.2.1 5 0).bind fun r23 =>
 some ((r23.1.1, ()), (({ y0 with o := r23.2.1 } : SleepV), z21.1, ()))
noncomputable abbrev ajL : Con SR1 := ⟨171, [.ref 31, .ref 27], [.sh .b], fun x => acX x.1 x.2.1⟩
noncomputable def ai4 : List (Nat × Func) := [(173, Tryz.f173)]
theorem acF : CO Tryz.prog ajL := aar aaq Tryz.func171 [aaW, ajl, aby, amK, ass, aoP, ag2, ajk, af6, af5, aoW, abq] ⟨aaL, ajQ, abd, alH, aqx, anT, aiL, ajP, ai5, ai3, an0, aaX, trivial⟩ ai4 ⟨Tryz.func173, trivial⟩ (fun _ => []) [(13, .cut [.ob 1 27] [0]), (5, .cut [.ob 1 27] [0])] fun x => by kernel_rfl
noncomputable def abL (y0 : WakeV) (y1 : EnvP) : Option ((Bool × Unit) × (WakeV × EnvP × Unit)) :=
 (aaH y0.o).bind fun r1 =>
 if r1.1.1 = true then
  some ((true, ()), (({ y0 with o := r1.2.1 } : WakeV), y1, ()))
 else
 if y0.line = 1 then
  ((
   if y1.c.classes < 1 then
   (abz y1.m (-1)).bind fun r2 =>
   some (r2.1.1, ({ y1 with m := r2.2.1 } : EnvP), ())
   else
   (amJ y0.level y1.c.levels y1.c.classes).bind fun r3 =>
   if y1.c.classes = y1.c.classes then
   if y0.j = y0.j then
   if y1.l.workers = y1.l.workers then
   if y1.l.levels = y1.l.levels then
   if y1.l.classes = y1.l.classes then
   if y1.l.tasks = y1.l.tasks then
   if y1.l.deque = y1.l.deque then
   if y1.l.heap = y1.l.heap then
   if y1.l.sleepers = y1.l.sleepers then
   if y1.l.epochs = y1.l.epochs then
   if y1.l.bitmaps = y1.l.bitmaps then
   if y1.l.queues = y1.l.queues then
   if y1.l.table = y1.l.table then
   (atn (wi (r3.1.1 + y0.j)) y1.c.classes).bind fun r4 =>
   if y1.l.workers = y1.l.workers then
   if y1.l.levels = y1.l.levels then
   if y1.l.classes = y1.l.classes then
   if y1.l.tasks = y1.l.tasks then
   if y1.l.deque = y1.l.deque then
   if y1.l.heap = y1.l.heap then
   if y1.l.sleepers = y1.l.sleepers then
   if y1.l.epochs = y1.l.epochs then
   if y1.l.bitmaps = y1.l.bitmaps then
   if y1.l.queues = y1.l.queues then
   if y1.l.table = y1.l.table then
   (aeb y1.l r4.1.1).bind fun r5 =>
   (abz y1.m r5.1.1).bind fun r6 =>
   some (r6.1.1, ({ y1 with m := r6.2.1 } : EnvP), ())
   else none
   else none
   else none
   else none
   else none
   else none
   else none
   else none
   else none
   else none
   else none
   else none
   else none
   else none
   else none
   else none
   else none
   else none
   else none
   else none
   else none
   else none
   else none
   else none
  ) : Option (Int × EnvP × Unit)).bind fun z7 =>
  if z7.1 ≠ 0 then
   (aw0 z7.1).bind fun r8 =>
   some ((false, ()), (({ y0 with o := r1.2.1, line := 2, v := r8.1.1 } : WakeV), z7.2.1, ()))
  else
  if z7.2.1.c.classes ≤ (wi (y0.j + 1)) then
   (abi r1.2.1 2 0).bind fun r9 =>
   some ((r9.1.1, ()), (({ y0 with o := r9.2.1, j := wi (y0.j + 1) } : WakeV), z7.2.1, ()))
  else
  some ((false, ()), (({ y0 with o := r1.2.1, j := wi (y0.j + 1) } : WakeV), z7.2.1, ()))
 else
 if y0.line = 2 then
  (arW y0.v).bind fun r10 =>
  ((
   if y1.c.classes < 1 then
   (atp y1.m (-1) (avv r10.1.1)).bind fun r11 =>
   some (decide ((ar1 r11.1.1 r10.1.1) = 0), ({ y1 with m := r11.2.1 } : EnvP), ())
   else
   (amJ y0.level y1.c.levels y1.c.classes).bind fun r12 =>
   if y1.c.classes = y1.c.classes then
   if y0.j = y0.j then
   if y1.l.workers = y1.l.workers then
   if y1.l.levels = y1.l.levels then
   if y1.l.classes = y1.l.classes then
   if y1.l.tasks = y1.l.tasks then
   if y1.l.deque = y1.l.deque then
   if y1.l.heap = y1.l.heap then
   if y1.l.sleepers = y1.l.sleepers then
   if y1.l.epochs = y1.l.epochs then
   if y1.l.bitmaps = y1.l.bitmaps then
   if y1.l.queues = y1.l.queues then
   if y1.l.table = y1.l.table then
   (atn (wi (r12.1.1 + y0.j)) y1.c.classes).bind fun r13 =>
   if y1.l.workers = y1.l.workers then
   if y1.l.levels = y1.l.levels then
   if y1.l.classes = y1.l.classes then
   if y1.l.tasks = y1.l.tasks then
   if y1.l.deque = y1.l.deque then
   if y1.l.heap = y1.l.heap then
   if y1.l.sleepers = y1.l.sleepers then
   if y1.l.epochs = y1.l.epochs then
   if y1.l.bitmaps = y1.l.bitmaps then
   if y1.l.queues = y1.l.queues then
   if y1.l.table = y1.l.table then
   (aeb y1.l r13.1.1).bind fun r14 =>
   (atp y1.m r14.1.1 (avv r10.1.1)).bind fun r15 =>
   some (decide ((ar1 r15.1.1 r10.1.1) = 0), ({ y1 with m := r15.2.1 } : EnvP), ())
   else none
   else none
   else none
   else none
   else none
   else none
   else none
   else none
   else none
   else none
   else none
   else none
   else none
   else none
   else none
   else none
   else none
   else none
   else none
   else none
   else none
   else none
   else none
   else none
  ) : Option (Bool × EnvP × Unit)).bind fun z16 =>
  if z16.1 = true then
   (abi r1.2.1 4 0).bind fun r17 =>
   some ((r17.1.1, ()), (({ y0 with o := r17.2.1 } : WakeV), z16.2.1, ()))
  else
  some ((false, ()), (({ y0 with o := r1.2.1, line := 3 } : WakeV), z16.2.1, ()))
 else
 (akX y1.l y0.v).bind fun r18 =>
 (av3 y1.m r18.1.1 1).bind fun r19 =>
 (aei ({ y1 with m := r19.2.1 } : EnvP) (⟨18, y0.me, 0, y0.v, 0⟩ : Ev)).bind fun r20 =>
 (abi r1.2.1 1 y0.v).bind fun r21 =>
 some ((r21.1.1, ()), (({ y0 with o := r21.2.1 } : WakeV), r20.2.1, ()))
noncomputable abbrev akG : Con SR1 := ⟨221, [.ref 36, .ref 27], [.sh .b], fun x => abL x.1 x.2.1⟩
noncomputable def ajK : List (Nat × Func) := [(222, Tryz.f222)]
theorem acW : CO Tryz.prog akG := aar aaq Tryz.func221 [aaW, aby, aoT, aoP, ag2, ato, abq, amK, aoW, ajl, aqH, aew] ⟨aaL, abd, aqD, anT, aiL, aux, aaX, alH, an0, ajQ, aqG, adV, trivial⟩ ajK ⟨Tryz.func222, trivial⟩ (fun _ => []) [(9, .cut [.rg 5 sU_, .ob 1 27] [0]), (18, .cut [.rg 108 .b, .ob 1 27] [0])] fun x => by kernel_rfl
noncomputable def agn (y0 : EnvP) (y1 : Int) (y2 : Int) : Option ((Bool × Unit) × (EnvP × Unit)) :=
 if 0 ≤ y1 then
  if y1 < y0.c.tasks then
   if 0 ≤ y2 then
   some ((decide (y2 < y0.c.levels), ()), (y0, ()))
   else
   some ((false, ()), (y0, ()))
  else
  some ((false, ()), (y0, ()))
 else
 some ((false, ()), (y0, ()))
noncomputable abbrev ag7 : Con SR1 := ⟨230, [.ref 27, .sh sI_, .sh sI_], [.sh .b], fun x => agn x.1 x.2.1 x.2.2.1⟩
theorem aiS : CO Tryz.prog ag7 := aar aaq Tryz.func230 [] trivial [] trivial (fun _ => []) [] fun x => by kernel_rfl
noncomputable def abn (y0 : RaiseV) (y1 : EnvP) : Option ((Bool × Unit) × (RaiseV × EnvP × Unit)) :=
 (aaH y0.o).bind fun r1 =>
 if r1.1.1 = true then
  some ((true, ()), (({ y0 with o := r1.2.1 } : RaiseV), y1, ()))
 else
 (agn y1 y0.task y0.level).bind fun r2 =>
 if (!r2.1.1) = true then
  (abi r1.2.1 4 0).bind fun r3 =>
  some ((r3.1.1, ()), (({ y0 with o := r3.2.1 } : RaiseV), r2.2.1, ()))
 else
 if y0.line = 1 then
  (aed r2.2.1.l y0.task).bind fun r4 =>
  (abz r2.2.1.m r4.1.1).bind fun r5 =>
  if y0.level ≤ (wi (r5.1.1)) then
   (abi r1.2.1 0 0).bind fun r6 =>
   some ((r6.1.1, ()), (({ y0 with o := r6.2.1, q := r5.1.1 } : RaiseV), ({ r2.2.1 with m := r5.2.1 } : EnvP), ()))
  else
  some ((false, ()), (({ y0 with o := r1.2.1, line := 2, q := r5.1.1 } : RaiseV), ({ r2.2.1 with m := r5.2.1 } : EnvP), ()))
 else
 (aed r2.2.1.l y0.task).bind fun r7 =>
 if y0.level = y0.level then
  if y0.q = y0.q then
   (amf r2.2.1.m r7.1.1 y0.q (wu (y0.level))).bind fun r8 =>
   if r8.1.1 = true then
   (aei ({ r2.2.1 with m := r8.2.1 } : EnvP) ({ y0 with kind := 11, other := 0 } : Ev)).bind fun r9 =>
   (abi r1.2.1 1 0).bind fun r10 =>
   some ((r10.1.1, ()), (({ y0 with o := r10.2.1 } : RaiseV), r9.2.1, ()))
   else
   some ((false, ()), (({ y0 with o := r1.2.1, line := 1 } : RaiseV), ({ r2.2.1 with m := r8.2.1 } : EnvP), ()))
  else none
 else none
noncomputable abbrev ajd : Con SR1 := ⟨255, [.ref 53, .ref 27], [.sh .b], fun x => abn x.1 x.2.1⟩
theorem acs : CO Tryz.prog ajd := aar aaq Tryz.func255 [aaW, ag7, abq, aeo, aby, ahI, aew] ⟨aaL, aiS, aaX, aec, abd, af8, adV, trivial⟩ [] trivial (fun _ => []) [] fun x => by kernel_rfl
noncomputable def aiJ (m : MV) (e : EnvP) : Option ((Bool × Unit) × (MV × EnvP × Unit)) :=
 match m with
 | .alloc x => (aa4 x e).bind fun o => some (o.1, (MV.alloc o.2.1, o.2.2))
 | .publish x => (aaZ x e).bind fun o => some (o.1, (MV.publish o.2.1, o.2.2))
 | .claim x => (abx x e).bind fun o => some (o.1, (MV.claim o.2.1, o.2.2))
 | .attempt x => (acj x e).bind fun o => some (o.1, (MV.attempt o.2.1, o.2.2))
 | .release x => (aci x e).bind fun o => some (o.1, (MV.release o.2.1, o.2.2))
 | .opush x => (abU x e).bind fun o => some (o.1, (MV.opush o.2.1, o.2.2))
 | .opop x => (adB x e).bind fun o => some (o.1, (MV.opop o.2.1, o.2.2))
 | .steal x => (acx x e).bind fun o => some (o.1, (MV.steal o.2.1, o.2.2))
 | .set x => (abV x e).bind fun o => some (o.1, (MV.set o.2.1, o.2.2))
 | .reset x => (acn x e).bind fun o => some (o.1, (MV.reset o.2.1, o.2.2))
 | .remove x => (abv x e).bind fun o => some (o.1, (MV.remove o.2.1, o.2.2))
 | .sleep x => (acX x e).bind fun o => some (o.1, (MV.sleep o.2.1, o.2.2))
 | .wake x => (abL x e).bind fun o => some (o.1, (MV.wake o.2.1, o.2.2))
 | .raise x => (abn x e).bind fun o => some (o.1, (MV.raise o.2.1, o.2.2))
 | .probe x => (acy x e).bind fun o => some (o.1, (MV.probe o.2.1, o.2.2))
 | _ => none
noncomputable abbrev alo : Con SR1 := ⟨1000000000, [.mch, .ref 27], [.sh .b], fun x => aiJ x.1 x.2.1⟩
theorem amo : CO Tryz.prog alo := agi (S := SR1) (i := 0) (ps := [.ref 27]) (rs := [.sh .b]) (spec := fun m xs => aiJ m xs.1) fun m xs out h => by
  cases m with
  | alloc x => exact aah (S := SR1) (ps := [.ref 27]) (rs := [.sh .b]) (c := 34) (mk := MV.alloc) (fun _ => rfl) rfl (fun _ _ _ _ => by kernel_rfl) abE h
  | publish x => exact aah (S := SR1) (ps := [.ref 27]) (rs := [.sh .b]) (c := 48) (mk := MV.publish) (fun _ => rfl) rfl (fun _ _ _ _ => by kernel_rfl) abO h
  | claim x => exact aah (S := SR1) (ps := [.ref 27]) (rs := [.sh .b]) (c := 43) (mk := MV.claim) (fun _ => rfl) rfl (fun _ _ _ _ => by kernel_rfl) acp h
  | attempt x => exact aah (S := SR1) (ps := [.ref 27]) (rs := [.sh .b]) (c := 33) (mk := MV.attempt) (fun _ => rfl) rfl (fun _ _ _ _ => by kernel_rfl) ab5 h
  | release x => exact aah (S := SR1) (ps := [.ref 27]) (rs := [.sh .b]) (c := 35) (mk := MV.release) (fun _ => rfl) rfl (fun _ _ _ _ => by kernel_rfl) ab4 h
  | opush x => exact aah (S := SR1) (ps := [.ref 27]) (rs := [.sh .b]) (c := 51) (mk := MV.opush) (fun _ => rfl) rfl (fun _ _ _ _ => by kernel_rfl) acH h
  | opop x => exact aah (S := SR1) (ps := [.ref 27]) (rs := [.sh .b]) (c := 50) (mk := MV.opop) (fun _ => rfl) rfl (fun _ _ _ _ => by kernel_rfl) acZ h
  | steal x => exact aah (S := SR1) (ps := [.ref 27]) (rs := [.sh .b]) (c := 40) (mk := MV.steal) (fun _ => rfl) rfl (fun _ _ _ _ => by kernel_rfl) aco h
  | set x => exact aah (S := SR1) (ps := [.ref 27]) (rs := [.sh .b]) (c := 52) (mk := MV.set) (fun _ => rfl) rfl (fun _ _ _ _ => by kernel_rfl) acJ h
  | reset x => exact aah (S := SR1) (ps := [.ref 27]) (rs := [.sh .b]) (c := 41) (mk := MV.reset) (fun _ => rfl) rfl (fun _ _ _ _ => by kernel_rfl) ab7 h
  | remove x => exact aah (S := SR1) (ps := [.ref 27]) (rs := [.sh .b]) (c := 49) (mk := MV.remove) (fun _ => rfl) rfl (fun _ _ _ _ => by kernel_rfl) abu h
  | sleep x => exact aah (S := SR1) (ps := [.ref 27]) (rs := [.sh .b]) (c := 31) (mk := MV.sleep) (fun _ => rfl) rfl (fun _ _ _ _ => by kernel_rfl) acF h
  | wake x => exact aah (S := SR1) (ps := [.ref 27]) (rs := [.sh .b]) (c := 36) (mk := MV.wake) (fun _ => rfl) rfl (fun _ _ _ _ => by kernel_rfl) acW h
  | raise x => exact aah (S := SR1) (ps := [.ref 27]) (rs := [.sh .b]) (c := 53) (mk := MV.raise) (fun _ => rfl) rfl (fun _ _ _ _ => by kernel_rfl) acs h
  | probe x => exact aah (S := SR1) (ps := [.ref 27]) (rs := [.sh .b]) (c := 44) (mk := MV.probe) (fun _ => rfl) rfl (fun _ _ _ _ => by kernel_rfl) acq h
  | _ => cases h
noncomputable def aem (m : MV) : Option ((Int × Int × Unit) × (MV × Unit)) :=
 match m with
 | .alloc x => some ((x.o.code, x.o.value, ()), (MV.alloc x, ()))
 | .publish x => some ((x.o.code, x.o.value, ()), (MV.publish x, ()))
 | .claim x => some ((x.o.code, x.o.value, ()), (MV.claim x, ()))
 | .attempt x => some ((x.o.code, x.o.value, ()), (MV.attempt x, ()))
 | .release x => some ((x.o.code, x.o.value, ()), (MV.release x, ()))
 | .opush x => some ((x.o.code, x.o.value, ()), (MV.opush x, ()))
 | .opop x => some ((x.o.code, x.o.value, ()), (MV.opop x, ()))
 | .steal x => some ((x.o.code, x.o.value, ()), (MV.steal x, ()))
 | .set x => some ((x.o.code, x.o.value, ()), (MV.set x, ()))
 | .reset x => some ((x.o.code, x.o.value, ()), (MV.reset x, ()))
 | .remove x => some ((x.o.code, x.o.value, ()), (MV.remove x, ()))
 | .sleep x => some ((x.o.code, x.o.value, ()), (MV.sleep x, ()))
 | .wake x => some ((x.o.code, x.o.value, ()), (MV.wake x, ()))
 | .raise x => some ((x.o.code, x.o.value, ()), (MV.raise x, ()))
 | .probe x => some ((x.o.code, x.o.value, ()), (MV.probe x, ()))
 | _ => none
noncomputable abbrev aie : Con SR1 := ⟨1000000001, [.mch], [.sh sI_, .sh sI_], fun x => aem x.1⟩
theorem ajD : CO Tryz.prog aie := agi (S := SR1) (i := 1) (ps := []) (rs := [.sh sI_, .sh sI_]) (spec := fun m _ => aem m) fun m xs out h => by
  cases m with
  | alloc x => exact aah (S := SR1) (ps := []) (rs := [.sh sI_, .sh sI_]) (c := 34) (mk := MV.alloc) (f := 129) (sp := fun x => some ((x.1.o.code, x.1.o.value, ()), (x.1, ()))) (fun _ => rfl) rfl (fun _ _ _ _ => by kernel_rfl) (aak [aag] ⟨aad, trivial⟩ fun x => by kernel_rfl) h
  | publish x => exact aah (S := SR1) (ps := []) (rs := [.sh sI_, .sh sI_]) (c := 48) (mk := MV.publish) (f := 129) (sp := fun x => some ((x.1.o.code, x.1.o.value, ()), (x.1, ()))) (fun _ => rfl) rfl (fun _ _ _ _ => by kernel_rfl) (aak [aag] ⟨aad, trivial⟩ fun x => by kernel_rfl) h
  | claim x => exact aah (S := SR1) (ps := []) (rs := [.sh sI_, .sh sI_]) (c := 43) (mk := MV.claim) (f := 129) (sp := fun x => some ((x.1.o.code, x.1.o.value, ()), (x.1, ()))) (fun _ => rfl) rfl (fun _ _ _ _ => by kernel_rfl) (aak [aag] ⟨aad, trivial⟩ fun x => by kernel_rfl) h
  | attempt x => exact aah (S := SR1) (ps := []) (rs := [.sh sI_, .sh sI_]) (c := 33) (mk := MV.attempt) (f := 129) (sp := fun x => some ((x.1.o.code, x.1.o.value, ()), (x.1, ()))) (fun _ => rfl) rfl (fun _ _ _ _ => by kernel_rfl) (aak [aag] ⟨aad, trivial⟩ fun x => by kernel_rfl) h
  | release x => exact aah (S := SR1) (ps := []) (rs := [.sh sI_, .sh sI_]) (c := 35) (mk := MV.release) (f := 129) (sp := fun x => some ((x.1.o.code, x.1.o.value, ()), (x.1, ()))) (fun _ => rfl) rfl (fun _ _ _ _ => by kernel_rfl) (aak [aag] ⟨aad, trivial⟩ fun x => by kernel_rfl) h
  | opush x => exact aah (S := SR1) (ps := []) (rs := [.sh sI_, .sh sI_]) (c := 51) (mk := MV.opush) (f := 129) (sp := fun x => some ((x.1.o.code, x.1.o.value, ()), (x.1, ()))) (fun _ => rfl) rfl (fun _ _ _ _ => by kernel_rfl) (aak [aag] ⟨aad, trivial⟩ fun x => by kernel_rfl) h
  | opop x => exact aah (S := SR1) (ps := []) (rs := [.sh sI_, .sh sI_]) (c := 50) (mk := MV.opop) (f := 129) (sp := fun x => some ((x.1.o.code, x.1.o.value, ()), (x.1, ()))) (fun _ => rfl) rfl (fun _ _ _ _ => by kernel_rfl) (aak [aag] ⟨aad, trivial⟩ fun x => by kernel_rfl) h
  | steal x => exact aah (S := SR1) (ps := []) (rs := [.sh sI_, .sh sI_]) (c := 40) (mk := MV.steal) (f := 129) (sp := fun x => some ((x.1.o.code, x.1.o.value, ()), (x.1, ()))) (fun _ => rfl) rfl (fun _ _ _ _ => by kernel_rfl) (aak [aag] ⟨aad, trivial⟩ fun x => by kernel_rfl) h
  | set x => exact aah (S := SR1) (ps := []) (rs := [.sh sI_, .sh sI_]) (c := 52) (mk := MV.set) (f := 129) (sp := fun x => some ((x.1.o.code, x.1.o.value, ()), (x.1, ()))) (fun _ => rfl) rfl (fun _ _ _ _ => by kernel_rfl) (aak [aag] ⟨aad, trivial⟩ fun x => by kernel_rfl) h
  | reset x => exact aah (S := SR1) (ps := []) (rs := [.sh sI_, .sh sI_]) (c := 41) (mk := MV.reset) (f := 129) (sp := fun x => some ((x.1.o.code, x.1.o.value, ()), (x.1, ()))) (fun _ => rfl) rfl (fun _ _ _ _ => by kernel_rfl) (aak [aag] ⟨aad, trivial⟩ fun x => by kernel_rfl) h
  | remove x => exact aah (S := SR1) (ps := []) (rs := [.sh sI_, .sh sI_]) (c := 49) (mk := MV.remove) (f := 129) (sp := fun x => some ((x.1.o.code, x.1.o.value, ()), (x.1, ()))) (fun _ => rfl) rfl (fun _ _ _ _ => by kernel_rfl) (aak [aag] ⟨aad, trivial⟩ fun x => by kernel_rfl) h
  | sleep x => exact aah (S := SR1) (ps := []) (rs := [.sh sI_, .sh sI_]) (c := 31) (mk := MV.sleep) (f := 129) (sp := fun x => some ((x.1.o.code, x.1.o.value, ()), (x.1, ()))) (fun _ => rfl) rfl (fun _ _ _ _ => by kernel_rfl) (aak [aag] ⟨aad, trivial⟩ fun x => by kernel_rfl) h
  | wake x => exact aah (S := SR1) (ps := []) (rs := [.sh sI_, .sh sI_]) (c := 36) (mk := MV.wake) (f := 129) (sp := fun x => some ((x.1.o.code, x.1.o.value, ()), (x.1, ()))) (fun _ => rfl) rfl (fun _ _ _ _ => by kernel_rfl) (aak [aag] ⟨aad, trivial⟩ fun x => by kernel_rfl) h
  | raise x => exact aah (S := SR1) (ps := []) (rs := [.sh sI_, .sh sI_]) (c := 53) (mk := MV.raise) (f := 129) (sp := fun x => some ((x.1.o.code, x.1.o.value, ()), (x.1, ()))) (fun _ => rfl) rfl (fun _ _ _ _ => by kernel_rfl) (aak [aag] ⟨aad, trivial⟩ fun x => by kernel_rfl) h
  | probe x => exact aah (S := SR1) (ps := []) (rs := [.sh sI_, .sh sI_]) (c := 44) (mk := MV.probe) (f := 129) (sp := fun x => some ((x.1.o.code, x.1.o.value, ()), (x.1, ()))) (fun _ => rfl) rfl (fun _ _ _ _ => by kernel_rfl) (aak [aag] ⟨aad, trivial⟩ fun x => by kernel_rfl) h
  | _ => cases h
noncomputable def ajT (y0 : QV) (y1 : Int) : Option ((MV × Unit) × (Unit)) :=
 some ((MV.opush (⟨⟨false, 0, 0⟩, y0, y1, 1, 0⟩ : OPushV), ()), (()))
noncomputable abbrev ajR : Con SR1 := ⟨218, [.val 14, .sh sI_], [.sh .mach], fun x => ajT x.1 x.2.1⟩
theorem amM : CO Tryz.prog ajR := aar aaq Tryz.func218 [] trivial [] trivial (fun _ => []) [] fun x => by kernel_rfl
noncomputable def ago (y0 : Int) (y1 : Int) : Option ((MV × Unit) × (Unit)) :=
 some ((MV.set (⟨⟨false, 0, 0⟩, y0, y1⟩ : SetV), ()), (()))
noncomputable abbrev akv : Con SR1 := ⟨219, [.sh sI_, .sh sI_], [.sh .mach], fun x => ago x.1 x.2.1⟩
theorem ani : CO Tryz.prog akv := aar aaq Tryz.func219 [] trivial [] trivial (fun _ => []) [] fun x => by kernel_rfl
noncomputable def abm (y0 : (LPushV MV)) (y1 : EnvP) : Option ((Bool × Unit) × ((LPushV MV) × EnvP × Unit)) :=
 (aaH y0.o).bind fun r1 =>
 if r1.1.1 = true then
  some ((true, ()), (({ y0 with o := r1.2.1 } : (LPushV MV)), y1, ()))
 else
 if (SR1.spl y0.inside).isNone = true then
  (akW y1.l y0.worker y0.level).bind fun r2 =>
  if y0.value = y0.value then
   (ajT r2.1.1 y0.value).bind fun r3 =>
   (aiJ r3.1.1 y1).bind fun r4 =>
   if (!r4.1.1) = true then
   some ((false, ()), (({ y0 with o := r1.2.1, inside := r4.2.1 } : (LPushV MV)), r4.2.2.1, ()))
   else
   (aem r4.2.1).bind fun r5 =>
   if r5.1.1 = 3 then
   (abi r1.2.1 3 0).bind fun r6 =>
   some ((r6.1.1, ()), (({ y0 with o := r6.2.1, inside := r5.2.1 } : (LPushV MV)), r4.2.2.1, ()))
   else
   if y0.line = 2 then
   (abi r1.2.1 0 0).bind fun r7 =>
   some ((r7.1.1, ()), (({ y0 with o := r7.2.1, inside := r5.2.1 } : (LPushV MV)), r4.2.2.1, ()))
   else
   (afe r4.2.2.1.l y0.worker).bind fun r8 =>
   if y0.level = y0.level then
   (ago r8.1.1 y0.level).bind fun r9 =>
   some ((false, ()), (({ y0 with o := r1.2.1, line := 2, inside := r9.1.1 } : (LPushV MV)), r4.2.2.1, ()))
   else none
  else none
 else
 (aiJ y0.inside y1).bind fun r10 =>
 if (!r10.1.1) = true then
  some ((false, ()), (({ y0 with o := r1.2.1, inside := r10.2.1 } : (LPushV MV)), r10.2.2.1, ()))
 else
 (aem r10.2.1).bind fun r11 =>
 if r11.1.1 = 3 then
  (abi r1.2.1 3 0).bind fun r12 =>
  some ((r12.1.1, ()), (({ y0 with o := r12.2.1, inside := r11.2.1 } : (LPushV MV)), r10.2.2.1, ()))
 else
 if y0.line = 2 then
  (abi r1.2.1 0 0).bind fun r13 =>
  some ((r13.1.1, ()), (({ y0 with o := r13.2.1, inside := r11.2.1 } : (LPushV MV)), r10.2.2.1, ()))
 else
 (afe r10.2.2.1.l y0.worker).bind fun r14 =>
 if y0.level = y0.level then
  (ago r14.1.1 y0.level).bind fun r15 =>
  some ((false, ()), (({ y0 with o := r1.2.1, line := 2, inside := r15.1.1 } : (LPushV MV)), r10.2.2.1, ()))
 else none
noncomputable abbrev ai7 : Con SR1 := ⟨217, [.ref 45, .ref 27], [.sh .b], fun x => abm x.1 x.2.1⟩
theorem adi : CO Tryz.prog ai7 := aar aaq Tryz.func217 [aaW, ajj, ajR, alo, aie, abq, aeT, akv] ⟨aaL, ajN, amM, amo, ajD, aaX, aeS, ani, trivial⟩ [] trivial (fun _ => []) [] fun x => by kernel_rfl
noncomputable def aoX (y0 : QV) : Option ((MV × Unit) × (Unit)) :=
 some ((MV.opop (⟨⟨false, 0, 0⟩, y0, 1, 0, 0⟩ : OPopV), ()), (()))
noncomputable abbrev ak0 : Con SR1 := ⟨208, [.val 14], [.sh .mach], fun x => aoX x.1⟩
theorem an2 : CO Tryz.prog ak0 := aar aaq Tryz.func208 [] trivial [] trivial (fun _ => []) [] fun x => by kernel_rfl
noncomputable def ahS (y0 : (LPopV MV)) (y1 : EnvP) : Option ((Bool × Unit) × ((LPopV MV) × EnvP × Unit)) :=
 (afe y1.l y0.worker).bind fun r1 =>
 (abz y1.m r1.1.1).bind fun r2 =>
 if r2.1.1 = 0 then
  (abi y0.o 2 0).bind fun r3 =>
  some ((r3.1.1, ()), (({ y0 with o := r3.2.1 } : (LPopV MV)), ({ y1 with m := r2.2.1 } : EnvP), ()))
 else
 (afN r2.1.1).bind fun r4 =>
 (akW y1.l y0.worker r4.1.1).bind fun r5 =>
 (aoX r5.1.1).bind fun r6 =>
 some ((false, ()), (({ y0 with level := r4.1.1, line := 2, inside := r6.1.1 } : (LPopV MV)), ({ y1 with m := r2.2.1 } : EnvP), ()))
noncomputable abbrev agb : Con SR1 := ⟨206, [.ref 42, .ref 27], [.sh .b], fun x => ahS x.1 x.2.1⟩
theorem ai8 : CO Tryz.prog agb := aar aaq Tryz.func206 [aeT, aby, abq, anW, ajj, ak0] ⟨aeS, abd, aaX, aoS, ajN, an2, trivial⟩ [] trivial (fun _ => []) [] fun x => by kernel_rfl
noncomputable def aky (y0 : Int) (y1 : Int) (y2 : QV) : Option ((MV × Unit) × (Unit)) :=
 some ((MV.reset (⟨⟨false, 0, 0⟩, y0, y1, y2, 1, 0⟩ : ResetV), ()), (()))
noncomputable abbrev ah1 : Con SR1 := ⟨76, [.sh sI_, .sh sI_, .val 14], [.sh .mach], fun x => aky x.1 x.2.1 x.2.2.1⟩
theorem akM : CO Tryz.prog ah1 := aar aaq Tryz.func76 [] trivial [] trivial (fun _ => []) [] fun x => by kernel_rfl
noncomputable def adW (y0 : (LPopV MV)) (y1 : EnvP) : Option ((Bool × Unit) × ((LPopV MV) × EnvP × Unit)) :=
 (aaH y0.o).bind fun r1 =>
 if r1.1.1 = true then
  some ((true, ()), (({ y0 with o := r1.2.1 } : (LPopV MV)), y1, ()))
 else
 if y0.line = 1 then
  (ahS ({ y0 with o := r1.2.1 } : (LPopV MV)) y1).bind fun r2 =>
  some ((r2.1.1, ()), (r2.2.1, r2.2.2.1, ()))
 else
 (aiJ y0.inside y1).bind fun r3 =>
 if (!r3.1.1) = true then
  some ((false, ()), (({ y0 with o := r1.2.1, inside := r3.2.1 } : (LPopV MV)), r3.2.2.1, ()))
 else
 (aem r3.2.1).bind fun r4 =>
 if y0.line = 3 then
  some ((false, ()), (({ y0 with o := r1.2.1, line := 1, inside := MV.nil } : (LPopV MV)), r3.2.2.1, ()))
 else
 if r4.1.1 = 1 then
  (abi r1.2.1 1 r4.1.2.1).bind fun r5 =>
  some ((r5.1.1, ()), (({ y0 with o := r5.2.1, inside := r4.2.1 } : (LPopV MV)), r3.2.2.1, ()))
 else
 (afe r3.2.2.1.l y0.worker).bind fun r6 =>
 if y0.level = y0.level then
  if y0.worker = y0.worker then
   if r3.2.2.1.l.workers = r3.2.2.1.l.workers then
   if r3.2.2.1.l.levels = r3.2.2.1.l.levels then
   if r3.2.2.1.l.classes = r3.2.2.1.l.classes then
   if r3.2.2.1.l.tasks = r3.2.2.1.l.tasks then
   if r3.2.2.1.l.deque = r3.2.2.1.l.deque then
   if r3.2.2.1.l.heap = r3.2.2.1.l.heap then
   if r3.2.2.1.l.sleepers = r3.2.2.1.l.sleepers then
   if r3.2.2.1.l.epochs = r3.2.2.1.l.epochs then
   if r3.2.2.1.l.bitmaps = r3.2.2.1.l.bitmaps then
   if r3.2.2.1.l.queues = r3.2.2.1.l.queues then
   if r3.2.2.1.l.table = r3.2.2.1.l.table then
   if y0.level = y0.level then
   (akW r3.2.2.1.l y0.worker y0.level).bind fun r7 =>
   if y0.level = y0.level then
   (aky r6.1.1 y0.level r7.1.1).bind fun r8 =>
   some ((false, ()), (({ y0 with o := r1.2.1, line := 3, inside := r8.1.1 } : (LPopV MV)), r3.2.2.1, ()))
   else none
   else none
   else none
   else none
   else none
   else none
   else none
   else none
   else none
   else none
   else none
   else none
   else none
  else none
 else none
noncomputable abbrev aj3 : Con SR1 := ⟨205, [.ref 42, .ref 27], [.sh .b], fun x => adW x.1 x.2.1⟩
theorem adI : CO Tryz.prog aj3 := aar aaq Tryz.func205 [aaW, agb, alo, aie, abq, aeT, ajj, ah1] ⟨aaL, ai8, amo, ajD, aaX, aeS, ajN, akM, trivial⟩ [] trivial (fun _ => []) [] fun x => by kernel_rfl
noncomputable def ad4 (m : MV) (e : EnvP) : Option ((Bool × Unit) × (MV × EnvP × Unit)) :=
 match m with
 | .alloc x => (aa4 x e).bind fun o => some (o.1, (MV.alloc o.2.1, o.2.2))
 | .publish x => (aaZ x e).bind fun o => some (o.1, (MV.publish o.2.1, o.2.2))
 | .claim x => (abx x e).bind fun o => some (o.1, (MV.claim o.2.1, o.2.2))
 | .attempt x => (acj x e).bind fun o => some (o.1, (MV.attempt o.2.1, o.2.2))
 | .release x => (aci x e).bind fun o => some (o.1, (MV.release o.2.1, o.2.2))
 | .opush x => (abU x e).bind fun o => some (o.1, (MV.opush o.2.1, o.2.2))
 | .opop x => (adB x e).bind fun o => some (o.1, (MV.opop o.2.1, o.2.2))
 | .steal x => (acx x e).bind fun o => some (o.1, (MV.steal o.2.1, o.2.2))
 | .set x => (abV x e).bind fun o => some (o.1, (MV.set o.2.1, o.2.2))
 | .reset x => (acn x e).bind fun o => some (o.1, (MV.reset o.2.1, o.2.2))
 | .remove x => (abv x e).bind fun o => some (o.1, (MV.remove o.2.1, o.2.2))
 | .sleep x => (acX x e).bind fun o => some (o.1, (MV.sleep o.2.1, o.2.2))
 | .wake x => (abL x e).bind fun o => some (o.1, (MV.wake o.2.1, o.2.2))
 | .raise x => (abn x e).bind fun o => some (o.1, (MV.raise o.2.1, o.2.2))
 | .probe x => (acy x e).bind fun o => some (o.1, (MV.probe o.2.1, o.2.2))
 | .lpush x => (abm x e).bind fun o => some (o.1, (MV.lpush o.2.1, o.2.2))
 | .lpop x => (adW x e).bind fun o => some (o.1, (MV.lpop o.2.1, o.2.2))
 | _ => none
noncomputable abbrev afb : Con SR1 := ⟨1000000000, [.mch, .ref 27], [.sh .b], fun x => ad4 x.1 x.2.1⟩
theorem aeH : CO Tryz.prog afb := agi (S := SR1) (i := 0) (ps := [.ref 27]) (rs := [.sh .b]) (spec := fun m xs => ad4 m xs.1) fun m xs out h => by
  cases m with
  | alloc x => exact aah (S := SR1) (ps := [.ref 27]) (rs := [.sh .b]) (c := 34) (mk := MV.alloc) (fun _ => rfl) rfl (fun _ _ _ _ => by kernel_rfl) abE h
  | publish x => exact aah (S := SR1) (ps := [.ref 27]) (rs := [.sh .b]) (c := 48) (mk := MV.publish) (fun _ => rfl) rfl (fun _ _ _ _ => by kernel_rfl) abO h
  | claim x => exact aah (S := SR1) (ps := [.ref 27]) (rs := [.sh .b]) (c := 43) (mk := MV.claim) (fun _ => rfl) rfl (fun _ _ _ _ => by kernel_rfl) acp h
  | attempt x => exact aah (S := SR1) (ps := [.ref 27]) (rs := [.sh .b]) (c := 33) (mk := MV.attempt) (fun _ => rfl) rfl (fun _ _ _ _ => by kernel_rfl) ab5 h
  | release x => exact aah (S := SR1) (ps := [.ref 27]) (rs := [.sh .b]) (c := 35) (mk := MV.release) (fun _ => rfl) rfl (fun _ _ _ _ => by kernel_rfl) ab4 h
  | opush x => exact aah (S := SR1) (ps := [.ref 27]) (rs := [.sh .b]) (c := 51) (mk := MV.opush) (fun _ => rfl) rfl (fun _ _ _ _ => by kernel_rfl) acH h
  | opop x => exact aah (S := SR1) (ps := [.ref 27]) (rs := [.sh .b]) (c := 50) (mk := MV.opop) (fun _ => rfl) rfl (fun _ _ _ _ => by kernel_rfl) acZ h
  | steal x => exact aah (S := SR1) (ps := [.ref 27]) (rs := [.sh .b]) (c := 40) (mk := MV.steal) (fun _ => rfl) rfl (fun _ _ _ _ => by kernel_rfl) aco h
  | set x => exact aah (S := SR1) (ps := [.ref 27]) (rs := [.sh .b]) (c := 52) (mk := MV.set) (fun _ => rfl) rfl (fun _ _ _ _ => by kernel_rfl) acJ h
  | reset x => exact aah (S := SR1) (ps := [.ref 27]) (rs := [.sh .b]) (c := 41) (mk := MV.reset) (fun _ => rfl) rfl (fun _ _ _ _ => by kernel_rfl) ab7 h
  | remove x => exact aah (S := SR1) (ps := [.ref 27]) (rs := [.sh .b]) (c := 49) (mk := MV.remove) (fun _ => rfl) rfl (fun _ _ _ _ => by kernel_rfl) abu h
  | sleep x => exact aah (S := SR1) (ps := [.ref 27]) (rs := [.sh .b]) (c := 31) (mk := MV.sleep) (fun _ => rfl) rfl (fun _ _ _ _ => by kernel_rfl) acF h
  | wake x => exact aah (S := SR1) (ps := [.ref 27]) (rs := [.sh .b]) (c := 36) (mk := MV.wake) (fun _ => rfl) rfl (fun _ _ _ _ => by kernel_rfl) acW h
  | raise x => exact aah (S := SR1) (ps := [.ref 27]) (rs := [.sh .b]) (c := 53) (mk := MV.raise) (fun _ => rfl) rfl (fun _ _ _ _ => by kernel_rfl) acs h
  | probe x => exact aah (S := SR1) (ps := [.ref 27]) (rs := [.sh .b]) (c := 44) (mk := MV.probe) (fun _ => rfl) rfl (fun _ _ _ _ => by kernel_rfl) acq h
  | lpush x => exact aah (S := SR1) (ps := [.ref 27]) (rs := [.sh .b]) (c := 45) (mk := MV.lpush) (fun _ => rfl) rfl (fun _ _ _ _ => by kernel_rfl) adi h
  | lpop x => exact aah (S := SR1) (ps := [.ref 27]) (rs := [.sh .b]) (c := 42) (mk := MV.lpop) (fun _ => rfl) rfl (fun _ _ _ _ => by kernel_rfl) adI h
  | _ => cases h
noncomputable def abR (m : MV) : Option ((Int × Int × Unit) × (MV × Unit)) :=
 match m with
 | .alloc x => some ((x.o.code, x.o.value, ()), (MV.alloc x, ()))
 | .publish x => some ((x.o.code, x.o.value, ()), (MV.publish x, ()))
 | .claim x => some ((x.o.code, x.o.value, ()), (MV.claim x, ()))
 | .attempt x => some ((x.o.code, x.o.value, ()), (MV.attempt x, ()))
 | .release x => some ((x.o.code, x.o.value, ()), (MV.release x, ()))
 | .opush x => some ((x.o.code, x.o.value, ()), (MV.opush x, ()))
 | .opop x => some ((x.o.code, x.o.value, ()), (MV.opop x, ()))
 | .steal x => some ((x.o.code, x.o.value, ()), (MV.steal x, ()))
 | .set x => some ((x.o.code, x.o.value, ()), (MV.set x, ()))
 | .reset x => some ((x.o.code, x.o.value, ()), (MV.reset x, ()))
 | .remove x => some ((x.o.code, x.o.value, ()), (MV.remove x, ()))
 | .sleep x => some ((x.o.code, x.o.value, ()), (MV.sleep x, ()))
 | .wake x => some ((x.o.code, x.o.value, ()), (MV.wake x, ()))
 | .raise x => some ((x.o.code, x.o.value, ()), (MV.raise x, ()))
 | .probe x => some ((x.o.code, x.o.value, ()), (MV.probe x, ()))
 | .lpush x => some ((x.o.code, x.o.value, ()), (MV.lpush x, ()))
 | .lpop x => some ((x.o.code, x.o.value, ()), (MV.lpop x, ()))
 | _ => none
noncomputable abbrev adh : Con SR1 := ⟨1000000001, [.mch], [.sh sI_, .sh sI_], fun x => abR x.1⟩
theorem adg : CO Tryz.prog adh := agi (S := SR1) (i := 1) (ps := []) (rs := [.sh sI_, .sh sI_]) (spec := fun m _ => abR m) fun m xs out h => by
  cases m with
  | alloc x => exact aah (S := SR1) (ps := []) (rs := [.sh sI_, .sh sI_]) (c := 34) (mk := MV.alloc) (f := 129) (sp := fun x => some ((x.1.o.code, x.1.o.value, ()), (x.1, ()))) (fun _ => rfl) rfl (fun _ _ _ _ => by kernel_rfl) (aak [aag] ⟨aad, trivial⟩ fun x => by kernel_rfl) h
  | publish x => exact aah (S := SR1) (ps := []) (rs := [.sh sI_, .sh sI_]) (c := 48) (mk := MV.publish) (f := 129) (sp := fun x => some ((x.1.o.code, x.1.o.value, ()), (x.1, ()))) (fun _ => rfl) rfl (fun _ _ _ _ => by kernel_rfl) (aak [aag] ⟨aad, trivial⟩ fun x => by kernel_rfl) h
  | claim x => exact aah (S := SR1) (ps := []) (rs := [.sh sI_, .sh sI_]) (c := 43) (mk := MV.claim) (f := 129) (sp := fun x => some ((x.1.o.code, x.1.o.value, ()), (x.1, ()))) (fun _ => rfl) rfl (fun _ _ _ _ => by kernel_rfl) (aak [aag] ⟨aad, trivial⟩ fun x => by kernel_rfl) h
  | attempt x => exact aah (S := SR1) (ps := []) (rs := [.sh sI_, .sh sI_]) (c := 33) (mk := MV.attempt) (f := 129) (sp := fun x => some ((x.1.o.code, x.1.o.value, ()), (x.1, ()))) (fun _ => rfl) rfl (fun _ _ _ _ => by kernel_rfl) (aak [aag] ⟨aad, trivial⟩ fun x => by kernel_rfl) h
  | release x => exact aah (S := SR1) (ps := []) (rs := [.sh sI_, .sh sI_]) (c := 35) (mk := MV.release) (f := 129) (sp := fun x => some ((x.1.o.code, x.1.o.value, ()), (x.1, ()))) (fun _ => rfl) rfl (fun _ _ _ _ => by kernel_rfl) (aak [aag] ⟨aad, trivial⟩ fun x => by kernel_rfl) h
  | opush x => exact aah (S := SR1) (ps := []) (rs := [.sh sI_, .sh sI_]) (c := 51) (mk := MV.opush) (f := 129) (sp := fun x => some ((x.1.o.code, x.1.o.value, ()), (x.1, ()))) (fun _ => rfl) rfl (fun _ _ _ _ => by kernel_rfl) (aak [aag] ⟨aad, trivial⟩ fun x => by kernel_rfl) h
  | opop x => exact aah (S := SR1) (ps := []) (rs := [.sh sI_, .sh sI_]) (c := 50) (mk := MV.opop) (f := 129) (sp := fun x => some ((x.1.o.code, x.1.o.value, ()), (x.1, ()))) (fun _ => rfl) rfl (fun _ _ _ _ => by kernel_rfl) (aak [aag] ⟨aad, trivial⟩ fun x => by kernel_rfl) h
  | steal x => exact aah (S := SR1) (ps := []) (rs := [.sh sI_, .sh sI_]) (c := 40) (mk := MV.steal) (f := 129) (sp := fun x => some ((x.1.o.code, x.1.o.value, ()), (x.1, ()))) (fun _ => rfl) rfl (fun _ _ _ _ => by kernel_rfl) (aak [aag] ⟨aad, trivial⟩ fun x => by kernel_rfl) h
  | set x => exact aah (S := SR1) (ps := []) (rs := [.sh sI_, .sh sI_]) (c := 52) (mk := MV.set) (f := 129) (sp := fun x => some ((x.1.o.code, x.1.o.value, ()), (x.1, ()))) (fun _ => rfl) rfl (fun _ _ _ _ => by kernel_rfl) (aak [aag] ⟨aad, trivial⟩ fun x => by kernel_rfl) h
  | reset x => exact aah (S := SR1) (ps := []) (rs := [.sh sI_, .sh sI_]) (c := 41) (mk := MV.reset) (f := 129) (sp := fun x => some ((x.1.o.code, x.1.o.value, ()), (x.1, ()))) (fun _ => rfl) rfl (fun _ _ _ _ => by kernel_rfl) (aak [aag] ⟨aad, trivial⟩ fun x => by kernel_rfl) h
  | remove x => exact aah (S := SR1) (ps := []) (rs := [.sh sI_, .sh sI_]) (c := 49) (mk := MV.remove) (f := 129) (sp := fun x => some ((x.1.o.code, x.1.o.value, ()), (x.1, ()))) (fun _ => rfl) rfl (fun _ _ _ _ => by kernel_rfl) (aak [aag] ⟨aad, trivial⟩ fun x => by kernel_rfl) h
  | sleep x => exact aah (S := SR1) (ps := []) (rs := [.sh sI_, .sh sI_]) (c := 31) (mk := MV.sleep) (f := 129) (sp := fun x => some ((x.1.o.code, x.1.o.value, ()), (x.1, ()))) (fun _ => rfl) rfl (fun _ _ _ _ => by kernel_rfl) (aak [aag] ⟨aad, trivial⟩ fun x => by kernel_rfl) h
  | wake x => exact aah (S := SR1) (ps := []) (rs := [.sh sI_, .sh sI_]) (c := 36) (mk := MV.wake) (f := 129) (sp := fun x => some ((x.1.o.code, x.1.o.value, ()), (x.1, ()))) (fun _ => rfl) rfl (fun _ _ _ _ => by kernel_rfl) (aak [aag] ⟨aad, trivial⟩ fun x => by kernel_rfl) h
  | raise x => exact aah (S := SR1) (ps := []) (rs := [.sh sI_, .sh sI_]) (c := 53) (mk := MV.raise) (f := 129) (sp := fun x => some ((x.1.o.code, x.1.o.value, ()), (x.1, ()))) (fun _ => rfl) rfl (fun _ _ _ _ => by kernel_rfl) (aak [aag] ⟨aad, trivial⟩ fun x => by kernel_rfl) h
  | probe x => exact aah (S := SR1) (ps := []) (rs := [.sh sI_, .sh sI_]) (c := 44) (mk := MV.probe) (f := 129) (sp := fun x => some ((x.1.o.code, x.1.o.value, ()), (x.1, ()))) (fun _ => rfl) rfl (fun _ _ _ _ => by kernel_rfl) (aak [aag] ⟨aad, trivial⟩ fun x => by kernel_rfl) h
  | lpush x => exact aah (S := SR1) (ps := []) (rs := [.sh sI_, .sh sI_]) (c := 45) (mk := MV.lpush) (f := 129) (sp := fun x => some ((x.1.o.code, x.1.o.value, ()), (x.1, ()))) (fun _ => rfl) rfl (fun _ _ _ _ => by kernel_rfl) (aak [aag] ⟨aad, trivial⟩ fun x => by kernel_rfl) h
  | lpop x => exact aah (S := SR1) (ps := []) (rs := [.sh sI_, .sh sI_]) (c := 42) (mk := MV.lpop) (f := 129) (sp := fun x => some ((x.1.o.code, x.1.o.value, ()), (x.1, ()))) (fun _ => rfl) rfl (fun _ _ _ _ => by kernel_rfl) (aak [aag] ⟨aad, trivial⟩ fun x => by kernel_rfl) h
  | _ => cases h
noncomputable def aiA (y0 : Int) (y1 : Int) (y2 : Int) : Option ((MV × Unit) × (Unit)) :=
 some ((MV.raise (⟨⟨false, 0, 0⟩, y0, y1, y2, 1, 0⟩ : RaiseV), ()), (()))
noncomputable abbrev aiR : Con SR1 := ⟨231, [.sh sI_, .sh sI_, .sh sI_], [.sh .mach], fun x => aiA x.1 x.2.1 x.2.2.1⟩
theorem al6 : CO Tryz.prog aiR := aar aaq Tryz.func231 [] trivial [] trivial (fun _ => []) [] fun x => by kernel_rfl
noncomputable def acD (y0 : (WalkV MV)) (y1 : EnvP) : Option ((Bool × Unit) × ((WalkV MV) × EnvP × Unit)) :=
 if (SR1.spl y0.inside).isNone = true then
  (agn y1 y0.task y0.level).bind fun r1 =>
  if (!r1.1.1) = true then
   (abi y0.o 4 0).bind fun r2 =>
   some ((r2.1.1, ()), (({ y0 with o := r2.2.1 } : (WalkV MV)), r1.2.1, ()))
  else
  (aiA y0.worker y0.task y0.level).bind fun r3 =>
  (ad4 r3.1.1 r1.2.1).bind fun r4 =>
  if (!r4.1.1) = true then
   some ((false, ()), (({ y0 with inside := r4.2.1 } : (WalkV MV)), r4.2.2.1, ()))
  else
  (abR r4.2.1).bind fun r5 =>
  if r5.1.1 = 1 then
   some ((false, ()), (({ y0 with line := 2, inside := MV.nil } : (WalkV MV)), r4.2.2.1, ()))
  else
  some ((false, ()), (({ y0 with line := 4, inside := MV.nil } : (WalkV MV)), r4.2.2.1, ()))
 else
 (ad4 y0.inside y1).bind fun r6 =>
 if (!r6.1.1) = true then
  some ((false, ()), (({ y0 with inside := r6.2.1 } : (WalkV MV)), r6.2.2.1, ()))
 else
 (abR r6.2.1).bind fun r7 =>
 if r7.1.1 = 1 then
  some ((false, ()), (({ y0 with line := 2, inside := MV.nil } : (WalkV MV)), r6.2.2.1, ()))
 else
 some ((false, ()), (({ y0 with line := 4, inside := MV.nil } : (WalkV MV)), r6.2.2.1, ()))
noncomputable abbrev afG : Con SR1 := ⟨228, [.ref 46, .ref 27], [.sh .b], fun x => acD x.1 x.2.1⟩
theorem aiz : CO Tryz.prog afG := aar aaq Tryz.func228 [ag7, abq, aiR, afb, adh] ⟨aiS, aaX, al6, aeH, adg, trivial⟩ [] trivial (fun _ => []) [] fun x => by kernel_rfl
noncomputable def abG (y0 : Int) (y1 : Int) (y2 : Int) : Option ((MV × Unit) × (Unit)) :=
 some ((MV.lpush (⟨⟨false, 0, 0⟩, y0, y1, y2, 1, MV.nil⟩ : (LPushV MV)), ()), (()))
noncomputable abbrev acP : Con SR1 := ⟨145, [.sh sI_, .sh sI_, .sh sI_], [.sh .mach], fun x => abG x.1 x.2.1 x.2.2.1⟩
theorem ac0 : CO Tryz.prog acP := aar aaq Tryz.func145 [] trivial [] trivial (fun _ => []) [] fun x => by kernel_rfl
noncomputable def afu (y0 : (WalkV MV)) (y1 : EnvP) : Option ((Unit) × ((WalkV MV) × EnvP × Unit)) :=
 (ad4 y0.inside y1).bind fun r1 =>
 if (!r1.1.1) = true then
  some ((()), (({ y0 with inside := r1.2.1 } : (WalkV MV)), r1.2.2.1, ()))
 else
 (abR r1.2.1).bind fun r2 =>
 if r2.1.1 = 3 then
  (aei r1.2.2.1 ({ y0 with kind := 19, other := 0 } : Ev)).bind fun r3 =>
  some ((()), (({ y0 with line := 4, inside := MV.nil } : (WalkV MV)), r3.2.1, ()))
 else
 some ((()), (({ y0 with line := 4, inside := MV.nil } : (WalkV MV)), r1.2.2.1, ()))
noncomputable abbrev agl : Con SR1 := ⟨229, [.ref 46, .ref 27], [], fun x => afu x.1 x.2.1⟩
theorem ajc : CO Tryz.prog agl := aar aaq Tryz.func229 [afb, adh, aew] ⟨aeH, adg, adV, trivial⟩ [] trivial (fun _ => []) [] fun x => by kernel_rfl
noncomputable def aa8 (y0 : (WalkV MV)) (y1 : EnvP) : Option ((Bool × Unit) × ((WalkV MV) × EnvP × Unit)) :=
 (aaH y0.o).bind fun r1 =>
 if r1.1.1 = true then
  some ((true, ()), (({ y0 with o := r1.2.1 } : (WalkV MV)), y1, ()))
 else
 if y0.line = 1 then
  (acD ({ y0 with o := r1.2.1 } : (WalkV MV)) y1).bind fun r2 =>
  some ((r2.1.1, ()), (r2.2.1, r2.2.2.1, ()))
 else
 if y0.line = 2 then
  (adA y1.l y0.task).bind fun r3 =>
  (abz y1.m r3.1.1).bind fun r4 =>
  if r4.1.1 = 1 then
   (abG y0.worker y0.level y0.task).bind fun r5 =>
   some ((false, ()), (({ y0 with o := r1.2.1, line := 3, inside := r5.1.1 } : (WalkV MV)), ({ y1 with m := r4.2.1 } : EnvP), ()))
  else
  some ((false, ()), (({ y0 with o := r1.2.1, line := 4 } : (WalkV MV)), ({ y1 with m := r4.2.1 } : EnvP), ()))
 else
 if y0.line = 3 then
  (afu ({ y0 with o := r1.2.1 } : (WalkV MV)) y1).bind fun r6 =>
  some ((false, ()), (r6.2.1, r6.2.2.1, ()))
 else
 (af7 y1.l y0.task).bind fun r7 =>
 (abz y1.m r7.1.1).bind fun r8 =>
 if r8.1.1 = 0 then
  (abi r1.2.1 0 0).bind fun r9 =>
  some ((r9.1.1, ()), (({ y0 with o := r9.2.1 } : (WalkV MV)), ({ y1 with m := r8.2.1 } : EnvP), ()))
 else
 some ((false, ()), (({ y0 with o := r1.2.1, task := wi (wu (r8.1.1 - 1)), line := 1 } : (WalkV MV)), ({ y1 with m := r8.2.1 } : EnvP), ()))
noncomputable abbrev aku : Con SR1 := ⟨227, [.ref 46, .ref 27], [.sh .b], fun x => aa8 x.1 x.2.1⟩
theorem afF : CO Tryz.prog aku := aar aaq Tryz.func227 [aaW, afG, aen, aby, acP, agl, aji, abq] ⟨aaL, aiz, ad9, abd, ac0, ajc, ajM, aaX, trivial⟩ [] trivial (fun _ => []) [] fun x => by kernel_rfl
noncomputable def aj4 (y0 : Int) : Option ((MV × Unit) × (Unit)) :=
 some ((MV.lpop (⟨⟨false, 0, 0⟩, y0, 0, 1, MV.nil⟩ : (LPopV MV)), ()), (()))
noncomputable abbrev aj2 : Con SR1 := ⟨83, [.sh sI_], [.sh .mach], fun x => aj4 x.1⟩
theorem amX : CO Tryz.prog aj2 := aar aaq Tryz.func83 [] trivial [] trivial (fun _ => []) [] fun x => by kernel_rfl
noncomputable def abF (y0 : Int) (y1 : Int) : Option ((MV × Unit) × (Unit)) :=
 some ((MV.claim (⟨⟨false, 0, 0⟩, y0, y1⟩ : ClaimV), ()), (()))
noncomputable abbrev acN : Con SR1 := ⟨12, [.sh sI_, .sh sI_], [.sh .mach], fun x => abF x.1 x.2.1⟩
theorem acU : CO Tryz.prog acN := aar aaq Tryz.func12 [] trivial [] trivial (fun _ => []) [] fun x => by kernel_rfl
noncomputable def afV (y0 : (TakeV MV)) (y1 : EnvP) : Option ((Bool × Unit) × ((TakeV MV) × EnvP × Unit)) :=
 (aaH y0.o).bind fun r1 =>
 if r1.1.1 = true then
  some ((true, ()), (({ y0 with o := r1.2.1 } : (TakeV MV)), y1, ()))
 else
 (ad4 y0.inside y1).bind fun r2 =>
 if (!r2.1.1) = true then
  some ((false, ()), (({ y0 with o := r1.2.1, inside := r2.2.1 } : (TakeV MV)), r2.2.2.1, ()))
 else
 (abR r2.2.1).bind fun r3 =>
 if y0.claiming = true then
  if r3.1.1 = 1 then
   (abi r1.2.1 1 r3.1.2.1).bind fun r4 =>
   some ((r4.1.1, ()), (({ y0 with o := r4.2.1, inside := r3.2.1 } : (TakeV MV)), r2.2.2.1, ()))
  else
  if y0.claiming = true then
   (aj4 y0.worker).bind fun r5 =>
   some ((false, ()), ((⟨r1.2.1, y0.worker, false, r5.1.1⟩ : (TakeV MV)), r2.2.2.1, ()))
  else
  if r3.1.1 = 2 then
   (abi r1.2.1 2 0).bind fun r6 =>
   some ((r6.1.1, ()), (({ y0 with o := r6.2.1, inside := r3.2.1 } : (TakeV MV)), r2.2.2.1, ()))
  else
  (abF y0.worker r3.1.2.1).bind fun r7 =>
  some ((false, ()), ((⟨r1.2.1, y0.worker, true, r7.1.1⟩ : (TakeV MV)), r2.2.2.1, ()))
 else
 if y0.claiming = true then
  (aj4 y0.worker).bind fun r8 =>
  some ((false, ()), ((⟨r1.2.1, y0.worker, false, r8.1.1⟩ : (TakeV MV)), r2.2.2.1, ()))
 else
 if r3.1.1 = 2 then
  (abi r1.2.1 2 0).bind fun r9 =>
  some ((r9.1.1, ()), (({ y0 with o := r9.2.1, inside := r3.2.1 } : (TakeV MV)), r2.2.2.1, ()))
 else
 (abF y0.worker r3.1.2.1).bind fun r10 =>
 some ((false, ()), ((⟨r1.2.1, y0.worker, true, r10.1.1⟩ : (TakeV MV)), r2.2.2.1, ()))
noncomputable abbrev akE : Con SR1 := ⟨182, [.ref 37, .ref 27], [.sh .b], fun x => afV x.1 x.2.1⟩
theorem afU : CO Tryz.prog akE := aar aaq Tryz.func182 [aaW, afb, adh, abq, aj2, acN] ⟨aaL, aeH, adg, aaX, amX, acU, trivial⟩ [] trivial (fun _ => []) [] fun x => by kernel_rfl
noncomputable def adt (y0 : (SweepV MV)) (y1 : EnvP) : Option ((Bool × Unit) × ((SweepV MV) × EnvP × Unit)) :=
 if y0.line = 1 then
  ((
   if y0.task < 0 then
   some (true, y0, y1, ())
   else
   if y1.c.tasks ≤ y0.task then
   some (true, y0, y1, ())
   else
   some (decide (y1.c.age = 0), y0, y1, ())
  ) : Option (Bool × (SweepV MV) × EnvP × Unit)).bind fun z1 =>
  if z1.1 = true then
   some ((true, ()), (z1.2.1, z1.2.2.1, ()))
  else
  (adA z1.2.2.1.l z1.2.1.task).bind fun r2 =>
  (abz z1.2.2.1.m r2.1.1).bind fun r3 =>
  some ((decide (r3.1.1 ≠ 1), ()), (z1.2.1, ({ z1.2.2.1 with m := r3.2.1 } : EnvP), ()))
 else
 if y0.line = 2 then
  (ahG y1.l y0.task).bind fun r4 =>
  (abz y1.m r4.1.1).bind fun r5 =>
  (aqy y1.k).bind fun r6 =>
  if y1.c.age = y1.c.age then
   some ((decide ((wi (r6.1.1 - (wi (r5.1.1)))) < y1.c.age), ()), (y0, ({ y1 with m := r5.2.1, k := r6.2.1 } : EnvP), ()))
  else none
 else
 (aed y1.l y0.task).bind fun r7 =>
 (abz y1.m r7.1.1).bind fun r8 =>
 some ((decide ((wi (y1.c.levels - 1)) ≤ (wi (r8.1.1))), ()), (({ y0 with q := r8.1.1 } : (SweepV MV)), ({ y1 with m := r8.2.1 } : EnvP), ()))
noncomputable abbrev afH : Con SR1 := ⟨185, [.ref 38, .ref 27], [.sh .b], fun x => adt x.1 x.2.1⟩
theorem aiE : CO Tryz.prog afH := aar aaq Tryz.func185 [aen, aby, ahF, ajO, aeo] ⟨ad9, abd, ahE, aiq, aec, trivial⟩ [] trivial (fun _ => []) [(4, .cut [.rg 36 .b, .ob 0 38, .ob 1 27] [])] fun x => by kernel_rfl
noncomputable def abp (y0 : (SweepV MV)) (y1 : Int) : Option ((Ev × Unit) × ((SweepV MV) × Unit)) :=
 some ((({ y0 with kind := y1, other := 0, level := wi ((wi (y0.q)) + 1) } : Ev), ()), (y0, ()))
noncomputable abbrev ae5 : Con SR1 := ⟨186, [.ref 38, .sh sI_], [.val 2], fun x => abp x.1 x.2.1⟩
theorem ah4 : CO Tryz.prog ae5 := aar aaq Tryz.func186 [] trivial [] trivial (fun _ => []) [] fun x => by kernel_rfl
end Go.Proofs.YtlcelajkhklkbaaGreat
