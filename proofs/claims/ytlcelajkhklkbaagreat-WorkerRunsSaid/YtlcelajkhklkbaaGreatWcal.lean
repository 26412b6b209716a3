/- The program's machines in the evaluator's form. -/
import Derived.Test.YtlcelajkhklkbaaGreatWcak
set_option linter.all false
namespace Go.Proofs.YtlcelajkhklkbaaGreat
open Go Go.RowKit
set_option maxRecDepth 100000
variable [Tb]
noncomputable def abd (y0 : RemoveV) (y1 : EnvP) : Option ((Bool × Unit) × (RemoveV × EnvP × Unit)) :=
 (aau y0.o).bind fun r1 =>
 if r1.1.1 = true then
  some ((true, ()), (({ y0 with o := r1.2.1 } : RemoveV), y1, ()))
 else
 if y1.l.workers = y1.l.workers then
  if y1.l.levels = y1.l.levels then
   if y1.l.classes = y1.l.classes then
   if y1.l.tasks = y1.l.tasks then
   if y1.l.deque = y1.l.deque then
   if y1.l.heap = y1.l.heap then
   if y1.l.sleepers = y1.l.sleepers then
   if y1.l.epochs = y1.l.epochs then
   if y1.l.bitmaps = y1.l.bitmaps then
   if y1.l.queues = y1.l.queues then
   if y1.l.table = y1.l.table then
   if y0.line = 5 then
   (ank y1.l (wi ((wi (2 * y0.i)) + 1))).bind fun r2 =>
   (ab3 y1.m r2.1.1).bind fun r3 =>
   (abu ({ y0 with o := r1.2.1, c := wi ((wi (2 * y0.i)) + 1), z := r3.1.1 } : RemoveV)).bind fun r4 =>
   if (wi (r4.2.1.c + 1)) < (wi (r4.2.1.n - 1)) then
   some ((false, ()), (({ r4.2.1 with line := 6 } : RemoveV), ({ y1 with m := r3.2.1 } : EnvP), ()))
   else
   some ((false, ()), (({ r4.2.1 with line := r4.1.1 } : RemoveV), ({ y1 with m := r3.2.1 } : EnvP), ()))
   else
   if y0.line = 6 then
   (ank y1.l (wi ((wi (2 * y0.i)) + 2))).bind fun r5 =>
   (ab3 y1.m r5.1.1).bind fun r6 =>
   if r6.1.1 < y0.z then
   (abu ({ y0 with o := r1.2.1, c := wi ((wi (2 * y0.i)) + 2), z := r6.1.1 } : RemoveV)).bind fun r7 =>
   some ((false, ()), (({ r7.2.1 with line := r7.1.1 } : RemoveV), ({ y1 with m := r6.2.1 } : EnvP), ()))
   else
   (abu ({ y0 with o := r1.2.1 } : RemoveV)).bind fun r8 =>
   some ((false, ()), (({ r8.2.1 with line := r8.1.1 } : RemoveV), ({ y1 with m := r6.2.1 } : EnvP), ()))
   else
   if y0.line = 7 then
   (ank y1.l y0.i).bind fun r9 =>
   if y0.z = y0.z then
   (aa4 y1.m r9.1.1 y0.z).bind fun r10 =>
   (abS ({ y0 with o := r1.2.1, i := y0.c } : RemoveV)).bind fun r11 =>
   some ((false, ()), (({ r11.2.1 with line := r11.1.1 } : RemoveV), ({ y1 with m := r10.2.1 } : EnvP), ()))
   else none
   else
   if y0.line = 8 then
   (ank y1.l y0.i).bind fun r12 =>
   if y0.y = y0.y then
   (aa4 y1.m r12.1.1 y0.y).bind fun r13 =>
   (abY ({ y0 with o := r1.2.1 } : RemoveV)).bind fun r14 =>
   (aaX r14.2.1.o 1 r14.1.1).bind fun r15 =>
   some ((r15.1.1, ()), (({ r14.2.1 with o := r15.2.1 } : RemoveV), ({ y1 with m := r13.2.1 } : EnvP), ()))
   else none
   else
   (adn ({ y0 with o := r1.2.1 } : RemoveV) y1).bind fun r16 =>
   some ((r16.1.1, ()), (r16.2.1, r16.2.2.1, ()))
   else none
   else none
   else none
   else none
   else none
   else none
   else none
   else none
   else none
  else none
 else none
noncomputable abbrev ahO : Con SR1 := ⟨240, [.ref 49, .ref 27], [.sh .b], fun x => abd x.1 x.2.1⟩
theorem abZ : CO Tryz.prog ahO := aaq aap Tryz.func240 [aa8, apG, ab2, adD, acW, acd, ac5, abU, aej] ⟨aaT, aqM, abz, afL, act, ac8, aei, abc, agE, trivial⟩ [] trivial (fun _ => []) [] fun x => by kernel_rfl
noncomputable def aeB (y0 : SleepV) (y1 : EnvP) : Option ((Unit) × (SleepV × EnvP × Unit)) :=
 (afn y1.l y0.v).bind fun r1 =>
 (ab3 y1.m r1.1.1).bind fun r2 =>
 if r2.1.1 ≠ 0 then
  some ((()), (({ y0 with line := 7 } : SleepV), ({ y1 with m := r2.2.1 } : EnvP), ()))
 else
 if y1.c.workers ≤ (wi (y0.v + 1)) then
  (adu ({ y1 with m := r2.2.1 } : EnvP) (⟨16, y0.worker, 0, 0, 0⟩ : Ev)).bind fun r3 =>
  (apI r3.2.1.k).bind fun r4 =>
  some ((()), (({ y0 with line := 5, v := wi (y0.v + 1), since := r4.1.1 } : SleepV), ({ r3.2.1 with k := r4.2.1 } : EnvP), ()))
 else
 some ((()), (({ y0 with v := wi (y0.v + 1) } : SleepV), ({ y1 with m := r2.2.1 } : EnvP), ()))
noncomputable abbrev ag0 : Con SR1 := ⟨176, [.ref 31, .ref 27], [], fun x => aeB x.1 x.2.1⟩
theorem akA : CO Tryz.prog ag0 := aaq aap Tryz.func176 [ae1, ab2, ae0, alm] ⟨aeF, abz, ad6, ajL, trivial⟩ [] trivial (fun _ => []) [] fun x => by kernel_rfl
noncomputable def aeA (y0 : SleepV) (y1 : EnvP) : Option ((Unit) × (SleepV × EnvP × Unit)) :=
 (amx y1.l y0.worker).bind fun r1 =>
 (ab3 y1.m r1.1.1).bind fun r2 =>
 if r2.1.1 ≠ y0.ep then
  (adu ({ y1 with m := r2.2.1 } : EnvP) (⟨17, y0.worker, 0, 1, 0⟩ : Ev)).bind fun r3 =>
  some ((()), (({ y0 with line := 6 } : SleepV), r3.2.1, ()))
 else
 (apI y1.k).bind fun r4 =>
 if y1.c.patience = y1.c.patience then
  if y0.since = y0.since then
   if y1.c.patience ≤ (wi (r4.1.1 - y0.since)) then
   (adu ({ y1 with m := r2.2.1, k := r4.2.1 } : EnvP) (⟨17, y0.worker, 0, 2, 0⟩ : Ev)).bind fun r5 =>
   some ((()), (({ y0 with line := 6 } : SleepV), r5.2.1, ()))
   else
   some ((()), (y0, ({ y1 with m := r2.2.1, k := r4.2.1 } : EnvP), ()))
  else none
 else none
noncomputable abbrev agZ : Con SR1 := ⟨177, [.ref 31, .ref 27], [], fun x => aeA x.1 x.2.1⟩
theorem aky : CO Tryz.prog agZ := aaq aap Tryz.func177 [akR, ab2, ae0, alm] ⟨alo, abz, ad6, ajL, trivial⟩ [] trivial (fun _ => []) [] fun x => by kernel_rfl
noncomputable def abW (y0 : SleepV) (y1 : EnvP) : Option ((Bool × Unit) × (SleepV × EnvP × Unit)) :=
 (aau y0.o).bind fun r1 =>
 if r1.1.1 = true then
  some ((true, ()), (({ y0 with o := r1.2.1 } : SleepV), y1, ()))
 else
 if y0.line = 1 then
  (amx y1.l y0.worker).bind fun r2 =>
  (ab3 y1.m r2.1.1).bind fun r3 =>
  some ((false, ()), (({ y0 with o := r1.2.1, line := 2, ep := r3.1.1 } : SleepV), ({ y1 with m := r3.2.1 } : EnvP), ()))
 else
 if y0.line = 2 then
  ((
   if y1.c.classes < 1 then
   if y0.worker = y0.worker then
   (aum y0.worker).bind fun r4 =>
   (pOr y1.m (-1) r4.1.1).bind fun r5 =>
   some (({ y1 with m := r5.2.1 } : EnvP), ())
   else none
   else
   (aul y0.worker y1.c.classes).bind fun r6 =>
   if y1.l.workers = y1.l.workers then
   if y1.l.levels = y1.l.levels then
   if y1.l.classes = y1.l.classes then
   if y1.l.tasks = y1.l.tasks then
   if y1.l.deque = y1.l.deque then
   if y1.l.heap = y1.l.heap then
   if y1.l.sleepers = y1.l.sleepers then
   if y1.l.epochs = y1.l.epochs then
   if y1.l.bitmaps = y1.l.bitmaps then
   if y1.l.queues = y1.l.queues then
   if y1.l.table = y1.l.table then
   (aeV y1.l r6.1.1).bind fun r7 =>
   if y0.worker = y0.worker then
   (aum y0.worker).bind fun r8 =>
   (pOr y1.m r7.1.1 r8.1.1).bind fun r9 =>
   some (({ y1 with m := r9.2.1 } : EnvP), ())
   else none
   else none
   else none
   else none
   else none
   else none
   else none
   else none
   else none
   else none
   else none
   else none
  ) : Option (EnvP × Unit)).bind fun z10 =>
  some ((false, ()), (({ y0 with o := r1.2.1, line := 3 } : SleepV), z10.1, ()))
 else
 if y0.line = 3 then
  (aiV y1.l).bind fun r11 =>
  (ab3 y1.m r11.1.1).bind fun r12 =>
  if r12.1.1 ≠ 0 then
   some ((false, ()), (({ y0 with o := r1.2.1, line := 7 } : SleepV), ({ y1 with m := r12.2.1 } : EnvP), ()))
  else
  some ((false, ()), (({ y0 with o := r1.2.1, line := 4 } : SleepV), ({ y1 with m := r12.2.1 } : EnvP), ()))
 else
 if y0.line = 4 then
  (aeB ({ y0 with o := r1.2.1 } : SleepV) y1).bind fun r13 =>
  some ((false, ()), (r13.2.1, r13.2.2.1, ()))
 else
 if y0.line = 5 then
  (aeA ({ y0 with o := r1.2.1 } : SleepV) y1).bind fun r14 =>
  some ((false, ()), (r14.2.1, r14.2.2.1, ()))
 else
 ((
  if y1.c.classes < 1 then
   if y0.worker = y0.worker then
   (aum y0.worker).bind fun r15 =>
   (av9 y1.m (-1) (auo r15.1.1)).bind fun r16 =>
   some (({ y1 with m := r16.2.1 } : EnvP), ())
   else none
  else
  (aul y0.worker y1.c.classes).bind fun r17 =>
  if y1.l.workers = y1.l.workers then
   if y1.l.levels = y1.l.levels then
   if y1.l.classes = y1.l.classes then
   if y1.l.tasks = y1.l.tasks then
   if y1.l.deque = y1.l.deque then
   if y1.l.heap = y1.l.heap then
   if y1.l.sleepers = y1.l.sleepers then
   if y1.l.epochs = y1.l.epochs then
   if y1.l.bitmaps = y1.l.bitmaps then
   if y1.l.queues = y1.l.queues then
   if y1.l.table = y1.l.table then
   (aeV y1.l r17.1.1).bind fun r18 =>
   if y0.worker = y0.worker then
   (aum y0.worker).bind fun r19 =>
   (av9 y1.m r18.1.1 (auo r19.1.1)).bind fun r20 =>
   some (({ y1 with m := r20.2.1 } : EnvP), ())
   else none
   else none
   else none
   else none
   else none
   else none
   else none
   else none
   else none
   else none
   else none
  else none
 ) : Option (EnvP × Unit)).bind fun z21 =>
 if y0.line = 6 then
  (aaX r1.2.1 1 0).bind fun r22 =>
  some ((r22.1.1, ()), (({ y0 with o := r22.2.1 } : SleepV), z21.1, ()))
 else
 (aaX r1.2.1 5 0).bind fun r23 =>
 some ((r23.1.1, ()), (({ y0 with o := r23.2.1 } : SleepV), z21.1, ()))
noncomputable abbrev alj : Con SR1 := ⟨171, [.ref 31, .ref 27], [.sh .b], fun x => abW x.1 x.2.1⟩
noncomputable def akz : List (Nat × Func) := [(173, Tryz.f173)]
theorem ade : CO Tryz.prog alj := aaq aap Tryz.func171 [aa8, akR, ab2, aoF, asQ, aoC, aid, akQ, ag0, agZ, aqV, abU] ⟨aaT, alo, abz, anq, aqN, anl, akc, aln, akA, aky, apO, abc, trivial⟩ akz ⟨Tryz.func173, trivial⟩ (fun _ => []) [(13, .cut [.ob 1 27] [0]), (5, .cut [.ob 1 27] [0])] fun x => by kernel_rfl
noncomputable def acg (y0 : WakeV) (y1 : EnvP) : Option ((Bool × Unit) × (WakeV × EnvP × Unit)) :=
 (aau y0.o).bind fun r1 =>
 if r1.1.1 = true then
  some ((true, ()), (({ y0 with o := r1.2.1 } : WakeV), y1, ()))
 else
 if y0.line = 1 then
  ((
   if y1.c.classes < 1 then
   (ab3 y1.m (-1)).bind fun r2 =>
   some (r2.1.1, ({ y1 with m := r2.2.1 } : EnvP), ())
   else
   (aoE y0.level y1.c.levels y1.c.classes).bind fun r3 =>
   if y1.c.classes = y1.c.classes then
   if y0.j = y0.j then
   if y1.l.workers = y1.l.workers then
   if y1.l.levels = y1.l.levels then
   if y1.l.classes = y1.l.classes then
   if y1.l.tasks = y1.l.tasks then
   if y1.l.deque = y1.l.deque then
   if y1.l.heap = y1.l.heap then
   if y1.l.sleepers = y1.l.sleepers then
   if y1.l.epochs = y1.l.epochs then
   if y1.l.bitmaps = y1.l.bitmaps then
   if y1.l.queues = y1.l.queues then
   if y1.l.table = y1.l.table then
   (aul (wi (r3.1.1 + y0.j)) y1.c.classes).bind fun r4 =>
   if y1.l.workers = y1.l.workers then
   if y1.l.levels = y1.l.levels then
   if y1.l.classes = y1.l.classes then
   if y1.l.tasks = y1.l.tasks then
   if y1.l.deque = y1.l.deque then
   if y1.l.heap = y1.l.heap then
   if y1.l.sleepers = y1.l.sleepers then
   if y1.l.epochs = y1.l.epochs then
   if y1.l.bitmaps = y1.l.bitmaps then
   if y1.l.queues = y1.l.queues then
   if y1.l.table = y1.l.table then
   (aeV y1.l r4.1.1).bind fun r5 =>
   (ab3 y1.m r5.1.1).bind fun r6 =>
   some (r6.1.1, ({ y1 with m := r6.2.1 } : EnvP), ())
   else none
   else none
   else none
   else none
   else none
   else none
   else none
   else none
   else none
   else none
   else none
   else none
   else none
   else none
   else none
   else none
   else none
   else none
   else none
   else none
   else none
   else none
   else none
   else none
  ) : Option (Int × EnvP × Unit)).bind fun z7 =>
  if z7.1 ≠ 0 then
   (azL z7.1).bind fun r8 =>
   some ((false, ()), (({ y0 with o := r1.2.1, line := 2, v := r8.1.1 } : WakeV), z7.2.1, ()))
  else
  if z7.2.1.c.classes ≤ (wi (y0.j + 1)) then
   (aaX r1.2.1 2 0).bind fun r9 =>
   some ((r9.1.1, ()), (({ y0 with o := r9.2.1, j := wi (y0.j + 1) } : WakeV), z7.2.1, ()))
  else
  some ((false, ()), (({ y0 with o := r1.2.1, j := wi (y0.j + 1) } : WakeV), z7.2.1, ()))
 else
 if y0.line = 2 then
  (aum y0.v).bind fun r10 =>
  ((
   if y1.c.classes < 1 then
   (av9 y1.m (-1) (auo r10.1.1)).bind fun r11 =>
   some (decide ((aqe r11.1.1 r10.1.1) = 0), ({ y1 with m := r11.2.1 } : EnvP), ())
   else
   (aoE y0.level y1.c.levels y1.c.classes).bind fun r12 =>
   if y1.c.classes = y1.c.classes then
   if y0.j = y0.j then
   if y1.l.workers = y1.l.workers then
   if y1.l.levels = y1.l.levels then
   if y1.l.classes = y1.l.classes then
   if y1.l.tasks = y1.l.tasks then
   if y1.l.deque = y1.l.deque then
   if y1.l.heap = y1.l.heap then
   if y1.l.sleepers = y1.l.sleepers then
   if y1.l.epochs = y1.l.epochs then
   if y1.l.bitmaps = y1.l.bitmaps then
   if y1.l.queues = y1.l.queues then
   if y1.l.table = y1.l.table then
   (aul (wi (r12.1.1 + y0.j)) y1.c.classes).bind fun r13 =>
   if y1.l.workers = y1.l.workers then
   if y1.l.levels = y1.l.levels then
   if y1.l.classes = y1.l.classes then
   if y1.l.tasks = y1.l.tasks then
   if y1.l.deque = y1.l.deque then
   if y1.l.heap = y1.l.heap then
   if y1.l.sleepers = y1.l.sleepers then
   if y1.l.epochs = y1.l.epochs then
   if y1.l.bitmaps = y1.l.bitmaps then
   if y1.l.queues = y1.l.queues then
   if y1.l.table = y1.l.table then
   (aeV y1.l r13.1.1).bind fun r14 =>
   (av9 y1.m r14.1.1 (auo r10.1.1)).bind fun r15 =>
   some (decide ((aqe r15.1.1 r10.1.1) = 0), ({ y1 with m := r15.2.1 } : EnvP), ())
   else none
   else none
   else none
   else none
   else none
   else none
   else none
   else none
   else none
   else none
   else none
   else none
   else none
   else none
   else none
   else none
   else none
   else none
   else none
   else none
   else none
   else none
   else none
   else none
  ) : Option (Bool × EnvP × Unit)).bind fun z16 =>
  if z16.1 = true then
   (aaX r1.2.1 4 0).bind fun r17 =>
   some ((r17.1.1, ()), (({ y0 with o := r17.2.1 } : WakeV), z16.2.1, ()))
  else
  some ((false, ()), (({ y0 with o := r1.2.1, line := 3 } : WakeV), z16.2.1, ()))
 else
 (amx y1.l y0.v).bind fun r18 =>
 (ayN y1.m r18.1.1 1).bind fun r19 =>
 (adu ({ y1 with m := r19.2.1 } : EnvP) (⟨18, y0.me, 0, y0.v, 0⟩ : Ev)).bind fun r20 =>
 (aaX r1.2.1 1 y0.v).bind fun r21 =>
 some ((r21.1.1, ()), (({ y0 with o := r21.2.1 } : WakeV), r20.2.1, ()))
noncomputable abbrev amd : Con SR1 := ⟨221, [.ref 36, .ref 27], [.sh .b], fun x => acg x.1 x.2.1⟩
noncomputable def ali : List (Nat × Func) := [(222, Tryz.f222)]
theorem adA : CO Tryz.prog amd := aaq aap Tryz.func221 [aa8, ab2, aqS, aoC, aid, av8, abU, aoF, aqV, akR, asY, ae0] ⟨aaT, abz, asV, anl, akc, axi, abc, anq, apO, alo, asX, ad6, trivial⟩ ali ⟨Tryz.func222, trivial⟩ (fun _ => []) [(9, .cut [.rg 5 sU_, .ob 1 27] [0]), (18, .cut [.rg 108 .b, .ob 1 27] [0])] fun x => by kernel_rfl
noncomputable def ahn (y0 : EnvP) (y1 : Int) (y2 : Int) : Option ((Bool × Unit) × (EnvP × Unit)) :=
 if 0 ≤ y1 then
  if y1 < y0.c.tasks then
   if 0 ≤ y2 then
   some ((decide (y2 < y0.c.levels), ()), (y0, ()))
   else
   some ((false, ()), (y0, ()))
  else
  some ((false, ()), (y0, ()))
 else
 some ((false, ()), (y0, ()))
noncomputable abbrev aij : Con SR1 := ⟨230, [.ref 27, .sh sI_, .sh sI_], [.sh .b], fun x => ahn x.1 x.2.1 x.2.2.1⟩
theorem akk : CO Tryz.prog aij := aaq aap Tryz.func230 [] trivial [] trivial (fun _ => []) [] fun x => by kernel_rfl
noncomputable def abG (y0 : RaiseV) (y1 : EnvP) : Option ((Bool × Unit) × (RaiseV × EnvP × Unit)) :=
 (aau y0.o).bind fun r1 =>
 if r1.1.1 = true then
  some ((true, ()), (({ y0 with o := r1.2.1 } : RaiseV), y1, ()))
 else
 (ahn y1 y0.task y0.level).bind fun r2 =>
 if (!r2.1.1) = true then
  (aaX r1.2.1 4 0).bind fun r3 =>
  some ((r3.1.1, ()), (({ y0 with o := r3.2.1 } : RaiseV), r2.2.1, ()))
 else
 if y0.line = 1 then
  (aeZ r2.2.1.l y0.task).bind fun r4 =>
  (ab3 r2.2.1.m r4.1.1).bind fun r5 =>
  if y0.level ≤ (wi (r5.1.1)) then
   (aaX r1.2.1 0 0).bind fun r6 =>
   some ((r6.1.1, ()), (({ y0 with o := r6.2.1, q := r5.1.1 } : RaiseV), ({ r2.2.1 with m := r5.2.1 } : EnvP), ()))
  else
  some ((false, ()), (({ y0 with o := r1.2.1, line := 2, q := r5.1.1 } : RaiseV), ({ r2.2.1 with m := r5.2.1 } : EnvP), ()))
 else
 (aeZ r2.2.1.l y0.task).bind fun r7 =>
 if y0.level = y0.level then
  if y0.q = y0.q then
   (an1 r2.2.1.m r7.1.1 y0.q (wu (y0.level))).bind fun r8 =>
   if r8.1.1 = true then
   (adu ({ r2.2.1 with m := r8.2.1 } : EnvP) ({ y0 with kind := 11, other := 0 } : Ev)).bind fun r9 =>
   (aaX r1.2.1 1 0).bind fun r10 =>
   some ((r10.1.1, ()), (({ y0 with o := r10.2.1 } : RaiseV), r9.2.1, ()))
   else
   some ((false, ()), (({ y0 with o := r1.2.1, line := 1 } : RaiseV), ({ r2.2.1 with m := r8.2.1 } : EnvP), ()))
  else none
 else none
noncomputable abbrev akI : Con SR1 := ⟨255, [.ref 53, .ref 27], [.sh .b], fun x => abG x.1 x.2.1⟩
theorem acY : CO Tryz.prog akI := aaq aap Tryz.func255 [aa8, aij, abU, afi, ab2, aiX, ae0] ⟨aaT, akk, abc, aeX, abz, ag5, ad6, trivial⟩ [] trivial (fun _ => []) [] fun x => by kernel_rfl
noncomputable def ahT (m : MV) (e : EnvP) : Option ((Bool × Unit) × (MV × EnvP × Unit)) :=
 match m with
 | .alloc x => (abm x e).bind fun o => some (o.1, (MV.alloc o.2.1, o.2.2))
 | .publish x => (abg x e).bind fun o => some (o.1, (MV.publish o.2.1, o.2.2))
 | .claim x => (ab1 x e).bind fun o => some (o.1, (MV.claim o.2.1, o.2.2))
 | .attempt x => (abP x e).bind fun o => some (o.1, (MV.attempt o.2.1, o.2.2))
 | .release x => (abO x e).bind fun o => some (o.1, (MV.release o.2.1, o.2.2))
 | .opush x => (acn x e).bind fun o => some (o.1, (MV.opush o.2.1, o.2.2))
 | .opop x => (acL x e).bind fun o => some (o.1, (MV.opop o.2.1, o.2.2))
 | .steal x => (ab0 x e).bind fun o => some (o.1, (MV.steal o.2.1, o.2.2))
 | .set x => (aco x e).bind fun o => some (o.1, (MV.set o.2.1, o.2.2))
 | .reset x => (abR x e).bind fun o => some (o.1, (MV.reset o.2.1, o.2.2))
 | .remove x => (abd x e).bind fun o => some (o.1, (MV.remove o.2.1, o.2.2))
 | .sleep x => (abW x e).bind fun o => some (o.1, (MV.sleep o.2.1, o.2.2))
 | .wake x => (acg x e).bind fun o => some (o.1, (MV.wake o.2.1, o.2.2))
 | .raise x => (abG x e).bind fun o => some (o.1, (MV.raise o.2.1, o.2.2))
 | .probe x => (aa0 x e).bind fun o => some (o.1, (MV.probe o.2.1, o.2.2))
 | _ => none
noncomputable abbrev am1 : Con SR1 := ⟨1000000000, [.mch, .ref 27], [.sh .b], fun x => ahT x.1 x.2.1⟩
theorem aod : CO Tryz.prog am1 := ahh (S := SR1) (i := 0) (ps := [.ref 27]) (rs := [.sh .b]) (spec := fun m xs => ahT m xs.1) fun m xs out h => by
  cases m with
  | alloc x => exact aai (S := SR1) (ps := [.ref 27]) (rs := [.sh .b]) (c := 34) (mk := MV.alloc) (fun _ => rfl) rfl (fun _ _ _ _ => by kernel_rfl) ab8 h
  | publish x => exact aai (S := SR1) (ps := [.ref 27]) (rs := [.sh .b]) (c := 48) (mk := MV.publish) (fun _ => rfl) rfl (fun _ _ _ _ => by kernel_rfl) aci h
  | claim x => exact aai (S := SR1) (ps := [.ref 27]) (rs := [.sh .b]) (c := 43) (mk := MV.claim) (fun _ => rfl) rfl (fun _ _ _ _ => by kernel_rfl) acT h
  | attempt x => exact aai (S := SR1) (ps := [.ref 27]) (rs := [.sh .b]) (c := 33) (mk := MV.attempt) (fun _ => rfl) rfl (fun _ _ _ _ => by kernel_rfl) acD h
  | release x => exact aai (S := SR1) (ps := [.ref 27]) (rs := [.sh .b]) (c := 35) (mk := MV.release) (fun _ => rfl) rfl (fun _ _ _ _ => by kernel_rfl) acC h
  | opush x => exact aai (S := SR1) (ps := [.ref 27]) (rs := [.sh .b]) (c := 51) (mk := MV.opush) (fun _ => rfl) rfl (fun _ _ _ _ => by kernel_rfl) adf h
  | opop x => exact aai (S := SR1) (ps := [.ref 27]) (rs := [.sh .b]) (c := 50) (mk := MV.opop) (fun _ => rfl) rfl (fun _ _ _ _ => by kernel_rfl) adB h
  | steal x => exact aai (S := SR1) (ps := [.ref 27]) (rs := [.sh .b]) (c := 40) (mk := MV.steal) (fun _ => rfl) rfl (fun _ _ _ _ => by kernel_rfl) acS h
  | set x => exact aai (S := SR1) (ps := [.ref 27]) (rs := [.sh .b]) (c := 52) (mk := MV.set) (fun _ => rfl) rfl (fun _ _ _ _ => by kernel_rfl) adh h
  | reset x => exact aai (S := SR1) (ps := [.ref 27]) (rs := [.sh .b]) (c := 41) (mk := MV.reset) (fun _ => rfl) rfl (fun _ _ _ _ => by kernel_rfl) acE h
  | remove x => exact aai (S := SR1) (ps := [.ref 27]) (rs := [.sh .b]) (c := 49) (mk := MV.remove) (fun _ => rfl) rfl (fun _ _ _ _ => by kernel_rfl) abZ h
  | sleep x => exact aai (S := SR1) (ps := [.ref 27]) (rs := [.sh .b]) (c := 31) (mk := MV.sleep) (fun _ => rfl) rfl (fun _ _ _ _ => by kernel_rfl) ade h
  | wake x => exact aai (S := SR1) (ps := [.ref 27]) (rs := [.sh .b]) (c := 36) (mk := MV.wake) (fun _ => rfl) rfl (fun _ _ _ _ => by kernel_rfl) adA h
  | raise x => exact aai (S := SR1) (ps := [.ref 27]) (rs := [.sh .b]) (c := 53) (mk := MV.raise) (fun _ => rfl) rfl (fun _ _ _ _ => by kernel_rfl) acY h
  | probe x => exact aai (S := SR1) (ps := [.ref 27]) (rs := [.sh .b]) (c := 44) (mk := MV.probe) (fun _ => rfl) rfl (fun _ _ _ _ => by kernel_rfl) acV h
  | _ => cases h
noncomputable def ad2 (m : MV) : Option ((Int × Int × Unit) × (MV × Unit)) :=
 match m with
 | .alloc x => some ((x.o.code, x.o.value, ()), (MV.alloc x, ()))
 | .publish x => some ((x.o.code, x.o.value, ()), (MV.publish x, ()))
 | .claim x => some ((x.o.code, x.o.value, ()), (MV.claim x, ()))
 | .attempt x => some ((x.o.code, x.o.value, ()), (MV.attempt x, ()))
 | .release x => some ((x.o.code, x.o.value, ()), (MV.release x, ()))
 | .opush x => some ((x.o.code, x.o.value, ()), (MV.opush x, ()))
 | .opop x => some ((x.o.code, x.o.value, ()), (MV.opop x, ()))
 | .steal x => some ((x.o.code, x.o.value, ()), (MV.steal x, ()))
 | .set x => some ((x.o.code, x.o.value, ()), (MV.set x, ()))
 | .reset x => some ((x.o.code, x.o.value, ()), (MV.reset x, ()))
 | .remove x => some ((x.o.code, x.o.value, ()), (MV.remove x, ()))
 | .sleep x => some ((x.o.code, x.o.value, ()), (MV.sleep x, ()))
 | .wake x => some ((x.o.code, x.o.value, ()), (MV.wake x, ()))
 | .raise x => some ((x.o.code, x.o.value, ()), (MV.raise x, ()))
 | .probe x => some ((x.o.code, x.o.value, ()), (MV.probe x, ()))
 | _ => none
noncomputable abbrev ajy : Con SR1 := ⟨1000000001, [.mch], [.sh sI_, .sh sI_], fun x => ad2 x.1⟩
theorem alf : CO Tryz.prog ajy := ahh (S := SR1) (i := 1) (ps := []) (rs := [.sh sI_, .sh sI_]) (spec := fun m _ => ad2 m) fun m xs out h => by
  cases m with
  | alloc x => exact aai (S := SR1) (ps := []) (rs := [.sh sI_, .sh sI_]) (c := 34) (mk := MV.alloc) (f := 129) (sp := fun x => some ((x.1.o.code, x.1.o.value, ()), (x.1, ()))) (fun _ => rfl) rfl (fun _ _ _ _ => by kernel_rfl) (aam [aah] ⟨aad, trivial⟩ fun x => by kernel_rfl) h
  | publish x => exact aai (S := SR1) (ps := []) (rs := [.sh sI_, .sh sI_]) (c := 48) (mk := MV.publish) (f := 129) (sp := fun x => some ((x.1.o.code, x.1.o.value, ()), (x.1, ()))) (fun _ => rfl) rfl (fun _ _ _ _ => by kernel_rfl) (aam [aah] ⟨aad, trivial⟩ fun x => by kernel_rfl) h
  | claim x => exact aai (S := SR1) (ps := []) (rs := [.sh sI_, .sh sI_]) (c := 43) (mk := MV.claim) (f := 129) (sp := fun x => some ((x.1.o.code, x.1.o.value, ()), (x.1, ()))) (fun _ => rfl) rfl (fun _ _ _ _ => by kernel_rfl) (aam [aah] ⟨aad, trivial⟩ fun x => by kernel_rfl) h
  | attempt x => exact aai (S := SR1) (ps := []) (rs := [.sh sI_, .sh sI_]) (c := 33) (mk := MV.attempt) (f := 129) (sp := fun x => some ((x.1.o.code, x.1.o.value, ()), (x.1, ()))) (fun _ => rfl) rfl (fun _ _ _ _ => by kernel_rfl) (aam [aah] ⟨aad, trivial⟩ fun x => by kernel_rfl) h
  | release x => exact aai (S := SR1) (ps := []) (rs := [.sh sI_, .sh sI_]) (c := 35) (mk := MV.release) (f := 129) (sp := fun x => some ((x.1.o.code, x.1.o.value, ()), (x.1, ()))) (fun _ => rfl) rfl (fun _ _ _ _ => by kernel_rfl) (aam [aah] ⟨aad, trivial⟩ fun x => by kernel_rfl) h
  | opush x => exact aai (S := SR1) (ps := []) (rs := [.sh sI_, .sh sI_]) (c := 51) (mk := MV.opush) (f := 129) (sp := fun x => some ((x.1.o.code, x.1.o.value, ()), (x.1, ()))) (fun _ => rfl) rfl (fun _ _ _ _ => by kernel_rfl) (aam [aah] ⟨aad, trivial⟩ fun x => by kernel_rfl) h
  | opop x => exact aai (S := SR1) (ps := []) (rs := [.sh sI_, .sh sI_]) (c := 50) (mk := MV.opop) (f := 129) (sp := fun x => some ((x.1.o.code, x.1.o.value, ()), (x.1, ()))) (fun _ => rfl) rfl (fun _ _ _ _ => by kernel_rfl) (aam [aah] ⟨aad, trivial⟩ fun x => by kernel_rfl) h
  | steal x => exact aai (S := SR1) (ps := []) (rs := [.sh sI_, .sh sI_]) (c := 40) (mk := MV.steal) (f := 129) (sp := fun x => some ((x.1.o.code, x.1.o.value, ()), (x.1, ()))) (fun _ => rfl) rfl (fun _ _ _ _ => by kernel_rfl) (aam [aah] ⟨aad, trivial⟩ fun x => by kernel_rfl) h
  | set x => exact aai (S := SR1) (ps := []) (rs := [.sh sI_, .sh sI_]) (c := 52) (mk := MV.set) (f := 129) (sp := fun x => some ((x.1.o.code, x.1.o.value, ()), (x.1, ()))) (fun _ => rfl) rfl (fun _ _ _ _ => by kernel_rfl) (aam [aah] ⟨aad, trivial⟩ fun x => by kernel_rfl) h
  | reset x => exact aai (S := SR1) (ps := []) (rs := [.sh sI_, .sh sI_]) (c := 41) (mk := MV.reset) (f := 129) (sp := fun x => some ((x.1.o.code, x.1.o.value, ()), (x.1, ()))) (fun _ => rfl) rfl (fun _ _ _ _ => by kernel_rfl) (aam [aah] ⟨aad, trivial⟩ fun x => by kernel_rfl) h
  | remove x => exact aai (S := SR1) (ps := []) (rs := [.sh sI_, .sh sI_]) (c := 49) (mk := MV.remove) (f := 129) (sp := fun x => some ((x.1.o.code, x.1.o.value, ()), (x.1, ()))) (fun _ => rfl) rfl (fun _ _ _ _ => by kernel_rfl) (aam [aah] ⟨aad, trivial⟩ fun x => by kernel_rfl) h
  | sleep x => exact aai (S := SR1) (ps := []) (rs := [.sh sI_, .sh sI_]) (c := 31) (mk := MV.sleep) (f := 129) (sp := fun x => some ((x.1.o.code, x.1.o.value, ()), (x.1, ()))) (fun _ => rfl) rfl (fun _ _ _ _ => by kernel_rfl) (aam [aah] ⟨aad, trivial⟩ fun x => by kernel_rfl) h
  | wake x => exact aai (S := SR1) (ps := []) (rs := [.sh sI_, .sh sI_]) (c := 36) (mk := MV.wake) (f := 129) (sp := fun x => some ((x.1.o.code, x.1.o.value, ()), (x.1, ()))) (fun _ => rfl) rfl (fun _ _ _ _ => by kernel_rfl) (aam [aah] ⟨aad, trivial⟩ fun x => by kernel_rfl) h
  | raise x => exact aai (S := SR1) (ps := []) (rs := [.sh sI_, .sh sI_]) (c := 53) (mk := MV.raise) (f := 129) (sp := fun x => some ((x.1.o.code, x.1.o.value, ()), (x.1, ()))) (fun _ => rfl) rfl (fun _ _ _ _ => by kernel_rfl) (aam [aah] ⟨aad, trivial⟩ fun x => by kernel_rfl) h
  | probe x => exact aai (S := SR1) (ps := []) (rs := [.sh sI_, .sh sI_]) (c := 44) (mk := MV.probe) (f := 129) (sp := fun x => some ((x.1.o.code, x.1.o.value, ()), (x.1, ()))) (fun _ => rfl) rfl (fun _ _ _ _ => by kernel_rfl) (aam [aah] ⟨aad, trivial⟩ fun x => by kernel_rfl) h
  | _ => cases h
noncomputable def als (y0 : QV) (y1 : Int) : Option ((MV × Unit) × (Unit)) :=
 some ((MV.opush (⟨⟨false, 0, 0⟩, y0, y1, 1, 0⟩ : OPushV), ()), (()))
noncomputable abbrev alq : Con SR1 := ⟨218, [.val 14, .sh sI_], [.sh .mach], fun x => als x.1 x.2.1⟩
theorem aoG : CO Tryz.prog alq := aaq aap Tryz.func218 [] trivial [] trivial (fun _ => []) [] fun x => by kernel_rfl
noncomputable def aho (y0 : Int) (y1 : Int) : Option ((MV × Unit) × (Unit)) :=
 some ((MV.set (⟨⟨false, 0, 0⟩, y0, y1⟩ : SetV), ()), (()))
noncomputable abbrev al1 : Con SR1 := ⟨219, [.sh sI_, .sh sI_], [.sh .mach], fun x => aho x.1 x.2.1⟩
theorem ao8 : CO Tryz.prog al1 := aaq aap Tryz.func219 [] trivial [] trivial (fun _ => []) [] fun x => by kernel_rfl
noncomputable def abF (y0 : (LPushV MV)) (y1 : EnvP) : Option ((Bool × Unit) × ((LPushV MV) × EnvP × Unit)) :=
 (aau y0.o).bind fun r1 =>
 if r1.1.1 = true then
  some ((true, ()), (({ y0 with o := r1.2.1 } : (LPushV MV)), y1, ()))
 else
 if (SR1.spl y0.inside).isNone = true then
  (aeW y1.l y0.worker y0.level).bind fun r2 =>
  if y0.value = y0.value then
   (als r2.1.1 y0.value).bind fun r3 =>
   (ahT r3.1.1 y1).bind fun r4 =>
   if (!r4.1.1) = true then
   some ((false, ()), (({ y0 with o := r1.2.1, inside := r4.2.1 } : (LPushV MV)), r4.2.2.1, ()))
   else
   (ad2 r4.2.1).bind fun r5 =>
   if r5.1.1 = 3 then
   (aaX r1.2.1 3 0).bind fun r6 =>
   some ((r6.1.1, ()), (({ y0 with o := r6.2.1, inside := r5.2.1 } : (LPushV MV)), r4.2.2.1, ()))
   else
   if y0.line = 2 then
   (aaX r1.2.1 0 0).bind fun r7 =>
   some ((r7.1.1, ()), (({ y0 with o := r7.2.1, inside := r5.2.1 } : (LPushV MV)), r4.2.2.1, ()))
   else
   (afn r4.2.2.1.l y0.worker).bind fun r8 =>
   if y0.level = y0.level then
   (aho r8.1.1 y0.level).bind fun r9 =>
   some ((false, ()), (({ y0 with o := r1.2.1, line := 2, inside := r9.1.1 } : (LPushV MV)), r4.2.2.1, ()))
   else none
  else none
 else
 (ahT y0.inside y1).bind fun r10 =>
 if (!r10.1.1) = true then
  some ((false, ()), (({ y0 with o := r1.2.1, inside := r10.2.1 } : (LPushV MV)), r10.2.2.1, ()))
 else
 (ad2 r10.2.1).bind fun r11 =>
 if r11.1.1 = 3 then
  (aaX r1.2.1 3 0).bind fun r12 =>
  some ((r12.1.1, ()), (({ y0 with o := r12.2.1, inside := r11.2.1 } : (LPushV MV)), r10.2.2.1, ()))
 else
 if y0.line = 2 then
  (aaX r1.2.1 0 0).bind fun r13 =>
  some ((r13.1.1, ()), (({ y0 with o := r13.2.1, inside := r11.2.1 } : (LPushV MV)), r10.2.2.1, ()))
 else
 (afn r10.2.2.1.l y0.worker).bind fun r14 =>
 if y0.level = y0.level then
  (aho r14.1.1 y0.level).bind fun r15 =>
  some ((false, ()), (({ y0 with o := r1.2.1, line := 2, inside := r15.1.1 } : (LPushV MV)), r10.2.2.1, ()))
 else none
noncomputable abbrev akC : Con SR1 := ⟨217, [.ref 45, .ref 27], [.sh .b], fun x => abF x.1 x.2.1⟩
theorem adT : CO Tryz.prog akC := aaq aap Tryz.func217 [aa8, ahy, alq, am1, ajy, abU, ae1, al1] ⟨aaT, ag3, aoG, aod, alf, abc, aeF, ao8, trivial⟩ [] trivial (fun _ => []) [] fun x => by kernel_rfl
noncomputable def anr (y0 : QV) : Option ((MV × Unit) × (Unit)) :=
 some ((MV.opop (⟨⟨false, 0, 0⟩, y0, 1, 0, 0⟩ : OPopV), ()), (()))
noncomputable abbrev amA : Con SR1 := ⟨208, [.val 14], [.sh .mach], fun x => anr x.1⟩
theorem apQ : CO Tryz.prog amA := aaq aap Tryz.func208 [] trivial [] trivial (fun _ => []) [] fun x => by kernel_rfl
noncomputable def aga (y0 : (LPopV MV)) (y1 : EnvP) : Option ((Bool × Unit) × ((LPopV MV) × EnvP × Unit)) :=
 (afn y1.l y0.worker).bind fun r1 =>
 (ab3 y1.m r1.1.1).bind fun r2 =>
 if r2.1.1 = 0 then
  (aaX y0.o 2 0).bind fun r3 =>
  some ((r3.1.1, ()), (({ y0 with o := r3.2.1 } : (LPopV MV)), ({ y1 with m := r2.2.1 } : EnvP), ()))
 else
 (afa r2.1.1).bind fun r4 =>
 (aeW y1.l y0.worker r4.1.1).bind fun r5 =>
 (anr r5.1.1).bind fun r6 =>
 some ((false, ()), (({ y0 with level := r4.1.1, line := 2, inside := r6.1.1 } : (LPopV MV)), ({ y1 with m := r2.2.1 } : EnvP), ()))
noncomputable abbrev ahd : Con SR1 := ⟨206, [.ref 42, .ref 27], [.sh .b], fun x => aga x.1 x.2.1⟩
theorem akD : CO Tryz.prog ahd := aaq aap Tryz.func206 [ae1, ab2, abU, apL, ahy, amA] ⟨aeF, abz, abc, aqQ, ag3, apQ, trivial⟩ [] trivial (fun _ => []) [] fun x => by kernel_rfl
noncomputable def ae8 (y0 : Int) (y1 : Int) (y2 : QV) : Option ((MV × Unit) × (Unit)) :=
 some ((MV.reset (⟨⟨false, 0, 0⟩, y0, y1, y2, 1, 0⟩ : ResetV), ()), (()))
noncomputable abbrev agn : Con SR1 := ⟨76, [.sh sI_, .sh sI_, .val 14], [.sh .mach], fun x => ae8 x.1 x.2.1 x.2.2.1⟩
theorem ah2 : CO Tryz.prog agn := aaq aap Tryz.func76 [] trivial [] trivial (fun _ => []) [] fun x => by kernel_rfl
noncomputable def abX (y0 : (LPopV MV)) (y1 : EnvP) : Option ((Bool × Unit) × ((LPopV MV) × EnvP × Unit)) :=
 (aau y0.o).bind fun r1 =>
 if r1.1.1 = true then
  some ((true, ()), (({ y0 with o := r1.2.1 } : (LPopV MV)), y1, ()))
 else
 if y0.line = 1 then
  (aga ({ y0 with o := r1.2.1 } : (LPopV MV)) y1).bind fun r2 =>
  some ((r2.1.1, ()), (r2.2.1, r2.2.2.1, ()))
 else
 (ahT y0.inside y1).bind fun r3 =>
 if (!r3.1.1) = true then
  some ((false, ()), (({ y0 with o := r1.2.1, inside := r3.2.1 } : (LPopV MV)), r3.2.2.1, ()))
 else
 (ad2 r3.2.1).bind fun r4 =>
 if y0.line = 3 then
  some ((false, ()), (({ y0 with o := r1.2.1, line := 1, inside := MV.nil } : (LPopV MV)), r3.2.2.1, ()))
 else
 if r4.1.1 = 1 then
  (aaX r1.2.1 1 r4.1.2.1).bind fun r5 =>
  some ((r5.1.1, ()), (({ y0 with o := r5.2.1, inside := r4.2.1 } : (LPopV MV)), r3.2.2.1, ()))
 else
 (afn r3.2.2.1.l y0.worker).bind fun r6 =>
 if y0.level = y0.level then
  if y0.worker = y0.worker then
   if r3.2.2.1.l.workers = r3.2.2.1.l.workers then
   if r3.2.2.1.l.levels = r3.2.2.1.l.levels then
   if r3.2.2.1.l.classes = r3.2.2.1.l.classes then
   if r3.2.2.1.l.tasks = r3.2.2.1.l.tasks then
   if r3.2.2.1.l.deque = r3.2.2.1.l.deque then
   if r3.2.2.1.l.heap = r3.2.2.1.l.heap then
   if r3.2.2.1.l.sleepers = r3.2.2.1.l.sleepers then
   if r3.2.2.1.l.epochs = r3.2.2.1.l.epochs then
   if r3.2.2.1.l.bitmaps = r3.2.2.1.l.bitmaps then
   if r3.2.2.1.l.queues = r3.2.2.1.l.queues then
   if r3.2.2.1.l.table = r3.2.2.1.l.table then
   if y0.level = y0.level then
   (aeW r3.2.2.1.l y0.worker y0.level).bind fun r7 =>
   if y0.level = y0.level then
   (ae8 r6.1.1 y0.level r7.1.1).bind fun r8 =>
   some ((false, ()), (({ y0 with o := r1.2.1, line := 3, inside := r8.1.1 } : (LPopV MV)), r3.2.2.1, ()))
   else none
   else none
   else none
   else none
   else none
   else none
   else none
   else none
   else none
   else none
   else none
   else none
   else none
  else none
 else none
noncomputable abbrev alz : Con SR1 := ⟨205, [.ref 42, .ref 27], [.sh .b], fun x => abX x.1 x.2.1⟩
theorem aeo : CO Tryz.prog alz := aaq aap Tryz.func205 [aa8, ahd, am1, ajy, abU, ae1, ahy, agn] ⟨aaT, akD, aod, alf, abc, aeF, ag3, ah2, trivial⟩ [] trivial (fun _ => []) [] fun x => by kernel_rfl
noncomputable def acI (m : MV) (e : EnvP) : Option ((Bool × Unit) × (MV × EnvP × Unit)) :=
 match m with
 | .alloc x => (abm x e).bind fun o => some (o.1, (MV.alloc o.2.1, o.2.2))
 | .publish x => (abg x e).bind fun o => some (o.1, (MV.publish o.2.1, o.2.2))
 | .claim x => (ab1 x e).bind fun o => some (o.1, (MV.claim o.2.1, o.2.2))
 | .attempt x => (abP x e).bind fun o => some (o.1, (MV.attempt o.2.1, o.2.2))
 | .release x => (abO x e).bind fun o => some (o.1, (MV.release o.2.1, o.2.2))
 | .opush x => (acn x e).bind fun o => some (o.1, (MV.opush o.2.1, o.2.2))
 | .opop x => (acL x e).bind fun o => some (o.1, (MV.opop o.2.1, o.2.2))
 | .steal x => (ab0 x e).bind fun o => some (o.1, (MV.steal o.2.1, o.2.2))
 | .set x => (aco x e).bind fun o => some (o.1, (MV.set o.2.1, o.2.2))
 | .reset x => (abR x e).bind fun o => some (o.1, (MV.reset o.2.1, o.2.2))
 | .remove x => (abd x e).bind fun o => some (o.1, (MV.remove o.2.1, o.2.2))
 | .sleep x => (abW x e).bind fun o => some (o.1, (MV.sleep o.2.1, o.2.2))
 | .wake x => (acg x e).bind fun o => some (o.1, (MV.wake o.2.1, o.2.2))
 | .raise x => (abG x e).bind fun o => some (o.1, (MV.raise o.2.1, o.2.2))
 | .probe x => (aa0 x e).bind fun o => some (o.1, (MV.probe o.2.1, o.2.2))
 | .lpush x => (abF x e).bind fun o => some (o.1, (MV.lpush o.2.1, o.2.2))
 | .lpop x => (abX x e).bind fun o => some (o.1, (MV.lpop o.2.1, o.2.2))
 | _ => none
noncomputable abbrev af0 : Con SR1 := ⟨1000000000, [.mch, .ref 27], [.sh .b], fun x => acI x.1 x.2.1⟩
theorem afx : CO Tryz.prog af0 := ahh (S := SR1) (i := 0) (ps := [.ref 27]) (rs := [.sh .b]) (spec := fun m xs => acI m xs.1) fun m xs out h => by
  cases m with
  | alloc x => exact aai (S := SR1) (ps := [.ref 27]) (rs := [.sh .b]) (c := 34) (mk := MV.alloc) (fun _ => rfl) rfl (fun _ _ _ _ => by kernel_rfl) ab8 h
  | publish x => exact aai (S := SR1) (ps := [.ref 27]) (rs := [.sh .b]) (c := 48) (mk := MV.publish) (fun _ => rfl) rfl (fun _ _ _ _ => by kernel_rfl) aci h
  | claim x => exact aai (S := SR1) (ps := [.ref 27]) (rs := [.sh .b]) (c := 43) (mk := MV.claim) (fun _ => rfl) rfl (fun _ _ _ _ => by kernel_rfl) acT h
  | attempt x => exact aai (S := SR1) (ps := [.ref 27]) (rs := [.sh .b]) (c := 33) (mk := MV.attempt) (fun _ => rfl) rfl (fun _ _ _ _ => by kernel_rfl) acD h
  | release x => exact aai (S := SR1) (ps := [.ref 27]) (rs := [.sh .b]) (c := 35) (mk := MV.release) (fun _ => rfl) rfl (fun _ _ _ _ => by kernel_rfl) acC h
  | opush x => exact aai (S := SR1) (ps := [.ref 27]) (rs := [.sh .b]) (c := 51) (mk := MV.opush) (fun _ => rfl) rfl (fun _ _ _ _ => by kernel_rfl) adf h
  | opop x => exact aai (S := SR1) (ps := [.ref 27]) (rs := [.sh .b]) (c := 50) (mk := MV.opop) (fun _ => rfl) rfl (fun _ _ _ _ => by kernel_rfl) adB h
  | steal x => exact aai (S := SR1) (ps := [.ref 27]) (rs := [.sh .b]) (c := 40) (mk := MV.steal) (fun _ => rfl) rfl (fun _ _ _ _ => by kernel_rfl) acS h
  | set x => exact aai (S := SR1) (ps := [.ref 27]) (rs := [.sh .b]) (c := 52) (mk := MV.set) (fun _ => rfl) rfl (fun _ _ _ _ => by kernel_rfl) adh h
  | reset x => exact aai (S := SR1) (ps := [.ref 27]) (rs := [.sh .b]) (c := 41) (mk := MV.reset) (fun _ => rfl) rfl (fun _ _ _ _ => by kernel_rfl) acE h
  | remove x => exact aai (S := SR1) (ps := [.ref 27]) (rs := [.sh .b]) (c := 49) (mk := MV.remove) (fun _ => rfl) rfl (fun _ _ _ _ => by kernel_rfl) abZ h
  | sleep x => exact aai (S := SR1) (ps := [.ref 27]) (rs := [.sh .b]) (c := 31) (mk := MV.sleep) (fun _ => rfl) rfl (fun _ _ _ _ => by kernel_rfl) ade h
  | wake x => exact aai (S := SR1) (ps := [.ref 27]) (rs := [.sh .b]) (c := 36) (mk := MV.wake) (fun _ => rfl) rfl (fun _ _ _ _ => by kernel_rfl) adA h
  | raise x => exact aai (S := SR1) (ps := [.ref 27]) (rs := [.sh .b]) (c := 53) (mk := MV.raise) (fun _ => rfl) rfl (fun _ _ _ _ => by kernel_rfl) acY h
  | probe x => exact aai (S := SR1) (ps := [.ref 27]) (rs := [.sh .b]) (c := 44) (mk := MV.probe) (fun _ => rfl) rfl (fun _ _ _ _ => by kernel_rfl) acV h
  | lpush x => exact aai (S := SR1) (ps := [.ref 27]) (rs := [.sh .b]) (c := 45) (mk := MV.lpush) (fun _ => rfl) rfl (fun _ _ _ _ => by kernel_rfl) adT h
  | lpop x => exact aai (S := SR1) (ps := [.ref 27]) (rs := [.sh .b]) (c := 42) (mk := MV.lpop) (fun _ => rfl) rfl (fun _ _ _ _ => by kernel_rfl) aeo h
  | _ => cases h
noncomputable def abb (m : MV) : Option ((Int × Int × Unit) × (MV × Unit)) :=
 match m with
 | .alloc x => some ((x.o.code, x.o.value, ()), (MV.alloc x, ()))
 | .publish x => some ((x.o.code, x.o.value, ()), (MV.publish x, ()))
 | .claim x => some ((x.o.code, x.o.value, ()), (MV.claim x, ()))
 | .attempt x => some ((x.o.code, x.o.value, ()), (MV.attempt x, ()))
 | .release x => some ((x.o.code, x.o.value, ()), (MV.release x, ()))
 | .opush x => some ((x.o.code, x.o.value, ()), (MV.opush x, ()))
 | .opop x => some ((x.o.code, x.o.value, ()), (MV.opop x, ()))
 | .steal x => some ((x.o.code, x.o.value, ()), (MV.steal x, ()))
 | .set x => some ((x.o.code, x.o.value, ()), (MV.set x, ()))
 | .reset x => some ((x.o.code, x.o.value, ()), (MV.reset x, ()))
 | .remove x => some ((x.o.code, x.o.value, ()), (MV.remove x, ()))
 | .sleep x => some ((x.o.code, x.o.value, ()), (MV.sleep x, ()))
 | .wake x => some ((x.o.code, x.o.value, ()), (MV.wake x, ()))
 | .raise x => some ((x.o.code, x.o.value, ()), (MV.raise x, ()))
 | .probe x => some ((x.o.code, x.o.value, ()), (MV.probe x, ()))
 | .lpush x => some ((x.o.code, x.o.value, ()), (MV.lpush x, ()))
 | .lpop x => some ((x.o.code, x.o.value, ()), (MV.lpop x, ()))
 | _ => none
noncomputable abbrev adR : Con SR1 := ⟨1000000001, [.mch], [.sh sI_, .sh sI_], fun x => abb x.1⟩
theorem adQ : CO Tryz.prog adR := ahh (S := SR1) (i := 1) (ps := []) (rs := [.sh sI_, .sh sI_]) (spec := fun m _ => abb m) fun m xs out h => by
  cases m with
  | alloc x => exact aai (S := SR1) (ps := []) (rs := [.sh sI_, .sh sI_]) (c := 34) (mk := MV.alloc) (f := 129) (sp := fun x => some ((x.1.o.code, x.1.o.value, ()), (x.1, ()))) (fun _ => rfl) rfl (fun _ _ _ _ => by kernel_rfl) (aam [aah] ⟨aad, trivial⟩ fun x => by kernel_rfl) h
  | publish x => exact aai (S := SR1) (ps := []) (rs := [.sh sI_, .sh sI_]) (c := 48) (mk := MV.publish) (f := 129) (sp := fun x => some ((x.1.o.code, x.1.o.value, ()), (x.1, ()))) (fun _ => rfl) rfl (fun _ _ _ _ => by kernel_rfl) (aam [aah] ⟨aad, trivial⟩ fun x => by kernel_rfl) h
  | claim x => exact aai (S := SR1) (ps := []) (rs := [.sh sI_, .sh sI_]) (c := 43) (mk := MV.claim) (f := 129) (sp := fun x => some ((x.1.o.code, x.1.o.value, ()), (x.1, ()))) (fun _ => rfl) rfl (fun _ _ _ _ => by kernel_rfl) (aam [aah] ⟨aad, trivial⟩ fun x => by kernel_rfl) h
  | attempt x => exact aai (S := SR1) (ps := []) (rs := [.sh sI_, .sh sI_]) (c := 33) (mk := MV.attempt) (f := 129) (sp := fun x => some ((x.1.o.code, x.1.o.value, ()), (x.1, ()))) (fun _ => rfl) rfl (fun _ _ _ _ => by kernel_rfl) (aam [aah] ⟨aad, trivial⟩ fun x => by kernel_rfl) h
  | release x => exact aai (S := SR1) (ps := []) (rs := [.sh sI_, .sh sI_]) (c := 35) (mk := MV.release) (f := 129) (sp := fun x => some ((x.1.o.code, x.1.o.value, ()), (x.1, ()))) (fun _ => rfl) rfl (fun _ _ _ _ => by kernel_rfl) (aam [aah] ⟨aad, trivial⟩ fun x => by kernel_rfl) h
  | opush x => exact aai (S := SR1) (ps := []) (rs := [.sh sI_, .sh sI_]) (c := 51) (mk := MV.opush) (f := 129) (sp := fun x => some ((x.1.o.code, x.1.o.value, ()), (x.1, ()))) (fun _ => rfl) rfl (fun _ _ _ _ => by kernel_rfl) (aam [aah] ⟨aad, trivial⟩ fun x => by kernel_rfl) h
  | opop x => exact aai (S := SR1) (ps := []) (rs := [.sh sI_, .sh sI_]) (c := 50) (mk := MV.opop) (f := 129) (sp := fun x => some ((x.1.o.code, x.1.o.value, ()), (x.1, ()))) (fun _ => rfl) rfl (fun _ _ _ _ => by kernel_rfl) (aam [aah] ⟨aad, trivial⟩ fun x => by kernel_rfl) h
  | steal x => exact aai (S := SR1) (ps := []) (rs := [.sh sI_, .sh sI_]) (c := 40) (mk := MV.steal) (f := 129) (sp := fun x => some ((x.1.o.code, x.1.o.value, ()), (x.1, ()))) (fun _ => rfl) rfl (fun _ _ _ _ => by kernel_rfl) (aam [aah] ⟨aad, trivial⟩ fun x => by kernel_rfl) h
  | set x => exact aai (S := SR1) (ps := []) (rs := [.sh sI_, .sh sI_]) (c := 52) (mk := MV.set) (f := 129) (sp := fun x => some ((x.1.o.code, x.1.o.value, ()), (x.1, ()))) (fun _ => rfl) rfl (fun _ _ _ _ => by kernel_rfl) (aam [aah] ⟨aad, trivial⟩ fun x => by kernel_rfl) h
  | reset x => exact aai (S := SR1) (ps := []) (rs := [.sh sI_, .sh sI_]) (c := 41) (mk := MV.reset) (f := 129) (sp := fun x => some ((x.1.o.code, x.1.o.value, ()), (x.1, ()))) (fun _ => rfl) rfl (fun _ _ _ _ => by kernel_rfl) (aam [aah] ⟨aad, trivial⟩ fun x => by kernel_rfl) h
  | remove x => exact aai (S := SR1) (ps := []) (rs := [.sh sI_, .sh sI_]) (c := 49) (mk := MV.remove) (f := 129) (sp := fun x => some ((x.1.o.code, x.1.o.value, ()), (x.1, ()))) (fun _ => rfl) rfl (fun _ _ _ _ => by kernel_rfl) (aam [aah] ⟨aad, trivial⟩ fun x => by kernel_rfl) h
  | sleep x => exact aai (S := SR1) (ps := []) (rs := [.sh sI_, .sh sI_]) (c := 31) (mk := MV.sleep) (f := 129) (sp := fun x => some ((x.1.o.code, x.1.o.value, ()), (x.1, ()))) (fun _ => rfl) rfl (fun _ _ _ _ => by kernel_rfl) (aam [aah] ⟨aad, trivial⟩ fun x => by kernel_rfl) h
  | wake x => exact aai (S := SR1) (ps := []) (rs := [.sh sI_, .sh sI_]) (c := 36) (mk := MV.wake) (f := 129) (sp := fun x => some ((x.1.o.code, x.1.o.value, ()), (x.1, ()))) (fun _ => rfl) rfl (fun _ _ _ _ => by kernel_rfl) (aam [aah] ⟨aad, trivial⟩ fun x => by kernel_rfl) h
  | raise x => exact aai (S := SR1) (ps := []) (rs := [.sh sI_, .sh sI_]) (c := 53) (mk := MV.raise) (f := 129) (sp := fun x => some ((x.1.o.code, x.1.o.value, ()), (x.1, ()))) (fun _ => rfl) rfl (fun _ _ _ _ => by kernel_rfl) (aam [aah] ⟨aad, trivial⟩ fun x => by kernel_rfl) h
  | probe x => exact aai (S := SR1) (ps := []) (rs := [.sh sI_, .sh sI_]) (c := 44) (mk := MV.probe) (f := 129) (sp := fun x => some ((x.1.o.code, x.1.o.value, ()), (x.1, ()))) (fun _ => rfl) rfl (fun _ _ _ _ => by kernel_rfl) (aam [aah] ⟨aad, trivial⟩ fun x => by kernel_rfl) h
  | lpush x => exact aai (S := SR1) (ps := []) (rs := [.sh sI_, .sh sI_]) (c := 45) (mk := MV.lpush) (f := 129) (sp := fun x => some ((x.1.o.code, x.1.o.value, ()), (x.1, ()))) (fun _ => rfl) rfl (fun _ _ _ _ => by kernel_rfl) (aam [aah] ⟨aad, trivial⟩ fun x => by kernel_rfl) h
  | lpop x => exact aai (S := SR1) (ps := []) (rs := [.sh sI_, .sh sI_]) (c := 42) (mk := MV.lpop) (f := 129) (sp := fun x => some ((x.1.o.code, x.1.o.value, ()), (x.1, ()))) (fun _ => rfl) rfl (fun _ _ _ _ => by kernel_rfl) (aam [aah] ⟨aad, trivial⟩ fun x => by kernel_rfl) h
  | _ => cases h
noncomputable def ajX (y0 : Int) (y1 : Int) (y2 : Int) : Option ((MV × Unit) × (Unit)) :=
 some ((MV.raise (⟨⟨false, 0, 0⟩, y0, y1, y2, 1, 0⟩ : RaiseV), ()), (()))
noncomputable abbrev akj : Con SR1 := ⟨231, [.sh sI_, .sh sI_, .sh sI_], [.sh .mach], fun x => ajX x.1 x.2.1 x.2.2.1⟩
theorem anR : CO Tryz.prog akj := aaq aap Tryz.func231 [] trivial [] trivial (fun _ => []) [] fun x => by kernel_rfl
noncomputable def ada (y0 : (WalkV MV)) (y1 : EnvP) : Option ((Bool × Unit) × ((WalkV MV) × EnvP × Unit)) :=
 if (SR1.spl y0.inside).isNone = true then
  (ahn y1 y0.task y0.level).bind fun r1 =>
  if (!r1.1.1) = true then
   (aaX y0.o 4 0).bind fun r2 =>
   some ((r2.1.1, ()), (({ y0 with o := r2.2.1 } : (WalkV MV)), r1.2.1, ()))
  else
  (ajX y0.worker y0.task y0.level).bind fun r3 =>
  (acI r3.1.1 r1.2.1).bind fun r4 =>
  if (!r4.1.1) = true then
   some ((false, ()), (({ y0 with inside := r4.2.1 } : (WalkV MV)), r4.2.2.1, ()))
  else
  (abb r4.2.1).bind fun r5 =>
  if r5.1.1 = 1 then
   some ((false, ()), (({ y0 with line := 2, inside := MV.nil } : (WalkV MV)), r4.2.2.1, ()))
  else
  some ((false, ()), (({ y0 with line := 4, inside := MV.nil } : (WalkV MV)), r4.2.2.1, ()))
 else
 (acI y0.inside y1).bind fun r6 =>
 if (!r6.1.1) = true then
  some ((false, ()), (({ y0 with inside := r6.2.1 } : (WalkV MV)), r6.2.2.1, ()))
 else
 (abb r6.2.1).bind fun r7 =>
 if r7.1.1 = 1 then
  some ((false, ()), (({ y0 with line := 2, inside := MV.nil } : (WalkV MV)), r6.2.2.1, ()))
 else
 some ((false, ()), (({ y0 with line := 4, inside := MV.nil } : (WalkV MV)), r6.2.2.1, ()))
noncomputable abbrev agy : Con SR1 := ⟨228, [.ref 46, .ref 27], [.sh .b], fun x => ada x.1 x.2.1⟩
theorem ajW : CO Tryz.prog agy := aaq aap Tryz.func228 [aij, abU, akj, af0, adR] ⟨akk, abc, anR, afx, adQ, trivial⟩ [] trivial (fun _ => []) [] fun x => by kernel_rfl
noncomputable def abK (y0 : Int) (y1 : Int) (y2 : Int) : Option ((MV × Unit) × (Unit)) :=
 some ((MV.lpush (⟨⟨false, 0, 0⟩, y0, y1, y2, 1, MV.nil⟩ : (LPushV MV)), ()), (()))
noncomputable abbrev ads : Con SR1 := ⟨145, [.sh sI_, .sh sI_, .sh sI_], [.sh .mach], fun x => abK x.1 x.2.1 x.2.2.1⟩
theorem adC : CO Tryz.prog ads := aaq aap Tryz.func145 [] trivial [] trivial (fun _ => []) [] fun x => by kernel_rfl
noncomputable def agm (y0 : (WalkV MV)) (y1 : EnvP) : Option ((Unit) × ((WalkV MV) × EnvP × Unit)) :=
 (acI y0.inside y1).bind fun r1 =>
 if (!r1.1.1) = true then
  some ((()), (({ y0 with inside := r1.2.1 } : (WalkV MV)), r1.2.2.1, ()))
 else
 (abb r1.2.1).bind fun r2 =>
 if r2.1.1 = 3 then
  (adu r1.2.2.1 ({ y0 with kind := 19, other := 0 } : Ev)).bind fun r3 =>
  some ((()), (({ y0 with line := 4, inside := MV.nil } : (WalkV MV)), r3.2.1, ()))
 else
 some ((()), (({ y0 with line := 4, inside := MV.nil } : (WalkV MV)), r1.2.2.1, ()))
noncomputable abbrev ahl : Con SR1 := ⟨229, [.ref 46, .ref 27], [], fun x => agm x.1 x.2.1⟩
theorem akH : CO Tryz.prog ahl := aaq aap Tryz.func229 [af0, adR, ae0] ⟨afx, adQ, ad6, trivial⟩ [] trivial (fun _ => []) [] fun x => by kernel_rfl
noncomputable def abr (y0 : (WalkV MV)) (y1 : EnvP) : Option ((Bool × Unit) × ((WalkV MV) × EnvP × Unit)) :=
 (aau y0.o).bind fun r1 =>
 if r1.1.1 = true then
  some ((true, ()), (({ y0 with o := r1.2.1 } : (WalkV MV)), y1, ()))
 else
 if y0.line = 1 then
  (ada ({ y0 with o := r1.2.1 } : (WalkV MV)) y1).bind fun r2 =>
  some ((r2.1.1, ()), (r2.2.1, r2.2.2.1, ()))
 else
 if y0.line = 2 then
  (aef y1.l y0.task).bind fun r3 =>
  (ab3 y1.m r3.1.1).bind fun r4 =>
  if r4.1.1 = 1 then
   (abK y0.worker y0.level y0.task).bind fun r5 =>
   some ((false, ()), (({ y0 with o := r1.2.1, line := 3, inside := r5.1.1 } : (WalkV MV)), ({ y1 with m := r4.2.1 } : EnvP), ()))
  else
  some ((false, ()), (({ y0 with o := r1.2.1, line := 4 } : (WalkV MV)), ({ y1 with m := r4.2.1 } : EnvP), ()))
 else
 if y0.line = 3 then
  (agm ({ y0 with o := r1.2.1 } : (WalkV MV)) y1).bind fun r6 =>
  some ((false, ()), (r6.2.1, r6.2.2.1, ()))
 else
 (ag2 y1.l y0.task).bind fun r7 =>
 (ab3 y1.m r7.1.1).bind fun r8 =>
 if r8.1.1 = 0 then
  (aaX r1.2.1 0 0).bind fun r9 =>
  some ((r9.1.1, ()), (({ y0 with o := r9.2.1 } : (WalkV MV)), ({ y1 with m := r8.2.1 } : EnvP), ()))
 else
 some ((false, ()), (({ y0 with o := r1.2.1, task := wi (wu (r8.1.1 - 1)), line := 1 } : (WalkV MV)), ({ y1 with m := r8.2.1 } : EnvP), ()))
noncomputable abbrev al0 : Con SR1 := ⟨227, [.ref 46, .ref 27], [.sh .b], fun x => abr x.1 x.2.1⟩
theorem agx : CO Tryz.prog al0 := aaq aap Tryz.func227 [aa8, agy, afg, ab2, ads, ahl, akO, abU] ⟨aaT, ajW, aeU, abz, adC, akH, alk, abc, trivial⟩ [] trivial (fun _ => []) [] fun x => by kernel_rfl
noncomputable def aeg (y0 : Int) : Option ((MV × Unit) × (Unit)) :=
 some ((MV.lpop (⟨⟨false, 0, 0⟩, y0, 0, 1, MV.nil⟩ : (LPopV MV)), ()), (()))
noncomputable abbrev aie : Con SR1 := ⟨83, [.sh sI_], [.sh .mach], fun x => aeg x.1⟩
theorem ake : CO Tryz.prog aie := aaq aap Tryz.func83 [] trivial [] trivial (fun _ => []) [] fun x => by kernel_rfl
noncomputable def abJ (y0 : Int) (y1 : Int) : Option ((MV × Unit) × (Unit)) :=
 some ((MV.claim (⟨⟨false, 0, 0⟩, y0, y1⟩ : ClaimV), ()), (()))
noncomputable abbrev aed : Con SR1 := ⟨12, [.sh sI_, .sh sI_], [.sh .mach], fun x => abJ x.1 x.2.1⟩
theorem aez : CO Tryz.prog aed := aaq aap Tryz.func12 [] trivial [] trivial (fun _ => []) [] fun x => by kernel_rfl
noncomputable def adq (y0 : (TakeV MV)) (y1 : EnvP) : Option ((Bool × Unit) × ((TakeV MV) × EnvP × Unit)) :=
 (aau y0.o).bind fun r1 =>
 if r1.1.1 = true then
  some ((true, ()), (({ y0 with o := r1.2.1 } : (TakeV MV)), y1, ()))
 else
 (acI y0.inside y1).bind fun r2 =>
 if (!r2.1.1) = true then
  some ((false, ()), (({ y0 with o := r1.2.1, inside := r2.2.1 } : (TakeV MV)), r2.2.2.1, ()))
 else
 (abb r2.2.1).bind fun r3 =>
 if y0.claiming = true then
  if r3.1.1 = 1 then
   (aaX r1.2.1 1 r3.1.2.1).bind fun r4 =>
   some ((r4.1.1, ()), (({ y0 with o := r4.2.1, inside := r3.2.1 } : (TakeV MV)), r2.2.2.1, ()))
  else
  if y0.claiming = true then
   (aeg y0.worker).bind fun r5 =>
   some ((false, ()), ((⟨r1.2.1, y0.worker, false, r5.1.1⟩ : (TakeV MV)), r2.2.2.1, ()))
  else
  if r3.1.1 = 2 then
   (aaX r1.2.1 2 0).bind fun r6 =>
   some ((r6.1.1, ()), (({ y0 with o := r6.2.1, inside := r3.2.1 } : (TakeV MV)), r2.2.2.1, ()))
  else
  (abJ y0.worker r3.1.2.1).bind fun r7 =>
  some ((false, ()), ((⟨r1.2.1, y0.worker, true, r7.1.1⟩ : (TakeV MV)), r2.2.2.1, ()))
 else
 if y0.claiming = true then
  (aeg y0.worker).bind fun r8 =>
  some ((false, ()), ((⟨r1.2.1, y0.worker, false, r8.1.1⟩ : (TakeV MV)), r2.2.2.1, ()))
 else
 if r3.1.1 = 2 then
  (aaX r1.2.1 2 0).bind fun r9 =>
  some ((r9.1.1, ()), (({ y0 with o := r9.2.1, inside := r3.2.1 } : (TakeV MV)), r2.2.2.1, ()))
 else
 (abJ y0.worker r3.1.2.1).bind fun r10 =>
 some ((false, ()), ((⟨r1.2.1, y0.worker, true, r10.1.1⟩ : (TakeV MV)), r2.2.2.1, ()))
noncomputable abbrev ama : Con SR1 := ⟨182, [.ref 37, .ref 27], [.sh .b], fun x => adq x.1 x.2.1⟩
theorem agM : CO Tryz.prog ama := aaq aap Tryz.func182 [aa8, af0, adR, abU, aie, aed] ⟨aaT, afx, adQ, abc, ake, aez, trivial⟩ [] trivial (fun _ => []) [] fun x => by kernel_rfl
noncomputable def aa9 (y0 : (SweepV MV)) (y1 : EnvP) : Option ((Bool × Unit) × ((SweepV MV) × EnvP × Unit)) :=
 if y0.line = 1 then
  ((
   if y0.task < 0 then
   some (true, y0, y1, ())
   else
   if y1.c.tasks ≤ y0.task then
   some (true, y0, y1, ())
   else
   some (decide (y1.c.age = 0), y0, y1, ())
  ) : Option (Bool × (SweepV MV) × EnvP × Unit)).bind fun z1 =>
  if z1.1 = true then
   some ((true, ()), (z1.2.1, z1.2.2.1, ()))
  else
  (aef z1.2.2.1.l z1.2.1.task).bind fun r2 =>
  (ab3 z1.2.2.1.m r2.1.1).bind fun r3 =>
  some ((decide (r3.1.1 ≠ 1), ()), (z1.2.1, ({ z1.2.2.1 with m := r3.2.1 } : EnvP), ()))
 else
 if y0.line = 2 then
  (aiU y1.l y0.task).bind fun r4 =>
  (ab3 y1.m r4.1.1).bind fun r5 =>
  (apI y1.k).bind fun r6 =>
  if y1.c.age = y1.c.age then
   some ((decide ((wi (r6.1.1 - (wi (r5.1.1)))) < y1.c.age), ()), (y0, ({ y1 with m := r5.2.1, k := r6.2.1 } : EnvP), ()))
  else none
 else
 (aeZ y1.l y0.task).bind fun r7 =>
 (ab3 y1.m r7.1.1).bind fun r8 =>
 some ((decide ((wi (y1.c.levels - 1)) ≤ (wi (r8.1.1))), ()), (({ y0 with q := r8.1.1 } : (SweepV MV)), ({ y1 with m := r8.2.1 } : EnvP), ()))
noncomputable abbrev agz : Con SR1 := ⟨185, [.ref 38, .ref 27], [.sh .b], fun x => aa9 x.1 x.2.1⟩
theorem aj1 : CO Tryz.prog agz := aaq aap Tryz.func185 [afg, ab2, aiS, alm, afi] ⟨aeU, abz, aiR, ajL, aeX, trivial⟩ [] trivial (fun _ => []) [(4, .cut [.rg 36 .b, .ob 0 38, .ob 1 27] [])] fun x => by kernel_rfl
noncomputable def abe (y0 : (SweepV MV)) (y1 : Int) : Option ((Ev × Unit) × ((SweepV MV) × Unit)) :=
 some ((({ y0 with kind := y1, other := 0, level := wi ((wi (y0.q)) + 1) } : Ev), ()), (y0, ()))
noncomputable abbrev afV : Con SR1 := ⟨186, [.ref 38, .sh sI_], [.val 2], fun x => abe x.1 x.2.1⟩
theorem ajk : CO Tryz.prog afV := aaq aap Tryz.func186 [] trivial [] trivial (fun _ => []) [] fun x => by kernel_rfl
end Go.Proofs.YtlcelajkhklkbaaGreat
