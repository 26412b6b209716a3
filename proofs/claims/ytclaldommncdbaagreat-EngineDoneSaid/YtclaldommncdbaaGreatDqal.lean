/- The program's machines in the evaluator's form. The program's machines in the evaluator's form. -/
import Derived.Test.YtclaldommncdbaaGreatDqak
set_option linter.all false
namespace Go.Proofs.YtclaldommncdbaaGreat
section
open Go Go.RowKit
set_option maxRecDepth 100000
variable [Tb]
noncomputable def abD (y0 : InsertV) (y1 : EnvP) : Option ((Bool × Unit) × (InsertV × EnvP × Unit)) :=
 (aav y0.o).bind fun r1 =>
 if r1.1.1 = true then
  some ((true, ()), (({ y0 with o := r1.2.1 } : InsertV), y1, ()))
 else
 if y1.l.workers = y1.l.workers then
  if y1.l.levels = y1.l.levels then
   if y1.l.classes = y1.l.classes then
   if y1.l.tasks = y1.l.tasks then
   if y1.l.deque = y1.l.deque then
   if y1.l.heap = y1.l.heap then
   if y1.l.sleepers = y1.l.sleepers then
   if y1.l.epochs = y1.l.epochs then
   if y1.l.bitmaps = y1.l.bitmaps then
   if y1.l.queues = y1.l.queues then
   if y1.l.table = y1.l.table then
   if y0.line = 1 then
   (afN y1.l).bind fun r2 =>
   (acy y1.m r2.1.1).bind fun r3 =>
   if y1.c.heap ≤ (wi (r3.1.1)) then
   (abe r1.2.1 3 0).bind fun r4 =>
   some ((r4.1.1, ()), (({ y0 with o := r4.2.1, n := wi (r3.1.1) } : InsertV), ({ y1 with m := r3.2.1 } : EnvP), ()))
   else
   some ((false, ()), (({ y0 with o := r1.2.1, line := 2, n := wi (r3.1.1) } : InsertV), ({ y1 with m := r3.2.1 } : EnvP), ()))
   else
   if y0.line = 2 then
   (aqE y1.l).bind fun r5 =>
   if y0.task = y0.task then
   if y0.deadline = y0.deadline then
   (aDQ y1.m r5.1.1 1).bind fun r6 =>
   if y0.task = y0.task then
   if y0.deadline = y0.deadline then
   (az3 y0.deadline (wi (r6.1.1)) y0.task).bind fun r7 =>
   if (!r7.1.2.1) = true then
   (abe r1.2.1 4 0).bind fun r8 =>
   some ((r8.1.1, ()), (({ y0 with o := r8.2.1 } : InsertV), ({ y1 with m := r6.2.1 } : EnvP), ()))
   else
   (ads ({ y0 with o := r1.2.1, i := y0.n, k := r7.1.1 } : InsertV)).bind fun r9 =>
   some ((false, ()), (({ r9.2.1 with line := r9.1.1 } : InsertV), ({ y1 with m := r6.2.1 } : EnvP), ()))
   else none
   else none
   else none
   else none
   else
   if y0.line = 3 then
   (ang y1.l (wi (Int.tdiv (wi (y0.i - 1)) 2))).bind fun r10 =>
   (acy y1.m r10.1.1).bind fun r11 =>
   if y0.k < r11.1.1 then
   some ((false, ()), (({ y0 with o := r1.2.1, line := 4, x := r11.1.1 } : InsertV), ({ y1 with m := r11.2.1 } : EnvP), ()))
   else
   some ((false, ()), (({ y0 with o := r1.2.1, line := 5, x := r11.1.1 } : InsertV), ({ y1 with m := r11.2.1 } : EnvP), ()))
   else
   if y0.line = 4 then
   (ang y1.l y0.i).bind fun r12 =>
   if y0.x = y0.x then
   (aa4 y1.m r12.1.1 y0.x).bind fun r13 =>
   (ads ({ y0 with o := r1.2.1, i := wi (Int.tdiv (wi (y0.i - 1)) 2) } : InsertV)).bind fun r14 =>
   some ((false, ()), (({ r14.2.1 with line := r14.1.1 } : InsertV), ({ y1 with m := r13.2.1 } : EnvP), ()))
   else none
   else
   if y0.line = 5 then
   (ang y1.l y0.i).bind fun r15 =>
   if y0.k = y0.k then
   (aa4 y1.m r15.1.1 y0.k).bind fun r16 =>
   some ((false, ()), (({ y0 with o := r1.2.1, line := 6 } : InsertV), ({ y1 with m := r16.2.1 } : EnvP), ()))
   else none
   else
   (afN y1.l).bind fun r17 =>
   if y0.n = y0.n then
   (aa4 y1.m r17.1.1 (wu (wi (y0.n + 1)))).bind fun r18 =>
   (abe r1.2.1 0 0).bind fun r19 =>
   some ((r19.1.1, ()), (({ y0 with o := r19.2.1 } : InsertV), ({ y1 with m := r18.2.1 } : EnvP), ()))
   else none
   else none
   else none
   else none
   else none
   else none
   else none
   else none
   else none
   else none
  else none
 else none
noncomputable abbrev ajG : Con SR1 := ⟨158, [.ref 36, .ref 27], [.sh .b], fun x => abD x.1 x.2.1⟩
theorem aiR : CO Tryz.prog ajG := aal aak Tryz.func158 [abn, ajk, acC, acD, apM, au9, axu, afv, aqw, adK] ⟨aa7, aiI, abK, abx, atH, atJ, az1, aig, aqv, adb, trivial⟩ [] trivial (fun _ => []) [] fun x => by kernel_rfl
noncomputable def ab3 (y0 : RemoveV) : Option ((Int × Unit) × (RemoveV × Unit)) :=
 if y0.z < y0.y then
  some ((7, ()), (y0, ()))
 else
 some ((8, ()), (y0, ()))
noncomputable abbrev aeK : Con SR1 := ⟨232, [.ref 51], [.sh sI_], fun x => ab3 x.1⟩
theorem ahk : CO Tryz.prog aeK := aal aak Tryz.func232 [] trivial [] trivial (fun _ => []) [] fun x => by kernel_rfl
noncomputable def acM (y0 : RemoveV) : Option ((Int × Unit) × (RemoveV × Unit)) :=
 if (wi ((wi (2 * y0.i)) + 1)) < (wi (y0.n - 1)) then
  some ((5, ()), (y0, ()))
 else
 some ((8, ()), (y0, ()))
noncomputable abbrev adg : Con SR1 := ⟨233, [.ref 51], [.sh sI_], fun x => acM x.1⟩
theorem aef : CO Tryz.prog adg := aal aak Tryz.func233 [] trivial [] trivial (fun _ => []) [] fun x => by kernel_rfl
noncomputable def acZ (y0 : RemoveV) : Option ((Int × Unit) × (RemoveV × Unit)) :=
 (atz y0.x).bind fun r1 =>
 some ((r1.1.2.2.1, ()), (y0, ()))
noncomputable abbrev ad8 : Con SR1 := ⟨234, [.ref 51], [.sh sI_], fun x => acZ x.1⟩
theorem aft : CO Tryz.prog ad8 := aal aak Tryz.func234 [asa] ⟨av5, trivial⟩ [] trivial (fun _ => []) [] fun x => by kernel_rfl
noncomputable def aep (y0 : RemoveV) (y1 : EnvP) : Option ((Bool × Unit) × (RemoveV × EnvP × Unit)) :=
 if y1.l.workers = y1.l.workers then
  if y1.l.levels = y1.l.levels then
   if y1.l.classes = y1.l.classes then
   if y1.l.tasks = y1.l.tasks then
   if y1.l.deque = y1.l.deque then
   if y1.l.heap = y1.l.heap then
   if y1.l.sleepers = y1.l.sleepers then
   if y1.l.epochs = y1.l.epochs then
   if y1.l.bitmaps = y1.l.bitmaps then
   if y1.l.queues = y1.l.queues then
   if y1.l.table = y1.l.table then
   if y0.line = 1 then
   (afN y1.l).bind fun r1 =>
   (acy y1.m r1.1.1).bind fun r2 =>
   if (wi (r2.1.1)) ≤ 0 then
   (abe y0.o 2 0).bind fun r3 =>
   some ((r3.1.1, ()), (({ y0 with o := r3.2.1, n := wi (r2.1.1) } : RemoveV), ({ y1 with m := r2.2.1 } : EnvP), ()))
   else
   some ((false, ()), (({ y0 with line := 2, n := wi (r2.1.1) } : RemoveV), ({ y1 with m := r2.2.1 } : EnvP), ()))
   else
   if y0.line = 2 then
   (ang y1.l 0).bind fun r4 =>
   (acy y1.m r4.1.1).bind fun r5 =>
   some ((false, ()), (({ y0 with line := 3, x := r5.1.1 } : RemoveV), ({ y1 with m := r5.2.1 } : EnvP), ()))
   else
   if y0.line = 3 then
   (ang y1.l (wi (y0.n - 1))).bind fun r6 =>
   (acy y1.m r6.1.1).bind fun r7 =>
   some ((false, ()), (({ y0 with line := 4, y := r7.1.1 } : RemoveV), ({ y1 with m := r7.2.1 } : EnvP), ()))
   else
   (afN y1.l).bind fun r8 =>
   if y0.n = y0.n then
   (aa4 y1.m r8.1.1 (wu (wi (y0.n - 1)))).bind fun r9 =>
   (acZ y0).bind fun r10 =>
   if y0.worker = r10.2.1.worker then
   (ad6 ({ y1 with m := r9.2.1 } : EnvP) (⟨13, y0.worker, r10.1.1, 0, 0⟩ : Ev)).bind fun r11 =>
   if r10.2.1.n = 1 then
   (acZ r10.2.1).bind fun r12 =>
   (abe r12.2.1.o 1 r12.1.1).bind fun r13 =>
   some ((r13.1.1, ()), (({ r12.2.1 with o := r13.2.1 } : RemoveV), r11.2.1, ()))
   else
   (acM r10.2.1).bind fun r14 =>
   some ((false, ()), (({ r14.2.1 with line := r14.1.1 } : RemoveV), r11.2.1, ()))
   else none
   else none
   else none
   else none
   else none
   else none
   else none
   else none
   else none
   else none
   else none
  else none
 else none
noncomputable abbrev afu : Con SR1 := ⟨235, [.ref 51, .ref 27], [.sh .b], fun x => aep x.1 x.2.1⟩
theorem aif : CO Tryz.prog afu := aal aak Tryz.func235 [ajk, acC, acD, aqw, adK, ad8, ae1, adg] ⟨aiI, abK, abx, aqv, adb, aft, aej, aef, trivial⟩ [] trivial (fun _ => []) [] fun x => by kernel_rfl
noncomputable def abC (y0 : RemoveV) (y1 : EnvP) : Option ((Bool × Unit) × (RemoveV × EnvP × Unit)) :=
 (aav y0.o).bind fun r1 =>
 if r1.1.1 = true then
  some ((true, ()), (({ y0 with o := r1.2.1 } : RemoveV), y1, ()))
 else
 if y1.l.workers = y1.l.workers then
  if y1.l.levels = y1.l.levels then
   if y1.l.classes = y1.l.classes then
   if y1.l.tasks = y1.l.tasks then
   if y1.l.deque = y1.l.deque then
   if y1.l.heap = y1.l.heap then
   if y1.l.sleepers = y1.l.sleepers then
   if y1.l.epochs = y1.l.epochs then
   if y1.l.bitmaps = y1.l.bitmaps then
   if y1.l.queues = y1.l.queues then
   if y1.l.table = y1.l.table then
   if y0.line = 5 then
   (ang y1.l (wi ((wi (2 * y0.i)) + 1))).bind fun r2 =>
   (acy y1.m r2.1.1).bind fun r3 =>
   (ab3 ({ y0 with o := r1.2.1, c := wi ((wi (2 * y0.i)) + 1), z := r3.1.1 } : RemoveV)).bind fun r4 =>
   if (wi (r4.2.1.c + 1)) < (wi (r4.2.1.n - 1)) then
   some ((false, ()), (({ r4.2.1 with line := 6 } : RemoveV), ({ y1 with m := r3.2.1 } : EnvP), ()))
   else
   some ((false, ()), (({ r4.2.1 with line := r4.1.1 } : RemoveV), ({ y1 with m := r3.2.1 } : EnvP), ()))
   else
   if y0.line = 6 then
   (ang y1.l (wi ((wi (2 * y0.i)) + 2))).bind fun r5 =>
   (acy y1.m r5.1.1).bind fun r6 =>
   if r6.1.1 < y0.z then
   (ab3 ({ y0 with o := r1.2.1, c := wi ((wi (2 * y0.i)) + 2), z := r6.1.1 } : RemoveV)).bind fun r7 =>
   some ((false, ()), (({ r7.2.1 with line := r7.1.1 } : RemoveV), ({ y1 with m := r6.2.1 } : EnvP), ()))
   else
   (ab3 ({ y0 with o := r1.2.1 } : RemoveV)).bind fun r8 =>
   some ((false, ()), (({ r8.2.1 with line := r8.1.1 } : RemoveV), ({ y1 with m := r6.2.1 } : EnvP), ()))
   else
   if y0.line = 7 then
   (ang y1.l y0.i).bind fun r9 =>
   if y0.z = y0.z then
   (aa4 y1.m r9.1.1 y0.z).bind fun r10 =>
   (acM ({ y0 with o := r1.2.1, i := y0.c } : RemoveV)).bind fun r11 =>
   some ((false, ()), (({ r11.2.1 with line := r11.1.1 } : RemoveV), ({ y1 with m := r10.2.1 } : EnvP), ()))
   else none
   else
   if y0.line = 8 then
   (ang y1.l y0.i).bind fun r12 =>
   if y0.y = y0.y then
   (aa4 y1.m r12.1.1 y0.y).bind fun r13 =>
   (acZ ({ y0 with o := r1.2.1 } : RemoveV)).bind fun r14 =>
   (abe r14.2.1.o 1 r14.1.1).bind fun r15 =>
   some ((r15.1.1, ()), (({ r14.2.1 with o := r15.2.1 } : RemoveV), ({ y1 with m := r13.2.1 } : EnvP), ()))
   else none
   else
   (aep ({ y0 with o := r1.2.1 } : RemoveV) y1).bind fun r16 =>
   some ((r16.1.1, ()), (r16.2.1, r16.2.2.1, ()))
   else none
   else none
   else none
   else none
   else none
   else none
   else none
   else none
   else none
  else none
 else none
noncomputable abbrev ajF : Con SR1 := ⟨231, [.ref 51, .ref 27], [.sh .b], fun x => abC x.1 x.2.1⟩
theorem aiQ : CO Tryz.prog ajF := aal aak Tryz.func231 [abn, aqw, acC, aeK, adK, adg, ad8, acD, afu] ⟨aa7, aqv, abK, ahk, adb, aef, aft, abx, aif, trivial⟩ [] trivial (fun _ => []) [] fun x => by kernel_rfl
noncomputable def af2 (y0 : SleepV) (y1 : EnvP) : Option ((Unit) × (SleepV × EnvP × Unit)) :=
 (agR y1.l y0.v).bind fun r1 =>
 (acy y1.m r1.1.1).bind fun r2 =>
 if r2.1.1 ≠ 0 then
  some ((()), (({ y0 with line := 7 } : SleepV), ({ y1 with m := r2.2.1 } : EnvP), ()))
 else
 if y1.c.workers ≤ (wi (y0.v + 1)) then
  (ad6 ({ y1 with m := r2.2.1 } : EnvP) (⟨16, y0.worker, 0, 0, 0⟩ : Ev)).bind fun r3 =>
  (aqx r3.2.1.k).bind fun r4 =>
  some ((()), (({ y0 with line := 5, v := wi (y0.v + 1), since := r4.1.1 } : SleepV), ({ r3.2.1 with k := r4.2.1 } : EnvP), ()))
 else
 some ((()), (({ y0 with v := wi (y0.v + 1) } : SleepV), ({ y1 with m := r2.2.1 } : EnvP), ()))
noncomputable abbrev aiB : Con SR1 := ⟨139, [.ref 32, .ref 27], [], fun x => af2 x.1 x.2.1⟩
theorem anf : CO Tryz.prog aiB := aal aak Tryz.func139 [agv, acC, ae1, amO] ⟨af9, abK, aej, aj9, trivial⟩ [] trivial (fun _ => []) [] fun x => by kernel_rfl
noncomputable def af1 (y0 : SleepV) (y1 : EnvP) : Option ((Unit) × (SleepV × EnvP × Unit)) :=
 (apJ y1.l y0.worker).bind fun r1 =>
 (acy y1.m r1.1.1).bind fun r2 =>
 if r2.1.1 ≠ y0.ep then
  (ad6 ({ y1 with m := r2.2.1 } : EnvP) (⟨17, y0.worker, 0, 1, 0⟩ : Ev)).bind fun r3 =>
  some ((()), (({ y0 with line := 6 } : SleepV), r3.2.1, ()))
 else
 (aqx y1.k).bind fun r4 =>
 if y1.c.patience = y1.c.patience then
  if y0.since = y0.since then
   if y1.c.patience ≤ (wi (r4.1.1 - y0.since)) then
   (ad6 ({ y1 with m := r2.2.1, k := r4.2.1 } : EnvP) (⟨17, y0.worker, 0, 2, 0⟩ : Ev)).bind fun r5 =>
   some ((()), (({ y0 with line := 6 } : SleepV), r5.2.1, ()))
   else
   some ((()), (y0, ({ y1 with m := r2.2.1, k := r4.2.1 } : EnvP), ()))
  else none
 else none
noncomputable abbrev aiA : Con SR1 := ⟨140, [.ref 32, .ref 27], [], fun x => af1 x.1 x.2.1⟩
theorem anb : CO Tryz.prog aiA := aal aak Tryz.func140 [anE, acC, ae1, amO] ⟨aor, abK, aej, aj9, trivial⟩ [] trivial (fun _ => []) [] fun x => by kernel_rfl
noncomputable def acX (y0 : SleepV) (y1 : EnvP) : Option ((Bool × Unit) × (SleepV × EnvP × Unit)) :=
 (aav y0.o).bind fun r1 =>
 if r1.1.1 = true then
  some ((true, ()), (({ y0 with o := r1.2.1 } : SleepV), y1, ()))
 else
 if y0.line = 1 then
  (apJ y1.l y0.worker).bind fun r2 =>
  (acy y1.m r2.1.1).bind fun r3 =>
  some ((false, ()), (({ y0 with o := r1.2.1, line := 2, ep := r3.1.1 } : SleepV), ({ y1 with m := r3.2.1 } : EnvP), ()))
 else
 if y0.line = 2 then
  ((
   if y1.c.classes < 1 then
   if y0.worker = y0.worker then
   (azc y0.worker).bind fun r4 =>
   (pOr y1.m (-1) r4.1.1).bind fun r5 =>
   some (({ y1 with m := r5.2.1 } : EnvP), ())
   else none
   else
   (azb y0.worker y1.c.classes).bind fun r6 =>
   if y1.l.workers = y1.l.workers then
   if y1.l.levels = y1.l.levels then
   if y1.l.classes = y1.l.classes then
   if y1.l.tasks = y1.l.tasks then
   if y1.l.deque = y1.l.deque then
   if y1.l.heap = y1.l.heap then
   if y1.l.sleepers = y1.l.sleepers then
   if y1.l.epochs = y1.l.epochs then
   if y1.l.bitmaps = y1.l.bitmaps then
   if y1.l.queues = y1.l.queues then
   if y1.l.table = y1.l.table then
   (agt y1.l r6.1.1).bind fun r7 =>
   if y0.worker = y0.worker then
   (azc y0.worker).bind fun r8 =>
   (pOr y1.m r7.1.1 r8.1.1).bind fun r9 =>
   some (({ y1 with m := r9.2.1 } : EnvP), ())
   else none
   else none
   else none
   else none
   else none
   else none
   else none
   else none
   else none
   else none
   else none
   else none
  ) : Option (EnvP × Unit)).bind fun z10 =>
  some ((false, ()), (({ y0 with o := r1.2.1, line := 3 } : SleepV), z10.1, ()))
 else
 if y0.line = 3 then
  (afN y1.l).bind fun r11 =>
  (acy y1.m r11.1.1).bind fun r12 =>
  if r12.1.1 ≠ 0 then
   some ((false, ()), (({ y0 with o := r1.2.1, line := 7 } : SleepV), ({ y1 with m := r12.2.1 } : EnvP), ()))
  else
  some ((false, ()), (({ y0 with o := r1.2.1, line := 4 } : SleepV), ({ y1 with m := r12.2.1 } : EnvP), ()))
 else
 if y0.line = 4 then
  (af2 ({ y0 with o := r1.2.1 } : SleepV) y1).bind fun r13 =>
  some ((false, ()), (r13.2.1, r13.2.2.1, ()))
 else
 if y0.line = 5 then
  (af1 ({ y0 with o := r1.2.1 } : SleepV) y1).bind fun r14 =>
  some ((false, ()), (r14.2.1, r14.2.2.1, ()))
 else
 ((
  if y1.c.classes < 1 then
   if y0.worker = y0.worker then
   (azc y0.worker).bind fun r15 =>
   (aBe y1.m (-1) (aAP r15.1.1)).bind fun r16 =>
   some (({ y1 with m := r16.2.1 } : EnvP), ())
   else none
  else
  (azb y0.worker y1.c.classes).bind fun r17 =>
  if y1.l.workers = y1.l.workers then
   if y1.l.levels = y1.l.levels then
   if y1.l.classes = y1.l.classes then
   if y1.l.tasks = y1.l.tasks then
   if y1.l.deque = y1.l.deque then
   if y1.l.heap = y1.l.heap then
   if y1.l.sleepers = y1.l.sleepers then
   if y1.l.epochs = y1.l.epochs then
   if y1.l.bitmaps = y1.l.bitmaps then
   if y1.l.queues = y1.l.queues then
   if y1.l.table = y1.l.table then
   (agt y1.l r17.1.1).bind fun r18 =>
   if y0.worker = y0.worker then
   (azc y0.worker).bind fun r19 =>
   (aBe y1.m r18.1.1 (aAP r19.1.1)).bind fun r20 =>
   some (({ y1 with m := r20.2.1 } : EnvP), ())
   else none
   else none
   else none
   else none
   else none
   else none
   else none
   else none
   else none
   else none
   else none
  else none
 ) : Option (EnvP × Unit)).bind fun z21 =>
 if y0.line = 6 then
  (abe r1.2.1 1 0).bind fun r22 =>
  some ((r22.1.1, ()), (({ y0 with o := r22.2.1 } : SleepV), z21.1, ()))
 else
 (abe r1.2.1 5 0).bind fun r23 =>
 some ((r23.1.1, ()), (({ y0 with o := r23.2.1 } : SleepV), z21.1, ()))
noncomputable abbrev aoo : Con SR1 := ⟨134, [.ref 32, .ref 27], [.sh .b], fun x => acX x.1 x.2.1⟩
noncomputable def anc : List (Nat × Func) := [(137, Tryz.f137)]
theorem ane : CO Tryz.prog aoo := aal aak Tryz.func134 [abn, anE, acC, asf, az4, asc, aj8, ajk, aiB, aiA, au8, acD] ⟨aa7, aor, abK, aqD, axv, aqy, amN, aiI, anf, anb, atI, abx, trivial⟩ anc ⟨Tryz.func137, trivial⟩ (fun _ => []) [(13, .cut [.ob 1 27] [0]), (5, .cut [.ob 1 27] [0])] fun x => by kernel_rfl
noncomputable def adm (y0 : WakeV) (y1 : EnvP) : Option ((Bool × Unit) × (WakeV × EnvP × Unit)) :=
 (aav y0.o).bind fun r1 =>
 if r1.1.1 = true then
  some ((true, ()), (({ y0 with o := r1.2.1 } : WakeV), y1, ()))
 else
 if y0.line = 1 then
  ((
   if y1.c.classes < 1 then
   (acy y1.m (-1)).bind fun r2 =>
   some (r2.1.1, ({ y1 with m := r2.2.1 } : EnvP), ())
   else
   (ase y0.level y1.c.levels y1.c.classes).bind fun r3 =>
   if y1.c.classes = y1.c.classes then
   if y0.j = y0.j then
   if y1.l.workers = y1.l.workers then
   if y1.l.levels = y1.l.levels then
   if y1.l.classes = y1.l.classes then
   if y1.l.tasks = y1.l.tasks then
   if y1.l.deque = y1.l.deque then
   if y1.l.heap = y1.l.heap then
   if y1.l.sleepers = y1.l.sleepers then
   if y1.l.epochs = y1.l.epochs then
   if y1.l.bitmaps = y1.l.bitmaps then
   if y1.l.queues = y1.l.queues then
   if y1.l.table = y1.l.table then
   (azb (wi (r3.1.1 + y0.j)) y1.c.classes).bind fun r4 =>
   if y1.l.workers = y1.l.workers then
   if y1.l.levels = y1.l.levels then
   if y1.l.classes = y1.l.classes then
   if y1.l.tasks = y1.l.tasks then
   if y1.l.deque = y1.l.deque then
   if y1.l.heap = y1.l.heap then
   if y1.l.sleepers = y1.l.sleepers then
   if y1.l.epochs = y1.l.epochs then
   if y1.l.bitmaps = y1.l.bitmaps then
   if y1.l.queues = y1.l.queues then
   if y1.l.table = y1.l.table then
   (agt y1.l r4.1.1).bind fun r5 =>
   (acy y1.m r5.1.1).bind fun r6 =>
   some (r6.1.1, ({ y1 with m := r6.2.1 } : EnvP), ())
   else none
   else none
   else none
   else none
   else none
   else none
   else none
   else none
   else none
   else none
   else none
   else none
   else none
   else none
   else none
   else none
   else none
   else none
   else none
   else none
   else none
   else none
   else none
   else none
  ) : Option (Int × EnvP × Unit)).bind fun z7 =>
  if z7.1 ≠ 0 then
   (aFR z7.1).bind fun r8 =>
   some ((false, ()), (({ y0 with o := r1.2.1, line := 2, v := r8.1.1 } : WakeV), z7.2.1, ()))
  else
  if z7.2.1.c.classes ≤ (wi (y0.j + 1)) then
   (abe r1.2.1 2 0).bind fun r9 =>
   some ((r9.1.1, ()), (({ y0 with o := r9.2.1, j := wi (y0.j + 1) } : WakeV), z7.2.1, ()))
  else
  some ((false, ()), (({ y0 with o := r1.2.1, j := wi (y0.j + 1) } : WakeV), z7.2.1, ()))
 else
 if y0.line = 2 then
  (azc y0.v).bind fun r10 =>
  ((
   if y1.c.classes < 1 then
   (aBe y1.m (-1) (aAP r10.1.1)).bind fun r11 =>
   some (decide ((anO r11.1.1 r10.1.1) = 0), ({ y1 with m := r11.2.1 } : EnvP), ())
   else
   (ase y0.level y1.c.levels y1.c.classes).bind fun r12 =>
   if y1.c.classes = y1.c.classes then
   if y0.j = y0.j then
   if y1.l.workers = y1.l.workers then
   if y1.l.levels = y1.l.levels then
   if y1.l.classes = y1.l.classes then
   if y1.l.tasks = y1.l.tasks then
   if y1.l.deque = y1.l.deque then
   if y1.l.heap = y1.l.heap then
   if y1.l.sleepers = y1.l.sleepers then
   if y1.l.epochs = y1.l.epochs then
   if y1.l.bitmaps = y1.l.bitmaps then
   if y1.l.queues = y1.l.queues then
   if y1.l.table = y1.l.table then
   (azb (wi (r12.1.1 + y0.j)) y1.c.classes).bind fun r13 =>
   if y1.l.workers = y1.l.workers then
   if y1.l.levels = y1.l.levels then
   if y1.l.classes = y1.l.classes then
   if y1.l.tasks = y1.l.tasks then
   if y1.l.deque = y1.l.deque then
   if y1.l.heap = y1.l.heap then
   if y1.l.sleepers = y1.l.sleepers then
   if y1.l.epochs = y1.l.epochs then
   if y1.l.bitmaps = y1.l.bitmaps then
   if y1.l.queues = y1.l.queues then
   if y1.l.table = y1.l.table then
   (agt y1.l r13.1.1).bind fun r14 =>
   (aBe y1.m r14.1.1 (aAP r10.1.1)).bind fun r15 =>
   some (decide ((anO r15.1.1 r10.1.1) = 0), ({ y1 with m := r15.2.1 } : EnvP), ())
   else none
   else none
   else none
   else none
   else none
   else none
   else none
   else none
   else none
   else none
   else none
   else none
   else none
   else none
   else none
   else none
   else none
   else none
   else none
   else none
   else none
   else none
   else none
   else none
  ) : Option (Bool × EnvP × Unit)).bind fun z16 =>
  if z16.1 = true then
   (abe r1.2.1 4 0).bind fun r17 =>
   some ((r17.1.1, ()), (({ y0 with o := r17.2.1 } : WakeV), z16.2.1, ()))
  else
  some ((false, ()), (({ y0 with o := r1.2.1, line := 3 } : WakeV), z16.2.1, ()))
 else
 (apJ y1.l y0.v).bind fun r18 =>
 (aDQ y1.m r18.1.1 1).bind fun r19 =>
 (ad6 ({ y1 with m := r19.2.1 } : EnvP) (⟨18, y0.me, 0, y0.v, 0⟩ : Ev)).bind fun r20 =>
 (abe r1.2.1 1 y0.v).bind fun r21 =>
 some ((r21.1.1, ()), (({ y0 with o := r21.2.1 } : WakeV), r20.2.1, ()))
noncomputable abbrev apo : Con SR1 := ⟨165, [.ref 38, .ref 27], [.sh .b], fun x => adm x.1 x.2.1⟩
noncomputable def aom : List (Nat × Func) := [(166, Tryz.f166)]
theorem aon : CO Tryz.prog apo := aal aak Tryz.func165 [abn, acC, au5, asc, aj8, aBd, acD, asf, au8, anE, au9, ae1] ⟨aa7, abK, axA, aqy, amN, aCD, abx, aqD, atI, aor, atJ, aej, trivial⟩ aom ⟨Tryz.func166, trivial⟩ (fun _ => []) [(9, .cut [.rg 5 sU_, .ob 1 27] [0]), (18, .cut [.rg 108 .b, .ob 1 27] [0])] fun x => by kernel_rfl
noncomputable def ai2 (y0 : EnvP) (y1 : Int) (y2 : Int) : Option ((Bool × Unit) × (EnvP × Unit)) :=
 if 0 ≤ y1 then
  if y1 < y0.c.tasks then
   if 0 ≤ y2 then
   some ((decide (y2 < y0.c.levels), ()), (y0, ()))
   else
   some ((false, ()), (y0, ()))
  else
  some ((false, ()), (y0, ()))
 else
 some ((false, ()), (y0, ()))
noncomputable abbrev akl : Con SR1 := ⟨241, [.ref 27, .sh sI_, .sh sI_], [.sh .b], fun x => ai2 x.1 x.2.1 x.2.2.1⟩
theorem amZ : CO Tryz.prog akl := aal aak Tryz.func241 [] trivial [] trivial (fun _ => []) [] fun x => by kernel_rfl
noncomputable def act (y0 : RaiseV) (y1 : EnvP) : Option ((Bool × Unit) × (RaiseV × EnvP × Unit)) :=
 (aav y0.o).bind fun r1 =>
 if r1.1.1 = true then
  some ((true, ()), (({ y0 with o := r1.2.1 } : RaiseV), y1, ()))
 else
 (ai2 y1 y0.task y0.level).bind fun r2 =>
 if (!r2.1.1) = true then
  (abe r1.2.1 4 0).bind fun r3 =>
  some ((r3.1.1, ()), (({ y0 with o := r3.2.1 } : RaiseV), r2.2.1, ()))
 else
 if y0.line = 1 then
  (aeR r2.2.1.l y0.task).bind fun r4 =>
  (acy r2.2.1.m r4.1.1).bind fun r5 =>
  if y0.level ≤ (wi (r5.1.1)) then
   (abe r1.2.1 0 0).bind fun r6 =>
   some ((r6.1.1, ()), (({ y0 with o := r6.2.1, q := r5.1.1 } : RaiseV), ({ r2.2.1 with m := r5.2.1 } : EnvP), ()))
  else
  some ((false, ()), (({ y0 with o := r1.2.1, line := 2, q := r5.1.1 } : RaiseV), ({ r2.2.1 with m := r5.2.1 } : EnvP), ()))
 else
 (aeR r2.2.1.l y0.task).bind fun r7 =>
 if y0.level = y0.level then
  if y0.q = y0.q then
   (arD r2.2.1.m r7.1.1 y0.q (wu (y0.level))).bind fun r8 =>
   if r8.1.1 = true then
   (ad6 ({ r2.2.1 with m := r8.2.1 } : EnvP) ({ y0 with kind := 11, other := 0 } : Ev)).bind fun r9 =>
   (abe r1.2.1 1 0).bind fun r10 =>
   some ((r10.1.1, ()), (({ y0 with o := r10.2.1 } : RaiseV), r9.2.1, ()))
   else
   some ((false, ()), (({ y0 with o := r1.2.1, line := 1 } : RaiseV), ({ r2.2.1 with m := r8.2.1 } : EnvP), ()))
  else none
 else none
noncomputable abbrev ant : Con SR1 := ⟨255, [.ref 55, .ref 27], [.sh .b], fun x => act x.1 x.2.1⟩
theorem ams : CO Tryz.prog ant := aal aak Tryz.func255 [abn, akl, acD, af3, acC, ak2, ae1] ⟨aa7, amZ, abx, afp, abK, aiJ, aej, trivial⟩ [] trivial (fun _ => []) [] fun x => by kernel_rfl
noncomputable def ais (m : MV) (e : EnvP) : Option ((Bool × Unit) × (MV × EnvP × Unit)) :=
 match m with
 | .alloc x => (abQ x e).bind fun o => some (o.1, (MV.alloc o.2.1, o.2.2))
 | .publish x => (abI x e).bind fun o => some (o.1, (MV.publish o.2.1, o.2.2))
 | .claim x => (ac1 x e).bind fun o => some (o.1, (MV.claim o.2.1, o.2.2))
 | .attempt x => (acG x e).bind fun o => some (o.1, (MV.attempt o.2.1, o.2.2))
 | .release x => (acF x e).bind fun o => some (o.1, (MV.release o.2.1, o.2.2))
 | .opush x => (adr x e).bind fun o => some (o.1, (MV.opush o.2.1, o.2.2))
 | .opop x => (adS x e).bind fun o => some (o.1, (MV.opop o.2.1, o.2.2))
 | .steal x => (ac0 x e).bind fun o => some (o.1, (MV.steal o.2.1, o.2.2))
 | .set x => (adt x e).bind fun o => some (o.1, (MV.set o.2.1, o.2.2))
 | .reset x => (acK x e).bind fun o => some (o.1, (MV.reset o.2.1, o.2.2))
 | .insert x => (abD x e).bind fun o => some (o.1, (MV.insert o.2.1, o.2.2))
 | .remove x => (abC x e).bind fun o => some (o.1, (MV.remove o.2.1, o.2.2))
 | .sleep x => (acX x e).bind fun o => some (o.1, (MV.sleep o.2.1, o.2.2))
 | .wake x => (adm x e).bind fun o => some (o.1, (MV.wake o.2.1, o.2.2))
 | .raise x => (act x e).bind fun o => some (o.1, (MV.raise o.2.1, o.2.2))
 | .probe x => (abk x e).bind fun o => some (o.1, (MV.probe o.2.1, o.2.2))
 | _ => none
noncomputable abbrev aqd : Con SR1 := ⟨1000000000, [.mch, .ref 27], [.sh .b], fun x => ais x.1 x.2.1⟩
theorem aay (m : MV) (xs : akn SR1 [.ref 27]) (out : akq SR1 [.sh .b] × (MV × ai7 SR1 [.ref 27])) (h : ais m xs.1 = some out) : apw SR1 Tryz.prog 0 [.ref 27] [.sh .b] m xs out := by
  cases m with
  | alloc x => exact aa9 (S := SR1) (ps := [.ref 27]) (rs := [.sh .b]) (c := 35) (mk := MV.alloc) (fun _ => rfl) rfl (fun _ _ _ _ => by kernel_rfl) ajB h
  | publish x => exact aa9 (S := SR1) (ps := [.ref 27]) (rs := [.sh .b]) (c := 50) (mk := MV.publish) (fun _ => rfl) rfl (fun _ _ _ _ => by kernel_rfl) aj4 h
  | claim x => exact aa9 (S := SR1) (ps := [.ref 27]) (rs := [.sh .b]) (c := 45) (mk := MV.claim) (fun _ => rfl) rfl (fun _ _ _ _ => by kernel_rfl) alN h
  | attempt x => exact aa9 (S := SR1) (ps := [.ref 27]) (rs := [.sh .b]) (c := 34) (mk := MV.attempt) (fun _ => rfl) rfl (fun _ _ _ _ => by kernel_rfl) ale h
  | release x => exact aa9 (S := SR1) (ps := [.ref 27]) (rs := [.sh .b]) (c := 37) (mk := MV.release) (fun _ => rfl) rfl (fun _ _ _ _ => by kernel_rfl) ald h
  | opush x => exact aa9 (S := SR1) (ps := [.ref 27]) (rs := [.sh .b]) (c := 53) (mk := MV.opush) (fun _ => rfl) rfl (fun _ _ _ _ => by kernel_rfl) ani h
  | opop x => exact aa9 (S := SR1) (ps := [.ref 27]) (rs := [.sh .b]) (c := 52) (mk := MV.opop) (fun _ => rfl) rfl (fun _ _ _ _ => by kernel_rfl) aow h
  | steal x => exact aa9 (S := SR1) (ps := [.ref 27]) (rs := [.sh .b]) (c := 42) (mk := MV.steal) (fun _ => rfl) rfl (fun _ _ _ _ => by kernel_rfl) alK h
  | set x => exact aa9 (S := SR1) (ps := [.ref 27]) (rs := [.sh .b]) (c := 54) (mk := MV.set) (fun _ => rfl) rfl (fun _ _ _ _ => by kernel_rfl) anu h
  | reset x => exact aa9 (S := SR1) (ps := [.ref 27]) (rs := [.sh .b]) (c := 43) (mk := MV.reset) (fun _ => rfl) rfl (fun _ _ _ _ => by kernel_rfl) alB h
  | insert x => exact aa9 (S := SR1) (ps := [.ref 27]) (rs := [.sh .b]) (c := 36) (mk := MV.insert) (fun _ => rfl) rfl (fun _ _ _ _ => by kernel_rfl) aiR h
  | remove x => exact aa9 (S := SR1) (ps := [.ref 27]) (rs := [.sh .b]) (c := 51) (mk := MV.remove) (fun _ => rfl) rfl (fun _ _ _ _ => by kernel_rfl) aiQ h
  | sleep x => exact aa9 (S := SR1) (ps := [.ref 27]) (rs := [.sh .b]) (c := 32) (mk := MV.sleep) (fun _ => rfl) rfl (fun _ _ _ _ => by kernel_rfl) ane h
  | wake x => exact aa9 (S := SR1) (ps := [.ref 27]) (rs := [.sh .b]) (c := 38) (mk := MV.wake) (fun _ => rfl) rfl (fun _ _ _ _ => by kernel_rfl) aon h
  | raise x => exact aa9 (S := SR1) (ps := [.ref 27]) (rs := [.sh .b]) (c := 55) (mk := MV.raise) (fun _ => rfl) rfl (fun _ _ _ _ => by kernel_rfl) ams h
  | probe x => exact aa9 (S := SR1) (ps := [.ref 27]) (rs := [.sh .b]) (c := 46) (mk := MV.probe) (fun _ => rfl) rfl (fun _ _ _ _ => by kernel_rfl) al4 h
  | _ => cases h
theorem arO : CO Tryz.prog aqd := aiV (S := SR1) (i := 0) (ps := [.ref 27]) (rs := [.sh .b]) (spec := fun m xs => ais m xs.1) aay
noncomputable def aeH (m : MV) : Option ((Int × Int × Unit) × (MV × Unit)) :=
 match m with
 | .alloc x => some ((x.o.code, x.o.value, ()), (MV.alloc x, ()))
 | .publish x => some ((x.o.code, x.o.value, ()), (MV.publish x, ()))
 | .claim x => some ((x.o.code, x.o.value, ()), (MV.claim x, ()))
 | .attempt x => some ((x.o.code, x.o.value, ()), (MV.attempt x, ()))
 | .release x => some ((x.o.code, x.o.value, ()), (MV.release x, ()))
 | .opush x => some ((x.o.code, x.o.value, ()), (MV.opush x, ()))
 | .opop x => some ((x.o.code, x.o.value, ()), (MV.opop x, ()))
 | .steal x => some ((x.o.code, x.o.value, ()), (MV.steal x, ()))
 | .set x => some ((x.o.code, x.o.value, ()), (MV.set x, ()))
 | .reset x => some ((x.o.code, x.o.value, ()), (MV.reset x, ()))
 | .insert x => some ((x.o.code, x.o.value, ()), (MV.insert x, ()))
 | .remove x => some ((x.o.code, x.o.value, ()), (MV.remove x, ()))
 | .sleep x => some ((x.o.code, x.o.value, ()), (MV.sleep x, ()))
 | .wake x => some ((x.o.code, x.o.value, ()), (MV.wake x, ()))
 | .raise x => some ((x.o.code, x.o.value, ()), (MV.raise x, ()))
 | .probe x => some ((x.o.code, x.o.value, ()), (MV.probe x, ()))
 | _ => none
noncomputable abbrev alW : Con SR1 := ⟨1000000001, [.mch], [.sh sI_, .sh sI_], fun x => aeH x.1⟩
theorem aaj (m : MV) (xs : akn SR1 []) (out : akq SR1 [.sh sI_, .sh sI_] × (MV × ai7 SR1 [])) (h : aeH m = some out) : apw SR1 Tryz.prog 1 [] [.sh sI_, .sh sI_] m xs out := by
  cases m with
  | alloc x => exact aa9 (S := SR1) (ps := []) (rs := [.sh sI_, .sh sI_]) (c := 35) (mk := MV.alloc) (f := 133) (sp := fun x => some ((x.1.o.code, x.1.o.value, ()), (x.1, ()))) (fun _ => rfl) rfl (fun _ _ _ _ => by kernel_rfl) (acq [aa0] ⟨aaT, trivial⟩ fun x => by kernel_rfl) h
  | publish x => exact aa9 (S := SR1) (ps := []) (rs := [.sh sI_, .sh sI_]) (c := 50) (mk := MV.publish) (f := 133) (sp := fun x => some ((x.1.o.code, x.1.o.value, ()), (x.1, ()))) (fun _ => rfl) rfl (fun _ _ _ _ => by kernel_rfl) (acq [aa0] ⟨aaT, trivial⟩ fun x => by kernel_rfl) h
  | claim x => exact aa9 (S := SR1) (ps := []) (rs := [.sh sI_, .sh sI_]) (c := 45) (mk := MV.claim) (f := 133) (sp := fun x => some ((x.1.o.code, x.1.o.value, ()), (x.1, ()))) (fun _ => rfl) rfl (fun _ _ _ _ => by kernel_rfl) (acq [aa0] ⟨aaT, trivial⟩ fun x => by kernel_rfl) h
  | attempt x => exact aa9 (S := SR1) (ps := []) (rs := [.sh sI_, .sh sI_]) (c := 34) (mk := MV.attempt) (f := 133) (sp := fun x => some ((x.1.o.code, x.1.o.value, ()), (x.1, ()))) (fun _ => rfl) rfl (fun _ _ _ _ => by kernel_rfl) (acq [aa0] ⟨aaT, trivial⟩ fun x => by kernel_rfl) h
  | release x => exact aa9 (S := SR1) (ps := []) (rs := [.sh sI_, .sh sI_]) (c := 37) (mk := MV.release) (f := 133) (sp := fun x => some ((x.1.o.code, x.1.o.value, ()), (x.1, ()))) (fun _ => rfl) rfl (fun _ _ _ _ => by kernel_rfl) (acq [aa0] ⟨aaT, trivial⟩ fun x => by kernel_rfl) h
  | opush x => exact aa9 (S := SR1) (ps := []) (rs := [.sh sI_, .sh sI_]) (c := 53) (mk := MV.opush) (f := 133) (sp := fun x => some ((x.1.o.code, x.1.o.value, ()), (x.1, ()))) (fun _ => rfl) rfl (fun _ _ _ _ => by kernel_rfl) (acq [aa0] ⟨aaT, trivial⟩ fun x => by kernel_rfl) h
  | opop x => exact aa9 (S := SR1) (ps := []) (rs := [.sh sI_, .sh sI_]) (c := 52) (mk := MV.opop) (f := 133) (sp := fun x => some ((x.1.o.code, x.1.o.value, ()), (x.1, ()))) (fun _ => rfl) rfl (fun _ _ _ _ => by kernel_rfl) (acq [aa0] ⟨aaT, trivial⟩ fun x => by kernel_rfl) h
  | steal x => exact aa9 (S := SR1) (ps := []) (rs := [.sh sI_, .sh sI_]) (c := 42) (mk := MV.steal) (f := 133) (sp := fun x => some ((x.1.o.code, x.1.o.value, ()), (x.1, ()))) (fun _ => rfl) rfl (fun _ _ _ _ => by kernel_rfl) (acq [aa0] ⟨aaT, trivial⟩ fun x => by kernel_rfl) h
  | set x => exact aa9 (S := SR1) (ps := []) (rs := [.sh sI_, .sh sI_]) (c := 54) (mk := MV.set) (f := 133) (sp := fun x => some ((x.1.o.code, x.1.o.value, ()), (x.1, ()))) (fun _ => rfl) rfl (fun _ _ _ _ => by kernel_rfl) (acq [aa0] ⟨aaT, trivial⟩ fun x => by kernel_rfl) h
  | reset x => exact aa9 (S := SR1) (ps := []) (rs := [.sh sI_, .sh sI_]) (c := 43) (mk := MV.reset) (f := 133) (sp := fun x => some ((x.1.o.code, x.1.o.value, ()), (x.1, ()))) (fun _ => rfl) rfl (fun _ _ _ _ => by kernel_rfl) (acq [aa0] ⟨aaT, trivial⟩ fun x => by kernel_rfl) h
  | insert x => exact aa9 (S := SR1) (ps := []) (rs := [.sh sI_, .sh sI_]) (c := 36) (mk := MV.insert) (f := 133) (sp := fun x => some ((x.1.o.code, x.1.o.value, ()), (x.1, ()))) (fun _ => rfl) rfl (fun _ _ _ _ => by kernel_rfl) (acq [aa0] ⟨aaT, trivial⟩ fun x => by kernel_rfl) h
  | remove x => exact aa9 (S := SR1) (ps := []) (rs := [.sh sI_, .sh sI_]) (c := 51) (mk := MV.remove) (f := 133) (sp := fun x => some ((x.1.o.code, x.1.o.value, ()), (x.1, ()))) (fun _ => rfl) rfl (fun _ _ _ _ => by kernel_rfl) (acq [aa0] ⟨aaT, trivial⟩ fun x => by kernel_rfl) h
  | sleep x => exact aa9 (S := SR1) (ps := []) (rs := [.sh sI_, .sh sI_]) (c := 32) (mk := MV.sleep) (f := 133) (sp := fun x => some ((x.1.o.code, x.1.o.value, ()), (x.1, ()))) (fun _ => rfl) rfl (fun _ _ _ _ => by kernel_rfl) (acq [aa0] ⟨aaT, trivial⟩ fun x => by kernel_rfl) h
  | wake x => exact aa9 (S := SR1) (ps := []) (rs := [.sh sI_, .sh sI_]) (c := 38) (mk := MV.wake) (f := 133) (sp := fun x => some ((x.1.o.code, x.1.o.value, ()), (x.1, ()))) (fun _ => rfl) rfl (fun _ _ _ _ => by kernel_rfl) (acq [aa0] ⟨aaT, trivial⟩ fun x => by kernel_rfl) h
  | raise x => exact aa9 (S := SR1) (ps := []) (rs := [.sh sI_, .sh sI_]) (c := 55) (mk := MV.raise) (f := 133) (sp := fun x => some ((x.1.o.code, x.1.o.value, ()), (x.1, ()))) (fun _ => rfl) rfl (fun _ _ _ _ => by kernel_rfl) (acq [aa0] ⟨aaT, trivial⟩ fun x => by kernel_rfl) h
  | probe x => exact aa9 (S := SR1) (ps := []) (rs := [.sh sI_, .sh sI_]) (c := 46) (mk := MV.probe) (f := 133) (sp := fun x => some ((x.1.o.code, x.1.o.value, ()), (x.1, ()))) (fun _ => rfl) rfl (fun _ _ _ _ => by kernel_rfl) (acq [aa0] ⟨aaT, trivial⟩ fun x => by kernel_rfl) h
  | _ => cases h
theorem aoi : CO Tryz.prog alW := aiV (S := SR1) (i := 1) (ps := []) (rs := [.sh sI_, .sh sI_]) (spec := fun m _ => aeH m) aaj
noncomputable def aov (y0 : QV) (y1 : Int) : Option ((MV × Unit) × (Unit)) :=
 some ((MV.opush (⟨⟨false, 0, 0⟩, y0, y1, 1, 0⟩ : OPushV), ()), (()))
noncomputable abbrev aot : Con SR1 := ⟨228, [.val 14, .sh sI_], [.sh .mach], fun x => aov x.1 x.2.1⟩
theorem asg : CO Tryz.prog aot := aal aak Tryz.func228 [] trivial [] trivial (fun _ => []) [] fun x => by kernel_rfl
noncomputable def ai3 (y0 : Int) (y1 : Int) : Option ((MV × Unit) × (Unit)) :=
 some ((MV.set (⟨⟨false, 0, 0⟩, y0, y1⟩ : SetV), ()), (()))
noncomputable abbrev apf : Con SR1 := ⟨229, [.sh sI_, .sh sI_], [.sh .mach], fun x => ai3 x.1 x.2.1⟩
theorem asZ : CO Tryz.prog apf := aal aak Tryz.func229 [] trivial [] trivial (fun _ => []) [] fun x => by kernel_rfl
noncomputable def acs (y0 : (LPushV MV)) (y1 : EnvP) : Option ((Bool × Unit) × ((LPushV MV) × EnvP × Unit)) :=
 (aav y0.o).bind fun r1 =>
 if r1.1.1 = true then
  some ((true, ()), (({ y0 with o := r1.2.1 } : (LPushV MV)), y1, ()))
 else
 if (SR1.spl y0.inside).isNone = true then
  (agu y1.l y0.worker y0.level).bind fun r2 =>
  if y0.value = y0.value then
   (aov r2.1.1 y0.value).bind fun r3 =>
   (ais r3.1.1 y1).bind fun r4 =>
   if (!r4.1.1) = true then
   some ((false, ()), (({ y0 with o := r1.2.1, inside := r4.2.1 } : (LPushV MV)), r4.2.2.1, ()))
   else
   (aeH r4.2.1).bind fun r5 =>
   if r5.1.1 = 3 then
   (abe r1.2.1 3 0).bind fun r6 =>
   some ((r6.1.1, ()), (({ y0 with o := r6.2.1, inside := r5.2.1 } : (LPushV MV)), r4.2.2.1, ()))
   else
   if y0.line = 2 then
   (abe r1.2.1 0 0).bind fun r7 =>
   some ((r7.1.1, ()), (({ y0 with o := r7.2.1, inside := r5.2.1 } : (LPushV MV)), r4.2.2.1, ()))
   else
   (agR r4.2.2.1.l y0.worker).bind fun r8 =>
   if y0.level = y0.level then
   (ai3 r8.1.1 y0.level).bind fun r9 =>
   some ((false, ()), (({ y0 with o := r1.2.1, line := 2, inside := r9.1.1 } : (LPushV MV)), r4.2.2.1, ()))
   else none
  else none
 else
 (ais y0.inside y1).bind fun r10 =>
 if (!r10.1.1) = true then
  some ((false, ()), (({ y0 with o := r1.2.1, inside := r10.2.1 } : (LPushV MV)), r10.2.2.1, ()))
 else
 (aeH r10.2.1).bind fun r11 =>
 if r11.1.1 = 3 then
  (abe r1.2.1 3 0).bind fun r12 =>
  some ((r12.1.1, ()), (({ y0 with o := r12.2.1, inside := r11.2.1 } : (LPushV MV)), r10.2.2.1, ()))
 else
 if y0.line = 2 then
  (abe r1.2.1 0 0).bind fun r13 =>
  some ((r13.1.1, ()), (({ y0 with o := r13.2.1, inside := r11.2.1 } : (LPushV MV)), r10.2.2.1, ()))
 else
 (agR r10.2.2.1.l y0.worker).bind fun r14 =>
 if y0.level = y0.level then
  (ai3 r14.1.1 y0.level).bind fun r15 =>
  some ((false, ()), (({ y0 with o := r1.2.1, line := 2, inside := r15.1.1 } : (LPushV MV)), r10.2.2.1, ()))
 else none
noncomputable abbrev ank : Con SR1 := ⟨227, [.ref 47, .ref 27], [.sh .b], fun x => acs x.1 x.2.1⟩
theorem amj : CO Tryz.prog ank := aal aak Tryz.func227 [abn, aji, aot, aqd, alW, acD, agv, apf] ⟨aa7, aiG, asg, arO, aoi, abx, af9, asZ, trivial⟩ [] trivial (fun _ => []) [] fun x => by kernel_rfl
noncomputable def aqG (y0 : QV) : Option ((MV × Unit) × (Unit)) :=
 some ((MV.opop (⟨⟨false, 0, 0⟩, y0, 1, 0, 0⟩ : OPopV), ()), (()))
noncomputable abbrev apN : Con SR1 := ⟨217, [.val 14], [.sh .mach], fun x => aqG x.1⟩
theorem atK : CO Tryz.prog apN := aal aak Tryz.func217 [] trivial [] trivial (fun _ => []) [] fun x => by kernel_rfl
noncomputable def ahF (y0 : (LPopV MV)) (y1 : EnvP) : Option ((Bool × Unit) × ((LPopV MV) × EnvP × Unit)) :=
 (agR y1.l y0.worker).bind fun r1 =>
 (acy y1.m r1.1.1).bind fun r2 =>
 if r2.1.1 = 0 then
  (abe y0.o 2 0).bind fun r3 =>
  some ((r3.1.1, ()), (({ y0 with o := r3.2.1 } : (LPopV MV)), ({ y1 with m := r2.2.1 } : EnvP), ()))
 else
 (agB r2.1.1).bind fun r4 =>
 (agu y1.l y0.worker r4.1.1).bind fun r5 =>
 (aqG r5.1.1).bind fun r6 =>
 some ((false, ()), (({ y0 with level := r4.1.1, line := 2, inside := r6.1.1 } : (LPopV MV)), ({ y1 with m := r2.2.1 } : EnvP), ()))
noncomputable abbrev aiN : Con SR1 := ⟨215, [.ref 44, .ref 27], [.sh .b], fun x => ahF x.1 x.2.1⟩
theorem anm : CO Tryz.prog aiN := aal aak Tryz.func215 [agv, acC, acD, atD, aji, apN] ⟨af9, abK, abx, au3, aiG, atK, trivial⟩ [] trivial (fun _ => []) [] fun x => by kernel_rfl
noncomputable def agA (y0 : Int) (y1 : Int) (y2 : QV) : Option ((MV × Unit) × (Unit)) :=
 some ((MV.reset (⟨⟨false, 0, 0⟩, y0, y1, y2, 1, 0⟩ : ResetV), ()), (()))
noncomputable abbrev ahV : Con SR1 := ⟨125, [.sh sI_, .sh sI_, .val 14], [.sh .mach], fun x => agA x.1 x.2.1 x.2.2.1⟩
theorem ajX : CO Tryz.prog ahV := aal aak Tryz.func125 [] trivial [] trivial (fun _ => []) [] fun x => by kernel_rfl
noncomputable def acY (y0 : (LPopV MV)) (y1 : EnvP) : Option ((Bool × Unit) × ((LPopV MV) × EnvP × Unit)) :=
 (aav y0.o).bind fun r1 =>
 if r1.1.1 = true then
  some ((true, ()), (({ y0 with o := r1.2.1 } : (LPopV MV)), y1, ()))
 else
 if y0.line = 1 then
  (ahF ({ y0 with o := r1.2.1 } : (LPopV MV)) y1).bind fun r2 =>
  some ((r2.1.1, ()), (r2.2.1, r2.2.2.1, ()))
 else
 (ais y0.inside y1).bind fun r3 =>
 if (!r3.1.1) = true then
  some ((false, ()), (({ y0 with o := r1.2.1, inside := r3.2.1 } : (LPopV MV)), r3.2.2.1, ()))
 else
 (aeH r3.2.1).bind fun r4 =>
 if y0.line = 3 then
  some ((false, ()), (({ y0 with o := r1.2.1, line := 1, inside := MV.nil } : (LPopV MV)), r3.2.2.1, ()))
 else
 if r4.1.1 = 1 then
  (abe r1.2.1 1 r4.1.2.1).bind fun r5 =>
  some ((r5.1.1, ()), (({ y0 with o := r5.2.1, inside := r4.2.1 } : (LPopV MV)), r3.2.2.1, ()))
 else
 (agR r3.2.2.1.l y0.worker).bind fun r6 =>
 if y0.level = y0.level then
  if y0.worker = y0.worker then
   if r3.2.2.1.l.workers = r3.2.2.1.l.workers then
   if r3.2.2.1.l.levels = r3.2.2.1.l.levels then
   if r3.2.2.1.l.classes = r3.2.2.1.l.classes then
   if r3.2.2.1.l.tasks = r3.2.2.1.l.tasks then
   if r3.2.2.1.l.deque = r3.2.2.1.l.deque then
   if r3.2.2.1.l.heap = r3.2.2.1.l.heap then
   if r3.2.2.1.l.sleepers = r3.2.2.1.l.sleepers then
   if r3.2.2.1.l.epochs = r3.2.2.1.l.epochs then
   if r3.2.2.1.l.bitmaps = r3.2.2.1.l.bitmaps then
   if r3.2.2.1.l.queues = r3.2.2.1.l.queues then
   if r3.2.2.1.l.table = r3.2.2.1.l.table then
   if y0.level = y0.level then
   (agu r3.2.2.1.l y0.worker y0.level).bind fun r7 =>
   if y0.level = y0.level then
   (agA r6.1.1 y0.level r7.1.1).bind fun r8 =>
   some ((false, ()), (({ y0 with o := r1.2.1, line := 3, inside := r8.1.1 } : (LPopV MV)), r3.2.2.1, ()))
   else none
   else none
   else none
   else none
   else none
   else none
   else none
   else none
   else none
   else none
   else none
   else none
   else none
  else none
 else none
noncomputable abbrev aoI : Con SR1 := ⟨214, [.ref 44, .ref 27], [.sh .b], fun x => acY x.1 x.2.1⟩
theorem anl : CO Tryz.prog aoI := aal aak Tryz.func214 [abn, aiN, aqd, alW, acD, agv, aji, ahV] ⟨aa7, anm, arO, aoi, abx, af9, aiG, ajX, trivial⟩ [] trivial (fun _ => []) [] fun x => by kernel_rfl
noncomputable def adI (m : MV) (e : EnvP) : Option ((Bool × Unit) × (MV × EnvP × Unit)) :=
 match m with
 | .alloc x => (abQ x e).bind fun o => some (o.1, (MV.alloc o.2.1, o.2.2))
 | .publish x => (abI x e).bind fun o => some (o.1, (MV.publish o.2.1, o.2.2))
 | .claim x => (ac1 x e).bind fun o => some (o.1, (MV.claim o.2.1, o.2.2))
 | .attempt x => (acG x e).bind fun o => some (o.1, (MV.attempt o.2.1, o.2.2))
 | .release x => (acF x e).bind fun o => some (o.1, (MV.release o.2.1, o.2.2))
 | .opush x => (adr x e).bind fun o => some (o.1, (MV.opush o.2.1, o.2.2))
 | .opop x => (adS x e).bind fun o => some (o.1, (MV.opop o.2.1, o.2.2))
 | .steal x => (ac0 x e).bind fun o => some (o.1, (MV.steal o.2.1, o.2.2))
 | .set x => (adt x e).bind fun o => some (o.1, (MV.set o.2.1, o.2.2))
 | .reset x => (acK x e).bind fun o => some (o.1, (MV.reset o.2.1, o.2.2))
 | .insert x => (abD x e).bind fun o => some (o.1, (MV.insert o.2.1, o.2.2))
 | .remove x => (abC x e).bind fun o => some (o.1, (MV.remove o.2.1, o.2.2))
 | .sleep x => (acX x e).bind fun o => some (o.1, (MV.sleep o.2.1, o.2.2))
 | .wake x => (adm x e).bind fun o => some (o.1, (MV.wake o.2.1, o.2.2))
 | .raise x => (act x e).bind fun o => some (o.1, (MV.raise o.2.1, o.2.2))
 | .probe x => (abk x e).bind fun o => some (o.1, (MV.probe o.2.1, o.2.2))
 | .lpush x => (acs x e).bind fun o => some (o.1, (MV.lpush o.2.1, o.2.2))
 | .lpop x => (acY x e).bind fun o => some (o.1, (MV.lpop o.2.1, o.2.2))
 | _ => none
noncomputable abbrev ahw : Con SR1 := ⟨1000000000, [.mch, .ref 27], [.sh .b], fun x => adI x.1 x.2.1⟩
theorem akz (m : MV) (xs : akn SR1 [.ref 27]) (out : akq SR1 [.sh .b] × (MV × ai7 SR1 [.ref 27])) (h : adI m xs.1 = some out) : apw SR1 Tryz.prog 0 [.ref 27] [.sh .b] m xs out := by
  cases m with
  | alloc x => exact aay (.alloc x) xs out h
  | publish x => exact aay (.publish x) xs out h
  | claim x => exact aay (.claim x) xs out h
  | attempt x => exact aay (.attempt x) xs out h
  | release x => exact aay (.release x) xs out h
  | opush x => exact aay (.opush x) xs out h
  | opop x => exact aay (.opop x) xs out h
  | steal x => exact aay (.steal x) xs out h
  | set x => exact aay (.set x) xs out h
  | reset x => exact aay (.reset x) xs out h
  | insert x => exact aay (.insert x) xs out h
  | remove x => exact aay (.remove x) xs out h
  | sleep x => exact aay (.sleep x) xs out h
  | wake x => exact aay (.wake x) xs out h
  | raise x => exact aay (.raise x) xs out h
  | probe x => exact aay (.probe x) xs out h
  | lpush x => exact aa9 (S := SR1) (ps := [.ref 27]) (rs := [.sh .b]) (c := 47) (mk := MV.lpush) (fun _ => rfl) rfl (fun _ _ _ _ => by kernel_rfl) amj h
  | lpop x => exact aa9 (S := SR1) (ps := [.ref 27]) (rs := [.sh .b]) (c := 44) (mk := MV.lpop) (fun _ => rfl) rfl (fun _ _ _ _ => by kernel_rfl) anl h
  | _ => cases h
theorem ag0 : CO Tryz.prog ahw := aiV (S := SR1) (i := 0) (ps := [.ref 27]) (rs := [.sh .b]) (spec := fun m xs => adI m xs.1) akz
noncomputable def abu (m : MV) : Option ((Int × Int × Unit) × (MV × Unit)) :=
 match m with
 | .alloc x => some ((x.o.code, x.o.value, ()), (MV.alloc x, ()))
 | .publish x => some ((x.o.code, x.o.value, ()), (MV.publish x, ()))
 | .claim x => some ((x.o.code, x.o.value, ()), (MV.claim x, ()))
 | .attempt x => some ((x.o.code, x.o.value, ()), (MV.attempt x, ()))
 | .release x => some ((x.o.code, x.o.value, ()), (MV.release x, ()))
 | .opush x => some ((x.o.code, x.o.value, ()), (MV.opush x, ()))
 | .opop x => some ((x.o.code, x.o.value, ()), (MV.opop x, ()))
 | .steal x => some ((x.o.code, x.o.value, ()), (MV.steal x, ()))
 | .set x => some ((x.o.code, x.o.value, ()), (MV.set x, ()))
 | .reset x => some ((x.o.code, x.o.value, ()), (MV.reset x, ()))
 | .insert x => some ((x.o.code, x.o.value, ()), (MV.insert x, ()))
 | .remove x => some ((x.o.code, x.o.value, ()), (MV.remove x, ()))
 | .sleep x => some ((x.o.code, x.o.value, ()), (MV.sleep x, ()))
 | .wake x => some ((x.o.code, x.o.value, ()), (MV.wake x, ()))
 | .raise x => some ((x.o.code, x.o.value, ()), (MV.raise x, ()))
 | .probe x => some ((x.o.code, x.o.value, ()), (MV.probe x, ()))
 | .lpush x => some ((x.o.code, x.o.value, ()), (MV.lpush x, ()))
 | .lpop x => some ((x.o.code, x.o.value, ()), (MV.lpop x, ()))
 | _ => none
noncomputable abbrev ae0 : Con SR1 := ⟨1000000001, [.mch], [.sh sI_, .sh sI_], fun x => abu x.1⟩
theorem ahe (m : MV) (xs : akn SR1 []) (out : akq SR1 [.sh sI_, .sh sI_] × (MV × ai7 SR1 [])) (h : abu m = some out) : apw SR1 Tryz.prog 1 [] [.sh sI_, .sh sI_] m xs out := by
  cases m with
  | alloc x => exact aaj (.alloc x) xs out h
  | publish x => exact aaj (.publish x) xs out h
  | claim x => exact aaj (.claim x) xs out h
  | attempt x => exact aaj (.attempt x) xs out h
  | release x => exact aaj (.release x) xs out h
  | opush x => exact aaj (.opush x) xs out h
  | opop x => exact aaj (.opop x) xs out h
  | steal x => exact aaj (.steal x) xs out h
  | set x => exact aaj (.set x) xs out h
  | reset x => exact aaj (.reset x) xs out h
  | insert x => exact aaj (.insert x) xs out h
  | remove x => exact aaj (.remove x) xs out h
  | sleep x => exact aaj (.sleep x) xs out h
  | wake x => exact aaj (.wake x) xs out h
  | raise x => exact aaj (.raise x) xs out h
  | probe x => exact aaj (.probe x) xs out h
  | lpush x => exact aa9 (S := SR1) (ps := []) (rs := [.sh sI_, .sh sI_]) (c := 47) (mk := MV.lpush) (f := 133) (sp := fun x => some ((x.1.o.code, x.1.o.value, ()), (x.1, ()))) (fun _ => rfl) rfl (fun _ _ _ _ => by kernel_rfl) (acq [aa0] ⟨aaT, trivial⟩ fun x => by kernel_rfl) h
  | lpop x => exact aa9 (S := SR1) (ps := []) (rs := [.sh sI_, .sh sI_]) (c := 44) (mk := MV.lpop) (f := 133) (sp := fun x => some ((x.1.o.code, x.1.o.value, ()), (x.1, ()))) (fun _ => rfl) rfl (fun _ _ _ _ => by kernel_rfl) (acq [aa0] ⟨aaT, trivial⟩ fun x => by kernel_rfl) h
  | _ => cases h
theorem aeZ : CO Tryz.prog ae0 := aiV (S := SR1) (i := 1) (ps := []) (rs := [.sh sI_, .sh sI_]) (spec := fun m _ => abu m) ahe
noncomputable def amt (y0 : Int) (y1 : Int) (y2 : Int) : Option ((MV × Unit) × (Unit)) :=
 some ((MV.raise (⟨⟨false, 0, 0⟩, y0, y1, y2, 1, 0⟩ : RaiseV), ()), (()))
noncomputable abbrev amY : Con SR1 := ⟨242, [.sh sI_, .sh sI_, .sh sI_], [.sh .mach], fun x => amt x.1 x.2.1 x.2.2.1⟩
theorem ark : CO Tryz.prog amY := aal aak Tryz.func242 [] trivial [] trivial (fun _ => []) [] fun x => by kernel_rfl
noncomputable def aeh (y0 : (WalkV MV)) (y1 : EnvP) : Option ((Bool × Unit) × ((WalkV MV) × EnvP × Unit)) :=
 if (SR1.spl y0.inside).isNone = true then
  (ai2 y1 y0.task y0.level).bind fun r1 =>
  if (!r1.1.1) = true then
   (abe y0.o 4 0).bind fun r2 =>
   some ((r2.1.1, ()), (({ y0 with o := r2.2.1 } : (WalkV MV)), r1.2.1, ()))
  else
  (amt y0.worker y0.task y0.level).bind fun r3 =>
  (adI r3.1.1 r1.2.1).bind fun r4 =>
  if (!r4.1.1) = true then
   some ((false, ()), (({ y0 with inside := r4.2.1 } : (WalkV MV)), r4.2.2.1, ()))
  else
  (abu r4.2.1).bind fun r5 =>
  if r5.1.1 = 1 then
   some ((false, ()), (({ y0 with line := 2, inside := MV.nil } : (WalkV MV)), r4.2.2.1, ()))
  else
  some ((false, ()), (({ y0 with line := 4, inside := MV.nil } : (WalkV MV)), r4.2.2.1, ()))
 else
 (adI y0.inside y1).bind fun r6 =>
 if (!r6.1.1) = true then
  some ((false, ()), (({ y0 with inside := r6.2.1 } : (WalkV MV)), r6.2.2.1, ()))
 else
 (abu r6.2.1).bind fun r7 =>
 if r7.1.1 = 1 then
  some ((false, ()), (({ y0 with line := 2, inside := MV.nil } : (WalkV MV)), r6.2.2.1, ()))
 else
 some ((false, ()), (({ y0 with line := 4, inside := MV.nil } : (WalkV MV)), r6.2.2.1, ()))
noncomputable abbrev ah9 : Con SR1 := ⟨239, [.ref 48, .ref 27], [.sh .b], fun x => aeh x.1 x.2.1⟩
theorem amr : CO Tryz.prog ah9 := aal aak Tryz.func239 [akl, acD, amY, ahw, ae0] ⟨amZ, abx, ark, ag0, aeZ, trivial⟩ [] trivial (fun _ => []) [] fun x => by kernel_rfl
noncomputable def acz (y0 : Int) (y1 : Int) (y2 : Int) : Option ((MV × Unit) × (Unit)) :=
 some ((MV.lpush (⟨⟨false, 0, 0⟩, y0, y1, y2, 1, MV.nil⟩ : (LPushV MV)), ()), (()))
noncomputable abbrev aex : Con SR1 := ⟨176, [.sh sI_, .sh sI_, .sh sI_], [.sh .mach], fun x => acz x.1 x.2.1 x.2.2.1⟩
theorem aeJ : CO Tryz.prog aex := aal aak Tryz.func176 [] trivial [] trivial (fun _ => []) [] fun x => by kernel_rfl
noncomputable def ahU (y0 : (WalkV MV)) (y1 : EnvP) : Option ((Unit) × ((WalkV MV) × EnvP × Unit)) :=
 (adI y0.inside y1).bind fun r1 =>
 if (!r1.1.1) = true then
  some ((()), (({ y0 with inside := r1.2.1 } : (WalkV MV)), r1.2.2.1, ()))
 else
 (abu r1.2.1).bind fun r2 =>
 if r2.1.1 = 3 then
  (ad6 r1.2.2.1 ({ y0 with kind := 19, other := 0 } : Ev)).bind fun r3 =>
  some ((()), (({ y0 with line := 4, inside := MV.nil } : (WalkV MV)), r3.2.1, ()))
 else
 some ((()), (({ y0 with line := 4, inside := MV.nil } : (WalkV MV)), r1.2.2.1, ()))
noncomputable abbrev ai0 : Con SR1 := ⟨240, [.ref 48, .ref 27], [], fun x => ahU x.1 x.2.1⟩
theorem ans : CO Tryz.prog ai0 := aal aak Tryz.func240 [ahw, ae0, ae1] ⟨ag0, aeZ, aej, trivial⟩ [] trivial (fun _ => []) [] fun x => by kernel_rfl
noncomputable def abZ (y0 : (WalkV MV)) (y1 : EnvP) : Option ((Bool × Unit) × ((WalkV MV) × EnvP × Unit)) :=
 (aav y0.o).bind fun r1 =>
 if r1.1.1 = true then
  some ((true, ()), (({ y0 with o := r1.2.1 } : (WalkV MV)), y1, ()))
 else
 if y0.line = 1 then
  (aeh ({ y0 with o := r1.2.1 } : (WalkV MV)) y1).bind fun r2 =>
  some ((r2.1.1, ()), (r2.2.1, r2.2.2.1, ()))
 else
 if y0.line = 2 then
  (ade y1.l y0.task).bind fun r3 =>
  (acy y1.m r3.1.1).bind fun r4 =>
  if r4.1.1 = 1 then
   (acz y0.worker y0.level y0.task).bind fun r5 =>
   some ((false, ()), (({ y0 with o := r1.2.1, line := 3, inside := r5.1.1 } : (WalkV MV)), ({ y1 with m := r4.2.1 } : EnvP), ()))
  else
  some ((false, ()), (({ y0 with o := r1.2.1, line := 4 } : (WalkV MV)), ({ y1 with m := r4.2.1 } : EnvP), ()))
 else
 if y0.line = 3 then
  (ahU ({ y0 with o := r1.2.1 } : (WalkV MV)) y1).bind fun r6 =>
  some ((false, ()), (r6.2.1, r6.2.2.1, ()))
 else
 (aiD y1.l y0.task).bind fun r7 =>
 (acy y1.m r7.1.1).bind fun r8 =>
 if r8.1.1 = 0 then
  (abe r1.2.1 0 0).bind fun r9 =>
  some ((r9.1.1, ()), (({ y0 with o := r9.2.1 } : (WalkV MV)), ({ y1 with m := r8.2.1 } : EnvP), ()))
 else
 some ((false, ()), (({ y0 with o := r1.2.1, task := wi (wu (r8.1.1 - 1)), line := 1 } : (WalkV MV)), ({ y1 with m := r8.2.1 } : EnvP), ()))
noncomputable abbrev ape : Con SR1 := ⟨238, [.ref 48, .ref 27], [.sh .b], fun x => abZ x.1 x.2.1⟩
theorem anr : CO Tryz.prog ape := aal aak Tryz.func238 [abn, ah9, adL, acC, aex, ai0, anC, acD] ⟨aa7, amr, adc, abK, aeJ, ans, aoq, abx, trivial⟩ [] trivial (fun _ => []) [] fun x => by kernel_rfl
noncomputable def afr (y0 : Int) : Option ((MV × Unit) × (Unit)) :=
 some ((MV.lpop (⟨⟨false, 0, 0⟩, y0, 0, 1, MV.nil⟩ : (LPopV MV)), ()), (()))
noncomputable abbrev akd : Con SR1 := ⟨128, [.sh sI_], [.sh .mach], fun x => afr x.1⟩
theorem amP : CO Tryz.prog akd := aal aak Tryz.func128 [] trivial [] trivial (fun _ => []) [] fun x => by kernel_rfl
noncomputable def acx (y0 : Int) (y1 : Int) : Option ((MV × Unit) × (Unit)) :=
 some ((MV.claim (⟨⟨false, 0, 0⟩, y0, y1⟩ : ClaimV), ()), (()))
noncomputable abbrev afm : Con SR1 := ⟨129, [.sh sI_, .sh sI_], [.sh .mach], fun x => acx x.1 x.2.1⟩
theorem af0 : CO Tryz.prog afm := aal aak Tryz.func129 [] trivial [] trivial (fun _ => []) [] fun x => by kernel_rfl
noncomputable def aeu (y0 : (TakeV MV)) (y1 : EnvP) : Option ((Bool × Unit) × ((TakeV MV) × EnvP × Unit)) :=
 (aav y0.o).bind fun r1 =>
 if r1.1.1 = true then
  some ((true, ()), (({ y0 with o := r1.2.1 } : (TakeV MV)), y1, ()))
 else
 (adI y0.inside y1).bind fun r2 =>
 if (!r2.1.1) = true then
  some ((false, ()), (({ y0 with o := r1.2.1, inside := r2.2.1 } : (TakeV MV)), r2.2.2.1, ()))
 else
 (abu r2.2.1).bind fun r3 =>
 if y0.claiming = true then
  if r3.1.1 = 1 then
   (abe r1.2.1 1 r3.1.2.1).bind fun r4 =>
   some ((r4.1.1, ()), (({ y0 with o := r4.2.1, inside := r3.2.1 } : (TakeV MV)), r2.2.2.1, ()))
  else
  if y0.claiming = true then
   (afr y0.worker).bind fun r5 =>
   some ((false, ()), ((⟨r1.2.1, y0.worker, false, r5.1.1⟩ : (TakeV MV)), r2.2.2.1, ()))
  else
  if r3.1.1 = 2 then
   (abe r1.2.1 2 0).bind fun r6 =>
   some ((r6.1.1, ()), (({ y0 with o := r6.2.1, inside := r3.2.1 } : (TakeV MV)), r2.2.2.1, ()))
  else
  (acx y0.worker r3.1.2.1).bind fun r7 =>
  some ((false, ()), ((⟨r1.2.1, y0.worker, true, r7.1.1⟩ : (TakeV MV)), r2.2.2.1, ()))
 else
 if y0.claiming = true then
  (afr y0.worker).bind fun r8 =>
  some ((false, ()), ((⟨r1.2.1, y0.worker, false, r8.1.1⟩ : (TakeV MV)), r2.2.2.1, ()))
 else
 if r3.1.1 = 2 then
  (abe r1.2.1 2 0).bind fun r9 =>
  some ((r9.1.1, ()), (({ y0 with o := r9.2.1, inside := r3.2.1 } : (TakeV MV)), r2.2.2.1, ()))
 else
 (acx y0.worker r3.1.2.1).bind fun r10 =>
 some ((false, ()), ((⟨r1.2.1, y0.worker, true, r10.1.1⟩ : (TakeV MV)), r2.2.2.1, ()))
noncomputable abbrev apm : Con SR1 := ⟨171, [.ref 39, .ref 27], [.sh .b], fun x => aeu x.1 x.2.1⟩
theorem an2 : CO Tryz.prog apm := aal aak Tryz.func171 [abn, ahw, ae0, acD, akd, afm] ⟨aa7, ag0, aeZ, abx, amP, af0, trivial⟩ [] trivial (fun _ => []) [] fun x => by kernel_rfl
noncomputable def aby (y0 : (SweepV MV)) (y1 : EnvP) : Option ((Bool × Unit) × ((SweepV MV) × EnvP × Unit)) :=
 if y0.line = 1 then
  ((
   if y0.task < 0 then
   some (true, y0, y1, ())
   else
   if y1.c.tasks ≤ y0.task then
   some (true, y0, y1, ())
   else
   some (decide (y1.c.age = 0), y0, y1, ())
  ) : Option (Bool × (SweepV MV) × EnvP × Unit)).bind fun z1 =>
  if z1.1 = true then
   some ((true, ()), (z1.2.1, z1.2.2.1, ()))
  else
  (ade z1.2.2.1.l z1.2.1.task).bind fun r2 =>
  (acy z1.2.2.1.m r2.1.1).bind fun r3 =>
  some ((decide (r3.1.1 ≠ 1), ()), (z1.2.1, ({ z1.2.2.1 with m := r3.2.1 } : EnvP), ()))
 else
 if y0.line = 2 then
  (ah5 y1.l y0.task).bind fun r4 =>
  (acy y1.m r4.1.1).bind fun r5 =>
  (aqx y1.k).bind fun r6 =>
  if y1.c.age = y1.c.age then
   some ((decide ((wi (r6.1.1 - (wi (r5.1.1)))) < y1.c.age), ()), (y0, ({ y1 with m := r5.2.1, k := r6.2.1 } : EnvP), ()))
  else none
 else
 (aeR y1.l y0.task).bind fun r7 =>
 (acy y1.m r7.1.1).bind fun r8 =>
 some ((decide ((wi (y1.c.levels - 1)) ≤ (wi (r8.1.1))), ()), (({ y0 with q := r8.1.1 } : (SweepV MV)), ({ y1 with m := r8.2.1 } : EnvP), ()))
noncomputable abbrev aia : Con SR1 := ⟨174, [.ref 40, .ref 27], [.sh .b], fun x => aby x.1 x.2.1⟩
theorem amA : CO Tryz.prog aia := aal aak Tryz.func174 [adL, acC, ajh, amO, af3] ⟨adc, abK, aiE, aj9, afp, trivial⟩ [] trivial (fun _ => []) [(4, .cut [.rg 36 .b, .ob 0 40, .ob 1 27] [])] fun x => by kernel_rfl
noncomputable def abF (y0 : (SweepV MV)) (y1 : Int) : Option ((Ev × Unit) × ((SweepV MV) × Unit)) :=
 some ((({ y0 with kind := y1, other := 0, level := wi ((wi (y0.q)) + 1) } : Ev), ()), (y0, ()))
noncomputable abbrev ahs : Con SR1 := ⟨175, [.ref 40, .sh sI_], [.val 2], fun x => abF x.1 x.2.1⟩
theorem alF : CO Tryz.prog ahs := aal aak Tryz.func175 [] trivial [] trivial (fun _ => []) [] fun x => by kernel_rfl
noncomputable def aaE (y0 : (SweepV MV)) (y1 : EnvP) : Option ((Bool × Unit) × ((SweepV MV) × EnvP × Unit)) :=
 (aav y0.o).bind fun r1 =>
 if r1.1.1 = true then
  some ((true, ()), (({ y0 with o := r1.2.1 } : (SweepV MV)), y1, ()))
 else
 if y0.line = 1 then
  if y0.line = 1 then
   (aby ({ y0 with o := r1.2.1 } : (SweepV MV)) y1).bind fun r2 =>
   if r2.1.1 = true then
   (abe r2.2.1.o 0 0).bind fun r3 =>
   some ((r3.1.1, ()), (({ r2.2.1 with o := r3.2.1 } : (SweepV MV)), r2.2.2.1, ()))
   else
   some ((false, ()), (({ r2.2.1 with line := wi (r2.2.1.line + 1) } : (SweepV MV)), r2.2.2.1, ()))
  else
  if y0.line = 4 then
   (aeR y1.l y0.task).bind fun r4 =>
   if y0.q = y0.q then
   if y0.q = y0.q then
   (arD y1.m r4.1.1 y0.q (wu (y0.q + 1))).bind fun r5 =>
   if (!r5.1.1) = true then
   (abe r1.2.1 4 0).bind fun r6 =>
   some ((r6.1.1, ()), (({ y0 with o := r6.2.1 } : (SweepV MV)), ({ y1 with m := r5.2.1 } : EnvP), ()))
   else
   (abF ({ y0 with o := r1.2.1 } : (SweepV MV)) 12).bind fun r7 =>
   (ad6 ({ y1 with m := r5.2.1 } : EnvP) r7.1.1).bind fun r8 =>
   some ((false, ()), (({ r7.2.1 with line := wi (r7.2.1.line + 1) } : (SweepV MV)), r8.2.1, ()))
   else none
   else none
  else
  if y0.line = 5 then
   (ah5 y1.l y0.task).bind fun r9 =>
   (aqx y1.k).bind fun r10 =>
   (aa4 y1.m r9.1.1 (wu (r10.1.1))).bind fun r11 =>
   (acz y0.worker (wi ((wi (y0.q)) + 1)) y0.task).bind fun r12 =>
   some ((false, ()), (({ y0 with o := r1.2.1, line := wi (y0.line + 1), push := r12.1.1 } : (SweepV MV)), ({ y1 with m := r11.2.1, k := r10.2.1 } : EnvP), ()))
  else
  (adI y0.push y1).bind fun r13 =>
  if (!r13.1.1) = true then
   some ((false, ()), (({ y0 with o := r1.2.1, push := r13.2.1 } : (SweepV MV)), r13.2.2.1, ()))
  else
  (abu r13.2.1).bind fun r14 =>
  if r14.1.1 = 3 then
   (abF ({ y0 with o := r1.2.1, push := r14.2.1 } : (SweepV MV)) 19).bind fun r15 =>
   (ad6 r13.2.2.1 r15.1.1).bind fun r16 =>
   (abe r15.2.1.o 1 0).bind fun r17 =>
   some ((r17.1.1, ()), (({ r15.2.1 with o := r17.2.1 } : (SweepV MV)), r16.2.1, ()))
  else
  (abe r1.2.1 1 0).bind fun r18 =>
  some ((r18.1.1, ()), (({ y0 with o := r18.2.1, push := r14.2.1 } : (SweepV MV)), r13.2.2.1, ()))
 else
 if y0.line = 2 then
  if y0.line = 2 then
   (aby ({ y0 with o := r1.2.1 } : (SweepV MV)) y1).bind fun r19 =>
   if r19.1.1 = true then
   (abe r19.2.1.o 0 0).bind fun r20 =>
   some ((r20.1.1, ()), (({ r19.2.1 with o := r20.2.1 } : (SweepV MV)), r19.2.2.1, ()))
   else
   some ((false, ()), (({ r19.2.1 with line := wi (r19.2.1.line + 1) } : (SweepV MV)), r19.2.2.1, ()))
  else
  if y0.line = 4 then
   (aeR y1.l y0.task).bind fun r21 =>
   if y0.q = y0.q then
   if y0.q = y0.q then
   (arD y1.m r21.1.1 y0.q (wu (y0.q + 1))).bind fun r22 =>
   if (!r22.1.1) = true then
   (abe r1.2.1 4 0).bind fun r23 =>
   some ((r23.1.1, ()), (({ y0 with o := r23.2.1 } : (SweepV MV)), ({ y1 with m := r22.2.1 } : EnvP), ()))
   else
   (abF ({ y0 with o := r1.2.1 } : (SweepV MV)) 12).bind fun r24 =>
   (ad6 ({ y1 with m := r22.2.1 } : EnvP) r24.1.1).bind fun r25 =>
   some ((false, ()), (({ r24.2.1 with line := wi (r24.2.1.line + 1) } : (SweepV MV)), r25.2.1, ()))
   else none
   else none
  else
  if y0.line = 5 then
   (ah5 y1.l y0.task).bind fun r26 =>
   (aqx y1.k).bind fun r27 =>
   (aa4 y1.m r26.1.1 (wu (r27.1.1))).bind fun r28 =>
   (acz y0.worker (wi ((wi (y0.q)) + 1)) y0.task).bind fun r29 =>
   some ((false, ()), (({ y0 with o := r1.2.1, line := wi (y0.line + 1), push := r29.1.1 } : (SweepV MV)), ({ y1 with m := r28.2.1, k := r27.2.1 } : EnvP), ()))
  else
  (adI y0.push y1).bind fun r30 =>
  if (!r30.1.1) = true then
   some ((false, ()), (({ y0 with o := r1.2.1, push := r30.2.1 } : (SweepV MV)), r30.2.2.1, ()))
  else
  (abu r30.2.1).bind fun r31 =>
  if r31.1.1 = 3 then
   (abF ({ y0 with o := r1.2.1, push := r31.2.1 } : (SweepV MV)) 19).bind fun r32 =>
   (ad6 r30.2.2.1 r32.1.1).bind fun r33 =>
   (abe r32.2.1.o 1 0).bind fun r34 =>
   some ((r34.1.1, ()), (({ r32.2.1 with o := r34.2.1 } : (SweepV MV)), r33.2.1, ()))
  else
  (abe r1.2.1 1 0).bind fun r35 =>
  some ((r35.1.1, ()), (({ y0 with o := r35.2.1, push := r31.2.1 } : (SweepV MV)), r30.2.2.1, ()))
 else
 if y0.line = 3 then
  (aby ({ y0 with o := r1.2.1 } : (SweepV MV)) y1).bind fun r36 =>
  if r36.1.1 = true then
   (abe r36.2.1.o 0 0).bind fun r37 =>
   some ((r37.1.1, ()), (({ r36.2.1 with o := r37.2.1 } : (SweepV MV)), r36.2.2.1, ()))
  else
  some ((false, ()), (({ r36.2.1 with line := wi (r36.2.1.line + 1) } : (SweepV MV)), r36.2.2.1, ()))
 else
 if y0.line = 4 then
  (aeR y1.l y0.task).bind fun r38 =>
  if y0.q = y0.q then
   if y0.q = y0.q then
   (arD y1.m r38.1.1 y0.q (wu (y0.q + 1))).bind fun r39 =>
   if (!r39.1.1) = true then
   (abe r1.2.1 4 0).bind fun r40 =>
   some ((r40.1.1, ()), (({ y0 with o := r40.2.1 } : (SweepV MV)), ({ y1 with m := r39.2.1 } : EnvP), ()))
   else
   (abF ({ y0 with o := r1.2.1 } : (SweepV MV)) 12).bind fun r41 =>
   (ad6 ({ y1 with m := r39.2.1 } : EnvP) r41.1.1).bind fun r42 =>
   some ((false, ()), (({ r41.2.1 with line := wi (r41.2.1.line + 1) } : (SweepV MV)), r42.2.1, ()))
   else none
  else none
 else
 if y0.line = 5 then
  (ah5 y1.l y0.task).bind fun r43 =>
  (aqx y1.k).bind fun r44 =>
  (aa4 y1.m r43.1.1 (wu (r44.1.1))).bind fun r45 =>
  (acz y0.worker (wi ((wi (y0.q)) + 1)) y0.task).bind fun r46 =>
  some ((false, ()), (({ y0 with o := r1.2.1, line := wi (y0.line + 1), push := r46.1.1 } : (SweepV MV)), ({ y1 with m := r45.2.1, k := r44.2.1 } : EnvP), ()))
 else
 (adI y0.push y1).bind fun r47 =>
 if (!r47.1.1) = true then
  some ((false, ()), (({ y0 with o := r1.2.1, push := r47.2.1 } : (SweepV MV)), r47.2.2.1, ()))
 else
 (abu r47.2.1).bind fun r48 =>
 if r48.1.1 = 3 then
  (abF ({ y0 with o := r1.2.1, push := r48.2.1 } : (SweepV MV)) 19).bind fun r49 =>
  (ad6 r47.2.2.1 r49.1.1).bind fun r50 =>
  (abe r49.2.1.o 1 0).bind fun r51 =>
  some ((r51.1.1, ()), (({ r49.2.1 with o := r51.2.1 } : (SweepV MV)), r50.2.1, ()))
 else
 (abe r1.2.1 1 0).bind fun r52 =>
 some ((r52.1.1, ()), (({ y0 with o := r52.2.1, push := r48.2.1 } : (SweepV MV)), r47.2.2.1, ()))
noncomputable abbrev anv : Con SR1 := ⟨173, [.ref 40, .ref 27], [.sh .b], fun x => aaE x.1 x.2.1⟩
theorem amz : CO Tryz.prog anv := aal aak Tryz.func173 [abn, aia, acD, af3, ak2, ahs, ae1, ajh, amO, adK, aex, ahw, ae0] ⟨aa7, amA, abx, afp, aiJ, alF, aej, aiE, aj9, adb, aeJ, ag0, aeZ, trivial⟩ [] trivial (fun _ => []) [] fun x => by kernel_rfl
noncomputable def abW (y0 : (EnterV MV)) (y1 : EnvP) : Option ((Bool × Unit) × ((EnterV MV) × EnvP × Unit)) :=
 (aav y0.o).bind fun r1 =>
 if r1.1.1 = true then
  some ((true, ()), (({ y0 with o := r1.2.1 } : (EnterV MV)), y1, ()))
 else
 if y0.line = 1 then
  (aeX y1 y0.task).bind fun r2 =>
  if (!r2.1.1) = true then
   (abe r1.2.1 4 0).bind fun r3 =>
   some ((r3.1.1, ()), (({ y0 with o := r3.2.1 } : (EnterV MV)), r2.2.1, ()))
  else
  (ah5 r2.2.1.l y0.task).bind fun r4 =>
  (aqx r2.2.1.k).bind fun r5 =>
  (aa4 r2.2.1.m r4.1.1 (wu (r5.1.1))).bind fun r6 =>
  some ((false, ()), (({ y0 with o := r1.2.1, line := wi (y0.line + 1) } : (EnterV MV)), ({ r2.2.1 with m := r6.2.1, k := r5.2.1 } : EnvP), ()))
 else
 if y0.line = 2 then
  (ade y1.l y0.task).bind fun r7 =>
  (aa4 y1.m r7.1.1 1).bind fun r8 =>
  some ((false, ()), (({ y0 with o := r1.2.1, line := wi (y0.line + 1) } : (EnterV MV)), ({ y1 with m := r8.2.1 } : EnvP), ()))
 else
 if y0.line = 3 then
  (aeR y1.l y0.task).bind fun r9 =>
  (acy y1.m r9.1.1).bind fun r10 =>
  (acz y0.worker (wi (r10.1.1)) y0.task).bind fun r11 =>
  some ((false, ()), (({ y0 with o := r1.2.1, level := wi (r10.1.1), line := wi (y0.line + 1), push := r11.1.1 } : (EnterV MV)), ({ y1 with m := r10.2.1 } : EnvP), ()))
 else
 (adI y0.push y1).bind fun r12 =>
 if (!r12.1.1) = true then
  some ((false, ()), (({ y0 with o := r1.2.1, push := r12.2.1 } : (EnterV MV)), r12.2.2.1, ()))
 else
 (abu r12.2.1).bind fun r13 =>
 (abe r1.2.1 r13.1.1 y0.level).bind fun r14 =>
 some ((r14.1.1, ()), (({ y0 with o := r14.2.1, push := r13.2.1 } : (EnterV MV)), r12.2.2.1, ()))
noncomputable abbrev am2 : Con SR1 := ⟨244, [.ref 49, .ref 27], [.sh .b], fun x => abW x.1 x.2.1⟩
theorem alM : CO Tryz.prog am2 := aal aak Tryz.func244 [abn, afZ, acD, ajh, amO, adK, adL, af3, acC, aex, ahw, ae0] ⟨aa7, agP, abx, aiE, aj9, adb, adc, afp, abK, aeJ, ag0, aeZ, trivial⟩ [] trivial (fun _ => []) [] fun x => by kernel_rfl
noncomputable def atU (y0 : Int) : Option ((MV × Unit) × (Unit)) :=
 some ((MV.attempt (⟨⟨false, 0, 0⟩, y0, true⟩ : AttemptV), ()), (()))
noncomputable abbrev asv : Con SR1 := ⟨181, [.sh sI_], [.sh .mach], fun x => atU x.1⟩
theorem av8 : CO Tryz.prog asv := aal aak Tryz.func181 [] trivial [] trivial (fun _ => []) [] fun x => by kernel_rfl
noncomputable def aaK (y0 : (DrainV MV)) (y1 : Int) (y2 : MV) : Option ((Unit) × ((DrainV MV) × Unit)) :=
 some ((()), (({ y0 with line := y1, inside := y2 } : (DrainV MV)), ()))
noncomputable abbrev adV : Con SR1 := ⟨180, [.ref 41, .sh sI_, .sh .mach], [], fun x => aaK x.1 x.2.1 x.2.2.1⟩
theorem ael : CO Tryz.prog adV := aal aak Tryz.func180 [] trivial [] trivial (fun _ => []) [] fun x => by kernel_rfl
noncomputable def afh (y0 : Int) : Option ((MV × Unit) × (Unit)) :=
 some ((MV.remove (⟨⟨false, 0, 0⟩, y0, 1, 0, 0, 0, 0, 0, 0⟩ : RemoveV), ()), (()))
noncomputable abbrev ah7 : Con SR1 := ⟨186, [.sh sI_], [.sh .mach], fun x => afh x.1⟩
theorem amm : CO Tryz.prog ah7 := aal aak Tryz.func186 [] trivial [] trivial (fun _ => []) [] fun x => by kernel_rfl
noncomputable def abo (y0 : (DrainV MV)) : Option ((Unit) × ((DrainV MV) × Unit)) :=
 (afh y0.worker).bind fun r1 =>
 (aaK y0 3 r1.1.1).bind fun r2 =>
 some ((()), (r2.2.1, ()))
noncomputable abbrev agK : Con SR1 := ⟨183, [.ref 41], [], fun x => abo x.1⟩
theorem akg : CO Tryz.prog agK := aal aak Tryz.func183 [ah7, adV] ⟨amm, ael, trivial⟩ [] trivial (fun _ => []) [] fun x => by kernel_rfl
noncomputable def ae2  : Option ((MV × Unit) × (Unit)) :=
 some ((MV.release (⟨⟨false, 0, 0⟩⟩ : ReleaseV), ()), (()))
noncomputable abbrev ahD : Con SR1 := ⟨93, [], [.sh .mach], fun x => ae2 ⟩
theorem ajR : CO Tryz.prog ahD := aal aak Tryz.func93 [] trivial [] trivial (fun _ => []) [] fun x => by kernel_rfl
noncomputable def aa3 (y0 : (DrainV MV)) : Option ((Unit) × ((DrainV MV) × Unit)) :=
 (ae2).bind fun r1 =>
 (aaK y0 6 r1.1.1).bind fun r2 =>
 some ((()), (r2.2.1, ()))
noncomputable abbrev aeq : Con SR1 := ⟨179, [.ref 41], [], fun x => aa3 x.1⟩
theorem afP : CO Tryz.prog aeq := aal aak Tryz.func179 [ahD, adV] ⟨ajR, ael, trivial⟩ [] trivial (fun _ => []) [] fun x => by kernel_rfl
noncomputable def acP (y0 : (DrainV MV)) (y1 : Int) : Option ((Unit) × ((DrainV MV) × Unit)) :=
 if y1 = 3 then
  (aa3 ({ y0 with direct := true } : (DrainV MV))).bind fun r1 =>
  some ((()), (r1.2.1, ()))
 else
 some ((()), (({ y0 with last := y0.p, count := wi (y0.count + 1) } : (DrainV MV)), ()))
noncomputable abbrev agL : Con SR1 := ⟨184, [.ref 41, .sh sI_], [], fun x => acP x.1 x.2.1⟩
theorem akh : CO Tryz.prog agL := aal aak Tryz.func184 [aeq] ⟨afP, trivial⟩ [] trivial (fun _ => []) [] fun x => by kernel_rfl
noncomputable def acW (y0 : Int) (y1 : Int) : Option ((MV × Unit) × (Unit)) :=
 some ((MV.wake (⟨⟨false, 0, 0⟩, y0, y1, 1, 0, 0⟩ : WakeV), ()), (()))
noncomputable abbrev ahg : Con SR1 := ⟨94, [.sh sI_, .sh sI_], [.sh .mach], fun x => acW x.1 x.2.1⟩
theorem ahx : CO Tryz.prog ahg := aal aak Tryz.func94 [] trivial [] trivial (fun _ => []) [] fun x => by kernel_rfl
noncomputable def aa1 (y0 : (DrainV MV)) : Option ((Bool × Unit) × ((DrainV MV) × Unit)) :=
 if y0.direct = true then
  (abe y0.o 1 y0.x).bind fun r1 =>
  some ((r1.1.1, ()), (({ y0 with o := r1.2.1 } : (DrainV MV)), ()))
 else
 if 0 < y0.count then
  (abe y0.o 0 y0.count).bind fun r2 =>
  some ((r2.1.1, ()), (({ y0 with o := r2.2.1 } : (DrainV MV)), ()))
 else
 (abe y0.o 2 0).bind fun r3 =>
 some ((r3.1.1, ()), (({ y0 with o := r3.2.1 } : (DrainV MV)), ()))
noncomputable abbrev agM : Con SR1 := ⟨185, [.ref 41], [.sh .b], fun x => aa1 x.1⟩
theorem aki : CO Tryz.prog agM := aal aak Tryz.func185 [acD] ⟨abx, trivial⟩ [] trivial (fun _ => []) [] fun x => by kernel_rfl
noncomputable def acH (y0 : (DrainV MV)) (y1 : EnvP) (y2 : Int) (y3 : Int) : Option ((Bool × Unit) × ((DrainV MV) × EnvP × Unit)) :=
 if y0.line = 2 then
  if y2 = 5 then
   (abe y0.o 5 0).bind fun r1 =>
   some ((r1.1.1, ()), (({ y0 with o := r1.2.1 } : (DrainV MV)), y1, ()))
  else
  if y0.line = 2 then
   (abo y0).bind fun r2 =>
   some ((false, ()), (r2.2.1, y1, ()))
  else
  if y0.line = 3 then
   if y2 = 2 then
   (aa3 y0).bind fun r3 =>
   some ((false, ()), (r3.2.1, y1, ()))
   else
   if y0.line = 3 then
   (aaK ({ y0 with x := y3 } : (DrainV MV)) 4 MV.nil).bind fun r4 =>
   some ((false, ()), (r4.2.1, y1, ()))
   else
   if y0.line = 5 then
   (acP y0 y2).bind fun r5 =>
   if r5.2.1.direct = true then
   some ((false, ()), (r5.2.1, y1, ()))
   else
   if r5.2.1.count < y1.c.batch then
   (abo r5.2.1).bind fun r6 =>
   some ((false, ()), (r6.2.1, y1, ()))
   else
   (aa3 r5.2.1).bind fun r7 =>
   some ((false, ()), (r7.2.1, y1, ()))
   else
   if y0.line = 6 then
   if 0 < y0.count then
   (acW y0.worker y0.last).bind fun r8 =>
   (aaK y0 7 r8.1.1).bind fun r9 =>
   some ((false, ()), (r9.2.1, y1, ()))
   else
   (aa1 y0).bind fun r10 =>
   some ((r10.1.1, ()), (r10.2.1, y1, ()))
   else
   (aa1 y0).bind fun r11 =>
   some ((r11.1.1, ()), (r11.2.1, y1, ()))
  else
  if y0.line = 3 then
   (aaK ({ y0 with x := y3 } : (DrainV MV)) 4 MV.nil).bind fun r12 =>
   some ((false, ()), (r12.2.1, y1, ()))
  else
  if y0.line = 5 then
   (acP y0 y2).bind fun r13 =>
   if r13.2.1.direct = true then
   some ((false, ()), (r13.2.1, y1, ()))
   else
   if r13.2.1.count < y1.c.batch then
   (abo r13.2.1).bind fun r14 =>
   some ((false, ()), (r14.2.1, y1, ()))
   else
   (aa3 r13.2.1).bind fun r15 =>
   some ((false, ()), (r15.2.1, y1, ()))
  else
  if y0.line = 6 then
   if 0 < y0.count then
   (acW y0.worker y0.last).bind fun r16 =>
   (aaK y0 7 r16.1.1).bind fun r17 =>
   some ((false, ()), (r17.2.1, y1, ()))
   else
   (aa1 y0).bind fun r18 =>
   some ((r18.1.1, ()), (r18.2.1, y1, ()))
  else
  (aa1 y0).bind fun r19 =>
  some ((r19.1.1, ()), (r19.2.1, y1, ()))
 else
 if y0.line = 2 then
  (abo y0).bind fun r20 =>
  some ((false, ()), (r20.2.1, y1, ()))
 else
 if y0.line = 3 then
  if y2 = 2 then
   (aa3 y0).bind fun r21 =>
   some ((false, ()), (r21.2.1, y1, ()))
  else
  if y0.line = 3 then
   (aaK ({ y0 with x := y3 } : (DrainV MV)) 4 MV.nil).bind fun r22 =>
   some ((false, ()), (r22.2.1, y1, ()))
  else
  if y0.line = 5 then
   (acP y0 y2).bind fun r23 =>
   if r23.2.1.direct = true then
   some ((false, ()), (r23.2.1, y1, ()))
   else
   if r23.2.1.count < y1.c.batch then
   (abo r23.2.1).bind fun r24 =>
   some ((false, ()), (r24.2.1, y1, ()))
   else
   (aa3 r23.2.1).bind fun r25 =>
   some ((false, ()), (r25.2.1, y1, ()))
  else
  if y0.line = 6 then
   if 0 < y0.count then
   (acW y0.worker y0.last).bind fun r26 =>
   (aaK y0 7 r26.1.1).bind fun r27 =>
   some ((false, ()), (r27.2.1, y1, ()))
   else
   (aa1 y0).bind fun r28 =>
   some ((r28.1.1, ()), (r28.2.1, y1, ()))
  else
  (aa1 y0).bind fun r29 =>
  some ((r29.1.1, ()), (r29.2.1, y1, ()))
 else
 if y0.line = 3 then
  (aaK ({ y0 with x := y3 } : (DrainV MV)) 4 MV.nil).bind fun r30 =>
  some ((false, ()), (r30.2.1, y1, ()))
 else
 if y0.line = 5 then
  (acP y0 y2).bind fun r31 =>
  if r31.2.1.direct = true then
   some ((false, ()), (r31.2.1, y1, ()))
  else
  if r31.2.1.count < y1.c.batch then
   (abo r31.2.1).bind fun r32 =>
   some ((false, ()), (r32.2.1, y1, ()))
  else
  (aa3 r31.2.1).bind fun r33 =>
  some ((false, ()), (r33.2.1, y1, ()))
 else
 if y0.line = 6 then
  if 0 < y0.count then
   (acW y0.worker y0.last).bind fun r34 =>
   (aaK y0 7 r34.1.1).bind fun r35 =>
   some ((false, ()), (r35.2.1, y1, ()))
  else
  (aa1 y0).bind fun r36 =>
  some ((r36.1.1, ()), (r36.2.1, y1, ()))
 else
 (aa1 y0).bind fun r37 =>
 some ((r37.1.1, ()), (r37.2.1, y1, ()))
noncomputable abbrev ahm : Con SR1 := ⟨182, [.ref 41, .ref 27, .sh sI_, .sh sI_], [.sh .b], fun x => acH x.1 x.2.1 x.2.2.1 x.2.2.2.1⟩
theorem als : CO Tryz.prog ahm := aal aak Tryz.func182 [acD, agK, aeq, adV, agL, ahg, agM] ⟨abx, akg, afP, ael, akh, ahx, aki, trivial⟩ [] trivial (fun _ => []) [] fun x => by kernel_rfl
noncomputable def abl (y0 : (DrainV MV)) (y1 : EnvP) : Option ((Bool × Unit) × ((DrainV MV) × EnvP × Unit)) :=
 (aav y0.o).bind fun r1 =>
 if r1.1.1 = true then
  some ((true, ()), (({ y0 with o := r1.2.1 } : (DrainV MV)), y1, ()))
 else
 if y0.line = 1 then
  (afN y1.l).bind fun r2 =>
  (acy y1.m r2.1.1).bind fun r3 =>
  if (wi (r3.1.1)) ≤ 0 then
   (abe r1.2.1 2 0).bind fun r4 =>
   some ((r4.1.1, ()), (({ y0 with o := r4.2.1 } : (DrainV MV)), ({ y1 with m := r3.2.1 } : EnvP), ()))
  else
  (atU y0.worker).bind fun r5 =>
  (aaK ({ y0 with o := r1.2.1 } : (DrainV MV)) 2 r5.1.1).bind fun r6 =>
  some ((false, ()), (r6.2.1, ({ y1 with m := r3.2.1 } : EnvP), ()))
 else
 if y0.line = 4 then
  (aeR y1.l y0.x).bind fun r7 =>
  (acy y1.m r7.1.1).bind fun r8 =>
  (acz y0.worker (wi (r8.1.1)) y0.x).bind fun r9 =>
  (aaK ({ y0 with o := r1.2.1, p := wi (r8.1.1) } : (DrainV MV)) 5 r9.1.1).bind fun r10 =>
  some ((false, ()), (r10.2.1, ({ y1 with m := r8.2.1 } : EnvP), ()))
 else
 (adI y0.inside y1).bind fun r11 =>
 if (!r11.1.1) = true then
  some ((false, ()), (({ y0 with o := r1.2.1, inside := r11.2.1 } : (DrainV MV)), r11.2.2.1, ()))
 else
 (abu r11.2.1).bind fun r12 =>
 (acH ({ y0 with o := r1.2.1, inside := r12.2.1 } : (DrainV MV)) r11.2.2.1 r12.1.1 r12.1.2.1).bind fun r13 =>
 some ((r13.1.1, ()), (r13.2.1, r13.2.2.1, ()))
noncomputable abbrev ano : Con SR1 := ⟨178, [.ref 41, .ref 27], [.sh .b], fun x => abl x.1 x.2.1⟩
theorem amp : CO Tryz.prog ano := aal aak Tryz.func178 [abn, ajk, acC, acD, asv, adV, af3, aex, ahw, ae0, ahm] ⟨aa7, aiI, abK, abx, av8, ael, afp, aeJ, ag0, aeZ, als, trivial⟩ [] trivial (fun _ => []) [] fun x => by kernel_rfl
noncomputable def aeE (m : MV) (e : EnvP) : Option ((Bool × Unit) × (MV × EnvP × Unit)) :=
 match m with
 | .alloc x => (abQ x e).bind fun o => some (o.1, (MV.alloc o.2.1, o.2.2))
 | .publish x => (abI x e).bind fun o => some (o.1, (MV.publish o.2.1, o.2.2))
 | .claim x => (ac1 x e).bind fun o => some (o.1, (MV.claim o.2.1, o.2.2))
 | .attempt x => (acG x e).bind fun o => some (o.1, (MV.attempt o.2.1, o.2.2))
 | .release x => (acF x e).bind fun o => some (o.1, (MV.release o.2.1, o.2.2))
 | .opush x => (adr x e).bind fun o => some (o.1, (MV.opush o.2.1, o.2.2))
 | .opop x => (adS x e).bind fun o => some (o.1, (MV.opop o.2.1, o.2.2))
 | .steal x => (ac0 x e).bind fun o => some (o.1, (MV.steal o.2.1, o.2.2))
 | .set x => (adt x e).bind fun o => some (o.1, (MV.set o.2.1, o.2.2))
 | .reset x => (acK x e).bind fun o => some (o.1, (MV.reset o.2.1, o.2.2))
 | .insert x => (abD x e).bind fun o => some (o.1, (MV.insert o.2.1, o.2.2))
 | .remove x => (abC x e).bind fun o => some (o.1, (MV.remove o.2.1, o.2.2))
 | .sleep x => (acX x e).bind fun o => some (o.1, (MV.sleep o.2.1, o.2.2))
 | .wake x => (adm x e).bind fun o => some (o.1, (MV.wake o.2.1, o.2.2))
 | .raise x => (act x e).bind fun o => some (o.1, (MV.raise o.2.1, o.2.2))
 | .probe x => (abk x e).bind fun o => some (o.1, (MV.probe o.2.1, o.2.2))
 | .lpush x => (acs x e).bind fun o => some (o.1, (MV.lpush o.2.1, o.2.2))
 | .lpop x => (acY x e).bind fun o => some (o.1, (MV.lpop o.2.1, o.2.2))
 | .walk x => (abZ x e).bind fun o => some (o.1, (MV.walk o.2.1, o.2.2))
 | .take x => (aeu x e).bind fun o => some (o.1, (MV.take o.2.1, o.2.2))
 | .sweep x => (aaE x e).bind fun o => some (o.1, (MV.sweep o.2.1, o.2.2))
 | .enter x => (abW x e).bind fun o => some (o.1, (MV.enter o.2.1, o.2.2))
 | .drain x => (abl x e).bind fun o => some (o.1, (MV.drain o.2.1, o.2.2))
 | _ => none
noncomputable abbrev anw : Con SR1 := ⟨1000000000, [.mch, .ref 27], [.sh .b], fun x => aeE x.1 x.2.1⟩
theorem ajb (m : MV) (xs : akn SR1 [.ref 27]) (out : akq SR1 [.sh .b] × (MV × ai7 SR1 [.ref 27])) (h : aeE m xs.1 = some out) : apw SR1 Tryz.prog 0 [.ref 27] [.sh .b] m xs out := by
  cases m with
  | alloc x => exact aay (.alloc x) xs out h
  | publish x => exact aay (.publish x) xs out h
  | claim x => exact aay (.claim x) xs out h
  | attempt x => exact aay (.attempt x) xs out h
  | release x => exact aay (.release x) xs out h
  | opush x => exact aay (.opush x) xs out h
  | opop x => exact aay (.opop x) xs out h
  | steal x => exact aay (.steal x) xs out h
  | set x => exact aay (.set x) xs out h
  | reset x => exact aay (.reset x) xs out h
  | insert x => exact aay (.insert x) xs out h
  | remove x => exact aay (.remove x) xs out h
  | sleep x => exact aay (.sleep x) xs out h
  | wake x => exact aay (.wake x) xs out h
  | raise x => exact aay (.raise x) xs out h
  | probe x => exact aay (.probe x) xs out h
  | lpush x => exact akz (.lpush x) xs out h
  | lpop x => exact akz (.lpop x) xs out h
  | walk x => exact aa9 (S := SR1) (ps := [.ref 27]) (rs := [.sh .b]) (c := 48) (mk := MV.walk) (fun _ => rfl) rfl (fun _ _ _ _ => by kernel_rfl) anr h
  | take x => exact aa9 (S := SR1) (ps := [.ref 27]) (rs := [.sh .b]) (c := 39) (mk := MV.take) (fun _ => rfl) rfl (fun _ _ _ _ => by kernel_rfl) an2 h
  | sweep x => exact aa9 (S := SR1) (ps := [.ref 27]) (rs := [.sh .b]) (c := 40) (mk := MV.sweep) (fun _ => rfl) rfl (fun _ _ _ _ => by kernel_rfl) amz h
  | enter x => exact aa9 (S := SR1) (ps := [.ref 27]) (rs := [.sh .b]) (c := 49) (mk := MV.enter) (fun _ => rfl) rfl (fun _ _ _ _ => by kernel_rfl) alM h
  | drain x => exact aa9 (S := SR1) (ps := [.ref 27]) (rs := [.sh .b]) (c := 41) (mk := MV.drain) (fun _ => rfl) rfl (fun _ _ _ _ => by kernel_rfl) amp h
  | _ => cases h
theorem an5 : CO Tryz.prog anw := aiV (S := SR1) (i := 0) (ps := [.ref 27]) (rs := [.sh .b]) (spec := fun m xs => aeE m xs.1) ajb
noncomputable def adp (m : MV) : Option ((Int × Int × Unit) × (MV × Unit)) :=
 match m with
 | .alloc x => some ((x.o.code, x.o.value, ()), (MV.alloc x, ()))
 | .publish x => some ((x.o.code, x.o.value, ()), (MV.publish x, ()))
 | .claim x => some ((x.o.code, x.o.value, ()), (MV.claim x, ()))
 | .attempt x => some ((x.o.code, x.o.value, ()), (MV.attempt x, ()))
 | .release x => some ((x.o.code, x.o.value, ()), (MV.release x, ()))
 | .opush x => some ((x.o.code, x.o.value, ()), (MV.opush x, ()))
 | .opop x => some ((x.o.code, x.o.value, ()), (MV.opop x, ()))
 | .steal x => some ((x.o.code, x.o.value, ()), (MV.steal x, ()))
 | .set x => some ((x.o.code, x.o.value, ()), (MV.set x, ()))
 | .reset x => some ((x.o.code, x.o.value, ()), (MV.reset x, ()))
 | .insert x => some ((x.o.code, x.o.value, ()), (MV.insert x, ()))
 | .remove x => some ((x.o.code, x.o.value, ()), (MV.remove x, ()))
 | .sleep x => some ((x.o.code, x.o.value, ()), (MV.sleep x, ()))
 | .wake x => some ((x.o.code, x.o.value, ()), (MV.wake x, ()))
 | .raise x => some ((x.o.code, x.o.value, ()), (MV.raise x, ()))
 | .probe x => some ((x.o.code, x.o.value, ()), (MV.probe x, ()))
 | .lpush x => some ((x.o.code, x.o.value, ()), (MV.lpush x, ()))
 | .lpop x => some ((x.o.code, x.o.value, ()), (MV.lpop x, ()))
 | .walk x => some ((x.o.code, x.o.value, ()), (MV.walk x, ()))
 | .take x => some ((x.o.code, x.o.value, ()), (MV.take x, ()))
 | .sweep x => some ((x.o.code, x.o.value, ()), (MV.sweep x, ()))
 | .enter x => some ((x.o.code, x.o.value, ()), (MV.enter x, ()))
 | .drain x => some ((x.o.code, x.o.value, ()), (MV.drain x, ()))
 | _ => none
noncomputable abbrev alV : Con SR1 := ⟨1000000001, [.mch], [.sh sI_, .sh sI_], fun x => adp x.1⟩
theorem af8 (m : MV) (xs : akn SR1 []) (out : akq SR1 [.sh sI_, .sh sI_] × (MV × ai7 SR1 [])) (h : adp m = some out) : apw SR1 Tryz.prog 1 [] [.sh sI_, .sh sI_] m xs out := by
  cases m with
  | alloc x => exact aaj (.alloc x) xs out h
  | publish x => exact aaj (.publish x) xs out h
  | claim x => exact aaj (.claim x) xs out h
  | attempt x => exact aaj (.attempt x) xs out h
  | release x => exact aaj (.release x) xs out h
  | opush x => exact aaj (.opush x) xs out h
  | opop x => exact aaj (.opop x) xs out h
  | steal x => exact aaj (.steal x) xs out h
  | set x => exact aaj (.set x) xs out h
  | reset x => exact aaj (.reset x) xs out h
  | insert x => exact aaj (.insert x) xs out h
  | remove x => exact aaj (.remove x) xs out h
  | sleep x => exact aaj (.sleep x) xs out h
  | wake x => exact aaj (.wake x) xs out h
  | raise x => exact aaj (.raise x) xs out h
  | probe x => exact aaj (.probe x) xs out h
  | lpush x => exact ahe (.lpush x) xs out h
  | lpop x => exact ahe (.lpop x) xs out h
  | walk x => exact aa9 (S := SR1) (ps := []) (rs := [.sh sI_, .sh sI_]) (c := 48) (mk := MV.walk) (f := 133) (sp := fun x => some ((x.1.o.code, x.1.o.value, ()), (x.1, ()))) (fun _ => rfl) rfl (fun _ _ _ _ => by kernel_rfl) (acq [aa0] ⟨aaT, trivial⟩ fun x => by kernel_rfl) h
  | take x => exact aa9 (S := SR1) (ps := []) (rs := [.sh sI_, .sh sI_]) (c := 39) (mk := MV.take) (f := 133) (sp := fun x => some ((x.1.o.code, x.1.o.value, ()), (x.1, ()))) (fun _ => rfl) rfl (fun _ _ _ _ => by kernel_rfl) (acq [aa0] ⟨aaT, trivial⟩ fun x => by kernel_rfl) h
  | sweep x => exact aa9 (S := SR1) (ps := []) (rs := [.sh sI_, .sh sI_]) (c := 40) (mk := MV.sweep) (f := 133) (sp := fun x => some ((x.1.o.code, x.1.o.value, ()), (x.1, ()))) (fun _ => rfl) rfl (fun _ _ _ _ => by kernel_rfl) (acq [aa0] ⟨aaT, trivial⟩ fun x => by kernel_rfl) h
  | enter x => exact aa9 (S := SR1) (ps := []) (rs := [.sh sI_, .sh sI_]) (c := 49) (mk := MV.enter) (f := 133) (sp := fun x => some ((x.1.o.code, x.1.o.value, ()), (x.1, ()))) (fun _ => rfl) rfl (fun _ _ _ _ => by kernel_rfl) (acq [aa0] ⟨aaT, trivial⟩ fun x => by kernel_rfl) h
  | drain x => exact aa9 (S := SR1) (ps := []) (rs := [.sh sI_, .sh sI_]) (c := 41) (mk := MV.drain) (f := 133) (sp := fun x => some ((x.1.o.code, x.1.o.value, ()), (x.1, ()))) (fun _ => rfl) rfl (fun _ _ _ _ => by kernel_rfl) (acq [aa0] ⟨aaT, trivial⟩ fun x => by kernel_rfl) h
  | _ => cases h
theorem aoh : CO Tryz.prog alV := aiV (S := SR1) (i := 1) (ps := []) (rs := [.sh sI_, .sh sI_]) (spec := fun m _ => adp m) af8
noncomputable def aeG (y0 : (RunV MV)) (y1 : EnvP) : Option ((Int × Unit) × ((RunV MV) × EnvP × Unit)) :=
 if 0 ≤ (tlI y0.stack) ∧ (tlI y0.stack) < ((y0.stack.length : Nat) : Int) then
  if 0 ≤ tpI y0.stack ∧ tpI y0.stack < ((y1.recs.length : Nat) : Int) then
   if 0 ≤ (tlI y0.stack) ∧ (tlI y0.stack) < ((y0.stack.length : Nat) : Int) then
   if 0 ≤ tpI y0.stack ∧ tpI y0.stack < ((y1.recs.length : Nat) : Int) then
   if ((aab y1.recs (tpI y0.stack)).prog) < 0 then
   if ((aab y1.recs (tpI y0.stack)).waiting) ≠ (-1) then
   some ((1, ()), (y0, y1, ()))
   else
   if ((aab y1.recs (tpI y0.stack)).pc) < 0 then
   some ((16, ()), (y0, y1, ()))
   else
   if 0 ≤ ((aab y1.recs (tpI y0.stack)).pc) then
   some ((16, ()), (y0, y1, ()))
   else
   none
   else
   if ((y1.c.progs.length : Nat) : Int) ≤ ((aab y1.recs (tpI y0.stack)).prog) then
   if ((aab y1.recs (tpI y0.stack)).waiting) ≠ (-1) then
   some ((1, ()), (y0, y1, ()))
   else
   if ((aab y1.recs (tpI y0.stack)).pc) < 0 then
   some ((16, ()), (y0, y1, ()))
   else
   if 0 ≤ ((aab y1.recs (tpI y0.stack)).pc) then
   some ((16, ()), (y0, y1, ()))
   else
   none
   else
   if 0 ≤ (aab y1.recs (tpI y0.stack)).prog ∧ (aab y1.recs (tpI y0.stack)).prog < ((y1.c.progs.length : Nat) : Int) then
   if ((aab y1.recs (tpI y0.stack)).waiting) ≠ (-1) then
   some ((1, ()), (y0, y1, ()))
   else
   if ((aab y1.recs (tpI y0.stack)).pc) < 0 then
   some ((16, ()), (y0, y1, ()))
   else
   if (((atL [] y1.c.progs ((aab y1.recs (tpI y0.stack)).prog)).length : Nat) : Int) ≤ ((aab y1.recs (tpI y0.stack)).pc) then
   some ((16, ()), (y0, y1, ()))
   else
   if 0 ≤ (aab y1.recs (tpI y0.stack)).pc ∧ (aab y1.recs (tpI y0.stack)).pc < (((atL [] y1.c.progs ((aab y1.recs (tpI y0.stack)).prog)).length : Nat) : Int) then
   if ((acn (atL [] y1.c.progs ((aab y1.recs (tpI y0.stack)).prog)) ((aab y1.recs (tpI y0.stack)).pc)).op) = 0 then
   some ((2, ()), (y0, y1, ()))
   else
   if 0 ≤ (aab y1.recs (tpI y0.stack)).pc ∧ (aab y1.recs (tpI y0.stack)).pc < (((atL [] y1.c.progs ((aab y1.recs (tpI y0.stack)).prog)).length : Nat) : Int) then
   if ((acn (atL [] y1.c.progs ((aab y1.recs (tpI y0.stack)).prog)) ((aab y1.recs (tpI y0.stack)).pc)).op) = 1 then
   some ((4, ()), (y0, y1, ()))
   else
   if 0 ≤ (aab y1.recs (tpI y0.stack)).pc ∧ (aab y1.recs (tpI y0.stack)).pc < (((atL [] y1.c.progs ((aab y1.recs (tpI y0.stack)).prog)).length : Nat) : Int) then
   if ((acn (atL [] y1.c.progs ((aab y1.recs (tpI y0.stack)).prog)) ((aab y1.recs (tpI y0.stack)).pc)).a) < 0 then
   some ((3, ()), (y0, y1, ()))
   else
   if ((((aab y1.recs (tpI y0.stack)).kids).length : Nat) : Int) ≤ ((acn (atL [] y1.c.progs ((aab y1.recs (tpI y0.stack)).prog)) ((aab y1.recs (tpI y0.stack)).pc)).a) then
   some ((3, ()), (y0, ({ y1 with recs := y1.recs.set (tpI y0.stack).toNat (aab y1.recs (tpI y0.stack)) } : EnvP), ()))
   else
   if 0 ≤ (acn (atL [] y1.c.progs ((aab y1.recs (tpI y0.stack)).prog)) ((aab y1.recs (tpI y0.stack)).pc)).a ∧ (acn (atL [] y1.c.progs ((aab y1.recs (tpI y0.stack)).prog)) ((aab y1.recs (tpI y0.stack)).pc)).a < ((((aab y1.recs (tpI y0.stack)).kids).length : Nat) : Int) then
   if (aik ((aab y1.recs (tpI y0.stack)).kids) ((acn (atL [] y1.c.progs ((aab y1.recs (tpI y0.stack)).prog)) ((aab y1.recs (tpI y0.stack)).pc)).a)) = (-1) then
   some ((3, ()), (y0, ({ y1 with recs := y1.recs.set (tpI y0.stack).toNat (aab y1.recs (tpI y0.stack)) } : EnvP), ()))
   else
   some ((9, ()), (y0, ({ y1 with recs := y1.recs.set (tpI y0.stack).toNat (aab y1.recs (tpI y0.stack)) } : EnvP), ()))
   else none
   else none
   else none
   else none
   else none
   else none
   else none
  else none
 else none
noncomputable abbrev ahc : Con SR1 := ⟨196, [.ref 33, .ref 27], [.sh sI_], fun x => aeG x.1 x.2.1⟩
noncomputable def akL : List (Nat × Func) := [(201, Tryz.f201), (195, Tryz.f195), (202, Tryz.f202)]
theorem akM : CO Tryz.prog ahc := aal aak Tryz.func196 [] trivial akL ⟨Tryz.func201, Tryz.func195, Tryz.func202, trivial⟩ (fun _ => []) [] fun x => by kernel_rfl
noncomputable def aeD  : Option ((MV × Unit) × (Unit)) :=
 some ((MV.alloc (⟨⟨false, 0, 0⟩⟩ : AllocV), ()), (()))
noncomputable abbrev agk : Con SR1 := ⟨91, [], [.sh .mach], fun x => aeD ⟩
theorem ah1 : CO Tryz.prog agk := aal aak Tryz.func91 [] trivial [] trivial (fun _ => []) [] fun x => by kernel_rfl
noncomputable def aac (y0 : (RunV MV)) (y1 : Int) (y2 : MV) : Option ((Bool × Unit) × ((RunV MV) × Unit)) :=
 some ((false, ()), (({ y0 with line := y1, inside := y2 } : (RunV MV)), ()))
noncomputable abbrev ado : Con SR1 := ⟨205, [.ref 33, .sh sI_, .sh .mach], [.sh .b], fun x => aac x.1 x.2.1 x.2.2.1⟩
theorem adB : CO Tryz.prog ado := aal aak Tryz.func205 [] trivial [] trivial (fun _ => []) [] fun x => by kernel_rfl
end
end Go.Proofs.YtclaldommncdbaaGreat
