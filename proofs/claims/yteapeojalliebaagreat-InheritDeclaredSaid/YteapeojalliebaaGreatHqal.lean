/- The program's machines in the evaluator's form. The program's machines in the evaluator's form. -/
import Derived.Test.YteapeojalliebaaGreatHqak
set_option linter.all false
namespace Go.Proofs.YteapeojalliebaaGreat
section
open Go Go.RowKit
set_option maxRecDepth 100000
variable [Tb]
noncomputable def aby (y0 : InsertV) (y1 : EnvP) : Option ((Bool × Unit) × (InsertV × EnvP × Unit)) :=
 (aau y0.o).bind fun r1 =>
 if r1.1.1 = true then
  some ((true, ()), (({ y0 with o := r1.2.1 } : InsertV), y1, ()))
 else
 if y1.l.workers = y1.l.workers then
  if y1.l.levels = y1.l.levels then
   if y1.l.classes = y1.l.classes then
   if y1.l.tasks = y1.l.tasks then
   if y1.l.deque = y1.l.deque then
   if y1.l.heap = y1.l.heap then
   if y1.l.sleepers = y1.l.sleepers then
   if y1.l.epochs = y1.l.epochs then
   if y1.l.bitmaps = y1.l.bitmaps then
   if y1.l.queues = y1.l.queues then
   if y1.l.table = y1.l.table then
   if y0.line = 1 then
   (af5 y1.l).bind fun r2 =>
   (aco y1.m r2.1.1).bind fun r3 =>
   if y1.c.heap ≤ (wi (r3.1.1)) then
   (aba r1.2.1 3 0).bind fun r4 =>
   some ((r4.1.1, ()), (({ y0 with o := r4.2.1, n := wi (r3.1.1) } : InsertV), ({ y1 with m := r3.2.1 } : EnvP), ()))
   else
   some ((false, ()), (({ y0 with o := r1.2.1, line := 2, n := wi (r3.1.1) } : InsertV), ({ y1 with m := r3.2.1 } : EnvP), ()))
   else
   if y0.line = 2 then
   (arn y1.l).bind fun r5 =>
   if y0.task = y0.task then
   if y0.deadline = y0.deadline then
   (aDY y1.m r5.1.1 1).bind fun r6 =>
   if y0.task = y0.task then
   if y0.deadline = y0.deadline then
   (aAe y0.deadline (wi (r6.1.1)) y0.task).bind fun r7 =>
   if (!r7.1.2.1) = true then
   (aba r1.2.1 4 0).bind fun r8 =>
   some ((r8.1.1, ()), (({ y0 with o := r8.2.1 } : InsertV), ({ y1 with m := r6.2.1 } : EnvP), ()))
   else
   (adk ({ y0 with o := r1.2.1, i := y0.n, k := r7.1.1 } : InsertV)).bind fun r9 =>
   some ((false, ()), (({ r9.2.1 with line := r9.1.1 } : InsertV), ({ y1 with m := r6.2.1 } : EnvP), ()))
   else none
   else none
   else none
   else none
   else
   if y0.line = 3 then
   (anU y1.l (wi (Int.tdiv (wi (y0.i - 1)) 2))).bind fun r10 =>
   (aco y1.m r10.1.1).bind fun r11 =>
   if y0.k < r11.1.1 then
   some ((false, ()), (({ y0 with o := r1.2.1, line := 4, x := r11.1.1 } : InsertV), ({ y1 with m := r11.2.1 } : EnvP), ()))
   else
   some ((false, ()), (({ y0 with o := r1.2.1, line := 5, x := r11.1.1 } : InsertV), ({ y1 with m := r11.2.1 } : EnvP), ()))
   else
   if y0.line = 4 then
   (anU y1.l y0.i).bind fun r12 =>
   if y0.x = y0.x then
   (aa2 y1.m r12.1.1 y0.x).bind fun r13 =>
   (adk ({ y0 with o := r1.2.1, i := wi (Int.tdiv (wi (y0.i - 1)) 2) } : InsertV)).bind fun r14 =>
   some ((false, ()), (({ r14.2.1 with line := r14.1.1 } : InsertV), ({ y1 with m := r13.2.1 } : EnvP), ()))
   else none
   else
   if y0.line = 5 then
   (anU y1.l y0.i).bind fun r15 =>
   if y0.k = y0.k then
   (aa2 y1.m r15.1.1 y0.k).bind fun r16 =>
   some ((false, ()), (({ y0 with o := r1.2.1, line := 6 } : InsertV), ({ y1 with m := r16.2.1 } : EnvP), ()))
   else none
   else
   (af5 y1.l).bind fun r17 =>
   if y0.n = y0.n then
   (aa2 y1.m r17.1.1 (wu (wi (y0.n + 1)))).bind fun r18 =>
   (aba r1.2.1 0 0).bind fun r19 =>
   some ((r19.1.1, ()), (({ y0 with o := r19.2.1 } : InsertV), ({ y1 with m := r18.2.1 } : EnvP), ()))
   else none
   else none
   else none
   else none
   else none
   else none
   else none
   else none
   else none
   else none
  else none
 else none
noncomputable abbrev akq : Con SR1 := ⟨186, [.ref 36, .ref 27], [.sh .b], fun x => aby x.1 x.2.1⟩
theorem ajv : CO Tryz.prog akq := aai aah Tryz.func186 [abj, aj1, acq, acr, aqq, avA, axL, afJ, ard, adC] ⟨aa4, ajm, abD, abu, aud, auf, aAc, aiS, arc, ac3, trivial⟩ [] trivial (fun _ => []) [] fun x => by kernel_rfl
noncomputable def abV (y0 : RemoveV) : Option ((Int × Unit) × (RemoveV × Unit)) :=
 if y0.z < y0.y then
  some ((7, ()), (y0, ()))
 else
 some ((8, ()), (y0, ()))
noncomputable abbrev aeP : Con SR1 := ⟨260, [.ref 51], [.sh sI_], fun x => abV x.1⟩
theorem ahH : CO Tryz.prog aeP := aai aah Tryz.func260 [] trivial [] trivial (fun _ => []) [] fun x => by kernel_rfl
noncomputable def acC (y0 : RemoveV) : Option ((Int × Unit) × (RemoveV × Unit)) :=
 if (wi ((wi (2 * y0.i)) + 1)) < (wi (y0.n - 1)) then
  some ((5, ()), (y0, ()))
 else
 some ((8, ()), (y0, ()))
noncomputable abbrev ac5 : Con SR1 := ⟨261, [.ref 51], [.sh sI_], fun x => acC x.1⟩
theorem ad6 : CO Tryz.prog ac5 := aai aah Tryz.func261 [] trivial [] trivial (fun _ => []) [] fun x => by kernel_rfl
noncomputable def acO (y0 : RemoveV) : Option ((Int × Unit) × (RemoveV × Unit)) :=
 (at6 y0.x).bind fun r1 =>
 some ((r1.1.2.2.1, ()), (y0, ()))
noncomputable abbrev adY : Con SR1 := ⟨262, [.ref 51], [.sh sI_], fun x => acO x.1⟩
theorem afH : CO Tryz.prog adY := aai aah Tryz.func262 [asV] ⟨aws, trivial⟩ [] trivial (fun _ => []) [] fun x => by kernel_rfl
noncomputable def ael (y0 : RemoveV) (y1 : EnvP) : Option ((Bool × Unit) × (RemoveV × EnvP × Unit)) :=
 if y1.l.workers = y1.l.workers then
  if y1.l.levels = y1.l.levels then
   if y1.l.classes = y1.l.classes then
   if y1.l.tasks = y1.l.tasks then
   if y1.l.deque = y1.l.deque then
   if y1.l.heap = y1.l.heap then
   if y1.l.sleepers = y1.l.sleepers then
   if y1.l.epochs = y1.l.epochs then
   if y1.l.bitmaps = y1.l.bitmaps then
   if y1.l.queues = y1.l.queues then
   if y1.l.table = y1.l.table then
   if y0.line = 1 then
   (af5 y1.l).bind fun r1 =>
   (aco y1.m r1.1.1).bind fun r2 =>
   if (wi (r2.1.1)) ≤ 0 then
   (aba y0.o 2 0).bind fun r3 =>
   some ((r3.1.1, ()), (({ y0 with o := r3.2.1, n := wi (r2.1.1) } : RemoveV), ({ y1 with m := r2.2.1 } : EnvP), ()))
   else
   some ((false, ()), (({ y0 with line := 2, n := wi (r2.1.1) } : RemoveV), ({ y1 with m := r2.2.1 } : EnvP), ()))
   else
   if y0.line = 2 then
   (anU y1.l 0).bind fun r4 =>
   (aco y1.m r4.1.1).bind fun r5 =>
   some ((false, ()), (({ y0 with line := 3, x := r5.1.1 } : RemoveV), ({ y1 with m := r5.2.1 } : EnvP), ()))
   else
   if y0.line = 3 then
   (anU y1.l (wi (y0.n - 1))).bind fun r6 =>
   (aco y1.m r6.1.1).bind fun r7 =>
   some ((false, ()), (({ y0 with line := 4, y := r7.1.1 } : RemoveV), ({ y1 with m := r7.2.1 } : EnvP), ()))
   else
   (af5 y1.l).bind fun r8 =>
   if y0.n = y0.n then
   (aa2 y1.m r8.1.1 (wu (wi (y0.n - 1)))).bind fun r9 =>
   (acO y0).bind fun r10 =>
   if y0.worker = r10.2.1.worker then
   (adW ({ y1 with m := r9.2.1 } : EnvP) (⟨13, y0.worker, r10.1.1, 0, 0⟩ : Ev)).bind fun r11 =>
   if r10.2.1.n = 1 then
   (acO r10.2.1).bind fun r12 =>
   (aba r12.2.1.o 1 r12.1.1).bind fun r13 =>
   some ((r13.1.1, ()), (({ r12.2.1 with o := r13.2.1 } : RemoveV), r11.2.1, ()))
   else
   (acC r10.2.1).bind fun r14 =>
   some ((false, ()), (({ r14.2.1 with line := r14.1.1 } : RemoveV), r11.2.1, ()))
   else none
   else none
   else none
   else none
   else none
   else none
   else none
   else none
   else none
   else none
   else none
  else none
 else none
noncomputable abbrev afI : Con SR1 := ⟨263, [.ref 51, .ref 27], [.sh .b], fun x => ael x.1 x.2.1⟩
theorem aiR : CO Tryz.prog afI := aai aah Tryz.func263 [aj1, acq, acr, ard, adC, adY, afe, ac5] ⟨ajm, abD, abu, arc, ac3, afH, aee, ad6, trivial⟩ [] trivial (fun _ => []) [] fun x => by kernel_rfl
noncomputable def abx (y0 : RemoveV) (y1 : EnvP) : Option ((Bool × Unit) × (RemoveV × EnvP × Unit)) :=
 (aau y0.o).bind fun r1 =>
 if r1.1.1 = true then
  some ((true, ()), (({ y0 with o := r1.2.1 } : RemoveV), y1, ()))
 else
 if y1.l.workers = y1.l.workers then
  if y1.l.levels = y1.l.levels then
   if y1.l.classes = y1.l.classes then
   if y1.l.tasks = y1.l.tasks then
   if y1.l.deque = y1.l.deque then
   if y1.l.heap = y1.l.heap then
   if y1.l.sleepers = y1.l.sleepers then
   if y1.l.epochs = y1.l.epochs then
   if y1.l.bitmaps = y1.l.bitmaps then
   if y1.l.queues = y1.l.queues then
   if y1.l.table = y1.l.table then
   if y0.line = 5 then
   (anU y1.l (wi ((wi (2 * y0.i)) + 1))).bind fun r2 =>
   (aco y1.m r2.1.1).bind fun r3 =>
   (abV ({ y0 with o := r1.2.1, c := wi ((wi (2 * y0.i)) + 1), z := r3.1.1 } : RemoveV)).bind fun r4 =>
   if (wi (r4.2.1.c + 1)) < (wi (r4.2.1.n - 1)) then
   some ((false, ()), (({ r4.2.1 with line := 6 } : RemoveV), ({ y1 with m := r3.2.1 } : EnvP), ()))
   else
   some ((false, ()), (({ r4.2.1 with line := r4.1.1 } : RemoveV), ({ y1 with m := r3.2.1 } : EnvP), ()))
   else
   if y0.line = 6 then
   (anU y1.l (wi ((wi (2 * y0.i)) + 2))).bind fun r5 =>
   (aco y1.m r5.1.1).bind fun r6 =>
   if r6.1.1 < y0.z then
   (abV ({ y0 with o := r1.2.1, c := wi ((wi (2 * y0.i)) + 2), z := r6.1.1 } : RemoveV)).bind fun r7 =>
   some ((false, ()), (({ r7.2.1 with line := r7.1.1 } : RemoveV), ({ y1 with m := r6.2.1 } : EnvP), ()))
   else
   (abV ({ y0 with o := r1.2.1 } : RemoveV)).bind fun r8 =>
   some ((false, ()), (({ r8.2.1 with line := r8.1.1 } : RemoveV), ({ y1 with m := r6.2.1 } : EnvP), ()))
   else
   if y0.line = 7 then
   (anU y1.l y0.i).bind fun r9 =>
   if y0.z = y0.z then
   (aa2 y1.m r9.1.1 y0.z).bind fun r10 =>
   (acC ({ y0 with o := r1.2.1, i := y0.c } : RemoveV)).bind fun r11 =>
   some ((false, ()), (({ r11.2.1 with line := r11.1.1 } : RemoveV), ({ y1 with m := r10.2.1 } : EnvP), ()))
   else none
   else
   if y0.line = 8 then
   (anU y1.l y0.i).bind fun r12 =>
   if y0.y = y0.y then
   (aa2 y1.m r12.1.1 y0.y).bind fun r13 =>
   (acO ({ y0 with o := r1.2.1 } : RemoveV)).bind fun r14 =>
   (aba r14.2.1.o 1 r14.1.1).bind fun r15 =>
   some ((r15.1.1, ()), (({ r14.2.1 with o := r15.2.1 } : RemoveV), ({ y1 with m := r13.2.1 } : EnvP), ()))
   else none
   else
   (ael ({ y0 with o := r1.2.1 } : RemoveV) y1).bind fun r16 =>
   some ((r16.1.1, ()), (r16.2.1, r16.2.2.1, ()))
   else none
   else none
   else none
   else none
   else none
   else none
   else none
   else none
   else none
  else none
 else none
noncomputable abbrev akp : Con SR1 := ⟨259, [.ref 51, .ref 27], [.sh .b], fun x => abx x.1 x.2.1⟩
theorem aju : CO Tryz.prog akp := aai aah Tryz.func259 [abj, ard, acq, aeP, adC, ac5, adY, acr, afI] ⟨aa4, arc, abD, ahH, ac3, ad6, afH, abu, aiR, trivial⟩ [] trivial (fun _ => []) [] fun x => by kernel_rfl
noncomputable def agh (y0 : SleepV) (y1 : EnvP) : Option ((Unit) × (SleepV × EnvP × Unit)) :=
 (ahd y1.l y0.v).bind fun r1 =>
 (aco y1.m r1.1.1).bind fun r2 =>
 if r2.1.1 ≠ 0 then
  some ((()), (({ y0 with line := 7 } : SleepV), ({ y1 with m := r2.2.1 } : EnvP), ()))
 else
 if y1.c.workers ≤ (wi (y0.v + 1)) then
  (adW ({ y1 with m := r2.2.1 } : EnvP) (⟨16, y0.worker, 0, 0, 0⟩ : Ev)).bind fun r3 =>
  (arf r3.2.1.k).bind fun r4 =>
  some ((()), (({ y0 with line := 5, v := wi (y0.v + 1), since := r4.1.1 } : SleepV), ({ r3.2.1 with k := r4.2.1 } : EnvP), ()))
 else
 some ((()), (({ y0 with v := wi (y0.v + 1) } : SleepV), ({ y1 with m := r2.2.1 } : EnvP), ()))
noncomputable abbrev ajg : Con SR1 := ⟨167, [.ref 32, .ref 27], [], fun x => agh x.1 x.2.1⟩
theorem anT : CO Tryz.prog ajg := aai aah Tryz.func167 [agI, acq, afe, ant] ⟨agt, abD, aee, akT, trivial⟩ [] trivial (fun _ => []) [] fun x => by kernel_rfl
noncomputable def agf (y0 : SleepV) (y1 : EnvP) : Option ((Unit) × (SleepV × EnvP × Unit)) :=
 (aqn y1.l y0.worker).bind fun r1 =>
 (aco y1.m r1.1.1).bind fun r2 =>
 if r2.1.1 ≠ y0.ep then
  (adW ({ y1 with m := r2.2.1 } : EnvP) (⟨17, y0.worker, 0, 1, 0⟩ : Ev)).bind fun r3 =>
  some ((()), (({ y0 with line := 6 } : SleepV), r3.2.1, ()))
 else
 (arf y1.k).bind fun r4 =>
 if y1.c.patience = y1.c.patience then
  if y0.since = y0.since then
   if y1.c.patience ≤ (wi (r4.1.1 - y0.since)) then
   (adW ({ y1 with m := r2.2.1, k := r4.2.1 } : EnvP) (⟨17, y0.worker, 0, 2, 0⟩ : Ev)).bind fun r5 =>
   some ((()), (({ y0 with line := 6 } : SleepV), r5.2.1, ()))
   else
   some ((()), (y0, ({ y1 with m := r2.2.1, k := r4.2.1 } : EnvP), ()))
  else none
 else none
noncomputable abbrev ajf : Con SR1 := ⟨168, [.ref 32, .ref 27], [], fun x => agf x.1 x.2.1⟩
theorem anQ : CO Tryz.prog ajf := aai aah Tryz.func168 [aoi, acq, afe, ant] ⟨ao8, abD, aee, akT, trivial⟩ [] trivial (fun _ => []) [] fun x => by kernel_rfl
noncomputable def acK (y0 : SleepV) (y1 : EnvP) : Option ((Bool × Unit) × (SleepV × EnvP × Unit)) :=
 (aau y0.o).bind fun r1 =>
 if r1.1.1 = true then
  some ((true, ()), (({ y0 with o := r1.2.1 } : SleepV), y1, ()))
 else
 if y0.line = 1 then
  (aqn y1.l y0.worker).bind fun r2 =>
  (aco y1.m r2.1.1).bind fun r3 =>
  some ((false, ()), (({ y0 with o := r1.2.1, line := 2, ep := r3.1.1 } : SleepV), ({ y1 with m := r3.2.1 } : EnvP), ()))
 else
 if y0.line = 2 then
  ((
   if y1.c.classes < 1 then
   if y0.worker = y0.worker then
   (azs y0.worker).bind fun r4 =>
   (pOr y1.m (-1) r4.1.1).bind fun r5 =>
   some (({ y1 with m := r5.2.1 } : EnvP), ())
   else none
   else
   (azr y0.worker y1.c.classes).bind fun r6 =>
   if y1.l.workers = y1.l.workers then
   if y1.l.levels = y1.l.levels then
   if y1.l.classes = y1.l.classes then
   if y1.l.tasks = y1.l.tasks then
   if y1.l.deque = y1.l.deque then
   if y1.l.heap = y1.l.heap then
   if y1.l.sleepers = y1.l.sleepers then
   if y1.l.epochs = y1.l.epochs then
   if y1.l.bitmaps = y1.l.bitmaps then
   if y1.l.queues = y1.l.queues then
   if y1.l.table = y1.l.table then
   (agG y1.l r6.1.1).bind fun r7 =>
   if y0.worker = y0.worker then
   (azs y0.worker).bind fun r8 =>
   (pOr y1.m r7.1.1 r8.1.1).bind fun r9 =>
   some (({ y1 with m := r9.2.1 } : EnvP), ())
   else none
   else none
   else none
   else none
   else none
   else none
   else none
   else none
   else none
   else none
   else none
   else none
  ) : Option (EnvP × Unit)).bind fun z10 =>
  some ((false, ()), (({ y0 with o := r1.2.1, line := 3 } : SleepV), z10.1, ()))
 else
 if y0.line = 3 then
  (af5 y1.l).bind fun r11 =>
  (aco y1.m r11.1.1).bind fun r12 =>
  if r12.1.1 ≠ 0 then
   some ((false, ()), (({ y0 with o := r1.2.1, line := 7 } : SleepV), ({ y1 with m := r12.2.1 } : EnvP), ()))
  else
  some ((false, ()), (({ y0 with o := r1.2.1, line := 4 } : SleepV), ({ y1 with m := r12.2.1 } : EnvP), ()))
 else
 if y0.line = 4 then
  (agh ({ y0 with o := r1.2.1 } : SleepV) y1).bind fun r13 =>
  some ((false, ()), (r13.2.1, r13.2.2.1, ()))
 else
 if y0.line = 5 then
  (agf ({ y0 with o := r1.2.1 } : SleepV) y1).bind fun r14 =>
  some ((false, ()), (r14.2.1, r14.2.2.1, ()))
 else
 ((
  if y1.c.classes < 1 then
   if y0.worker = y0.worker then
   (azs y0.worker).bind fun r15 =>
   (aBx y1.m (-1) (aA5 r15.1.1)).bind fun r16 =>
   some (({ y1 with m := r16.2.1 } : EnvP), ())
   else none
  else
  (azr y0.worker y1.c.classes).bind fun r17 =>
  if y1.l.workers = y1.l.workers then
   if y1.l.levels = y1.l.levels then
   if y1.l.classes = y1.l.classes then
   if y1.l.tasks = y1.l.tasks then
   if y1.l.deque = y1.l.deque then
   if y1.l.heap = y1.l.heap then
   if y1.l.sleepers = y1.l.sleepers then
   if y1.l.epochs = y1.l.epochs then
   if y1.l.bitmaps = y1.l.bitmaps then
   if y1.l.queues = y1.l.queues then
   if y1.l.table = y1.l.table then
   (agG y1.l r17.1.1).bind fun r18 =>
   if y0.worker = y0.worker then
   (azs y0.worker).bind fun r19 =>
   (aBx y1.m r18.1.1 (aA5 r19.1.1)).bind fun r20 =>
   some (({ y1 with m := r20.2.1 } : EnvP), ())
   else none
   else none
   else none
   else none
   else none
   else none
   else none
   else none
   else none
   else none
   else none
  else none
 ) : Option (EnvP × Unit)).bind fun z21 =>
 if y0.line = 6 then
  (aba r1.2.1 1 0).bind fun r22 =>
  some ((r22.1.1, ()), (({ y0 with o := r22.2.1 } : SleepV), z21.1, ()))
 else
 (aba r1.2.1 5 0).bind fun r23 =>
 some ((r23.1.1, ()), (({ y0 with o := r23.2.1 } : SleepV), z21.1, ()))
noncomputable abbrev ao5 : Con SR1 := ⟨162, [.ref 32, .ref 27], [.sh .b], fun x => acK x.1 x.2.1⟩
noncomputable def anR : List (Nat × Func) := [(165, Tryz.f165)]
theorem anS : CO Tryz.prog ao5 := aai aah Tryz.func162 [abj, aoi, acq, as0, aAf, asX, akS, aj1, ajg, ajf, avz, acr] ⟨aa4, ao8, abD, arm, axM, arh, ans, ajm, anT, anQ, aue, abu, trivial⟩ anR ⟨Tryz.func165, trivial⟩ (fun _ => []) [(13, .cut [.ob 1 27] [0]), (5, .cut [.ob 1 27] [0])] fun x => by kernel_rfl
noncomputable def ac8 (y0 : WakeV) (y1 : EnvP) : Option ((Bool × Unit) × (WakeV × EnvP × Unit)) :=
 (aau y0.o).bind fun r1 =>
 if r1.1.1 = true then
  some ((true, ()), (({ y0 with o := r1.2.1 } : WakeV), y1, ()))
 else
 if y0.line = 1 then
  ((
   if y1.c.classes < 1 then
   (aco y1.m (-1)).bind fun r2 =>
   some (r2.1.1, ({ y1 with m := r2.2.1 } : EnvP), ())
   else
   (asZ y0.level y1.c.levels y1.c.classes).bind fun r3 =>
   if y1.c.classes = y1.c.classes then
   if y0.j = y0.j then
   if y1.l.workers = y1.l.workers then
   if y1.l.levels = y1.l.levels then
   if y1.l.classes = y1.l.classes then
   if y1.l.tasks = y1.l.tasks then
   if y1.l.deque = y1.l.deque then
   if y1.l.heap = y1.l.heap then
   if y1.l.sleepers = y1.l.sleepers then
   if y1.l.epochs = y1.l.epochs then
   if y1.l.bitmaps = y1.l.bitmaps then
   if y1.l.queues = y1.l.queues then
   if y1.l.table = y1.l.table then
   (azr (wi (r3.1.1 + y0.j)) y1.c.classes).bind fun r4 =>
   if y1.l.workers = y1.l.workers then
   if y1.l.levels = y1.l.levels then
   if y1.l.classes = y1.l.classes then
   if y1.l.tasks = y1.l.tasks then
   if y1.l.deque = y1.l.deque then
   if y1.l.heap = y1.l.heap then
   if y1.l.sleepers = y1.l.sleepers then
   if y1.l.epochs = y1.l.epochs then
   if y1.l.bitmaps = y1.l.bitmaps then
   if y1.l.queues = y1.l.queues then
   if y1.l.table = y1.l.table then
   (agG y1.l r4.1.1).bind fun r5 =>
   (aco y1.m r5.1.1).bind fun r6 =>
   some (r6.1.1, ({ y1 with m := r6.2.1 } : EnvP), ())
   else none
   else none
   else none
   else none
   else none
   else none
   else none
   else none
   else none
   else none
   else none
   else none
   else none
   else none
   else none
   else none
   else none
   else none
   else none
   else none
   else none
   else none
   else none
   else none
  ) : Option (Int × EnvP × Unit)).bind fun z7 =>
  if z7.1 ≠ 0 then
   (aFY z7.1).bind fun r8 =>
   some ((false, ()), (({ y0 with o := r1.2.1, line := 2, v := r8.1.1 } : WakeV), z7.2.1, ()))
  else
  if z7.2.1.c.classes ≤ (wi (y0.j + 1)) then
   (aba r1.2.1 2 0).bind fun r9 =>
   some ((r9.1.1, ()), (({ y0 with o := r9.2.1, j := wi (y0.j + 1) } : WakeV), z7.2.1, ()))
  else
  some ((false, ()), (({ y0 with o := r1.2.1, j := wi (y0.j + 1) } : WakeV), z7.2.1, ()))
 else
 if y0.line = 2 then
  (azs y0.v).bind fun r10 =>
  ((
   if y1.c.classes < 1 then
   (aBx y1.m (-1) (aA5 r10.1.1)).bind fun r11 =>
   some (decide ((aot r11.1.1 r10.1.1) = 0), ({ y1 with m := r11.2.1 } : EnvP), ())
   else
   (asZ y0.level y1.c.levels y1.c.classes).bind fun r12 =>
   if y1.c.classes = y1.c.classes then
   if y0.j = y0.j then
   if y1.l.workers = y1.l.workers then
   if y1.l.levels = y1.l.levels then
   if y1.l.classes = y1.l.classes then
   if y1.l.tasks = y1.l.tasks then
   if y1.l.deque = y1.l.deque then
   if y1.l.heap = y1.l.heap then
   if y1.l.sleepers = y1.l.sleepers then
   if y1.l.epochs = y1.l.epochs then
   if y1.l.bitmaps = y1.l.bitmaps then
   if y1.l.queues = y1.l.queues then
   if y1.l.table = y1.l.table then
   (azr (wi (r12.1.1 + y0.j)) y1.c.classes).bind fun r13 =>
   if y1.l.workers = y1.l.workers then
   if y1.l.levels = y1.l.levels then
   if y1.l.classes = y1.l.classes then
   if y1.l.tasks = y1.l.tasks then
   if y1.l.deque = y1.l.deque then
   if y1.l.heap = y1.l.heap then
   if y1.l.sleepers = y1.l.sleepers then
   if y1.l.epochs = y1.l.epochs then
   if y1.l.bitmaps = y1.l.bitmaps then
   if y1.l.queues = y1.l.queues then
   if y1.l.table = y1.l.table then
   (agG y1.l r13.1.1).bind fun r14 =>
   (aBx y1.m r14.1.1 (aA5 r10.1.1)).bind fun r15 =>
   some (decide ((aot r15.1.1 r10.1.1) = 0), ({ y1 with m := r15.2.1 } : EnvP), ())
   else none
   else none
   else none
   else none
   else none
   else none
   else none
   else none
   else none
   else none
   else none
   else none
   else none
   else none
   else none
   else none
   else none
   else none
   else none
   else none
   else none
   else none
   else none
   else none
  ) : Option (Bool × EnvP × Unit)).bind fun z16 =>
  if z16.1 = true then
   (aba r1.2.1 4 0).bind fun r17 =>
   some ((r17.1.1, ()), (({ y0 with o := r17.2.1 } : WakeV), z16.2.1, ()))
  else
  some ((false, ()), (({ y0 with o := r1.2.1, line := 3 } : WakeV), z16.2.1, ()))
 else
 (aqn y1.l y0.v).bind fun r18 =>
 (aDY y1.m r18.1.1 1).bind fun r19 =>
 (adW ({ y1 with m := r19.2.1 } : EnvP) (⟨18, y0.me, 0, y0.v, 0⟩ : Ev)).bind fun r20 =>
 (aba r1.2.1 1 y0.v).bind fun r21 =>
 some ((r21.1.1, ()), (({ y0 with o := r21.2.1 } : WakeV), r20.2.1, ()))
noncomputable abbrev ap1 : Con SR1 := ⟨193, [.ref 38, .ref 27], [.sh .b], fun x => ac8 x.1 x.2.1⟩
noncomputable def ao3 : List (Nat × Func) := [(194, Tryz.f194)]
theorem ao4 : CO Tryz.prog ap1 := aai aah Tryz.func193 [abj, acq, avw, asX, akS, aBw, acr, as0, avz, aoi, avA, afe] ⟨aa4, abD, axR, arh, ans, aCP, abu, arm, aue, ao8, auf, aee, trivial⟩ ao3 ⟨Tryz.func194, trivial⟩ (fun _ => []) [(9, .cut [.rg 5 sU_, .ob 1 27] [0]), (18, .cut [.rg 108 .b, .ob 1 27] [0])] fun x => by kernel_rfl
noncomputable def ajJ (y0 : EnvP) (y1 : Int) (y2 : Int) : Option ((Bool × Unit) × (EnvP × Unit)) :=
 if 0 ≤ y1 then
  if y1 < y0.c.tasks then
   if 0 ≤ y2 then
   some ((decide (y2 < y0.c.levels), ()), (y0, ()))
   else
   some ((false, ()), (y0, ()))
  else
  some ((false, ()), (y0, ()))
 else
 some ((false, ()), (y0, ()))
noncomputable abbrev ak5 : Con SR1 := ⟨269, [.ref 27, .sh sI_, .sh sI_], [.sh .b], fun x => ajJ x.1 x.2.1 x.2.2.1⟩
theorem anC : CO Tryz.prog ak5 := aai aah Tryz.func269 [] trivial [] trivial (fun _ => []) [] fun x => by kernel_rfl
noncomputable def ack (y0 : RaiseV) (y1 : EnvP) : Option ((Bool × Unit) × (RaiseV × EnvP × Unit)) :=
 (aau y0.o).bind fun r1 =>
 if r1.1.1 = true then
  some ((true, ()), (({ y0 with o := r1.2.1 } : RaiseV), y1, ()))
 else
 (ajJ y1 y0.task y0.level).bind fun r2 =>
 if (!r2.1.1) = true then
  (aba r1.2.1 4 0).bind fun r3 =>
  some ((r3.1.1, ()), (({ y0 with o := r3.2.1 } : RaiseV), r2.2.1, ()))
 else
 if y0.line = 1 then
  (ae5 r2.2.1.l y0.task).bind fun r4 =>
  (aco r2.2.1.m r4.1.1).bind fun r5 =>
  if y0.level ≤ (wi (r5.1.1)) then
   (aba r1.2.1 0 0).bind fun r6 =>
   some ((r6.1.1, ()), (({ y0 with o := r6.2.1, q := r5.1.1 } : RaiseV), ({ r2.2.1 with m := r5.2.1 } : EnvP), ()))
  else
  some ((false, ()), (({ y0 with o := r1.2.1, line := 2, q := r5.1.1 } : RaiseV), ({ r2.2.1 with m := r5.2.1 } : EnvP), ()))
 else
 (ae5 r2.2.1.l y0.task).bind fun r7 =>
 if y0.level = y0.level then
  if y0.q = y0.q then
   (ask r2.2.1.m r7.1.1 y0.q (wu (y0.level))).bind fun r8 =>
   if r8.1.1 = true then
   (adW ({ r2.2.1 with m := r8.2.1 } : EnvP) ({ y0 with kind := 11, other := 0 } : Ev)).bind fun r9 =>
   (aba r1.2.1 1 0).bind fun r10 =>
   some ((r10.1.1, ()), (({ y0 with o := r10.2.1 } : RaiseV), r9.2.1, ()))
   else
   some ((false, ()), (({ y0 with o := r1.2.1, line := 1 } : RaiseV), ({ r2.2.1 with m := r8.2.1 } : EnvP), ()))
  else none
 else none
noncomputable abbrev an7 : Con SR1 := ⟨283, [.ref 55, .ref 27], [.sh .b], fun x => ack x.1 x.2.1⟩
theorem am7 : CO Tryz.prog an7 := aai aah Tryz.func283 [abj, ak5, acr, agj, acq, alL, afe] ⟨aa4, anC, abu, afC, abD, ajn, aee, trivial⟩ [] trivial (fun _ => []) [] fun x => by kernel_rfl
noncomputable def ai7 (m : MV) (e : EnvP) : Option ((Bool × Unit) × (MV × EnvP × Unit)) :=
 match m with
 | .alloc x => (abK x e).bind fun o => some (o.1, (MV.alloc o.2.1, o.2.2))
 | .publish x => (abC x e).bind fun o => some (o.1, (MV.publish o.2.1, o.2.2))
 | .claim x => (acS x e).bind fun o => some (o.1, (MV.claim o.2.1, o.2.2))
 | .attempt x => (acv x e).bind fun o => some (o.1, (MV.attempt o.2.1, o.2.2))
 | .release x => (acu x e).bind fun o => some (o.1, (MV.release o.2.1, o.2.2))
 | .opush x => (adi x e).bind fun o => some (o.1, (MV.opush o.2.1, o.2.2))
 | .opop x => (adJ x e).bind fun o => some (o.1, (MV.opop o.2.1, o.2.2))
 | .steal x => (acR x e).bind fun o => some (o.1, (MV.steal o.2.1, o.2.2))
 | .set x => (adm x e).bind fun o => some (o.1, (MV.set o.2.1, o.2.2))
 | .reset x => (acx x e).bind fun o => some (o.1, (MV.reset o.2.1, o.2.2))
 | .insert x => (aby x e).bind fun o => some (o.1, (MV.insert o.2.1, o.2.2))
 | .remove x => (abx x e).bind fun o => some (o.1, (MV.remove o.2.1, o.2.2))
 | .sleep x => (acK x e).bind fun o => some (o.1, (MV.sleep o.2.1, o.2.2))
 | .wake x => (ac8 x e).bind fun o => some (o.1, (MV.wake o.2.1, o.2.2))
 | .raise x => (ack x e).bind fun o => some (o.1, (MV.raise o.2.1, o.2.2))
 | .probe x => (abg x e).bind fun o => some (o.1, (MV.probe o.2.1, o.2.2))
 | _ => none
noncomputable abbrev aqT : Con SR1 := ⟨1000000000, [.mch, .ref 27], [.sh .b], fun x => ai7 x.1 x.2.1⟩
theorem aax (m : MV) (xs : ak7 SR1 [.ref 27]) (out : ak9 SR1 [.sh .b] × (MV × ajP SR1 [.ref 27])) (h : ai7 m xs.1 = some out) : aqc SR1 Tryz.prog 0 [.ref 27] [.sh .b] m xs out := by
  cases m with
  | alloc x => exact aa6 (S := SR1) (ps := [.ref 27]) (rs := [.sh .b]) (c := 35) (mk := MV.alloc) (fun _ => rfl) rfl (fun _ _ _ _ => by kernel_rfl) akk h
  | publish x => exact aa6 (S := SR1) (ps := [.ref 27]) (rs := [.sh .b]) (c := 50) (mk := MV.publish) (fun _ => rfl) rfl (fun _ _ _ _ => by kernel_rfl) akM h
  | claim x => exact aa6 (S := SR1) (ps := [.ref 27]) (rs := [.sh .b]) (c := 45) (mk := MV.claim) (fun _ => rfl) rfl (fun _ _ _ _ => by kernel_rfl) amu h
  | attempt x => exact aa6 (S := SR1) (ps := [.ref 27]) (rs := [.sh .b]) (c := 34) (mk := MV.attempt) (fun _ => rfl) rfl (fun _ _ _ _ => by kernel_rfl) alV h
  | release x => exact aa6 (S := SR1) (ps := [.ref 27]) (rs := [.sh .b]) (c := 37) (mk := MV.release) (fun _ => rfl) rfl (fun _ _ _ _ => by kernel_rfl) alU h
  | opush x => exact aa6 (S := SR1) (ps := [.ref 27]) (rs := [.sh .b]) (c := 53) (mk := MV.opush) (fun _ => rfl) rfl (fun _ _ _ _ => by kernel_rfl) anW h
  | opop x => exact aa6 (S := SR1) (ps := [.ref 27]) (rs := [.sh .b]) (c := 52) (mk := MV.opop) (fun _ => rfl) rfl (fun _ _ _ _ => by kernel_rfl) apd h
  | steal x => exact aa6 (S := SR1) (ps := [.ref 27]) (rs := [.sh .b]) (c := 42) (mk := MV.steal) (fun _ => rfl) rfl (fun _ _ _ _ => by kernel_rfl) amr h
  | set x => exact aa6 (S := SR1) (ps := [.ref 27]) (rs := [.sh .b]) (c := 54) (mk := MV.set) (fun _ => rfl) rfl (fun _ _ _ _ => by kernel_rfl) an8 h
  | reset x => exact aa6 (S := SR1) (ps := [.ref 27]) (rs := [.sh .b]) (c := 43) (mk := MV.reset) (fun _ => rfl) rfl (fun _ _ _ _ => by kernel_rfl) amk h
  | insert x => exact aa6 (S := SR1) (ps := [.ref 27]) (rs := [.sh .b]) (c := 36) (mk := MV.insert) (fun _ => rfl) rfl (fun _ _ _ _ => by kernel_rfl) ajv h
  | remove x => exact aa6 (S := SR1) (ps := [.ref 27]) (rs := [.sh .b]) (c := 51) (mk := MV.remove) (fun _ => rfl) rfl (fun _ _ _ _ => by kernel_rfl) aju h
  | sleep x => exact aa6 (S := SR1) (ps := [.ref 27]) (rs := [.sh .b]) (c := 32) (mk := MV.sleep) (fun _ => rfl) rfl (fun _ _ _ _ => by kernel_rfl) anS h
  | wake x => exact aa6 (S := SR1) (ps := [.ref 27]) (rs := [.sh .b]) (c := 38) (mk := MV.wake) (fun _ => rfl) rfl (fun _ _ _ _ => by kernel_rfl) ao4 h
  | raise x => exact aa6 (S := SR1) (ps := [.ref 27]) (rs := [.sh .b]) (c := 55) (mk := MV.raise) (fun _ => rfl) rfl (fun _ _ _ _ => by kernel_rfl) am7 h
  | probe x => exact aa6 (S := SR1) (ps := [.ref 27]) (rs := [.sh .b]) (c := 46) (mk := MV.probe) (fun _ => rfl) rfl (fun _ _ _ _ => by kernel_rfl) amK h
  | _ => cases h
theorem asx : CO Tryz.prog aqT := ajB (S := SR1) (i := 0) (ps := [.ref 27]) (rs := [.sh .b]) (spec := fun m xs => ai7 m xs.1) aax
noncomputable def aeM (m : MV) : Option ((Int × Int × Unit) × (MV × Unit)) :=
 match m with
 | .alloc x => some ((x.o.code, x.o.value, ()), (MV.alloc x, ()))
 | .publish x => some ((x.o.code, x.o.value, ()), (MV.publish x, ()))
 | .claim x => some ((x.o.code, x.o.value, ()), (MV.claim x, ()))
 | .attempt x => some ((x.o.code, x.o.value, ()), (MV.attempt x, ()))
 | .release x => some ((x.o.code, x.o.value, ()), (MV.release x, ()))
 | .opush x => some ((x.o.code, x.o.value, ()), (MV.opush x, ()))
 | .opop x => some ((x.o.code, x.o.value, ()), (MV.opop x, ()))
 | .steal x => some ((x.o.code, x.o.value, ()), (MV.steal x, ()))
 | .set x => some ((x.o.code, x.o.value, ()), (MV.set x, ()))
 | .reset x => some ((x.o.code, x.o.value, ()), (MV.reset x, ()))
 | .insert x => some ((x.o.code, x.o.value, ()), (MV.insert x, ()))
 | .remove x => some ((x.o.code, x.o.value, ()), (MV.remove x, ()))
 | .sleep x => some ((x.o.code, x.o.value, ()), (MV.sleep x, ()))
 | .wake x => some ((x.o.code, x.o.value, ()), (MV.wake x, ()))
 | .raise x => some ((x.o.code, x.o.value, ()), (MV.raise x, ()))
 | .probe x => some ((x.o.code, x.o.value, ()), (MV.probe x, ()))
 | _ => none
noncomputable abbrev amD : Con SR1 := ⟨1000000001, [.mch], [.sh sI_, .sh sI_], fun x => aeM x.1⟩
theorem aal (m : MV) (xs : ak7 SR1 []) (out : ak9 SR1 [.sh sI_, .sh sI_] × (MV × ajP SR1 [])) (h : aeM m = some out) : aqc SR1 Tryz.prog 1 [] [.sh sI_, .sh sI_] m xs out := by
  cases m with
  | alloc x => exact aa6 (S := SR1) (ps := []) (rs := [.sh sI_, .sh sI_]) (c := 35) (mk := MV.alloc) (f := 161) (sp := fun x => some ((x.1.o.code, x.1.o.value, ()), (x.1, ()))) (fun _ => rfl) rfl (fun _ _ _ _ => by kernel_rfl) (acf [aaX] ⟨aaQ, trivial⟩ fun x => by kernel_rfl) h
  | publish x => exact aa6 (S := SR1) (ps := []) (rs := [.sh sI_, .sh sI_]) (c := 50) (mk := MV.publish) (f := 161) (sp := fun x => some ((x.1.o.code, x.1.o.value, ()), (x.1, ()))) (fun _ => rfl) rfl (fun _ _ _ _ => by kernel_rfl) (acf [aaX] ⟨aaQ, trivial⟩ fun x => by kernel_rfl) h
  | claim x => exact aa6 (S := SR1) (ps := []) (rs := [.sh sI_, .sh sI_]) (c := 45) (mk := MV.claim) (f := 161) (sp := fun x => some ((x.1.o.code, x.1.o.value, ()), (x.1, ()))) (fun _ => rfl) rfl (fun _ _ _ _ => by kernel_rfl) (acf [aaX] ⟨aaQ, trivial⟩ fun x => by kernel_rfl) h
  | attempt x => exact aa6 (S := SR1) (ps := []) (rs := [.sh sI_, .sh sI_]) (c := 34) (mk := MV.attempt) (f := 161) (sp := fun x => some ((x.1.o.code, x.1.o.value, ()), (x.1, ()))) (fun _ => rfl) rfl (fun _ _ _ _ => by kernel_rfl) (acf [aaX] ⟨aaQ, trivial⟩ fun x => by kernel_rfl) h
  | release x => exact aa6 (S := SR1) (ps := []) (rs := [.sh sI_, .sh sI_]) (c := 37) (mk := MV.release) (f := 161) (sp := fun x => some ((x.1.o.code, x.1.o.value, ()), (x.1, ()))) (fun _ => rfl) rfl (fun _ _ _ _ => by kernel_rfl) (acf [aaX] ⟨aaQ, trivial⟩ fun x => by kernel_rfl) h
  | opush x => exact aa6 (S := SR1) (ps := []) (rs := [.sh sI_, .sh sI_]) (c := 53) (mk := MV.opush) (f := 161) (sp := fun x => some ((x.1.o.code, x.1.o.value, ()), (x.1, ()))) (fun _ => rfl) rfl (fun _ _ _ _ => by kernel_rfl) (acf [aaX] ⟨aaQ, trivial⟩ fun x => by kernel_rfl) h
  | opop x => exact aa6 (S := SR1) (ps := []) (rs := [.sh sI_, .sh sI_]) (c := 52) (mk := MV.opop) (f := 161) (sp := fun x => some ((x.1.o.code, x.1.o.value, ()), (x.1, ()))) (fun _ => rfl) rfl (fun _ _ _ _ => by kernel_rfl) (acf [aaX] ⟨aaQ, trivial⟩ fun x => by kernel_rfl) h
  | steal x => exact aa6 (S := SR1) (ps := []) (rs := [.sh sI_, .sh sI_]) (c := 42) (mk := MV.steal) (f := 161) (sp := fun x => some ((x.1.o.code, x.1.o.value, ()), (x.1, ()))) (fun _ => rfl) rfl (fun _ _ _ _ => by kernel_rfl) (acf [aaX] ⟨aaQ, trivial⟩ fun x => by kernel_rfl) h
  | set x => exact aa6 (S := SR1) (ps := []) (rs := [.sh sI_, .sh sI_]) (c := 54) (mk := MV.set) (f := 161) (sp := fun x => some ((x.1.o.code, x.1.o.value, ()), (x.1, ()))) (fun _ => rfl) rfl (fun _ _ _ _ => by kernel_rfl) (acf [aaX] ⟨aaQ, trivial⟩ fun x => by kernel_rfl) h
  | reset x => exact aa6 (S := SR1) (ps := []) (rs := [.sh sI_, .sh sI_]) (c := 43) (mk := MV.reset) (f := 161) (sp := fun x => some ((x.1.o.code, x.1.o.value, ()), (x.1, ()))) (fun _ => rfl) rfl (fun _ _ _ _ => by kernel_rfl) (acf [aaX] ⟨aaQ, trivial⟩ fun x => by kernel_rfl) h
  | insert x => exact aa6 (S := SR1) (ps := []) (rs := [.sh sI_, .sh sI_]) (c := 36) (mk := MV.insert) (f := 161) (sp := fun x => some ((x.1.o.code, x.1.o.value, ()), (x.1, ()))) (fun _ => rfl) rfl (fun _ _ _ _ => by kernel_rfl) (acf [aaX] ⟨aaQ, trivial⟩ fun x => by kernel_rfl) h
  | remove x => exact aa6 (S := SR1) (ps := []) (rs := [.sh sI_, .sh sI_]) (c := 51) (mk := MV.remove) (f := 161) (sp := fun x => some ((x.1.o.code, x.1.o.value, ()), (x.1, ()))) (fun _ => rfl) rfl (fun _ _ _ _ => by kernel_rfl) (acf [aaX] ⟨aaQ, trivial⟩ fun x => by kernel_rfl) h
  | sleep x => exact aa6 (S := SR1) (ps := []) (rs := [.sh sI_, .sh sI_]) (c := 32) (mk := MV.sleep) (f := 161) (sp := fun x => some ((x.1.o.code, x.1.o.value, ()), (x.1, ()))) (fun _ => rfl) rfl (fun _ _ _ _ => by kernel_rfl) (acf [aaX] ⟨aaQ, trivial⟩ fun x => by kernel_rfl) h
  | wake x => exact aa6 (S := SR1) (ps := []) (rs := [.sh sI_, .sh sI_]) (c := 38) (mk := MV.wake) (f := 161) (sp := fun x => some ((x.1.o.code, x.1.o.value, ()), (x.1, ()))) (fun _ => rfl) rfl (fun _ _ _ _ => by kernel_rfl) (acf [aaX] ⟨aaQ, trivial⟩ fun x => by kernel_rfl) h
  | raise x => exact aa6 (S := SR1) (ps := []) (rs := [.sh sI_, .sh sI_]) (c := 55) (mk := MV.raise) (f := 161) (sp := fun x => some ((x.1.o.code, x.1.o.value, ()), (x.1, ()))) (fun _ => rfl) rfl (fun _ _ _ _ => by kernel_rfl) (acf [aaX] ⟨aaQ, trivial⟩ fun x => by kernel_rfl) h
  | probe x => exact aa6 (S := SR1) (ps := []) (rs := [.sh sI_, .sh sI_]) (c := 46) (mk := MV.probe) (f := 161) (sp := fun x => some ((x.1.o.code, x.1.o.value, ()), (x.1, ()))) (fun _ => rfl) rfl (fun _ _ _ _ => by kernel_rfl) (acf [aaX] ⟨aaQ, trivial⟩ fun x => by kernel_rfl) h
  | _ => cases h
theorem aoZ : CO Tryz.prog amD := ajB (S := SR1) (i := 1) (ps := []) (rs := [.sh sI_, .sh sI_]) (spec := fun m _ => aeM m) aal
noncomputable def apc (y0 : QV) (y1 : Int) : Option ((MV × Unit) × (Unit)) :=
 some ((MV.opush (⟨⟨false, 0, 0⟩, y0, y1, 1, 0⟩ : OPushV), ()), (()))
noncomputable abbrev apa : Con SR1 := ⟨256, [.val 14, .sh sI_], [.sh .mach], fun x => apc x.1 x.2.1⟩
theorem as1 : CO Tryz.prog apa := aai aah Tryz.func256 [] trivial [] trivial (fun _ => []) [] fun x => by kernel_rfl
noncomputable def ajL (y0 : Int) (y1 : Int) : Option ((MV × Unit) × (Unit)) :=
 some ((MV.set (⟨⟨false, 0, 0⟩, y0, y1⟩ : SetV), ()), (()))
noncomputable abbrev apS : Con SR1 := ⟨257, [.sh sI_, .sh sI_], [.sh .mach], fun x => ajL x.1 x.2.1⟩
theorem atC : CO Tryz.prog apS := aai aah Tryz.func257 [] trivial [] trivial (fun _ => []) [] fun x => by kernel_rfl
noncomputable def ach (y0 : (LPushV MV)) (y1 : EnvP) : Option ((Bool × Unit) × ((LPushV MV) × EnvP × Unit)) :=
 (aau y0.o).bind fun r1 =>
 if r1.1.1 = true then
  some ((true, ()), (({ y0 with o := r1.2.1 } : (LPushV MV)), y1, ()))
 else
 if (SR1.spl y0.inside).isNone = true then
  (agH y1.l y0.worker y0.level).bind fun r2 =>
  if y0.value = y0.value then
   (apc r2.1.1 y0.value).bind fun r3 =>
   (ai7 r3.1.1 y1).bind fun r4 =>
   if (!r4.1.1) = true then
   some ((false, ()), (({ y0 with o := r1.2.1, inside := r4.2.1 } : (LPushV MV)), r4.2.2.1, ()))
   else
   (aeM r4.2.1).bind fun r5 =>
   if r5.1.1 = 3 then
   (aba r1.2.1 3 0).bind fun r6 =>
   some ((r6.1.1, ()), (({ y0 with o := r6.2.1, inside := r5.2.1 } : (LPushV MV)), r4.2.2.1, ()))
   else
   if y0.line = 2 then
   (aba r1.2.1 0 0).bind fun r7 =>
   some ((r7.1.1, ()), (({ y0 with o := r7.2.1, inside := r5.2.1 } : (LPushV MV)), r4.2.2.1, ()))
   else
   (ahd r4.2.2.1.l y0.worker).bind fun r8 =>
   if y0.level = y0.level then
   (ajL r8.1.1 y0.level).bind fun r9 =>
   some ((false, ()), (({ y0 with o := r1.2.1, line := 2, inside := r9.1.1 } : (LPushV MV)), r4.2.2.1, ()))
   else none
  else none
 else
 (ai7 y0.inside y1).bind fun r10 =>
 if (!r10.1.1) = true then
  some ((false, ()), (({ y0 with o := r1.2.1, inside := r10.2.1 } : (LPushV MV)), r10.2.2.1, ()))
 else
 (aeM r10.2.1).bind fun r11 =>
 if r11.1.1 = 3 then
  (aba r1.2.1 3 0).bind fun r12 =>
  some ((r12.1.1, ()), (({ y0 with o := r12.2.1, inside := r11.2.1 } : (LPushV MV)), r10.2.2.1, ()))
 else
 if y0.line = 2 then
  (aba r1.2.1 0 0).bind fun r13 =>
  some ((r13.1.1, ()), (({ y0 with o := r13.2.1, inside := r11.2.1 } : (LPushV MV)), r10.2.2.1, ()))
 else
 (ahd r10.2.2.1.l y0.worker).bind fun r14 =>
 if y0.level = y0.level then
  (ajL r14.1.1 y0.level).bind fun r15 =>
  some ((false, ()), (({ y0 with o := r1.2.1, line := 2, inside := r15.1.1 } : (LPushV MV)), r10.2.2.1, ()))
 else none
noncomputable abbrev anX : Con SR1 := ⟨255, [.ref 47, .ref 27], [.sh .b], fun x => ach x.1 x.2.1⟩
theorem amY : CO Tryz.prog anX := aai aah Tryz.func255 [abj, aj0, apa, aqT, amD, acr, agI, apS] ⟨aa4, ajk, as1, asx, aoZ, abu, agt, atC, trivial⟩ [] trivial (fun _ => []) [] fun x => by kernel_rfl
noncomputable def arp (y0 : QV) : Option ((MV × Unit) × (Unit)) :=
 some ((MV.opop (⟨⟨false, 0, 0⟩, y0, 1, 0, 0⟩ : OPopV), ()), (()))
noncomputable abbrev aqr : Con SR1 := ⟨245, [.val 14], [.sh .mach], fun x => arp x.1⟩
theorem aug : CO Tryz.prog aqr := aai aah Tryz.func245 [] trivial [] trivial (fun _ => []) [] fun x => by kernel_rfl
noncomputable def aic (y0 : (LPopV MV)) (y1 : EnvP) : Option ((Bool × Unit) × ((LPopV MV) × EnvP × Unit)) :=
 (ahd y1.l y0.worker).bind fun r1 =>
 (aco y1.m r1.1.1).bind fun r2 =>
 if r2.1.1 = 0 then
  (aba y0.o 2 0).bind fun r3 =>
  some ((r3.1.1, ()), (({ y0 with o := r3.2.1 } : (LPopV MV)), ({ y1 with m := r2.2.1 } : EnvP), ()))
 else
 (agT r2.1.1).bind fun r4 =>
 (agH y1.l y0.worker r4.1.1).bind fun r5 =>
 (arp r5.1.1).bind fun r6 =>
 some ((false, ()), (({ y0 with level := r4.1.1, line := 2, inside := r6.1.1 } : (LPopV MV)), ({ y1 with m := r2.2.1 } : EnvP), ()))
noncomputable abbrev ajr : Con SR1 := ⟨243, [.ref 44, .ref 27], [.sh .b], fun x => aic x.1 x.2.1⟩
theorem anZ : CO Tryz.prog ajr := aai aah Tryz.func243 [agI, acq, acr, aua, aj0, aqr] ⟨agt, abD, abu, avu, ajk, aug, trivial⟩ [] trivial (fun _ => []) [] fun x => by kernel_rfl
noncomputable def agS (y0 : Int) (y1 : Int) (y2 : QV) : Option ((MV × Unit) × (Unit)) :=
 some ((MV.reset (⟨⟨false, 0, 0⟩, y0, y1, y2, 1, 0⟩ : ResetV), ()), (()))
noncomputable abbrev aiv : Con SR1 := ⟨153, [.sh sI_, .sh sI_, .val 14], [.sh .mach], fun x => agS x.1 x.2.1 x.2.2.1⟩
theorem akJ : CO Tryz.prog aiv := aai aah Tryz.func153 [] trivial [] trivial (fun _ => []) [] fun x => by kernel_rfl
noncomputable def acN (y0 : (LPopV MV)) (y1 : EnvP) : Option ((Bool × Unit) × ((LPopV MV) × EnvP × Unit)) :=
 (aau y0.o).bind fun r1 =>
 if r1.1.1 = true then
  some ((true, ()), (({ y0 with o := r1.2.1 } : (LPopV MV)), y1, ()))
 else
 if y0.line = 1 then
  (aic ({ y0 with o := r1.2.1 } : (LPopV MV)) y1).bind fun r2 =>
  some ((r2.1.1, ()), (r2.2.1, r2.2.2.1, ()))
 else
 (ai7 y0.inside y1).bind fun r3 =>
 if (!r3.1.1) = true then
  some ((false, ()), (({ y0 with o := r1.2.1, inside := r3.2.1 } : (LPopV MV)), r3.2.2.1, ()))
 else
 (aeM r3.2.1).bind fun r4 =>
 if y0.line = 3 then
  some ((false, ()), (({ y0 with o := r1.2.1, line := 1, inside := MV.nil } : (LPopV MV)), r3.2.2.1, ()))
 else
 if r4.1.1 = 1 then
  (aba r1.2.1 1 r4.1.2.1).bind fun r5 =>
  some ((r5.1.1, ()), (({ y0 with o := r5.2.1, inside := r4.2.1 } : (LPopV MV)), r3.2.2.1, ()))
 else
 (ahd r3.2.2.1.l y0.worker).bind fun r6 =>
 if y0.level = y0.level then
  if y0.worker = y0.worker then
   if r3.2.2.1.l.workers = r3.2.2.1.l.workers then
   if r3.2.2.1.l.levels = r3.2.2.1.l.levels then
   if r3.2.2.1.l.classes = r3.2.2.1.l.classes then
   if r3.2.2.1.l.tasks = r3.2.2.1.l.tasks then
   if r3.2.2.1.l.deque = r3.2.2.1.l.deque then
   if r3.2.2.1.l.heap = r3.2.2.1.l.heap then
   if r3.2.2.1.l.sleepers = r3.2.2.1.l.sleepers then
   if r3.2.2.1.l.epochs = r3.2.2.1.l.epochs then
   if r3.2.2.1.l.bitmaps = r3.2.2.1.l.bitmaps then
   if r3.2.2.1.l.queues = r3.2.2.1.l.queues then
   if r3.2.2.1.l.table = r3.2.2.1.l.table then
   if y0.level = y0.level then
   (agH r3.2.2.1.l y0.worker y0.level).bind fun r7 =>
   if y0.level = y0.level then
   (agS r6.1.1 y0.level r7.1.1).bind fun r8 =>
   some ((false, ()), (({ y0 with o := r1.2.1, line := 3, inside := r8.1.1 } : (LPopV MV)), r3.2.2.1, ()))
   else none
   else none
   else none
   else none
   else none
   else none
   else none
   else none
   else none
   else none
   else none
   else none
   else none
  else none
 else none
noncomputable abbrev apm : Con SR1 := ⟨242, [.ref 44, .ref 27], [.sh .b], fun x => acN x.1 x.2.1⟩
theorem anY : CO Tryz.prog apm := aai aah Tryz.func242 [abj, ajr, aqT, amD, acr, agI, aj0, aiv] ⟨aa4, anZ, asx, aoZ, abu, agt, ajk, akJ, trivial⟩ [] trivial (fun _ => []) [] fun x => by kernel_rfl
noncomputable def adA (m : MV) (e : EnvP) : Option ((Bool × Unit) × (MV × EnvP × Unit)) :=
 match m with
 | .alloc x => (abK x e).bind fun o => some (o.1, (MV.alloc o.2.1, o.2.2))
 | .publish x => (abC x e).bind fun o => some (o.1, (MV.publish o.2.1, o.2.2))
 | .claim x => (acS x e).bind fun o => some (o.1, (MV.claim o.2.1, o.2.2))
 | .attempt x => (acv x e).bind fun o => some (o.1, (MV.attempt o.2.1, o.2.2))
 | .release x => (acu x e).bind fun o => some (o.1, (MV.release o.2.1, o.2.2))
 | .opush x => (adi x e).bind fun o => some (o.1, (MV.opush o.2.1, o.2.2))
 | .opop x => (adJ x e).bind fun o => some (o.1, (MV.opop o.2.1, o.2.2))
 | .steal x => (acR x e).bind fun o => some (o.1, (MV.steal o.2.1, o.2.2))
 | .set x => (adm x e).bind fun o => some (o.1, (MV.set o.2.1, o.2.2))
 | .reset x => (acx x e).bind fun o => some (o.1, (MV.reset o.2.1, o.2.2))
 | .insert x => (aby x e).bind fun o => some (o.1, (MV.insert o.2.1, o.2.2))
 | .remove x => (abx x e).bind fun o => some (o.1, (MV.remove o.2.1, o.2.2))
 | .sleep x => (acK x e).bind fun o => some (o.1, (MV.sleep o.2.1, o.2.2))
 | .wake x => (ac8 x e).bind fun o => some (o.1, (MV.wake o.2.1, o.2.2))
 | .raise x => (ack x e).bind fun o => some (o.1, (MV.raise o.2.1, o.2.2))
 | .probe x => (abg x e).bind fun o => some (o.1, (MV.probe o.2.1, o.2.2))
 | .lpush x => (ach x e).bind fun o => some (o.1, (MV.lpush o.2.1, o.2.2))
 | .lpop x => (acN x e).bind fun o => some (o.1, (MV.lpop o.2.1, o.2.2))
 | _ => none
noncomputable abbrev ah2 : Con SR1 := ⟨1000000000, [.mch, .ref 27], [.sh .b], fun x => adA x.1 x.2.1⟩
theorem alg (m : MV) (xs : ak7 SR1 [.ref 27]) (out : ak9 SR1 [.sh .b] × (MV × ajP SR1 [.ref 27])) (h : adA m xs.1 = some out) : aqc SR1 Tryz.prog 0 [.ref 27] [.sh .b] m xs out := by
  cases m with
  | alloc x => exact aax (.alloc x) xs out h
  | publish x => exact aax (.publish x) xs out h
  | claim x => exact aax (.claim x) xs out h
  | attempt x => exact aax (.attempt x) xs out h
  | release x => exact aax (.release x) xs out h
  | opush x => exact aax (.opush x) xs out h
  | opop x => exact aax (.opop x) xs out h
  | steal x => exact aax (.steal x) xs out h
  | set x => exact aax (.set x) xs out h
  | reset x => exact aax (.reset x) xs out h
  | insert x => exact aax (.insert x) xs out h
  | remove x => exact aax (.remove x) xs out h
  | sleep x => exact aax (.sleep x) xs out h
  | wake x => exact aax (.wake x) xs out h
  | raise x => exact aax (.raise x) xs out h
  | probe x => exact aax (.probe x) xs out h
  | lpush x => exact aa6 (S := SR1) (ps := [.ref 27]) (rs := [.sh .b]) (c := 47) (mk := MV.lpush) (fun _ => rfl) rfl (fun _ _ _ _ => by kernel_rfl) amY h
  | lpop x => exact aa6 (S := SR1) (ps := [.ref 27]) (rs := [.sh .b]) (c := 44) (mk := MV.lpop) (fun _ => rfl) rfl (fun _ _ _ _ => by kernel_rfl) anY h
  | _ => cases h
theorem aho : CO Tryz.prog ah2 := ajB (S := SR1) (i := 0) (ps := [.ref 27]) (rs := [.sh .b]) (spec := fun m xs => adA m xs.1) alg
noncomputable def abq (m : MV) : Option ((Int × Int × Unit) × (MV × Unit)) :=
 match m with
 | .alloc x => some ((x.o.code, x.o.value, ()), (MV.alloc x, ()))
 | .publish x => some ((x.o.code, x.o.value, ()), (MV.publish x, ()))
 | .claim x => some ((x.o.code, x.o.value, ()), (MV.claim x, ()))
 | .attempt x => some ((x.o.code, x.o.value, ()), (MV.attempt x, ()))
 | .release x => some ((x.o.code, x.o.value, ()), (MV.release x, ()))
 | .opush x => some ((x.o.code, x.o.value, ()), (MV.opush x, ()))
 | .opop x => some ((x.o.code, x.o.value, ()), (MV.opop x, ()))
 | .steal x => some ((x.o.code, x.o.value, ()), (MV.steal x, ()))
 | .set x => some ((x.o.code, x.o.value, ()), (MV.set x, ()))
 | .reset x => some ((x.o.code, x.o.value, ()), (MV.reset x, ()))
 | .insert x => some ((x.o.code, x.o.value, ()), (MV.insert x, ()))
 | .remove x => some ((x.o.code, x.o.value, ()), (MV.remove x, ()))
 | .sleep x => some ((x.o.code, x.o.value, ()), (MV.sleep x, ()))
 | .wake x => some ((x.o.code, x.o.value, ()), (MV.wake x, ()))
 | .raise x => some ((x.o.code, x.o.value, ()), (MV.raise x, ()))
 | .probe x => some ((x.o.code, x.o.value, ()), (MV.probe x, ()))
 | .lpush x => some ((x.o.code, x.o.value, ()), (MV.lpush x, ()))
 | .lpop x => some ((x.o.code, x.o.value, ()), (MV.lpop x, ()))
 | _ => none
noncomputable abbrev afd : Con SR1 := ⟨1000000001, [.mch], [.sh sI_, .sh sI_], fun x => abq x.1⟩
theorem ahA (m : MV) (xs : ak7 SR1 []) (out : ak9 SR1 [.sh sI_, .sh sI_] × (MV × ajP SR1 [])) (h : abq m = some out) : aqc SR1 Tryz.prog 1 [] [.sh sI_, .sh sI_] m xs out := by
  cases m with
  | alloc x => exact aal (.alloc x) xs out h
  | publish x => exact aal (.publish x) xs out h
  | claim x => exact aal (.claim x) xs out h
  | attempt x => exact aal (.attempt x) xs out h
  | release x => exact aal (.release x) xs out h
  | opush x => exact aal (.opush x) xs out h
  | opop x => exact aal (.opop x) xs out h
  | steal x => exact aal (.steal x) xs out h
  | set x => exact aal (.set x) xs out h
  | reset x => exact aal (.reset x) xs out h
  | insert x => exact aal (.insert x) xs out h
  | remove x => exact aal (.remove x) xs out h
  | sleep x => exact aal (.sleep x) xs out h
  | wake x => exact aal (.wake x) xs out h
  | raise x => exact aal (.raise x) xs out h
  | probe x => exact aal (.probe x) xs out h
  | lpush x => exact aa6 (S := SR1) (ps := []) (rs := [.sh sI_, .sh sI_]) (c := 47) (mk := MV.lpush) (f := 161) (sp := fun x => some ((x.1.o.code, x.1.o.value, ()), (x.1, ()))) (fun _ => rfl) rfl (fun _ _ _ _ => by kernel_rfl) (acf [aaX] ⟨aaQ, trivial⟩ fun x => by kernel_rfl) h
  | lpop x => exact aa6 (S := SR1) (ps := []) (rs := [.sh sI_, .sh sI_]) (c := 44) (mk := MV.lpop) (f := 161) (sp := fun x => some ((x.1.o.code, x.1.o.value, ()), (x.1, ()))) (fun _ => rfl) rfl (fun _ _ _ _ => by kernel_rfl) (acf [aaX] ⟨aaQ, trivial⟩ fun x => by kernel_rfl) h
  | _ => cases h
theorem afc : CO Tryz.prog afd := ajB (S := SR1) (i := 1) (ps := []) (rs := [.sh sI_, .sh sI_]) (spec := fun m _ => abq m) ahA
noncomputable def am8 (y0 : Int) (y1 : Int) (y2 : Int) : Option ((MV × Unit) × (Unit)) :=
 some ((MV.raise (⟨⟨false, 0, 0⟩, y0, y1, y2, 1, 0⟩ : RaiseV), ()), (()))
noncomputable abbrev anB : Con SR1 := ⟨270, [.sh sI_, .sh sI_, .sh sI_], [.sh .mach], fun x => am8 x.1 x.2.1 x.2.2.1⟩
theorem ar4 : CO Tryz.prog anB := aai aah Tryz.func270 [] trivial [] trivial (fun _ => []) [] fun x => by kernel_rfl
noncomputable def ad9 (y0 : (WalkV MV)) (y1 : EnvP) : Option ((Bool × Unit) × ((WalkV MV) × EnvP × Unit)) :=
 if (SR1.spl y0.inside).isNone = true then
  (ajJ y1 y0.task y0.level).bind fun r1 =>
  if (!r1.1.1) = true then
   (aba y0.o 4 0).bind fun r2 =>
   some ((r2.1.1, ()), (({ y0 with o := r2.2.1 } : (WalkV MV)), r1.2.1, ()))
  else
  (am8 y0.worker y0.task y0.level).bind fun r3 =>
  (adA r3.1.1 r1.2.1).bind fun r4 =>
  if (!r4.1.1) = true then
   some ((false, ()), (({ y0 with inside := r4.2.1 } : (WalkV MV)), r4.2.2.1, ()))
  else
  (abq r4.2.1).bind fun r5 =>
  if r5.1.1 = 1 then
   some ((false, ()), (({ y0 with line := 2, inside := MV.nil } : (WalkV MV)), r4.2.2.1, ()))
  else
  some ((false, ()), (({ y0 with line := 4, inside := MV.nil } : (WalkV MV)), r4.2.2.1, ()))
 else
 (adA y0.inside y1).bind fun r6 =>
 if (!r6.1.1) = true then
  some ((false, ()), (({ y0 with inside := r6.2.1 } : (WalkV MV)), r6.2.2.1, ()))
 else
 (abq r6.2.1).bind fun r7 =>
 if r7.1.1 = 1 then
  some ((false, ()), (({ y0 with line := 2, inside := MV.nil } : (WalkV MV)), r6.2.2.1, ()))
 else
 some ((false, ()), (({ y0 with line := 4, inside := MV.nil } : (WalkV MV)), r6.2.2.1, ()))
noncomputable abbrev aiK : Con SR1 := ⟨267, [.ref 48, .ref 27], [.sh .b], fun x => ad9 x.1 x.2.1⟩
theorem am6 : CO Tryz.prog aiK := aai aah Tryz.func267 [ak5, acr, anB, ah2, afd] ⟨anC, abu, ar4, aho, afc, trivial⟩ [] trivial (fun _ => []) [] fun x => by kernel_rfl
noncomputable def acp (y0 : Int) (y1 : Int) (y2 : Int) : Option ((MV × Unit) × (Unit)) :=
 some ((MV.lpush (⟨⟨false, 0, 0⟩, y0, y1, y2, 1, MV.nil⟩ : (LPushV MV)), ()), (()))
noncomputable abbrev aeu : Con SR1 := ⟨204, [.sh sI_, .sh sI_, .sh sI_], [.sh .mach], fun x => acp x.1 x.2.1 x.2.2.1⟩
theorem aeO : CO Tryz.prog aeu := aai aah Tryz.func204 [] trivial [] trivial (fun _ => []) [] fun x => by kernel_rfl
noncomputable def aiu (y0 : (WalkV MV)) (y1 : EnvP) : Option ((Unit) × ((WalkV MV) × EnvP × Unit)) :=
 (adA y0.inside y1).bind fun r1 =>
 if (!r1.1.1) = true then
  some ((()), (({ y0 with inside := r1.2.1 } : (WalkV MV)), r1.2.2.1, ()))
 else
 (abq r1.2.1).bind fun r2 =>
 if r2.1.1 = 3 then
  (adW r1.2.2.1 ({ y0 with kind := 19, other := 0 } : Ev)).bind fun r3 =>
  some ((()), (({ y0 with line := 4, inside := MV.nil } : (WalkV MV)), r3.2.1, ()))
 else
 some ((()), (({ y0 with line := 4, inside := MV.nil } : (WalkV MV)), r1.2.2.1, ()))
noncomputable abbrev ajH : Con SR1 := ⟨268, [.ref 48, .ref 27], [], fun x => aiu x.1 x.2.1⟩
theorem an6 : CO Tryz.prog ajH := aai aah Tryz.func268 [ah2, afd, afe] ⟨aho, afc, aee, trivial⟩ [] trivial (fun _ => []) [] fun x => by kernel_rfl
noncomputable def abQ (y0 : (WalkV MV)) (y1 : EnvP) : Option ((Bool × Unit) × ((WalkV MV) × EnvP × Unit)) :=
 (aau y0.o).bind fun r1 =>
 if r1.1.1 = true then
  some ((true, ()), (({ y0 with o := r1.2.1 } : (WalkV MV)), y1, ()))
 else
 if y0.line = 1 then
  (ad9 ({ y0 with o := r1.2.1 } : (WalkV MV)) y1).bind fun r2 =>
  some ((r2.1.1, ()), (r2.2.1, r2.2.2.1, ()))
 else
 if y0.line = 2 then
  (aer y1.l y0.task).bind fun r3 =>
  (aco y1.m r3.1.1).bind fun r4 =>
  if r4.1.1 = 1 then
   (acp y0.worker y0.level y0.task).bind fun r5 =>
   some ((false, ()), (({ y0 with o := r1.2.1, line := 3, inside := r5.1.1 } : (WalkV MV)), ({ y1 with m := r4.2.1 } : EnvP), ()))
  else
  some ((false, ()), (({ y0 with o := r1.2.1, line := 4 } : (WalkV MV)), ({ y1 with m := r4.2.1 } : EnvP), ()))
 else
 if y0.line = 3 then
  (aiu ({ y0 with o := r1.2.1 } : (WalkV MV)) y1).bind fun r6 =>
  some ((false, ()), (r6.2.1, r6.2.2.1, ()))
 else
 (ajh y1.l y0.task).bind fun r7 =>
 (aco y1.m r7.1.1).bind fun r8 =>
 if r8.1.1 = 0 then
  (aba r1.2.1 0 0).bind fun r9 =>
  some ((r9.1.1, ()), (({ y0 with o := r9.2.1 } : (WalkV MV)), ({ y1 with m := r8.2.1 } : EnvP), ()))
 else
 some ((false, ()), (({ y0 with o := r1.2.1, task := wi (wu (r8.1.1 - 1)), line := 1 } : (WalkV MV)), ({ y1 with m := r8.2.1 } : EnvP), ()))
noncomputable abbrev apR : Con SR1 := ⟨266, [.ref 48, .ref 27], [.sh .b], fun x => abQ x.1 x.2.1⟩
theorem an5 : CO Tryz.prog apR := aai aah Tryz.func266 [abj, aiK, agi, acq, aeu, ajH, aog, acr] ⟨aa4, am6, afB, abD, aeO, an6, ao7, abu, trivial⟩ [] trivial (fun _ => []) [] fun x => by kernel_rfl
noncomputable def afF (y0 : Int) : Option ((MV × Unit) × (Unit)) :=
 some ((MV.lpop (⟨⟨false, 0, 0⟩, y0, 0, 1, MV.nil⟩ : (LPopV MV)), ()), (()))
noncomputable abbrev akV : Con SR1 := ⟨156, [.sh sI_], [.sh .mach], fun x => afF x.1⟩
theorem anu : CO Tryz.prog akV := aai aah Tryz.func156 [] trivial [] trivial (fun _ => []) [] fun x => by kernel_rfl
noncomputable def acn (y0 : Int) (y1 : Int) : Option ((MV × Unit) × (Unit)) :=
 some ((MV.claim (⟨⟨false, 0, 0⟩, y0, y1⟩ : ClaimV), ()), (()))
noncomputable abbrev afz : Con SR1 := ⟨157, [.sh sI_, .sh sI_], [.sh .mach], fun x => acn x.1 x.2.1⟩
theorem agc : CO Tryz.prog afz := aai aah Tryz.func157 [] trivial [] trivial (fun _ => []) [] fun x => by kernel_rfl
noncomputable def aeq (y0 : (TakeV MV)) (y1 : EnvP) : Option ((Bool × Unit) × ((TakeV MV) × EnvP × Unit)) :=
 (aau y0.o).bind fun r1 =>
 if r1.1.1 = true then
  some ((true, ()), (({ y0 with o := r1.2.1 } : (TakeV MV)), y1, ()))
 else
 (adA y0.inside y1).bind fun r2 =>
 if (!r2.1.1) = true then
  some ((false, ()), (({ y0 with o := r1.2.1, inside := r2.2.1 } : (TakeV MV)), r2.2.2.1, ()))
 else
 (abq r2.2.1).bind fun r3 =>
 if y0.claiming = true then
  if r3.1.1 = 1 then
   (aba r1.2.1 1 r3.1.2.1).bind fun r4 =>
   some ((r4.1.1, ()), (({ y0 with o := r4.2.1, inside := r3.2.1 } : (TakeV MV)), r2.2.2.1, ()))
  else
  if y0.claiming = true then
   (afF y0.worker).bind fun r5 =>
   some ((false, ()), ((⟨r1.2.1, y0.worker, false, r5.1.1⟩ : (TakeV MV)), r2.2.2.1, ()))
  else
  if r3.1.1 = 2 then
   (aba r1.2.1 2 0).bind fun r6 =>
   some ((r6.1.1, ()), (({ y0 with o := r6.2.1, inside := r3.2.1 } : (TakeV MV)), r2.2.2.1, ()))
  else
  (acn y0.worker r3.1.2.1).bind fun r7 =>
  some ((false, ()), ((⟨r1.2.1, y0.worker, true, r7.1.1⟩ : (TakeV MV)), r2.2.2.1, ()))
 else
 if y0.claiming = true then
  (afF y0.worker).bind fun r8 =>
  some ((false, ()), ((⟨r1.2.1, y0.worker, false, r8.1.1⟩ : (TakeV MV)), r2.2.2.1, ()))
 else
 if r3.1.1 = 2 then
  (aba r1.2.1 2 0).bind fun r9 =>
  some ((r9.1.1, ()), (({ y0 with o := r9.2.1, inside := r3.2.1 } : (TakeV MV)), r2.2.2.1, ()))
 else
 (acn y0.worker r3.1.2.1).bind fun r10 =>
 some ((false, ()), ((⟨r1.2.1, y0.worker, true, r10.1.1⟩ : (TakeV MV)), r2.2.2.1, ()))
noncomputable abbrev apZ : Con SR1 := ⟨199, [.ref 39, .ref 27], [.sh .b], fun x => aeq x.1 x.2.1⟩
theorem aoL : CO Tryz.prog apZ := aai aah Tryz.func199 [abj, ah2, afd, acr, akV, afz] ⟨aa4, aho, afc, abu, anu, agc, trivial⟩ [] trivial (fun _ => []) [] fun x => by kernel_rfl
noncomputable def abv (y0 : (SweepV MV)) (y1 : EnvP) : Option ((Bool × Unit) × ((SweepV MV) × EnvP × Unit)) :=
 if y0.line = 1 then
  ((
   if y0.task < 0 then
   some (true, y0, y1, ())
   else
   if y1.c.tasks ≤ y0.task then
   some (true, y0, y1, ())
   else
   some (decide (y1.c.age = 0), y0, y1, ())
  ) : Option (Bool × (SweepV MV) × EnvP × Unit)).bind fun z1 =>
  if z1.1 = true then
   some ((true, ()), (z1.2.1, z1.2.2.1, ()))
  else
  (aer z1.2.2.1.l z1.2.1.task).bind fun r2 =>
  (aco z1.2.2.1.m r2.1.1).bind fun r3 =>
  some ((decide (r3.1.1 ≠ 1), ()), (z1.2.1, ({ z1.2.2.1 with m := r3.2.1 } : EnvP), ()))
 else
 if y0.line = 2 then
  (aiF y1.l y0.task).bind fun r4 =>
  (aco y1.m r4.1.1).bind fun r5 =>
  (arf y1.k).bind fun r6 =>
  if y1.c.age = y1.c.age then
   some ((decide ((wi (r6.1.1 - (wi (r5.1.1)))) < y1.c.age), ()), (y0, ({ y1 with m := r5.2.1, k := r6.2.1 } : EnvP), ()))
  else none
 else
 (ae5 y1.l y0.task).bind fun r7 =>
 (aco y1.m r7.1.1).bind fun r8 =>
 some ((decide ((wi (y1.c.levels - 1)) ≤ (wi (r8.1.1))), ()), (({ y0 with q := r8.1.1 } : (SweepV MV)), ({ y1 with m := r8.2.1 } : EnvP), ()))
noncomputable abbrev aiL : Con SR1 := ⟨202, [.ref 40, .ref 27], [.sh .b], fun x => abv x.1 x.2.1⟩
theorem ang : CO Tryz.prog aiL := aai aah Tryz.func202 [agi, acq, ajZ, ant, agj] ⟨afB, abD, aji, akT, afC, trivial⟩ [] trivial (fun _ => []) [(4, .cut [.rg 36 .b, .ob 0 40, .ob 1 27] [])] fun x => by kernel_rfl
noncomputable def abB (y0 : (SweepV MV)) (y1 : Int) : Option ((Ev × Unit) × ((SweepV MV) × Unit)) :=
 some ((({ y0 with kind := y1, other := 0, level := wi ((wi (y0.q)) + 1) } : Ev), ()), (y0, ()))
noncomputable abbrev ahS : Con SR1 := ⟨203, [.ref 40, .sh sI_], [.val 2], fun x => abB x.1 x.2.1⟩
theorem amm : CO Tryz.prog ahS := aai aah Tryz.func203 [] trivial [] trivial (fun _ => []) [] fun x => by kernel_rfl
noncomputable def aay (y0 : (SweepV MV)) (y1 : EnvP) : Option ((Bool × Unit) × ((SweepV MV) × EnvP × Unit)) :=
 (aau y0.o).bind fun r1 =>
 if r1.1.1 = true then
  some ((true, ()), (({ y0 with o := r1.2.1 } : (SweepV MV)), y1, ()))
 else
 if y0.line = 1 then
  if y0.line = 1 then
   (abv ({ y0 with o := r1.2.1 } : (SweepV MV)) y1).bind fun r2 =>
   if r2.1.1 = true then
   (aba r2.2.1.o 0 0).bind fun r3 =>
   some ((r3.1.1, ()), (({ r2.2.1 with o := r3.2.1 } : (SweepV MV)), r2.2.2.1, ()))
   else
   some ((false, ()), (({ r2.2.1 with line := wi (r2.2.1.line + 1) } : (SweepV MV)), r2.2.2.1, ()))
  else
  if y0.line = 4 then
   (ae5 y1.l y0.task).bind fun r4 =>
   if y0.q = y0.q then
   if y0.q = y0.q then
   (ask y1.m r4.1.1 y0.q (wu (y0.q + 1))).bind fun r5 =>
   if (!r5.1.1) = true then
   (aba r1.2.1 4 0).bind fun r6 =>
   some ((r6.1.1, ()), (({ y0 with o := r6.2.1 } : (SweepV MV)), ({ y1 with m := r5.2.1 } : EnvP), ()))
   else
   (abB ({ y0 with o := r1.2.1 } : (SweepV MV)) 12).bind fun r7 =>
   (adW ({ y1 with m := r5.2.1 } : EnvP) r7.1.1).bind fun r8 =>
   some ((false, ()), (({ r7.2.1 with line := wi (r7.2.1.line + 1) } : (SweepV MV)), r8.2.1, ()))
   else none
   else none
  else
  if y0.line = 5 then
   (aiF y1.l y0.task).bind fun r9 =>
   (arf y1.k).bind fun r10 =>
   (aa2 y1.m r9.1.1 (wu (r10.1.1))).bind fun r11 =>
   (acp y0.worker (wi ((wi (y0.q)) + 1)) y0.task).bind fun r12 =>
   some ((false, ()), (({ y0 with o := r1.2.1, line := wi (y0.line + 1), push := r12.1.1 } : (SweepV MV)), ({ y1 with m := r11.2.1, k := r10.2.1 } : EnvP), ()))
  else
  (adA y0.push y1).bind fun r13 =>
  if (!r13.1.1) = true then
   some ((false, ()), (({ y0 with o := r1.2.1, push := r13.2.1 } : (SweepV MV)), r13.2.2.1, ()))
  else
  (abq r13.2.1).bind fun r14 =>
  if r14.1.1 = 3 then
   (abB ({ y0 with o := r1.2.1, push := r14.2.1 } : (SweepV MV)) 19).bind fun r15 =>
   (adW r13.2.2.1 r15.1.1).bind fun r16 =>
   (aba r15.2.1.o 1 0).bind fun r17 =>
   some ((r17.1.1, ()), (({ r15.2.1 with o := r17.2.1 } : (SweepV MV)), r16.2.1, ()))
  else
  (aba r1.2.1 1 0).bind fun r18 =>
  some ((r18.1.1, ()), (({ y0 with o := r18.2.1, push := r14.2.1 } : (SweepV MV)), r13.2.2.1, ()))
 else
 if y0.line = 2 then
  if y0.line = 2 then
   (abv ({ y0 with o := r1.2.1 } : (SweepV MV)) y1).bind fun r19 =>
   if r19.1.1 = true then
   (aba r19.2.1.o 0 0).bind fun r20 =>
   some ((r20.1.1, ()), (({ r19.2.1 with o := r20.2.1 } : (SweepV MV)), r19.2.2.1, ()))
   else
   some ((false, ()), (({ r19.2.1 with line := wi (r19.2.1.line + 1) } : (SweepV MV)), r19.2.2.1, ()))
  else
  if y0.line = 4 then
   (ae5 y1.l y0.task).bind fun r21 =>
   if y0.q = y0.q then
   if y0.q = y0.q then
   (ask y1.m r21.1.1 y0.q (wu (y0.q + 1))).bind fun r22 =>
   if (!r22.1.1) = true then
   (aba r1.2.1 4 0).bind fun r23 =>
   some ((r23.1.1, ()), (({ y0 with o := r23.2.1 } : (SweepV MV)), ({ y1 with m := r22.2.1 } : EnvP), ()))
   else
   (abB ({ y0 with o := r1.2.1 } : (SweepV MV)) 12).bind fun r24 =>
   (adW ({ y1 with m := r22.2.1 } : EnvP) r24.1.1).bind fun r25 =>
   some ((false, ()), (({ r24.2.1 with line := wi (r24.2.1.line + 1) } : (SweepV MV)), r25.2.1, ()))
   else none
   else none
  else
  if y0.line = 5 then
   (aiF y1.l y0.task).bind fun r26 =>
   (arf y1.k).bind fun r27 =>
   (aa2 y1.m r26.1.1 (wu (r27.1.1))).bind fun r28 =>
   (acp y0.worker (wi ((wi (y0.q)) + 1)) y0.task).bind fun r29 =>
   some ((false, ()), (({ y0 with o := r1.2.1, line := wi (y0.line + 1), push := r29.1.1 } : (SweepV MV)), ({ y1 with m := r28.2.1, k := r27.2.1 } : EnvP), ()))
  else
  (adA y0.push y1).bind fun r30 =>
  if (!r30.1.1) = true then
   some ((false, ()), (({ y0 with o := r1.2.1, push := r30.2.1 } : (SweepV MV)), r30.2.2.1, ()))
  else
  (abq r30.2.1).bind fun r31 =>
  if r31.1.1 = 3 then
   (abB ({ y0 with o := r1.2.1, push := r31.2.1 } : (SweepV MV)) 19).bind fun r32 =>
   (adW r30.2.2.1 r32.1.1).bind fun r33 =>
   (aba r32.2.1.o 1 0).bind fun r34 =>
   some ((r34.1.1, ()), (({ r32.2.1 with o := r34.2.1 } : (SweepV MV)), r33.2.1, ()))
  else
  (aba r1.2.1 1 0).bind fun r35 =>
  some ((r35.1.1, ()), (({ y0 with o := r35.2.1, push := r31.2.1 } : (SweepV MV)), r30.2.2.1, ()))
 else
 if y0.line = 3 then
  (abv ({ y0 with o := r1.2.1 } : (SweepV MV)) y1).bind fun r36 =>
  if r36.1.1 = true then
   (aba r36.2.1.o 0 0).bind fun r37 =>
   some ((r37.1.1, ()), (({ r36.2.1 with o := r37.2.1 } : (SweepV MV)), r36.2.2.1, ()))
  else
  some ((false, ()), (({ r36.2.1 with line := wi (r36.2.1.line + 1) } : (SweepV MV)), r36.2.2.1, ()))
 else
 if y0.line = 4 then
  (ae5 y1.l y0.task).bind fun r38 =>
  if y0.q = y0.q then
   if y0.q = y0.q then
   (ask y1.m r38.1.1 y0.q (wu (y0.q + 1))).bind fun r39 =>
   if (!r39.1.1) = true then
   (aba r1.2.1 4 0).bind fun r40 =>
   some ((r40.1.1, ()), (({ y0 with o := r40.2.1 } : (SweepV MV)), ({ y1 with m := r39.2.1 } : EnvP), ()))
   else
   (abB ({ y0 with o := r1.2.1 } : (SweepV MV)) 12).bind fun r41 =>
   (adW ({ y1 with m := r39.2.1 } : EnvP) r41.1.1).bind fun r42 =>
   some ((false, ()), (({ r41.2.1 with line := wi (r41.2.1.line + 1) } : (SweepV MV)), r42.2.1, ()))
   else none
  else none
 else
 if y0.line = 5 then
  (aiF y1.l y0.task).bind fun r43 =>
  (arf y1.k).bind fun r44 =>
  (aa2 y1.m r43.1.1 (wu (r44.1.1))).bind fun r45 =>
  (acp y0.worker (wi ((wi (y0.q)) + 1)) y0.task).bind fun r46 =>
  some ((false, ()), (({ y0 with o := r1.2.1, line := wi (y0.line + 1), push := r46.1.1 } : (SweepV MV)), ({ y1 with m := r45.2.1, k := r44.2.1 } : EnvP), ()))
 else
 (adA y0.push y1).bind fun r47 =>
 if (!r47.1.1) = true then
  some ((false, ()), (({ y0 with o := r1.2.1, push := r47.2.1 } : (SweepV MV)), r47.2.2.1, ()))
 else
 (abq r47.2.1).bind fun r48 =>
 if r48.1.1 = 3 then
  (abB ({ y0 with o := r1.2.1, push := r48.2.1 } : (SweepV MV)) 19).bind fun r49 =>
  (adW r47.2.2.1 r49.1.1).bind fun r50 =>
  (aba r49.2.1.o 1 0).bind fun r51 =>
  some ((r51.1.1, ()), (({ r49.2.1 with o := r51.2.1 } : (SweepV MV)), r50.2.1, ()))
 else
 (aba r1.2.1 1 0).bind fun r52 =>
 some ((r52.1.1, ()), (({ y0 with o := r52.2.1, push := r48.2.1 } : (SweepV MV)), r47.2.2.1, ()))
noncomputable abbrev an9 : Con SR1 := ⟨201, [.ref 40, .ref 27], [.sh .b], fun x => aay x.1 x.2.1⟩
theorem anf : CO Tryz.prog an9 := aai aah Tryz.func201 [abj, aiL, acr, agj, alL, ahS, afe, ajZ, ant, adC, aeu, ah2, afd] ⟨aa4, ang, abu, afC, ajn, amm, aee, aji, akT, ac3, aeO, aho, afc, trivial⟩ [] trivial (fun _ => []) [] fun x => by kernel_rfl
noncomputable def abN (y0 : (EnterV MV)) (y1 : EnvP) : Option ((Bool × Unit) × ((EnterV MV) × EnvP × Unit)) :=
 (aau y0.o).bind fun r1 =>
 if r1.1.1 = true then
  some ((true, ()), (({ y0 with o := r1.2.1 } : (EnterV MV)), y1, ()))
 else
 if y0.line = 1 then
  (afa y1 y0.task).bind fun r2 =>
  if (!r2.1.1) = true then
   (aba r1.2.1 4 0).bind fun r3 =>
   some ((r3.1.1, ()), (({ y0 with o := r3.2.1 } : (EnterV MV)), r2.2.1, ()))
  else
  (aiF r2.2.1.l y0.task).bind fun r4 =>
  (arf r2.2.1.k).bind fun r5 =>
  (aa2 r2.2.1.m r4.1.1 (wu (r5.1.1))).bind fun r6 =>
  some ((false, ()), (({ y0 with o := r1.2.1, line := wi (y0.line + 1) } : (EnterV MV)), ({ r2.2.1 with m := r6.2.1, k := r5.2.1 } : EnvP), ()))
 else
 if y0.line = 2 then
  (aer y1.l y0.task).bind fun r7 =>
  (aa2 y1.m r7.1.1 1).bind fun r8 =>
  some ((false, ()), (({ y0 with o := r1.2.1, line := wi (y0.line + 1) } : (EnterV MV)), ({ y1 with m := r8.2.1 } : EnvP), ()))
 else
 if y0.line = 3 then
  (ae5 y1.l y0.task).bind fun r9 =>
  (aco y1.m r9.1.1).bind fun r10 =>
  (acp y0.worker (wi (r10.1.1)) y0.task).bind fun r11 =>
  some ((false, ()), (({ y0 with o := r1.2.1, level := wi (r10.1.1), line := wi (y0.line + 1), push := r11.1.1 } : (EnterV MV)), ({ y1 with m := r10.2.1 } : EnvP), ()))
 else
 (adA y0.push y1).bind fun r12 =>
 if (!r12.1.1) = true then
  some ((false, ()), (({ y0 with o := r1.2.1, push := r12.2.1 } : (EnterV MV)), r12.2.2.1, ()))
 else
 (abq r12.2.1).bind fun r13 =>
 (aba r1.2.1 r13.1.1 y0.level).bind fun r14 =>
 some ((r14.1.1, ()), (({ y0 with o := r14.2.1, push := r13.2.1 } : (EnterV MV)), r12.2.2.1, ()))
noncomputable abbrev anH : Con SR1 := ⟨272, [.ref 49, .ref 27], [.sh .b], fun x => abN x.1 x.2.1⟩
theorem amt : CO Tryz.prog anH := aai aah Tryz.func272 [abj, agb, acr, ajZ, ant, adC, agi, agj, acq, aeu, ah2, afd] ⟨aa4, ahb, abu, aji, akT, ac3, afB, afC, abD, aeO, aho, afc, trivial⟩ [] trivial (fun _ => []) [] fun x => by kernel_rfl
noncomputable def aup (y0 : Int) : Option ((MV × Unit) × (Unit)) :=
 some ((MV.attempt (⟨⟨false, 0, 0⟩, y0, true⟩ : AttemptV), ()), (()))
noncomputable abbrev atc : Con SR1 := ⟨209, [.sh sI_], [.sh .mach], fun x => aup x.1⟩
theorem awx : CO Tryz.prog atc := aai aah Tryz.func209 [] trivial [] trivial (fun _ => []) [] fun x => by kernel_rfl
noncomputable def aaG (y0 : (DrainV MV)) (y1 : Int) (y2 : MV) : Option ((Unit) × ((DrainV MV) × Unit)) :=
 some ((()), (({ y0 with line := y1, inside := y2 } : (DrainV MV)), ()))
noncomputable abbrev adN : Con SR1 := ⟨208, [.ref 41, .sh sI_, .sh .mach], [], fun x => aaG x.1 x.2.1 x.2.2.1⟩
theorem aef : CO Tryz.prog adN := aai aah Tryz.func208 [] trivial [] trivial (fun _ => []) [] fun x => by kernel_rfl
noncomputable def aft (y0 : Int) : Option ((MV × Unit) × (Unit)) :=
 some ((MV.remove (⟨⟨false, 0, 0⟩, y0, 1, 0, 0, 0, 0, 0, 0⟩ : RemoveV), ()), (()))
noncomputable abbrev aiI : Con SR1 := ⟨214, [.sh sI_], [.sh .mach], fun x => aft x.1⟩
theorem am1 : CO Tryz.prog aiI := aai aah Tryz.func214 [] trivial [] trivial (fun _ => []) [] fun x => by kernel_rfl
noncomputable def abk (y0 : (DrainV MV)) : Option ((Unit) × ((DrainV MV) × Unit)) :=
 (aft y0.worker).bind fun r1 =>
 (aaG y0 3 r1.1.1).bind fun r2 =>
 some ((()), (r2.2.1, ()))
noncomputable abbrev ag4 : Con SR1 := ⟨211, [.ref 41], [], fun x => abk x.1⟩
theorem ak0 : CO Tryz.prog ag4 := aai aah Tryz.func211 [aiI, adN] ⟨am1, aef, trivial⟩ [] trivial (fun _ => []) [] fun x => by kernel_rfl
noncomputable def aff  : Option ((MV × Unit) × (Unit)) :=
 some ((MV.release (⟨⟨false, 0, 0⟩⟩ : ReleaseV), ()), (()))
noncomputable abbrev aia : Con SR1 := ⟨121, [], [.sh .mach], fun x => aff ⟩
theorem akC : CO Tryz.prog aia := aai aah Tryz.func121 [] trivial [] trivial (fun _ => []) [] fun x => by kernel_rfl
noncomputable def aa0 (y0 : (DrainV MV)) : Option ((Unit) × ((DrainV MV) × Unit)) :=
 (aff).bind fun r1 =>
 (aaG y0 6 r1.1.1).bind fun r2 =>
 some ((()), (r2.2.1, ()))
noncomputable abbrev aen : Con SR1 := ⟨207, [.ref 41], [], fun x => aa0 x.1⟩
theorem af8 : CO Tryz.prog aen := aai aah Tryz.func207 [aia, adN] ⟨akC, aef, trivial⟩ [] trivial (fun _ => []) [] fun x => by kernel_rfl
noncomputable def acD (y0 : (DrainV MV)) (y1 : Int) : Option ((Unit) × ((DrainV MV) × Unit)) :=
 if y1 = 3 then
  (aa0 ({ y0 with direct := true } : (DrainV MV))).bind fun r1 =>
  some ((()), (r1.2.1, ()))
 else
 some ((()), (({ y0 with last := y0.p, count := wi (y0.count + 1) } : (DrainV MV)), ()))
noncomputable abbrev ag5 : Con SR1 := ⟨212, [.ref 41, .sh sI_], [], fun x => acD x.1 x.2.1⟩
theorem ak1 : CO Tryz.prog ag5 := aai aah Tryz.func212 [aen] ⟨af8, trivial⟩ [] trivial (fun _ => []) [] fun x => by kernel_rfl
noncomputable def acJ (y0 : Int) (y1 : Int) : Option ((MV × Unit) × (Unit)) :=
 some ((MV.wake (⟨⟨false, 0, 0⟩, y0, y1, 1, 0, 0⟩ : WakeV), ()), (()))
noncomputable abbrev ahD : Con SR1 := ⟨122, [.sh sI_, .sh sI_], [.sh .mach], fun x => acJ x.1 x.2.1⟩
theorem ah4 : CO Tryz.prog ahD := aai aah Tryz.func122 [] trivial [] trivial (fun _ => []) [] fun x => by kernel_rfl
noncomputable def aaY (y0 : (DrainV MV)) : Option ((Bool × Unit) × ((DrainV MV) × Unit)) :=
 if y0.direct = true then
  (aba y0.o 1 y0.x).bind fun r1 =>
  some ((r1.1.1, ()), (({ y0 with o := r1.2.1 } : (DrainV MV)), ()))
 else
 if 0 < y0.count then
  (aba y0.o 0 y0.count).bind fun r2 =>
  some ((r2.1.1, ()), (({ y0 with o := r2.2.1 } : (DrainV MV)), ()))
 else
 (aba y0.o 2 0).bind fun r3 =>
 some ((r3.1.1, ()), (({ y0 with o := r3.2.1 } : (DrainV MV)), ()))
noncomputable abbrev ag6 : Con SR1 := ⟨213, [.ref 41], [.sh .b], fun x => aaY x.1⟩
theorem ak2 : CO Tryz.prog ag6 := aai aah Tryz.func213 [acr] ⟨abu, trivial⟩ [] trivial (fun _ => []) [] fun x => by kernel_rfl
noncomputable def acw (y0 : (DrainV MV)) (y1 : EnvP) (y2 : Int) (y3 : Int) : Option ((Bool × Unit) × ((DrainV MV) × EnvP × Unit)) :=
 if y0.line = 2 then
  if y2 = 5 then
   (aba y0.o 5 0).bind fun r1 =>
   some ((r1.1.1, ()), (({ y0 with o := r1.2.1 } : (DrainV MV)), y1, ()))
  else
  if y0.line = 2 then
   (abk y0).bind fun r2 =>
   some ((false, ()), (r2.2.1, y1, ()))
  else
  if y0.line = 3 then
   if y2 = 2 then
   (aa0 y0).bind fun r3 =>
   some ((false, ()), (r3.2.1, y1, ()))
   else
   if y0.line = 3 then
   (aaG ({ y0 with x := y3 } : (DrainV MV)) 4 MV.nil).bind fun r4 =>
   some ((false, ()), (r4.2.1, y1, ()))
   else
   if y0.line = 5 then
   (acD y0 y2).bind fun r5 =>
   if r5.2.1.direct = true then
   some ((false, ()), (r5.2.1, y1, ()))
   else
   if r5.2.1.count < y1.c.batch then
   (abk r5.2.1).bind fun r6 =>
   some ((false, ()), (r6.2.1, y1, ()))
   else
   (aa0 r5.2.1).bind fun r7 =>
   some ((false, ()), (r7.2.1, y1, ()))
   else
   if y0.line = 6 then
   if 0 < y0.count then
   (acJ y0.worker y0.last).bind fun r8 =>
   (aaG y0 7 r8.1.1).bind fun r9 =>
   some ((false, ()), (r9.2.1, y1, ()))
   else
   (aaY y0).bind fun r10 =>
   some ((r10.1.1, ()), (r10.2.1, y1, ()))
   else
   (aaY y0).bind fun r11 =>
   some ((r11.1.1, ()), (r11.2.1, y1, ()))
  else
  if y0.line = 3 then
   (aaG ({ y0 with x := y3 } : (DrainV MV)) 4 MV.nil).bind fun r12 =>
   some ((false, ()), (r12.2.1, y1, ()))
  else
  if y0.line = 5 then
   (acD y0 y2).bind fun r13 =>
   if r13.2.1.direct = true then
   some ((false, ()), (r13.2.1, y1, ()))
   else
   if r13.2.1.count < y1.c.batch then
   (abk r13.2.1).bind fun r14 =>
   some ((false, ()), (r14.2.1, y1, ()))
   else
   (aa0 r13.2.1).bind fun r15 =>
   some ((false, ()), (r15.2.1, y1, ()))
  else
  if y0.line = 6 then
   if 0 < y0.count then
   (acJ y0.worker y0.last).bind fun r16 =>
   (aaG y0 7 r16.1.1).bind fun r17 =>
   some ((false, ()), (r17.2.1, y1, ()))
   else
   (aaY y0).bind fun r18 =>
   some ((r18.1.1, ()), (r18.2.1, y1, ()))
  else
  (aaY y0).bind fun r19 =>
  some ((r19.1.1, ()), (r19.2.1, y1, ()))
 else
 if y0.line = 2 then
  (abk y0).bind fun r20 =>
  some ((false, ()), (r20.2.1, y1, ()))
 else
 if y0.line = 3 then
  if y2 = 2 then
   (aa0 y0).bind fun r21 =>
   some ((false, ()), (r21.2.1, y1, ()))
  else
  if y0.line = 3 then
   (aaG ({ y0 with x := y3 } : (DrainV MV)) 4 MV.nil).bind fun r22 =>
   some ((false, ()), (r22.2.1, y1, ()))
  else
  if y0.line = 5 then
   (acD y0 y2).bind fun r23 =>
   if r23.2.1.direct = true then
   some ((false, ()), (r23.2.1, y1, ()))
   else
   if r23.2.1.count < y1.c.batch then
   (abk r23.2.1).bind fun r24 =>
   some ((false, ()), (r24.2.1, y1, ()))
   else
   (aa0 r23.2.1).bind fun r25 =>
   some ((false, ()), (r25.2.1, y1, ()))
  else
  if y0.line = 6 then
   if 0 < y0.count then
   (acJ y0.worker y0.last).bind fun r26 =>
   (aaG y0 7 r26.1.1).bind fun r27 =>
   some ((false, ()), (r27.2.1, y1, ()))
   else
   (aaY y0).bind fun r28 =>
   some ((r28.1.1, ()), (r28.2.1, y1, ()))
  else
  (aaY y0).bind fun r29 =>
  some ((r29.1.1, ()), (r29.2.1, y1, ()))
 else
 if y0.line = 3 then
  (aaG ({ y0 with x := y3 } : (DrainV MV)) 4 MV.nil).bind fun r30 =>
  some ((false, ()), (r30.2.1, y1, ()))
 else
 if y0.line = 5 then
  (acD y0 y2).bind fun r31 =>
  if r31.2.1.direct = true then
   some ((false, ()), (r31.2.1, y1, ()))
  else
  if r31.2.1.count < y1.c.batch then
   (abk r31.2.1).bind fun r32 =>
   some ((false, ()), (r32.2.1, y1, ()))
  else
  (aa0 r31.2.1).bind fun r33 =>
  some ((false, ()), (r33.2.1, y1, ()))
 else
 if y0.line = 6 then
  if 0 < y0.count then
   (acJ y0.worker y0.last).bind fun r34 =>
   (aaG y0 7 r34.1.1).bind fun r35 =>
   some ((false, ()), (r35.2.1, y1, ()))
  else
  (aaY y0).bind fun r36 =>
  some ((r36.1.1, ()), (r36.2.1, y1, ()))
 else
 (aaY y0).bind fun r37 =>
 some ((r37.1.1, ()), (r37.2.1, y1, ()))
noncomputable abbrev ahK : Con SR1 := ⟨210, [.ref 41, .ref 27, .sh sI_, .sh sI_], [.sh .b], fun x => acw x.1 x.2.1 x.2.2.1 x.2.2.2.1⟩
theorem amb : CO Tryz.prog ahK := aai aah Tryz.func210 [acr, ag4, aen, adN, ag5, ahD, ag6] ⟨abu, ak0, af8, aef, ak1, ah4, ak2, trivial⟩ [] trivial (fun _ => []) [] fun x => by kernel_rfl
noncomputable def abh (y0 : (DrainV MV)) (y1 : EnvP) : Option ((Bool × Unit) × ((DrainV MV) × EnvP × Unit)) :=
 (aau y0.o).bind fun r1 =>
 if r1.1.1 = true then
  some ((true, ()), (({ y0 with o := r1.2.1 } : (DrainV MV)), y1, ()))
 else
 if y0.line = 1 then
  (af5 y1.l).bind fun r2 =>
  (aco y1.m r2.1.1).bind fun r3 =>
  if (wi (r3.1.1)) ≤ 0 then
   (aba r1.2.1 2 0).bind fun r4 =>
   some ((r4.1.1, ()), (({ y0 with o := r4.2.1 } : (DrainV MV)), ({ y1 with m := r3.2.1 } : EnvP), ()))
  else
  (aup y0.worker).bind fun r5 =>
  (aaG ({ y0 with o := r1.2.1 } : (DrainV MV)) 2 r5.1.1).bind fun r6 =>
  some ((false, ()), (r6.2.1, ({ y1 with m := r3.2.1 } : EnvP), ()))
 else
 if y0.line = 4 then
  (ae5 y1.l y0.x).bind fun r7 =>
  (aco y1.m r7.1.1).bind fun r8 =>
  (acp y0.worker (wi (r8.1.1)) y0.x).bind fun r9 =>
  (aaG ({ y0 with o := r1.2.1, p := wi (r8.1.1) } : (DrainV MV)) 5 r9.1.1).bind fun r10 =>
  some ((false, ()), (r10.2.1, ({ y1 with m := r8.2.1 } : EnvP), ()))
 else
 (adA y0.inside y1).bind fun r11 =>
 if (!r11.1.1) = true then
  some ((false, ()), (({ y0 with o := r1.2.1, inside := r11.2.1 } : (DrainV MV)), r11.2.2.1, ()))
 else
 (abq r11.2.1).bind fun r12 =>
 (acw ({ y0 with o := r1.2.1, inside := r12.2.1 } : (DrainV MV)) r11.2.2.1 r12.1.1 r12.1.2.1).bind fun r13 =>
 some ((r13.1.1, ()), (r13.2.1, r13.2.2.1, ()))
noncomputable abbrev an3 : Con SR1 := ⟨206, [.ref 41, .ref 27], [.sh .b], fun x => abh x.1 x.2.1⟩
theorem am4 : CO Tryz.prog an3 := aai aah Tryz.func206 [abj, aj1, acq, acr, atc, adN, agj, aeu, ah2, afd, ahK] ⟨aa4, ajm, abD, abu, awx, aef, afC, aeO, aho, afc, amb, trivial⟩ [] trivial (fun _ => []) [] fun x => by kernel_rfl
noncomputable def aeK (m : MV) (e : EnvP) : Option ((Bool × Unit) × (MV × EnvP × Unit)) :=
 match m with
 | .alloc x => (abK x e).bind fun o => some (o.1, (MV.alloc o.2.1, o.2.2))
 | .publish x => (abC x e).bind fun o => some (o.1, (MV.publish o.2.1, o.2.2))
 | .claim x => (acS x e).bind fun o => some (o.1, (MV.claim o.2.1, o.2.2))
 | .attempt x => (acv x e).bind fun o => some (o.1, (MV.attempt o.2.1, o.2.2))
 | .release x => (acu x e).bind fun o => some (o.1, (MV.release o.2.1, o.2.2))
 | .opush x => (adi x e).bind fun o => some (o.1, (MV.opush o.2.1, o.2.2))
 | .opop x => (adJ x e).bind fun o => some (o.1, (MV.opop o.2.1, o.2.2))
 | .steal x => (acR x e).bind fun o => some (o.1, (MV.steal o.2.1, o.2.2))
 | .set x => (adm x e).bind fun o => some (o.1, (MV.set o.2.1, o.2.2))
 | .reset x => (acx x e).bind fun o => some (o.1, (MV.reset o.2.1, o.2.2))
 | .insert x => (aby x e).bind fun o => some (o.1, (MV.insert o.2.1, o.2.2))
 | .remove x => (abx x e).bind fun o => some (o.1, (MV.remove o.2.1, o.2.2))
 | .sleep x => (acK x e).bind fun o => some (o.1, (MV.sleep o.2.1, o.2.2))
 | .wake x => (ac8 x e).bind fun o => some (o.1, (MV.wake o.2.1, o.2.2))
 | .raise x => (ack x e).bind fun o => some (o.1, (MV.raise o.2.1, o.2.2))
 | .probe x => (abg x e).bind fun o => some (o.1, (MV.probe o.2.1, o.2.2))
 | .lpush x => (ach x e).bind fun o => some (o.1, (MV.lpush o.2.1, o.2.2))
 | .lpop x => (acN x e).bind fun o => some (o.1, (MV.lpop o.2.1, o.2.2))
 | .walk x => (abQ x e).bind fun o => some (o.1, (MV.walk o.2.1, o.2.2))
 | .take x => (aeq x e).bind fun o => some (o.1, (MV.take o.2.1, o.2.2))
 | .sweep x => (aay x e).bind fun o => some (o.1, (MV.sweep o.2.1, o.2.2))
 | .enter x => (abN x e).bind fun o => some (o.1, (MV.enter o.2.1, o.2.2))
 | .drain x => (abh x e).bind fun o => some (o.1, (MV.drain o.2.1, o.2.2))
 | _ => none
noncomputable abbrev aoa : Con SR1 := ⟨1000000000, [.mch, .ref 27], [.sh .b], fun x => aeK x.1 x.2.1⟩
theorem ajT (m : MV) (xs : ak7 SR1 [.ref 27]) (out : ak9 SR1 [.sh .b] × (MV × ajP SR1 [.ref 27])) (h : aeK m xs.1 = some out) : aqc SR1 Tryz.prog 0 [.ref 27] [.sh .b] m xs out := by
  cases m with
  | alloc x => exact aax (.alloc x) xs out h
  | publish x => exact aax (.publish x) xs out h
  | claim x => exact aax (.claim x) xs out h
  | attempt x => exact aax (.attempt x) xs out h
  | release x => exact aax (.release x) xs out h
  | opush x => exact aax (.opush x) xs out h
  | opop x => exact aax (.opop x) xs out h
  | steal x => exact aax (.steal x) xs out h
  | set x => exact aax (.set x) xs out h
  | reset x => exact aax (.reset x) xs out h
  | insert x => exact aax (.insert x) xs out h
  | remove x => exact aax (.remove x) xs out h
  | sleep x => exact aax (.sleep x) xs out h
  | wake x => exact aax (.wake x) xs out h
  | raise x => exact aax (.raise x) xs out h
  | probe x => exact aax (.probe x) xs out h
  | lpush x => exact alg (.lpush x) xs out h
  | lpop x => exact alg (.lpop x) xs out h
  | walk x => exact aa6 (S := SR1) (ps := [.ref 27]) (rs := [.sh .b]) (c := 48) (mk := MV.walk) (fun _ => rfl) rfl (fun _ _ _ _ => by kernel_rfl) an5 h
  | take x => exact aa6 (S := SR1) (ps := [.ref 27]) (rs := [.sh .b]) (c := 39) (mk := MV.take) (fun _ => rfl) rfl (fun _ _ _ _ => by kernel_rfl) aoL h
  | sweep x => exact aa6 (S := SR1) (ps := [.ref 27]) (rs := [.sh .b]) (c := 40) (mk := MV.sweep) (fun _ => rfl) rfl (fun _ _ _ _ => by kernel_rfl) anf h
  | enter x => exact aa6 (S := SR1) (ps := [.ref 27]) (rs := [.sh .b]) (c := 49) (mk := MV.enter) (fun _ => rfl) rfl (fun _ _ _ _ => by kernel_rfl) amt h
  | drain x => exact aa6 (S := SR1) (ps := [.ref 27]) (rs := [.sh .b]) (c := 41) (mk := MV.drain) (fun _ => rfl) rfl (fun _ _ _ _ => by kernel_rfl) am4 h
  | _ => cases h
theorem aoO : CO Tryz.prog aoa := ajB (S := SR1) (i := 0) (ps := [.ref 27]) (rs := [.sh .b]) (spec := fun m xs => aeK m xs.1) ajT
noncomputable def adg (m : MV) : Option ((Int × Int × Unit) × (MV × Unit)) :=
 match m with
 | .alloc x => some ((x.o.code, x.o.value, ()), (MV.alloc x, ()))
 | .publish x => some ((x.o.code, x.o.value, ()), (MV.publish x, ()))
 | .claim x => some ((x.o.code, x.o.value, ()), (MV.claim x, ()))
 | .attempt x => some ((x.o.code, x.o.value, ()), (MV.attempt x, ()))
 | .release x => some ((x.o.code, x.o.value, ()), (MV.release x, ()))
 | .opush x => some ((x.o.code, x.o.value, ()), (MV.opush x, ()))
 | .opop x => some ((x.o.code, x.o.value, ()), (MV.opop x, ()))
 | .steal x => some ((x.o.code, x.o.value, ()), (MV.steal x, ()))
 | .set x => some ((x.o.code, x.o.value, ()), (MV.set x, ()))
 | .reset x => some ((x.o.code, x.o.value, ()), (MV.reset x, ()))
 | .insert x => some ((x.o.code, x.o.value, ()), (MV.insert x, ()))
 | .remove x => some ((x.o.code, x.o.value, ()), (MV.remove x, ()))
 | .sleep x => some ((x.o.code, x.o.value, ()), (MV.sleep x, ()))
 | .wake x => some ((x.o.code, x.o.value, ()), (MV.wake x, ()))
 | .raise x => some ((x.o.code, x.o.value, ()), (MV.raise x, ()))
 | .probe x => some ((x.o.code, x.o.value, ()), (MV.probe x, ()))
 | .lpush x => some ((x.o.code, x.o.value, ()), (MV.lpush x, ()))
 | .lpop x => some ((x.o.code, x.o.value, ()), (MV.lpop x, ()))
 | .walk x => some ((x.o.code, x.o.value, ()), (MV.walk x, ()))
 | .take x => some ((x.o.code, x.o.value, ()), (MV.take x, ()))
 | .sweep x => some ((x.o.code, x.o.value, ()), (MV.sweep x, ()))
 | .enter x => some ((x.o.code, x.o.value, ()), (MV.enter x, ()))
 | .drain x => some ((x.o.code, x.o.value, ()), (MV.drain x, ()))
 | _ => none
noncomputable abbrev amC : Con SR1 := ⟨1000000001, [.mch], [.sh sI_, .sh sI_], fun x => adg x.1⟩
theorem ags (m : MV) (xs : ak7 SR1 []) (out : ak9 SR1 [.sh sI_, .sh sI_] × (MV × ajP SR1 [])) (h : adg m = some out) : aqc SR1 Tryz.prog 1 [] [.sh sI_, .sh sI_] m xs out := by
  cases m with
  | alloc x => exact aal (.alloc x) xs out h
  | publish x => exact aal (.publish x) xs out h
  | claim x => exact aal (.claim x) xs out h
  | attempt x => exact aal (.attempt x) xs out h
  | release x => exact aal (.release x) xs out h
  | opush x => exact aal (.opush x) xs out h
  | opop x => exact aal (.opop x) xs out h
  | steal x => exact aal (.steal x) xs out h
  | set x => exact aal (.set x) xs out h
  | reset x => exact aal (.reset x) xs out h
  | insert x => exact aal (.insert x) xs out h
  | remove x => exact aal (.remove x) xs out h
  | sleep x => exact aal (.sleep x) xs out h
  | wake x => exact aal (.wake x) xs out h
  | raise x => exact aal (.raise x) xs out h
  | probe x => exact aal (.probe x) xs out h
  | lpush x => exact ahA (.lpush x) xs out h
  | lpop x => exact ahA (.lpop x) xs out h
  | walk x => exact aa6 (S := SR1) (ps := []) (rs := [.sh sI_, .sh sI_]) (c := 48) (mk := MV.walk) (f := 161) (sp := fun x => some ((x.1.o.code, x.1.o.value, ()), (x.1, ()))) (fun _ => rfl) rfl (fun _ _ _ _ => by kernel_rfl) (acf [aaX] ⟨aaQ, trivial⟩ fun x => by kernel_rfl) h
  | take x => exact aa6 (S := SR1) (ps := []) (rs := [.sh sI_, .sh sI_]) (c := 39) (mk := MV.take) (f := 161) (sp := fun x => some ((x.1.o.code, x.1.o.value, ()), (x.1, ()))) (fun _ => rfl) rfl (fun _ _ _ _ => by kernel_rfl) (acf [aaX] ⟨aaQ, trivial⟩ fun x => by kernel_rfl) h
  | sweep x => exact aa6 (S := SR1) (ps := []) (rs := [.sh sI_, .sh sI_]) (c := 40) (mk := MV.sweep) (f := 161) (sp := fun x => some ((x.1.o.code, x.1.o.value, ()), (x.1, ()))) (fun _ => rfl) rfl (fun _ _ _ _ => by kernel_rfl) (acf [aaX] ⟨aaQ, trivial⟩ fun x => by kernel_rfl) h
  | enter x => exact aa6 (S := SR1) (ps := []) (rs := [.sh sI_, .sh sI_]) (c := 49) (mk := MV.enter) (f := 161) (sp := fun x => some ((x.1.o.code, x.1.o.value, ()), (x.1, ()))) (fun _ => rfl) rfl (fun _ _ _ _ => by kernel_rfl) (acf [aaX] ⟨aaQ, trivial⟩ fun x => by kernel_rfl) h
  | drain x => exact aa6 (S := SR1) (ps := []) (rs := [.sh sI_, .sh sI_]) (c := 41) (mk := MV.drain) (f := 161) (sp := fun x => some ((x.1.o.code, x.1.o.value, ()), (x.1, ()))) (fun _ => rfl) rfl (fun _ _ _ _ => by kernel_rfl) (acf [aaX] ⟨aaQ, trivial⟩ fun x => by kernel_rfl) h
  | _ => cases h
theorem aoY : CO Tryz.prog amC := ajB (S := SR1) (i := 1) (ps := []) (rs := [.sh sI_, .sh sI_]) (spec := fun m _ => adg m) ags
noncomputable def aeL (y0 : (RunV MV)) (y1 : EnvP) : Option ((Int × Unit) × ((RunV MV) × EnvP × Unit)) :=
 if 0 ≤ (tlI y0.stack) ∧ (tlI y0.stack) < ((y0.stack.length : Nat) : Int) then
  if 0 ≤ tpI y0.stack ∧ tpI y0.stack < ((y1.recs.length : Nat) : Int) then
   if 0 ≤ (tlI y0.stack) ∧ (tlI y0.stack) < ((y0.stack.length : Nat) : Int) then
   if 0 ≤ tpI y0.stack ∧ tpI y0.stack < ((y1.recs.length : Nat) : Int) then
   if ((aab y1.recs (tpI y0.stack)).prog) < 0 then
   if ((aab y1.recs (tpI y0.stack)).waiting) ≠ (-1) then
   some ((1, ()), (y0, y1, ()))
   else
   if ((aab y1.recs (tpI y0.stack)).pc) < 0 then
   some ((16, ()), (y0, y1, ()))
   else
   if 0 ≤ ((aab y1.recs (tpI y0.stack)).pc) then
   some ((16, ()), (y0, y1, ()))
   else
   none
   else
   if ((y1.c.progs.length : Nat) : Int) ≤ ((aab y1.recs (tpI y0.stack)).prog) then
   if ((aab y1.recs (tpI y0.stack)).waiting) ≠ (-1) then
   some ((1, ()), (y0, y1, ()))
   else
   if ((aab y1.recs (tpI y0.stack)).pc) < 0 then
   some ((16, ()), (y0, y1, ()))
   else
   if 0 ≤ ((aab y1.recs (tpI y0.stack)).pc) then
   some ((16, ()), (y0, y1, ()))
   else
   none
   else
   if 0 ≤ (aab y1.recs (tpI y0.stack)).prog ∧ (aab y1.recs (tpI y0.stack)).prog < ((y1.c.progs.length : Nat) : Int) then
   if ((aab y1.recs (tpI y0.stack)).waiting) ≠ (-1) then
   some ((1, ()), (y0, y1, ()))
   else
   if ((aab y1.recs (tpI y0.stack)).pc) < 0 then
   some ((16, ()), (y0, y1, ()))
   else
   if (((atL [] y1.c.progs ((aab y1.recs (tpI y0.stack)).prog)).length : Nat) : Int) ≤ ((aab y1.recs (tpI y0.stack)).pc) then
   some ((16, ()), (y0, y1, ()))
   else
   if 0 ≤ (aab y1.recs (tpI y0.stack)).pc ∧ (aab y1.recs (tpI y0.stack)).pc < (((atL [] y1.c.progs ((aab y1.recs (tpI y0.stack)).prog)).length : Nat) : Int) then
   if ((ab9 (atL [] y1.c.progs ((aab y1.recs (tpI y0.stack)).prog)) ((aab y1.recs (tpI y0.stack)).pc)).op) = 0 then
   some ((2, ()), (y0, y1, ()))
   else
   if 0 ≤ (aab y1.recs (tpI y0.stack)).pc ∧ (aab y1.recs (tpI y0.stack)).pc < (((atL [] y1.c.progs ((aab y1.recs (tpI y0.stack)).prog)).length : Nat) : Int) then
   if ((ab9 (atL [] y1.c.progs ((aab y1.recs (tpI y0.stack)).prog)) ((aab y1.recs (tpI y0.stack)).pc)).op) = 1 then
   some ((4, ()), (y0, y1, ()))
   else
   if 0 ≤ (aab y1.recs (tpI y0.stack)).pc ∧ (aab y1.recs (tpI y0.stack)).pc < (((atL [] y1.c.progs ((aab y1.recs (tpI y0.stack)).prog)).length : Nat) : Int) then
   if ((ab9 (atL [] y1.c.progs ((aab y1.recs (tpI y0.stack)).prog)) ((aab y1.recs (tpI y0.stack)).pc)).a) < 0 then
   some ((3, ()), (y0, y1, ()))
   else
   if ((((aab y1.recs (tpI y0.stack)).kids).length : Nat) : Int) ≤ ((ab9 (atL [] y1.c.progs ((aab y1.recs (tpI y0.stack)).prog)) ((aab y1.recs (tpI y0.stack)).pc)).a) then
   some ((3, ()), (y0, ({ y1 with recs := y1.recs.set (tpI y0.stack).toNat (aab y1.recs (tpI y0.stack)) } : EnvP), ()))
   else
   if 0 ≤ (ab9 (atL [] y1.c.progs ((aab y1.recs (tpI y0.stack)).prog)) ((aab y1.recs (tpI y0.stack)).pc)).a ∧ (ab9 (atL [] y1.c.progs ((aab y1.recs (tpI y0.stack)).prog)) ((aab y1.recs (tpI y0.stack)).pc)).a < ((((aab y1.recs (tpI y0.stack)).kids).length : Nat) : Int) then
   if (afP ((aab y1.recs (tpI y0.stack)).kids) ((ab9 (atL [] y1.c.progs ((aab y1.recs (tpI y0.stack)).prog)) ((aab y1.recs (tpI y0.stack)).pc)).a)) = (-1) then
   some ((3, ()), (y0, ({ y1 with recs := y1.recs.set (tpI y0.stack).toNat (aab y1.recs (tpI y0.stack)) } : EnvP), ()))
   else
   some ((9, ()), (y0, ({ y1 with recs := y1.recs.set (tpI y0.stack).toNat (aab y1.recs (tpI y0.stack)) } : EnvP), ()))
   else none
   else none
   else none
   else none
   else none
   else none
   else none
  else none
 else none
noncomputable abbrev ahy : Con SR1 := ⟨224, [.ref 33, .ref 27], [.sh sI_], fun x => aeL x.1 x.2.1⟩
noncomputable def alu : List (Nat × Func) := [(229, Tryz.f229), (223, Tryz.f223), (230, Tryz.f230)]
theorem alv : CO Tryz.prog ahy := aai aah Tryz.func224 [] trivial alu ⟨Tryz.func229, Tryz.func223, Tryz.func230, trivial⟩ (fun _ => []) [] fun x => by kernel_rfl
noncomputable def aeJ  : Option ((MV × Unit) × (Unit)) :=
 some ((MV.alloc (⟨⟨false, 0, 0⟩⟩ : AllocV), ()), (()))
noncomputable abbrev agz : Con SR1 := ⟨119, [], [.sh .mach], fun x => aeJ ⟩
theorem aiA : CO Tryz.prog agz := aai aah Tryz.func119 [] trivial [] trivial (fun _ => []) [] fun x => by kernel_rfl
noncomputable def aac (y0 : (RunV MV)) (y1 : Int) (y2 : MV) : Option ((Bool × Unit) × ((RunV MV) × Unit)) :=
 some ((false, ()), (({ y0 with line := y1, inside := y2 } : (RunV MV)), ()))
noncomputable abbrev adf : Con SR1 := ⟨233, [.ref 33, .sh sI_, .sh .mach], [.sh .b], fun x => aac x.1 x.2.1 x.2.2.1⟩
theorem adu : CO Tryz.prog adf := aai aah Tryz.func233 [] trivial [] trivial (fun _ => []) [] fun x => by kernel_rfl
end
end Go.Proofs.YteapeojalliebaaGreat
