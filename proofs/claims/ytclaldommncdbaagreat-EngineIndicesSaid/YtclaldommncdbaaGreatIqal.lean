/- The program's machines in the evaluator's form. -/
import Derived.Test.YtclaldommncdbaaGreatIqak
set_option linter.all false
namespace Go.Proofs.YtclaldommncdbaaGreat
open Go Go.RowKit
set_option maxRecDepth 100000
variable [Tb]
noncomputable def abF (y0 : InsertV) (y1 : EnvP) : Option ((Bool × Unit) × (InsertV × EnvP × Unit)) :=
 (aaA y0.o).bind fun r1 =>
 if r1.1.1 = true then
  some ((true, ()), (({ y0 with o := r1.2.1 } : InsertV), y1, ()))
 else
 if y1.l.workers = y1.l.workers then
  if y1.l.levels = y1.l.levels then
   if y1.l.classes = y1.l.classes then
   if y1.l.tasks = y1.l.tasks then
   if y1.l.deque = y1.l.deque then
   if y1.l.heap = y1.l.heap then
   if y1.l.sleepers = y1.l.sleepers then
   if y1.l.epochs = y1.l.epochs then
   if y1.l.bitmaps = y1.l.bitmaps then
   if y1.l.queues = y1.l.queues then
   if y1.l.table = y1.l.table then
   if y0.line = 1 then
   (agd y1.l).bind fun r2 =>
   (acv y1.m r2.1.1).bind fun r3 =>
   if y1.c.heap ≤ (wi (r3.1.1)) then
   (abf r1.2.1 3 0).bind fun r4 =>
   some ((r4.1.1, ()), (({ y0 with o := r4.2.1, n := wi (r3.1.1) } : InsertV), ({ y1 with m := r3.2.1 } : EnvP), ()))
   else
   some ((false, ()), (({ y0 with o := r1.2.1, line := 2, n := wi (r3.1.1) } : InsertV), ({ y1 with m := r3.2.1 } : EnvP), ()))
   else
   if y0.line = 2 then
   (aqp y1.l).bind fun r5 =>
   if y0.task = y0.task then
   if y0.deadline = y0.deadline then
   (aC8 y1.m r5.1.1 1).bind fun r6 =>
   if y0.task = y0.task then
   if y0.deadline = y0.deadline then
   (azA y0.deadline (wi (r6.1.1)) y0.task).bind fun r7 =>
   if (!r7.1.2.1) = true then
   (abf r1.2.1 4 0).bind fun r8 =>
   some ((r8.1.1, ()), (({ y0 with o := r8.2.1 } : InsertV), ({ y1 with m := r6.2.1 } : EnvP), ()))
   else
   (ads ({ y0 with o := r1.2.1, i := y0.n, k := r7.1.1 } : InsertV)).bind fun r9 =>
   some ((false, ()), (({ r9.2.1 with line := r9.1.1 } : InsertV), ({ y1 with m := r6.2.1 } : EnvP), ()))
   else none
   else none
   else none
   else none
   else
   if y0.line = 3 then
   (am3 y1.l (wi (Int.tdiv (wi (y0.i - 1)) 2))).bind fun r10 =>
   (acv y1.m r10.1.1).bind fun r11 =>
   if y0.k < r11.1.1 then
   some ((false, ()), (({ y0 with o := r1.2.1, line := 4, x := r11.1.1 } : InsertV), ({ y1 with m := r11.2.1 } : EnvP), ()))
   else
   some ((false, ()), (({ y0 with o := r1.2.1, line := 5, x := r11.1.1 } : InsertV), ({ y1 with m := r11.2.1 } : EnvP), ()))
   else
   if y0.line = 4 then
   (am3 y1.l y0.i).bind fun r12 =>
   if y0.x = y0.x then
   (aa2 y1.m r12.1.1 y0.x).bind fun r13 =>
   (ads ({ y0 with o := r1.2.1, i := wi (Int.tdiv (wi (y0.i - 1)) 2) } : InsertV)).bind fun r14 =>
   some ((false, ()), (({ r14.2.1 with line := r14.1.1 } : InsertV), ({ y1 with m := r13.2.1 } : EnvP), ()))
   else none
   else
   if y0.line = 5 then
   (am3 y1.l y0.i).bind fun r15 =>
   if y0.k = y0.k then
   (aa2 y1.m r15.1.1 y0.k).bind fun r16 =>
   some ((false, ()), (({ y0 with o := r1.2.1, line := 6 } : InsertV), ({ y1 with m := r16.2.1 } : EnvP), ()))
   else none
   else
   (agd y1.l).bind fun r17 =>
   if y0.n = y0.n then
   (aa2 y1.m r17.1.1 (wu (wi (y0.n + 1)))).bind fun r18 =>
   (abf r1.2.1 0 0).bind fun r19 =>
   some ((r19.1.1, ()), (({ y0 with o := r19.2.1 } : InsertV), ({ y1 with m := r18.2.1 } : EnvP), ()))
   else none
   else none
   else none
   else none
   else none
   else none
   else none
   else none
   else none
   else none
  else none
 else none
noncomputable abbrev ajR : Con SR1 := ⟨158, [.ref 36, .ref 27], [.sh .b], fun x => abF x.1 x.2.1⟩
theorem ac0 : CO Tryz.prog ajR := aaq aap Tryz.func158 [abn, ajx, acz, acA, apv, au5, axa, afV, aqh, adK] ⟨aa6, aiZ, abL, aby, atx, atz, azy, aiB, aqg, ade, trivial⟩ [] trivial (fun _ => []) [] fun x => by kernel_rfl
noncomputable def ab4 (y0 : RemoveV) : Option ((Int × Unit) × (RemoveV × Unit)) :=
 if y0.z < y0.y then
  some ((7, ()), (y0, ()))
 else
 some ((8, ()), (y0, ()))
noncomputable abbrev aeY : Con SR1 := ⟨232, [.ref 51], [.sh sI_], fun x => ab4 x.1⟩
theorem ahw : CO Tryz.prog aeY := aaq aap Tryz.func232 [] trivial [] trivial (fun _ => []) [] fun x => by kernel_rfl
noncomputable def acN (y0 : RemoveV) : Option ((Int × Unit) × (RemoveV × Unit)) :=
 if (wi ((wi (2 * y0.i)) + 1)) < (wi (y0.n - 1)) then
  some ((5, ()), (y0, ()))
 else
 some ((8, ()), (y0, ()))
noncomputable abbrev adg : Con SR1 := ⟨233, [.ref 51], [.sh sI_], fun x => acN x.1⟩
theorem ael : CO Tryz.prog adg := aaq aap Tryz.func233 [] trivial [] trivial (fun _ => []) [] fun x => by kernel_rfl
noncomputable def acY (y0 : RemoveV) : Option ((Int × Unit) × (RemoveV × Unit)) :=
 (atp y0.x).bind fun r1 =>
 some ((r1.1.2.2.1, ()), (y0, ()))
noncomputable abbrev aeg : Con SR1 := ⟨234, [.ref 51], [.sh sI_], fun x => acY x.1⟩
theorem afT : CO Tryz.prog aeg := aaq aap Tryz.func234 [ar5] ⟨avX, trivial⟩ [] trivial (fun _ => []) [] fun x => by kernel_rfl
noncomputable def aeA (y0 : RemoveV) (y1 : EnvP) : Option ((Bool × Unit) × (RemoveV × EnvP × Unit)) :=
 if y1.l.workers = y1.l.workers then
  if y1.l.levels = y1.l.levels then
   if y1.l.classes = y1.l.classes then
   if y1.l.tasks = y1.l.tasks then
   if y1.l.deque = y1.l.deque then
   if y1.l.heap = y1.l.heap then
   if y1.l.sleepers = y1.l.sleepers then
   if y1.l.epochs = y1.l.epochs then
   if y1.l.bitmaps = y1.l.bitmaps then
   if y1.l.queues = y1.l.queues then
   if y1.l.table = y1.l.table then
   if y0.line = 1 then
   (agd y1.l).bind fun r1 =>
   (acv y1.m r1.1.1).bind fun r2 =>
   if (wi (r2.1.1)) ≤ 0 then
   (abf y0.o 2 0).bind fun r3 =>
   some ((r3.1.1, ()), (({ y0 with o := r3.2.1, n := wi (r2.1.1) } : RemoveV), ({ y1 with m := r2.2.1 } : EnvP), ()))
   else
   some ((false, ()), (({ y0 with line := 2, n := wi (r2.1.1) } : RemoveV), ({ y1 with m := r2.2.1 } : EnvP), ()))
   else
   if y0.line = 2 then
   (am3 y1.l 0).bind fun r4 =>
   (acv y1.m r4.1.1).bind fun r5 =>
   some ((false, ()), (({ y0 with line := 3, x := r5.1.1 } : RemoveV), ({ y1 with m := r5.2.1 } : EnvP), ()))
   else
   if y0.line = 3 then
   (am3 y1.l (wi (y0.n - 1))).bind fun r6 =>
   (acv y1.m r6.1.1).bind fun r7 =>
   some ((false, ()), (({ y0 with line := 4, y := r7.1.1 } : RemoveV), ({ y1 with m := r7.2.1 } : EnvP), ()))
   else
   (agd y1.l).bind fun r8 =>
   if y0.n = y0.n then
   (aa2 y1.m r8.1.1 (wu (wi (y0.n - 1)))).bind fun r9 =>
   (acY y0).bind fun r10 =>
   if y0.worker = r10.2.1.worker then
   (aee ({ y1 with m := r9.2.1 } : EnvP) (⟨13, y0.worker, r10.1.1, 0, 0⟩ : Ev)).bind fun r11 =>
   if r10.2.1.n = 1 then
   (acY r10.2.1).bind fun r12 =>
   (abf r12.2.1.o 1 r12.1.1).bind fun r13 =>
   some ((r13.1.1, ()), (({ r12.2.1 with o := r13.2.1 } : RemoveV), r11.2.1, ()))
   else
   (acN r10.2.1).bind fun r14 =>
   some ((false, ()), (({ r14.2.1 with line := r14.1.1 } : RemoveV), r11.2.1, ()))
   else none
   else none
   else none
   else none
   else none
   else none
   else none
   else none
   else none
   else none
   else none
  else none
 else none
noncomputable abbrev afU : Con SR1 := ⟨235, [.ref 51, .ref 27], [.sh .b], fun x => aeA x.1 x.2.1⟩
theorem aiA : CO Tryz.prog afU := aaq aap Tryz.func235 [ajx, acz, acA, aqh, adK, aeg, afn, adg] ⟨aiZ, abL, aby, aqg, ade, afT, aes, ael, trivial⟩ [] trivial (fun _ => []) [] fun x => by kernel_rfl
noncomputable def abE (y0 : RemoveV) (y1 : EnvP) : Option ((Bool × Unit) × (RemoveV × EnvP × Unit)) :=
 (aaA y0.o).bind fun r1 =>
 if r1.1.1 = true then
  some ((true, ()), (({ y0 with o := r1.2.1 } : RemoveV), y1, ()))
 else
 if y1.l.workers = y1.l.workers then
  if y1.l.levels = y1.l.levels then
   if y1.l.classes = y1.l.classes then
   if y1.l.tasks = y1.l.tasks then
   if y1.l.deque = y1.l.deque then
   if y1.l.heap = y1.l.heap then
   if y1.l.sleepers = y1.l.sleepers then
   if y1.l.epochs = y1.l.epochs then
   if y1.l.bitmaps = y1.l.bitmaps then
   if y1.l.queues = y1.l.queues then
   if y1.l.table = y1.l.table then
   if y0.line = 5 then
   (am3 y1.l (wi ((wi (2 * y0.i)) + 1))).bind fun r2 =>
   (acv y1.m r2.1.1).bind fun r3 =>
   (ab4 ({ y0 with o := r1.2.1, c := wi ((wi (2 * y0.i)) + 1), z := r3.1.1 } : RemoveV)).bind fun r4 =>
   if (wi (r4.2.1.c + 1)) < (wi (r4.2.1.n - 1)) then
   some ((false, ()), (({ r4.2.1 with line := 6 } : RemoveV), ({ y1 with m := r3.2.1 } : EnvP), ()))
   else
   some ((false, ()), (({ r4.2.1 with line := r4.1.1 } : RemoveV), ({ y1 with m := r3.2.1 } : EnvP), ()))
   else
   if y0.line = 6 then
   (am3 y1.l (wi ((wi (2 * y0.i)) + 2))).bind fun r5 =>
   (acv y1.m r5.1.1).bind fun r6 =>
   if r6.1.1 < y0.z then
   (ab4 ({ y0 with o := r1.2.1, c := wi ((wi (2 * y0.i)) + 2), z := r6.1.1 } : RemoveV)).bind fun r7 =>
   some ((false, ()), (({ r7.2.1 with line := r7.1.1 } : RemoveV), ({ y1 with m := r6.2.1 } : EnvP), ()))
   else
   (ab4 ({ y0 with o := r1.2.1 } : RemoveV)).bind fun r8 =>
   some ((false, ()), (({ r8.2.1 with line := r8.1.1 } : RemoveV), ({ y1 with m := r6.2.1 } : EnvP), ()))
   else
   if y0.line = 7 then
   (am3 y1.l y0.i).bind fun r9 =>
   if y0.z = y0.z then
   (aa2 y1.m r9.1.1 y0.z).bind fun r10 =>
   (acN ({ y0 with o := r1.2.1, i := y0.c } : RemoveV)).bind fun r11 =>
   some ((false, ()), (({ r11.2.1 with line := r11.1.1 } : RemoveV), ({ y1 with m := r10.2.1 } : EnvP), ()))
   else none
   else
   if y0.line = 8 then
   (am3 y1.l y0.i).bind fun r12 =>
   if y0.y = y0.y then
   (aa2 y1.m r12.1.1 y0.y).bind fun r13 =>
   (acY ({ y0 with o := r1.2.1 } : RemoveV)).bind fun r14 =>
   (abf r14.2.1.o 1 r14.1.1).bind fun r15 =>
   some ((r15.1.1, ()), (({ r14.2.1 with o := r15.2.1 } : RemoveV), ({ y1 with m := r13.2.1 } : EnvP), ()))
   else none
   else
   (aeA ({ y0 with o := r1.2.1 } : RemoveV) y1).bind fun r16 =>
   some ((r16.1.1, ()), (r16.2.1, r16.2.2.1, ()))
   else none
   else none
   else none
   else none
   else none
   else none
   else none
   else none
   else none
  else none
 else none
noncomputable abbrev ajQ : Con SR1 := ⟨231, [.ref 51, .ref 27], [.sh .b], fun x => abE x.1 x.2.1⟩
theorem acZ : CO Tryz.prog ajQ := aaq aap Tryz.func231 [abn, aqh, acz, aeY, adK, adg, aeg, acA, afU] ⟨aa6, aqg, abL, ahw, ade, ael, afT, aby, aiA, trivial⟩ [] trivial (fun _ => []) [] fun x => by kernel_rfl
noncomputable def agl (y0 : SleepV) (y1 : EnvP) : Option ((Unit) × (SleepV × EnvP × Unit)) :=
 (ag4 y1.l y0.v).bind fun r1 =>
 (acv y1.m r1.1.1).bind fun r2 =>
 if r2.1.1 ≠ 0 then
  some ((()), (({ y0 with line := 7 } : SleepV), ({ y1 with m := r2.2.1 } : EnvP), ()))
 else
 if y1.c.workers ≤ (wi (y0.v + 1)) then
  (aee ({ y1 with m := r2.2.1 } : EnvP) (⟨16, y0.worker, 0, 0, 0⟩ : Ev)).bind fun r3 =>
  (aqi r3.2.1.k).bind fun r4 =>
  some ((()), (({ y0 with line := 5, v := wi (y0.v + 1), since := r4.1.1 } : SleepV), ({ r3.2.1 with k := r4.2.1 } : EnvP), ()))
 else
 some ((()), (({ y0 with v := wi (y0.v + 1) } : SleepV), ({ y1 with m := r2.2.1 } : EnvP), ()))
noncomputable abbrev aiS : Con SR1 := ⟨139, [.ref 32, .ref 27], [], fun x => agl x.1 x.2.1⟩
theorem am2 : CO Tryz.prog aiS := aaq aap Tryz.func139 [agJ, acz, afn, amH] ⟨agu, abL, aes, akh, trivial⟩ [] trivial (fun _ => []) [] fun x => by kernel_rfl
noncomputable def agk (y0 : SleepV) (y1 : EnvP) : Option ((Unit) × (SleepV × EnvP × Unit)) :=
 (aps y1.l y0.worker).bind fun r1 =>
 (acv y1.m r1.1.1).bind fun r2 =>
 if r2.1.1 ≠ y0.ep then
  (aee ({ y1 with m := r2.2.1 } : EnvP) (⟨17, y0.worker, 0, 1, 0⟩ : Ev)).bind fun r3 =>
  some ((()), (({ y0 with line := 6 } : SleepV), r3.2.1, ()))
 else
 (aqi y1.k).bind fun r4 =>
 if y1.c.patience = y1.c.patience then
  if y0.since = y0.since then
   if y1.c.patience ≤ (wi (r4.1.1 - y0.since)) then
   (aee ({ y1 with m := r2.2.1, k := r4.2.1 } : EnvP) (⟨17, y0.worker, 0, 2, 0⟩ : Ev)).bind fun r5 =>
   some ((()), (({ y0 with line := 6 } : SleepV), r5.2.1, ()))
   else
   some ((()), (y0, ({ y1 with m := r2.2.1, k := r4.2.1 } : EnvP), ()))
  else none
 else none
noncomputable abbrev aiR : Con SR1 := ⟨140, [.ref 32, .ref 27], [], fun x => agk x.1 x.2.1⟩
theorem am0 : CO Tryz.prog aiR := aaq aap Tryz.func140 [anl, acz, afn, amH] ⟨aob, abL, aes, akh, trivial⟩ [] trivial (fun _ => []) [] fun x => by kernel_rfl
noncomputable def acW (y0 : SleepV) (y1 : EnvP) : Option ((Bool × Unit) × (SleepV × EnvP × Unit)) :=
 (aaA y0.o).bind fun r1 =>
 if r1.1.1 = true then
  some ((true, ()), (({ y0 with o := r1.2.1 } : SleepV), y1, ()))
 else
 if y0.line = 1 then
  (aps y1.l y0.worker).bind fun r2 =>
  (acv y1.m r2.1.1).bind fun r3 =>
  some ((false, ()), (({ y0 with o := r1.2.1, line := 2, ep := r3.1.1 } : SleepV), ({ y1 with m := r3.2.1 } : EnvP), ()))
 else
 if y0.line = 2 then
  ((
   if y1.c.classes < 1 then
   if y0.worker = y0.worker then
   (ayL y0.worker).bind fun r4 =>
   (pOr y1.m (-1) r4.1.1).bind fun r5 =>
   some (({ y1 with m := r5.2.1 } : EnvP), ())
   else none
   else
   (ayK y0.worker y1.c.classes).bind fun r6 =>
   if y1.l.workers = y1.l.workers then
   if y1.l.levels = y1.l.levels then
   if y1.l.classes = y1.l.classes then
   if y1.l.tasks = y1.l.tasks then
   if y1.l.deque = y1.l.deque then
   if y1.l.heap = y1.l.heap then
   if y1.l.sleepers = y1.l.sleepers then
   if y1.l.epochs = y1.l.epochs then
   if y1.l.bitmaps = y1.l.bitmaps then
   if y1.l.queues = y1.l.queues then
   if y1.l.table = y1.l.table then
   (agH y1.l r6.1.1).bind fun r7 =>
   if y0.worker = y0.worker then
   (ayL y0.worker).bind fun r8 =>
   (pOr y1.m r7.1.1 r8.1.1).bind fun r9 =>
   some (({ y1 with m := r9.2.1 } : EnvP), ())
   else none
   else none
   else none
   else none
   else none
   else none
   else none
   else none
   else none
   else none
   else none
   else none
  ) : Option (EnvP × Unit)).bind fun z10 =>
  some ((false, ()), (({ y0 with o := r1.2.1, line := 3 } : SleepV), z10.1, ()))
 else
 if y0.line = 3 then
  (agd y1.l).bind fun r11 =>
  (acv y1.m r11.1.1).bind fun r12 =>
  if r12.1.1 ≠ 0 then
   some ((false, ()), (({ y0 with o := r1.2.1, line := 7 } : SleepV), ({ y1 with m := r12.2.1 } : EnvP), ()))
  else
  some ((false, ()), (({ y0 with o := r1.2.1, line := 4 } : SleepV), ({ y1 with m := r12.2.1 } : EnvP), ()))
 else
 if y0.line = 4 then
  (agl ({ y0 with o := r1.2.1 } : SleepV) y1).bind fun r13 =>
  some ((false, ()), (r13.2.1, r13.2.2.1, ()))
 else
 if y0.line = 5 then
  (agk ({ y0 with o := r1.2.1 } : SleepV) y1).bind fun r14 =>
  some ((false, ()), (r14.2.1, r14.2.2.1, ()))
 else
 ((
  if y1.c.classes < 1 then
   if y0.worker = y0.worker then
   (ayL y0.worker).bind fun r15 =>
   (aAF y1.m (-1) (aAi r15.1.1)).bind fun r16 =>
   some (({ y1 with m := r16.2.1 } : EnvP), ())
   else none
  else
  (ayK y0.worker y1.c.classes).bind fun r17 =>
  if y1.l.workers = y1.l.workers then
   if y1.l.levels = y1.l.levels then
   if y1.l.classes = y1.l.classes then
   if y1.l.tasks = y1.l.tasks then
   if y1.l.deque = y1.l.deque then
   if y1.l.heap = y1.l.heap then
   if y1.l.sleepers = y1.l.sleepers then
   if y1.l.epochs = y1.l.epochs then
   if y1.l.bitmaps = y1.l.bitmaps then
   if y1.l.queues = y1.l.queues then
   if y1.l.table = y1.l.table then
   (agH y1.l r17.1.1).bind fun r18 =>
   if y0.worker = y0.worker then
   (ayL y0.worker).bind fun r19 =>
   (aAF y1.m r18.1.1 (aAi r19.1.1)).bind fun r20 =>
   some (({ y1 with m := r20.2.1 } : EnvP), ())
   else none
   else none
   else none
   else none
   else none
   else none
   else none
   else none
   else none
   else none
   else none
  else none
 ) : Option (EnvP × Unit)).bind fun z21 =>
 if y0.line = 6 then
  (abf r1.2.1 1 0).bind fun r22 =>
  some ((r22.1.1, ()), (({ y0 with o := r22.2.1 } : SleepV), z21.1, ()))
 else
 (abf r1.2.1 5 0).bind fun r23 =>
 some ((r23.1.1, ()), (({ y0 with o := r23.2.1 } : SleepV), z21.1, ()))
noncomputable abbrev an8 : Con SR1 := ⟨134, [.ref 32, .ref 27], [.sh .b], fun x => acW x.1 x.2.1⟩
noncomputable def am1 : List (Nat × Func) := [(137, Tryz.f137)]
theorem aer : CO Tryz.prog an8 := aaq aap Tryz.func134 [abn, anl, acz, asa, azB, ar7, akg, ajx, aiS, aiR, au4, acA] ⟨aa6, aob, abL, aqo, axb, aqj, amG, aiZ, am2, am0, aty, aby, trivial⟩ am1 ⟨Tryz.func137, trivial⟩ (fun _ => []) [(13, .cut [.ob 1 27] [0]), (5, .cut [.ob 1 27] [0])] fun x => by kernel_rfl
noncomputable def adl (y0 : WakeV) (y1 : EnvP) : Option ((Bool × Unit) × (WakeV × EnvP × Unit)) :=
 (aaA y0.o).bind fun r1 =>
 if r1.1.1 = true then
  some ((true, ()), (({ y0 with o := r1.2.1 } : WakeV), y1, ()))
 else
 if y0.line = 1 then
  ((
   if y1.c.classes < 1 then
   (acv y1.m (-1)).bind fun r2 =>
   some (r2.1.1, ({ y1 with m := r2.2.1 } : EnvP), ())
   else
   (ar9 y0.level y1.c.levels y1.c.classes).bind fun r3 =>
   if y1.c.classes = y1.c.classes then
   if y0.j = y0.j then
   if y1.l.workers = y1.l.workers then
   if y1.l.levels = y1.l.levels then
   if y1.l.classes = y1.l.classes then
   if y1.l.tasks = y1.l.tasks then
   if y1.l.deque = y1.l.deque then
   if y1.l.heap = y1.l.heap then
   if y1.l.sleepers = y1.l.sleepers then
   if y1.l.epochs = y1.l.epochs then
   if y1.l.bitmaps = y1.l.bitmaps then
   if y1.l.queues = y1.l.queues then
   if y1.l.table = y1.l.table then
   (ayK (wi (r3.1.1 + y0.j)) y1.c.classes).bind fun r4 =>
   if y1.l.workers = y1.l.workers then
   if y1.l.levels = y1.l.levels then
   if y1.l.classes = y1.l.classes then
   if y1.l.tasks = y1.l.tasks then
   if y1.l.deque = y1.l.deque then
   if y1.l.heap = y1.l.heap then
   if y1.l.sleepers = y1.l.sleepers then
   if y1.l.epochs = y1.l.epochs then
   if y1.l.bitmaps = y1.l.bitmaps then
   if y1.l.queues = y1.l.queues then
   if y1.l.table = y1.l.table then
   (agH y1.l r4.1.1).bind fun r5 =>
   (acv y1.m r5.1.1).bind fun r6 =>
   some (r6.1.1, ({ y1 with m := r6.2.1 } : EnvP), ())
   else none
   else none
   else none
   else none
   else none
   else none
   else none
   else none
   else none
   else none
   else none
   else none
   else none
   else none
   else none
   else none
   else none
   else none
   else none
   else none
   else none
   else none
   else none
   else none
  ) : Option (Int × EnvP × Unit)).bind fun z7 =>
  if z7.1 ≠ 0 then
   (aEZ z7.1).bind fun r8 =>
   some ((false, ()), (({ y0 with o := r1.2.1, line := 2, v := r8.1.1 } : WakeV), z7.2.1, ()))
  else
  if z7.2.1.c.classes ≤ (wi (y0.j + 1)) then
   (abf r1.2.1 2 0).bind fun r9 =>
   some ((r9.1.1, ()), (({ y0 with o := r9.2.1, j := wi (y0.j + 1) } : WakeV), z7.2.1, ()))
  else
  some ((false, ()), (({ y0 with o := r1.2.1, j := wi (y0.j + 1) } : WakeV), z7.2.1, ()))
 else
 if y0.line = 2 then
  (ayL y0.v).bind fun r10 =>
  ((
   if y1.c.classes < 1 then
   (aAF y1.m (-1) (aAi r10.1.1)).bind fun r11 =>
   some (decide ((anz r11.1.1 r10.1.1) = 0), ({ y1 with m := r11.2.1 } : EnvP), ())
   else
   (ar9 y0.level y1.c.levels y1.c.classes).bind fun r12 =>
   if y1.c.classes = y1.c.classes then
   if y0.j = y0.j then
   if y1.l.workers = y1.l.workers then
   if y1.l.levels = y1.l.levels then
   if y1.l.classes = y1.l.classes then
   if y1.l.tasks = y1.l.tasks then
   if y1.l.deque = y1.l.deque then
   if y1.l.heap = y1.l.heap then
   if y1.l.sleepers = y1.l.sleepers then
   if y1.l.epochs = y1.l.epochs then
   if y1.l.bitmaps = y1.l.bitmaps then
   if y1.l.queues = y1.l.queues then
   if y1.l.table = y1.l.table then
   (ayK (wi (r12.1.1 + y0.j)) y1.c.classes).bind fun r13 =>
   if y1.l.workers = y1.l.workers then
   if y1.l.levels = y1.l.levels then
   if y1.l.classes = y1.l.classes then
   if y1.l.tasks = y1.l.tasks then
   if y1.l.deque = y1.l.deque then
   if y1.l.heap = y1.l.heap then
   if y1.l.sleepers = y1.l.sleepers then
   if y1.l.epochs = y1.l.epochs then
   if y1.l.bitmaps = y1.l.bitmaps then
   if y1.l.queues = y1.l.queues then
   if y1.l.table = y1.l.table then
   (agH y1.l r13.1.1).bind fun r14 =>
   (aAF y1.m r14.1.1 (aAi r10.1.1)).bind fun r15 =>
   some (decide ((anz r15.1.1 r10.1.1) = 0), ({ y1 with m := r15.2.1 } : EnvP), ())
   else none
   else none
   else none
   else none
   else none
   else none
   else none
   else none
   else none
   else none
   else none
   else none
   else none
   else none
   else none
   else none
   else none
   else none
   else none
   else none
   else none
   else none
   else none
   else none
  ) : Option (Bool × EnvP × Unit)).bind fun z16 =>
  if z16.1 = true then
   (abf r1.2.1 4 0).bind fun r17 =>
   some ((r17.1.1, ()), (({ y0 with o := r17.2.1 } : WakeV), z16.2.1, ()))
  else
  some ((false, ()), (({ y0 with o := r1.2.1, line := 3 } : WakeV), z16.2.1, ()))
 else
 (aps y1.l y0.v).bind fun r18 =>
 (aC8 y1.m r18.1.1 1).bind fun r19 =>
 (aee ({ y1 with m := r19.2.1 } : EnvP) (⟨18, y0.me, 0, y0.v, 0⟩ : Ev)).bind fun r20 =>
 (abf r1.2.1 1 y0.v).bind fun r21 =>
 some ((r21.1.1, ()), (({ y0 with o := r21.2.1 } : WakeV), r20.2.1, ()))
noncomputable abbrev ao7 : Con SR1 := ⟨165, [.ref 38, .ref 27], [.sh .b], fun x => adl x.1 x.2.1⟩
noncomputable def an7 : List (Nat × Func) := [(166, Tryz.f166)]
theorem aeS : CO Tryz.prog ao7 := aaq aap Tryz.func165 [abn, acz, au1, ar7, akg, aAE, acA, asa, au4, anl, au5, afn] ⟨aa6, abL, axf, aqj, amG, aB1, aby, aqo, aty, aob, atz, aes, trivial⟩ an7 ⟨Tryz.func166, trivial⟩ (fun _ => []) [(9, .cut [.rg 5 sU_, .ob 1 27] [0]), (18, .cut [.rg 108 .b, .ob 1 27] [0])] fun x => by kernel_rfl
noncomputable def ajg (y0 : EnvP) (y1 : Int) (y2 : Int) : Option ((Bool × Unit) × (EnvP × Unit)) :=
 if 0 ≤ y1 then
  if y1 < y0.c.tasks then
   if 0 ≤ y2 then
   some ((decide (y2 < y0.c.levels), ()), (y0, ()))
   else
   some ((false, ()), (y0, ()))
  else
  some ((false, ()), (y0, ()))
 else
 some ((false, ()), (y0, ()))
noncomputable abbrev akt : Con SR1 := ⟨241, [.ref 27, .sh sI_, .sh sI_], [.sh .b], fun x => ajg x.1 x.2.1 x.2.2.1⟩
theorem amN : CO Tryz.prog akt := aaq aap Tryz.func241 [] trivial [] trivial (fun _ => []) [] fun x => by kernel_rfl
noncomputable def acr (y0 : RaiseV) (y1 : EnvP) : Option ((Bool × Unit) × (RaiseV × EnvP × Unit)) :=
 (aaA y0.o).bind fun r1 =>
 if r1.1.1 = true then
  some ((true, ()), (({ y0 with o := r1.2.1 } : RaiseV), y1, ()))
 else
 (ajg y1 y0.task y0.level).bind fun r2 =>
 if (!r2.1.1) = true then
  (abf r1.2.1 4 0).bind fun r3 =>
  some ((r3.1.1, ()), (({ y0 with o := r3.2.1 } : RaiseV), r2.2.1, ()))
 else
 if y0.line = 1 then
  (ae5 r2.2.1.l y0.task).bind fun r4 =>
  (acv r2.2.1.m r4.1.1).bind fun r5 =>
  if y0.level ≤ (wi (r5.1.1)) then
   (abf r1.2.1 0 0).bind fun r6 =>
   some ((r6.1.1, ()), (({ y0 with o := r6.2.1, q := r5.1.1 } : RaiseV), ({ r2.2.1 with m := r5.2.1 } : EnvP), ()))
  else
  some ((false, ()), (({ y0 with o := r1.2.1, line := 2, q := r5.1.1 } : RaiseV), ({ r2.2.1 with m := r5.2.1 } : EnvP), ()))
 else
 (ae5 r2.2.1.l y0.task).bind fun r7 =>
 if y0.level = y0.level then
  if y0.q = y0.q then
   (ary r2.2.1.m r7.1.1 y0.q (wu (y0.level))).bind fun r8 =>
   if r8.1.1 = true then
   (aee ({ r2.2.1 with m := r8.2.1 } : EnvP) ({ y0 with kind := 11, other := 0 } : Ev)).bind fun r9 =>
   (abf r1.2.1 1 0).bind fun r10 =>
   some ((r10.1.1, ()), (({ y0 with o := r10.2.1 } : RaiseV), r9.2.1, ()))
   else
   some ((false, ()), (({ y0 with o := r1.2.1, line := 1 } : RaiseV), ({ r2.2.1 with m := r8.2.1 } : EnvP), ()))
  else none
 else none
noncomputable abbrev anb : Con SR1 := ⟨255, [.ref 55, .ref 27], [.sh .b], fun x => acr x.1 x.2.1⟩
theorem aeb : CO Tryz.prog anb := aaq aap Tryz.func255 [abn, akt, acA, agm, acz, ak6, afn] ⟨aa6, amN, aby, afP, abL, ai0, aes, trivial⟩ [] trivial (fun _ => []) [] fun x => by kernel_rfl
noncomputable def ajX (m : MV) (e : EnvP) : Option ((Bool × Unit) × (MV × EnvP × Unit)) :=
 match m with
 | .alloc x => (abP x e).bind fun o => some (o.1, (MV.alloc o.2.1, o.2.2))
 | .publish x => (abK x e).bind fun o => some (o.1, (MV.publish o.2.1, o.2.2))
 | .claim x => (ac2 x e).bind fun o => some (o.1, (MV.claim o.2.1, o.2.2))
 | .attempt x => (acE x e).bind fun o => some (o.1, (MV.attempt o.2.1, o.2.2))
 | .release x => (acD x e).bind fun o => some (o.1, (MV.release o.2.1, o.2.2))
 | .opush x => (adr x e).bind fun o => some (o.1, (MV.opush o.2.1, o.2.2))
 | .opop x => (adW x e).bind fun o => some (o.1, (MV.opop o.2.1, o.2.2))
 | .steal x => (ac1 x e).bind fun o => some (o.1, (MV.steal o.2.1, o.2.2))
 | .set x => (adt x e).bind fun o => some (o.1, (MV.set o.2.1, o.2.2))
 | .reset x => (acI x e).bind fun o => some (o.1, (MV.reset o.2.1, o.2.2))
 | .insert x => (abF x e).bind fun o => some (o.1, (MV.insert o.2.1, o.2.2))
 | .remove x => (abE x e).bind fun o => some (o.1, (MV.remove o.2.1, o.2.2))
 | .sleep x => (acW x e).bind fun o => some (o.1, (MV.sleep o.2.1, o.2.2))
 | .wake x => (adl x e).bind fun o => some (o.1, (MV.wake o.2.1, o.2.2))
 | .raise x => (acr x e).bind fun o => some (o.1, (MV.raise o.2.1, o.2.2))
 | .probe x => (abj x e).bind fun o => some (o.1, (MV.probe o.2.1, o.2.2))
 | _ => none
noncomputable abbrev apY : Con SR1 := ⟨1000000000, [.mch, .ref 27], [.sh .b], fun x => ajX x.1 x.2.1⟩
theorem arL : CO Tryz.prog apY := ai9 (S := SR1) (i := 0) (ps := [.ref 27]) (rs := [.sh .b]) (spec := fun m xs => ajX m xs.1) fun m xs out h => by
  cases m with
  | alloc x => exact aai (S := SR1) (ps := [.ref 27]) (rs := [.sh .b]) (c := 35) (mk := MV.alloc) (fun _ => rfl) rfl (fun _ _ _ _ => by kernel_rfl) ac7 h
  | publish x => exact aai (S := SR1) (ps := [.ref 27]) (rs := [.sh .b]) (c := 50) (mk := MV.publish) (fun _ => rfl) rfl (fun _ _ _ _ => by kernel_rfl) adn h
  | claim x => exact aai (S := SR1) (ps := [.ref 27]) (rs := [.sh .b]) (c := 45) (mk := MV.claim) (fun _ => rfl) rfl (fun _ _ _ _ => by kernel_rfl) ad5 h
  | attempt x => exact aai (S := SR1) (ps := [.ref 27]) (rs := [.sh .b]) (c := 34) (mk := MV.attempt) (fun _ => rfl) rfl (fun _ _ _ _ => by kernel_rfl) adM h
  | release x => exact aai (S := SR1) (ps := [.ref 27]) (rs := [.sh .b]) (c := 37) (mk := MV.release) (fun _ => rfl) rfl (fun _ _ _ _ => by kernel_rfl) adL h
  | opush x => exact aai (S := SR1) (ps := [.ref 27]) (rs := [.sh .b]) (c := 53) (mk := MV.opush) (fun _ => rfl) rfl (fun _ _ _ _ => by kernel_rfl) aet h
  | opop x => exact aai (S := SR1) (ps := [.ref 27]) (rs := [.sh .b]) (c := 52) (mk := MV.opop) (fun _ => rfl) rfl (fun _ _ _ _ => by kernel_rfl) aeV h
  | steal x => exact aai (S := SR1) (ps := [.ref 27]) (rs := [.sh .b]) (c := 42) (mk := MV.steal) (fun _ => rfl) rfl (fun _ _ _ _ => by kernel_rfl) ad4 h
  | set x => exact aai (S := SR1) (ps := [.ref 27]) (rs := [.sh .b]) (c := 54) (mk := MV.set) (fun _ => rfl) rfl (fun _ _ _ _ => by kernel_rfl) aew h
  | reset x => exact aai (S := SR1) (ps := [.ref 27]) (rs := [.sh .b]) (c := 43) (mk := MV.reset) (fun _ => rfl) rfl (fun _ _ _ _ => by kernel_rfl) adO h
  | insert x => exact aai (S := SR1) (ps := [.ref 27]) (rs := [.sh .b]) (c := 36) (mk := MV.insert) (fun _ => rfl) rfl (fun _ _ _ _ => by kernel_rfl) ac0 h
  | remove x => exact aai (S := SR1) (ps := [.ref 27]) (rs := [.sh .b]) (c := 51) (mk := MV.remove) (fun _ => rfl) rfl (fun _ _ _ _ => by kernel_rfl) acZ h
  | sleep x => exact aai (S := SR1) (ps := [.ref 27]) (rs := [.sh .b]) (c := 32) (mk := MV.sleep) (fun _ => rfl) rfl (fun _ _ _ _ => by kernel_rfl) aer h
  | wake x => exact aai (S := SR1) (ps := [.ref 27]) (rs := [.sh .b]) (c := 38) (mk := MV.wake) (fun _ => rfl) rfl (fun _ _ _ _ => by kernel_rfl) aeS h
  | raise x => exact aai (S := SR1) (ps := [.ref 27]) (rs := [.sh .b]) (c := 55) (mk := MV.raise) (fun _ => rfl) rfl (fun _ _ _ _ => by kernel_rfl) aeb h
  | probe x => exact aai (S := SR1) (ps := [.ref 27]) (rs := [.sh .b]) (c := 46) (mk := MV.probe) (fun _ => rfl) rfl (fun _ _ _ _ => by kernel_rfl) ad6 h
  | _ => cases h
noncomputable def afB (m : MV) : Option ((Int × Int × Unit) × (MV × Unit)) :=
 match m with
 | .alloc x => some ((x.o.code, x.o.value, ()), (MV.alloc x, ()))
 | .publish x => some ((x.o.code, x.o.value, ()), (MV.publish x, ()))
 | .claim x => some ((x.o.code, x.o.value, ()), (MV.claim x, ()))
 | .attempt x => some ((x.o.code, x.o.value, ()), (MV.attempt x, ()))
 | .release x => some ((x.o.code, x.o.value, ()), (MV.release x, ()))
 | .opush x => some ((x.o.code, x.o.value, ()), (MV.opush x, ()))
 | .opop x => some ((x.o.code, x.o.value, ()), (MV.opop x, ()))
 | .steal x => some ((x.o.code, x.o.value, ()), (MV.steal x, ()))
 | .set x => some ((x.o.code, x.o.value, ()), (MV.set x, ()))
 | .reset x => some ((x.o.code, x.o.value, ()), (MV.reset x, ()))
 | .insert x => some ((x.o.code, x.o.value, ()), (MV.insert x, ()))
 | .remove x => some ((x.o.code, x.o.value, ()), (MV.remove x, ()))
 | .sleep x => some ((x.o.code, x.o.value, ()), (MV.sleep x, ()))
 | .wake x => some ((x.o.code, x.o.value, ()), (MV.wake x, ()))
 | .raise x => some ((x.o.code, x.o.value, ()), (MV.raise x, ()))
 | .probe x => some ((x.o.code, x.o.value, ()), (MV.probe x, ()))
 | _ => none
noncomputable abbrev alV : Con SR1 := ⟨1000000001, [.mch], [.sh sI_, .sh sI_], fun x => afB x.1⟩
theorem an3 : CO Tryz.prog alV := ai9 (S := SR1) (i := 1) (ps := []) (rs := [.sh sI_, .sh sI_]) (spec := fun m _ => afB m) fun m xs out h => by
  cases m with
  | alloc x => exact aai (S := SR1) (ps := []) (rs := [.sh sI_, .sh sI_]) (c := 35) (mk := MV.alloc) (f := 133) (sp := fun x => some ((x.1.o.code, x.1.o.value, ()), (x.1, ()))) (fun _ => rfl) rfl (fun _ _ _ _ => by kernel_rfl) (aar [aah] ⟨aad, trivial⟩ fun x => by kernel_rfl) h
  | publish x => exact aai (S := SR1) (ps := []) (rs := [.sh sI_, .sh sI_]) (c := 50) (mk := MV.publish) (f := 133) (sp := fun x => some ((x.1.o.code, x.1.o.value, ()), (x.1, ()))) (fun _ => rfl) rfl (fun _ _ _ _ => by kernel_rfl) (aar [aah] ⟨aad, trivial⟩ fun x => by kernel_rfl) h
  | claim x => exact aai (S := SR1) (ps := []) (rs := [.sh sI_, .sh sI_]) (c := 45) (mk := MV.claim) (f := 133) (sp := fun x => some ((x.1.o.code, x.1.o.value, ()), (x.1, ()))) (fun _ => rfl) rfl (fun _ _ _ _ => by kernel_rfl) (aar [aah] ⟨aad, trivial⟩ fun x => by kernel_rfl) h
  | attempt x => exact aai (S := SR1) (ps := []) (rs := [.sh sI_, .sh sI_]) (c := 34) (mk := MV.attempt) (f := 133) (sp := fun x => some ((x.1.o.code, x.1.o.value, ()), (x.1, ()))) (fun _ => rfl) rfl (fun _ _ _ _ => by kernel_rfl) (aar [aah] ⟨aad, trivial⟩ fun x => by kernel_rfl) h
  | release x => exact aai (S := SR1) (ps := []) (rs := [.sh sI_, .sh sI_]) (c := 37) (mk := MV.release) (f := 133) (sp := fun x => some ((x.1.o.code, x.1.o.value, ()), (x.1, ()))) (fun _ => rfl) rfl (fun _ _ _ _ => by kernel_rfl) (aar [aah] ⟨aad, trivial⟩ fun x => by kernel_rfl) h
  | opush x => exact aai (S := SR1) (ps := []) (rs := [.sh sI_, .sh sI_]) (c := 53) (mk := MV.opush) (f := 133) (sp := fun x => some ((x.1.o.code, x.1.o.value, ()), (x.1, ()))) (fun _ => rfl) rfl (fun _ _ _ _ => by kernel_rfl) (aar [aah] ⟨aad, trivial⟩ fun x => by kernel_rfl) h
  | opop x => exact aai (S := SR1) (ps := []) (rs := [.sh sI_, .sh sI_]) (c := 52) (mk := MV.opop) (f := 133) (sp := fun x => some ((x.1.o.code, x.1.o.value, ()), (x.1, ()))) (fun _ => rfl) rfl (fun _ _ _ _ => by kernel_rfl) (aar [aah] ⟨aad, trivial⟩ fun x => by kernel_rfl) h
  | steal x => exact aai (S := SR1) (ps := []) (rs := [.sh sI_, .sh sI_]) (c := 42) (mk := MV.steal) (f := 133) (sp := fun x => some ((x.1.o.code, x.1.o.value, ()), (x.1, ()))) (fun _ => rfl) rfl (fun _ _ _ _ => by kernel_rfl) (aar [aah] ⟨aad, trivial⟩ fun x => by kernel_rfl) h
  | set x => exact aai (S := SR1) (ps := []) (rs := [.sh sI_, .sh sI_]) (c := 54) (mk := MV.set) (f := 133) (sp := fun x => some ((x.1.o.code, x.1.o.value, ()), (x.1, ()))) (fun _ => rfl) rfl (fun _ _ _ _ => by kernel_rfl) (aar [aah] ⟨aad, trivial⟩ fun x => by kernel_rfl) h
  | reset x => exact aai (S := SR1) (ps := []) (rs := [.sh sI_, .sh sI_]) (c := 43) (mk := MV.reset) (f := 133) (sp := fun x => some ((x.1.o.code, x.1.o.value, ()), (x.1, ()))) (fun _ => rfl) rfl (fun _ _ _ _ => by kernel_rfl) (aar [aah] ⟨aad, trivial⟩ fun x => by kernel_rfl) h
  | insert x => exact aai (S := SR1) (ps := []) (rs := [.sh sI_, .sh sI_]) (c := 36) (mk := MV.insert) (f := 133) (sp := fun x => some ((x.1.o.code, x.1.o.value, ()), (x.1, ()))) (fun _ => rfl) rfl (fun _ _ _ _ => by kernel_rfl) (aar [aah] ⟨aad, trivial⟩ fun x => by kernel_rfl) h
  | remove x => exact aai (S := SR1) (ps := []) (rs := [.sh sI_, .sh sI_]) (c := 51) (mk := MV.remove) (f := 133) (sp := fun x => some ((x.1.o.code, x.1.o.value, ()), (x.1, ()))) (fun _ => rfl) rfl (fun _ _ _ _ => by kernel_rfl) (aar [aah] ⟨aad, trivial⟩ fun x => by kernel_rfl) h
  | sleep x => exact aai (S := SR1) (ps := []) (rs := [.sh sI_, .sh sI_]) (c := 32) (mk := MV.sleep) (f := 133) (sp := fun x => some ((x.1.o.code, x.1.o.value, ()), (x.1, ()))) (fun _ => rfl) rfl (fun _ _ _ _ => by kernel_rfl) (aar [aah] ⟨aad, trivial⟩ fun x => by kernel_rfl) h
  | wake x => exact aai (S := SR1) (ps := []) (rs := [.sh sI_, .sh sI_]) (c := 38) (mk := MV.wake) (f := 133) (sp := fun x => some ((x.1.o.code, x.1.o.value, ()), (x.1, ()))) (fun _ => rfl) rfl (fun _ _ _ _ => by kernel_rfl) (aar [aah] ⟨aad, trivial⟩ fun x => by kernel_rfl) h
  | raise x => exact aai (S := SR1) (ps := []) (rs := [.sh sI_, .sh sI_]) (c := 55) (mk := MV.raise) (f := 133) (sp := fun x => some ((x.1.o.code, x.1.o.value, ()), (x.1, ()))) (fun _ => rfl) rfl (fun _ _ _ _ => by kernel_rfl) (aar [aah] ⟨aad, trivial⟩ fun x => by kernel_rfl) h
  | probe x => exact aai (S := SR1) (ps := []) (rs := [.sh sI_, .sh sI_]) (c := 46) (mk := MV.probe) (f := 133) (sp := fun x => some ((x.1.o.code, x.1.o.value, ()), (x.1, ()))) (fun _ => rfl) rfl (fun _ _ _ _ => by kernel_rfl) (aar [aah] ⟨aad, trivial⟩ fun x => by kernel_rfl) h
  | _ => cases h
noncomputable def aof (y0 : QV) (y1 : Int) : Option ((MV × Unit) × (Unit)) :=
 some ((MV.opush (⟨⟨false, 0, 0⟩, y0, y1, 1, 0⟩ : OPushV), ()), (()))
noncomputable abbrev aod : Con SR1 := ⟨228, [.val 14, .sh sI_], [.sh .mach], fun x => aof x.1 x.2.1⟩
theorem asb : CO Tryz.prog aod := aaq aap Tryz.func228 [] trivial [] trivial (fun _ => []) [] fun x => by kernel_rfl
noncomputable def ajh (y0 : Int) (y1 : Int) : Option ((MV × Unit) × (Unit)) :=
 some ((MV.set (⟨⟨false, 0, 0⟩, y0, y1⟩ : SetV), ()), (()))
noncomputable abbrev aoW : Con SR1 := ⟨229, [.sh sI_, .sh sI_], [.sh .mach], fun x => ajh x.1 x.2.1⟩
theorem asV : CO Tryz.prog aoW := aaq aap Tryz.func229 [] trivial [] trivial (fun _ => []) [] fun x => by kernel_rfl
noncomputable def acq (y0 : (LPushV MV)) (y1 : EnvP) : Option ((Bool × Unit) × ((LPushV MV) × EnvP × Unit)) :=
 (aaA y0.o).bind fun r1 =>
 if r1.1.1 = true then
  some ((true, ()), (({ y0 with o := r1.2.1 } : (LPushV MV)), y1, ()))
 else
 if (SR1.spl y0.inside).isNone = true then
  (agI y1.l y0.worker y0.level).bind fun r2 =>
  if y0.value = y0.value then
   (aof r2.1.1 y0.value).bind fun r3 =>
   (ajX r3.1.1 y1).bind fun r4 =>
   if (!r4.1.1) = true then
   some ((false, ()), (({ y0 with o := r1.2.1, inside := r4.2.1 } : (LPushV MV)), r4.2.2.1, ()))
   else
   (afB r4.2.1).bind fun r5 =>
   if r5.1.1 = 3 then
   (abf r1.2.1 3 0).bind fun r6 =>
   some ((r6.1.1, ()), (({ y0 with o := r6.2.1, inside := r5.2.1 } : (LPushV MV)), r4.2.2.1, ()))
   else
   if y0.line = 2 then
   (abf r1.2.1 0 0).bind fun r7 =>
   some ((r7.1.1, ()), (({ y0 with o := r7.2.1, inside := r5.2.1 } : (LPushV MV)), r4.2.2.1, ()))
   else
   (ag4 r4.2.2.1.l y0.worker).bind fun r8 =>
   if y0.level = y0.level then
   (ajh r8.1.1 y0.level).bind fun r9 =>
   some ((false, ()), (({ y0 with o := r1.2.1, line := 2, inside := r9.1.1 } : (LPushV MV)), r4.2.2.1, ()))
   else none
  else none
 else
 (ajX y0.inside y1).bind fun r10 =>
 if (!r10.1.1) = true then
  some ((false, ()), (({ y0 with o := r1.2.1, inside := r10.2.1 } : (LPushV MV)), r10.2.2.1, ()))
 else
 (afB r10.2.1).bind fun r11 =>
 if r11.1.1 = 3 then
  (abf r1.2.1 3 0).bind fun r12 =>
  some ((r12.1.1, ()), (({ y0 with o := r12.2.1, inside := r11.2.1 } : (LPushV MV)), r10.2.2.1, ()))
 else
 if y0.line = 2 then
  (abf r1.2.1 0 0).bind fun r13 =>
  some ((r13.1.1, ()), (({ y0 with o := r13.2.1, inside := r11.2.1 } : (LPushV MV)), r10.2.2.1, ()))
 else
 (ag4 r10.2.2.1.l y0.worker).bind fun r14 =>
 if y0.level = y0.level then
  (ajh r14.1.1 y0.level).bind fun r15 =>
  some ((false, ()), (({ y0 with o := r1.2.1, line := 2, inside := r15.1.1 } : (LPushV MV)), r10.2.2.1, ()))
 else none
noncomputable abbrev am5 : Con SR1 := ⟨227, [.ref 47, .ref 27], [.sh .b], fun x => acq x.1 x.2.1⟩
theorem afq : CO Tryz.prog am5 := aaq aap Tryz.func227 [abn, ajw, aod, apY, alV, acA, agJ, aoW] ⟨aa6, aiX, asb, arL, an3, aby, agu, asV, trivial⟩ [] trivial (fun _ => []) [] fun x => by kernel_rfl
noncomputable def aqr (y0 : QV) : Option ((MV × Unit) × (Unit)) :=
 some ((MV.opop (⟨⟨false, 0, 0⟩, y0, 1, 0, 0⟩ : OPopV), ()), (()))
noncomputable abbrev apw : Con SR1 := ⟨217, [.val 14], [.sh .mach], fun x => aqr x.1⟩
theorem atA : CO Tryz.prog apw := aaq aap Tryz.func217 [] trivial [] trivial (fun _ => []) [] fun x => by kernel_rfl
noncomputable def ahY (y0 : (LPopV MV)) (y1 : EnvP) : Option ((Bool × Unit) × ((LPopV MV) × EnvP × Unit)) :=
 (ag4 y1.l y0.worker).bind fun r1 =>
 (acv y1.m r1.1.1).bind fun r2 =>
 if r2.1.1 = 0 then
  (abf y0.o 2 0).bind fun r3 =>
  some ((r3.1.1, ()), (({ y0 with o := r3.2.1 } : (LPopV MV)), ({ y1 with m := r2.2.1 } : EnvP), ()))
 else
 (agP r2.1.1).bind fun r4 =>
 (agI y1.l y0.worker r4.1.1).bind fun r5 =>
 (aqr r5.1.1).bind fun r6 =>
 some ((false, ()), (({ y0 with level := r4.1.1, line := 2, inside := r6.1.1 } : (LPopV MV)), ({ y1 with m := r2.2.1 } : EnvP), ()))
noncomputable abbrev ai4 : Con SR1 := ⟨215, [.ref 44, .ref 27], [.sh .b], fun x => ahY x.1 x.2.1⟩
theorem am6 : CO Tryz.prog ai4 := aaq aap Tryz.func215 [agJ, acz, acA, atu, ajw, apw] ⟨agu, abL, aby, auZ, aiX, atA, trivial⟩ [] trivial (fun _ => []) [] fun x => by kernel_rfl
noncomputable def agO (y0 : Int) (y1 : Int) (y2 : QV) : Option ((MV × Unit) × (Unit)) :=
 some ((MV.reset (⟨⟨false, 0, 0⟩, y0, y1, y2, 1, 0⟩ : ResetV), ()), (()))
noncomputable abbrev aid : Con SR1 := ⟨125, [.sh sI_, .sh sI_, .val 14], [.sh .mach], fun x => agO x.1 x.2.1 x.2.2.1⟩
theorem aj9 : CO Tryz.prog aid := aaq aap Tryz.func125 [] trivial [] trivial (fun _ => []) [] fun x => by kernel_rfl
noncomputable def acX (y0 : (LPopV MV)) (y1 : EnvP) : Option ((Bool × Unit) × ((LPopV MV) × EnvP × Unit)) :=
 (aaA y0.o).bind fun r1 =>
 if r1.1.1 = true then
  some ((true, ()), (({ y0 with o := r1.2.1 } : (LPopV MV)), y1, ()))
 else
 if y0.line = 1 then
  (ahY ({ y0 with o := r1.2.1 } : (LPopV MV)) y1).bind fun r2 =>
  some ((r2.1.1, ()), (r2.2.1, r2.2.2.1, ()))
 else
 (ajX y0.inside y1).bind fun r3 =>
 if (!r3.1.1) = true then
  some ((false, ()), (({ y0 with o := r1.2.1, inside := r3.2.1 } : (LPopV MV)), r3.2.2.1, ()))
 else
 (afB r3.2.1).bind fun r4 =>
 if y0.line = 3 then
  some ((false, ()), (({ y0 with o := r1.2.1, line := 1, inside := MV.nil } : (LPopV MV)), r3.2.2.1, ()))
 else
 if r4.1.1 = 1 then
  (abf r1.2.1 1 r4.1.2.1).bind fun r5 =>
  some ((r5.1.1, ()), (({ y0 with o := r5.2.1, inside := r4.2.1 } : (LPopV MV)), r3.2.2.1, ()))
 else
 (ag4 r3.2.2.1.l y0.worker).bind fun r6 =>
 if y0.level = y0.level then
  if y0.worker = y0.worker then
   if r3.2.2.1.l.workers = r3.2.2.1.l.workers then
   if r3.2.2.1.l.levels = r3.2.2.1.l.levels then
   if r3.2.2.1.l.classes = r3.2.2.1.l.classes then
   if r3.2.2.1.l.tasks = r3.2.2.1.l.tasks then
   if r3.2.2.1.l.deque = r3.2.2.1.l.deque then
   if r3.2.2.1.l.heap = r3.2.2.1.l.heap then
   if r3.2.2.1.l.sleepers = r3.2.2.1.l.sleepers then
   if r3.2.2.1.l.epochs = r3.2.2.1.l.epochs then
   if r3.2.2.1.l.bitmaps = r3.2.2.1.l.bitmaps then
   if r3.2.2.1.l.queues = r3.2.2.1.l.queues then
   if r3.2.2.1.l.table = r3.2.2.1.l.table then
   if y0.level = y0.level then
   (agI r3.2.2.1.l y0.worker y0.level).bind fun r7 =>
   if y0.level = y0.level then
   (agO r6.1.1 y0.level r7.1.1).bind fun r8 =>
   some ((false, ()), (({ y0 with o := r1.2.1, line := 3, inside := r8.1.1 } : (LPopV MV)), r3.2.2.1, ()))
   else none
   else none
   else none
   else none
   else none
   else none
   else none
   else none
   else none
   else none
   else none
   else none
   else none
  else none
 else none
noncomputable abbrev aop : Con SR1 := ⟨214, [.ref 44, .ref 27], [.sh .b], fun x => acX x.1 x.2.1⟩
theorem af4 : CO Tryz.prog aop := aaq aap Tryz.func214 [abn, ai4, apY, alV, acA, agJ, ajw, aid] ⟨aa6, am6, arL, an3, aby, agu, aiX, aj9, trivial⟩ [] trivial (fun _ => []) [] fun x => by kernel_rfl
noncomputable def adS (m : MV) (e : EnvP) : Option ((Bool × Unit) × (MV × EnvP × Unit)) :=
 match m with
 | .alloc x => (abP x e).bind fun o => some (o.1, (MV.alloc o.2.1, o.2.2))
 | .publish x => (abK x e).bind fun o => some (o.1, (MV.publish o.2.1, o.2.2))
 | .claim x => (ac2 x e).bind fun o => some (o.1, (MV.claim o.2.1, o.2.2))
 | .attempt x => (acE x e).bind fun o => some (o.1, (MV.attempt o.2.1, o.2.2))
 | .release x => (acD x e).bind fun o => some (o.1, (MV.release o.2.1, o.2.2))
 | .opush x => (adr x e).bind fun o => some (o.1, (MV.opush o.2.1, o.2.2))
 | .opop x => (adW x e).bind fun o => some (o.1, (MV.opop o.2.1, o.2.2))
 | .steal x => (ac1 x e).bind fun o => some (o.1, (MV.steal o.2.1, o.2.2))
 | .set x => (adt x e).bind fun o => some (o.1, (MV.set o.2.1, o.2.2))
 | .reset x => (acI x e).bind fun o => some (o.1, (MV.reset o.2.1, o.2.2))
 | .insert x => (abF x e).bind fun o => some (o.1, (MV.insert o.2.1, o.2.2))
 | .remove x => (abE x e).bind fun o => some (o.1, (MV.remove o.2.1, o.2.2))
 | .sleep x => (acW x e).bind fun o => some (o.1, (MV.sleep o.2.1, o.2.2))
 | .wake x => (adl x e).bind fun o => some (o.1, (MV.wake o.2.1, o.2.2))
 | .raise x => (acr x e).bind fun o => some (o.1, (MV.raise o.2.1, o.2.2))
 | .probe x => (abj x e).bind fun o => some (o.1, (MV.probe o.2.1, o.2.2))
 | .lpush x => (acq x e).bind fun o => some (o.1, (MV.lpush o.2.1, o.2.2))
 | .lpop x => (acX x e).bind fun o => some (o.1, (MV.lpop o.2.1, o.2.2))
 | _ => none
noncomputable abbrev ahO : Con SR1 := ⟨1000000000, [.mch, .ref 27], [.sh .b], fun x => adS x.1 x.2.1⟩
theorem ahf : CO Tryz.prog ahO := ai9 (S := SR1) (i := 0) (ps := [.ref 27]) (rs := [.sh .b]) (spec := fun m xs => adS m xs.1) fun m xs out h => by
  cases m with
  | alloc x => exact aai (S := SR1) (ps := [.ref 27]) (rs := [.sh .b]) (c := 35) (mk := MV.alloc) (fun _ => rfl) rfl (fun _ _ _ _ => by kernel_rfl) ac7 h
  | publish x => exact aai (S := SR1) (ps := [.ref 27]) (rs := [.sh .b]) (c := 50) (mk := MV.publish) (fun _ => rfl) rfl (fun _ _ _ _ => by kernel_rfl) adn h
  | claim x => exact aai (S := SR1) (ps := [.ref 27]) (rs := [.sh .b]) (c := 45) (mk := MV.claim) (fun _ => rfl) rfl (fun _ _ _ _ => by kernel_rfl) ad5 h
  | attempt x => exact aai (S := SR1) (ps := [.ref 27]) (rs := [.sh .b]) (c := 34) (mk := MV.attempt) (fun _ => rfl) rfl (fun _ _ _ _ => by kernel_rfl) adM h
  | release x => exact aai (S := SR1) (ps := [.ref 27]) (rs := [.sh .b]) (c := 37) (mk := MV.release) (fun _ => rfl) rfl (fun _ _ _ _ => by kernel_rfl) adL h
  | opush x => exact aai (S := SR1) (ps := [.ref 27]) (rs := [.sh .b]) (c := 53) (mk := MV.opush) (fun _ => rfl) rfl (fun _ _ _ _ => by kernel_rfl) aet h
  | opop x => exact aai (S := SR1) (ps := [.ref 27]) (rs := [.sh .b]) (c := 52) (mk := MV.opop) (fun _ => rfl) rfl (fun _ _ _ _ => by kernel_rfl) aeV h
  | steal x => exact aai (S := SR1) (ps := [.ref 27]) (rs := [.sh .b]) (c := 42) (mk := MV.steal) (fun _ => rfl) rfl (fun _ _ _ _ => by kernel_rfl) ad4 h
  | set x => exact aai (S := SR1) (ps := [.ref 27]) (rs := [.sh .b]) (c := 54) (mk := MV.set) (fun _ => rfl) rfl (fun _ _ _ _ => by kernel_rfl) aew h
  | reset x => exact aai (S := SR1) (ps := [.ref 27]) (rs := [.sh .b]) (c := 43) (mk := MV.reset) (fun _ => rfl) rfl (fun _ _ _ _ => by kernel_rfl) adO h
  | insert x => exact aai (S := SR1) (ps := [.ref 27]) (rs := [.sh .b]) (c := 36) (mk := MV.insert) (fun _ => rfl) rfl (fun _ _ _ _ => by kernel_rfl) ac0 h
  | remove x => exact aai (S := SR1) (ps := [.ref 27]) (rs := [.sh .b]) (c := 51) (mk := MV.remove) (fun _ => rfl) rfl (fun _ _ _ _ => by kernel_rfl) acZ h
  | sleep x => exact aai (S := SR1) (ps := [.ref 27]) (rs := [.sh .b]) (c := 32) (mk := MV.sleep) (fun _ => rfl) rfl (fun _ _ _ _ => by kernel_rfl) aer h
  | wake x => exact aai (S := SR1) (ps := [.ref 27]) (rs := [.sh .b]) (c := 38) (mk := MV.wake) (fun _ => rfl) rfl (fun _ _ _ _ => by kernel_rfl) aeS h
  | raise x => exact aai (S := SR1) (ps := [.ref 27]) (rs := [.sh .b]) (c := 55) (mk := MV.raise) (fun _ => rfl) rfl (fun _ _ _ _ => by kernel_rfl) aeb h
  | probe x => exact aai (S := SR1) (ps := [.ref 27]) (rs := [.sh .b]) (c := 46) (mk := MV.probe) (fun _ => rfl) rfl (fun _ _ _ _ => by kernel_rfl) ad6 h
  | lpush x => exact aai (S := SR1) (ps := [.ref 27]) (rs := [.sh .b]) (c := 47) (mk := MV.lpush) (fun _ => rfl) rfl (fun _ _ _ _ => by kernel_rfl) afq h
  | lpop x => exact aai (S := SR1) (ps := [.ref 27]) (rs := [.sh .b]) (c := 44) (mk := MV.lpop) (fun _ => rfl) rfl (fun _ _ _ _ => by kernel_rfl) af4 h
  | _ => cases h
noncomputable def abC (m : MV) : Option ((Int × Int × Unit) × (MV × Unit)) :=
 match m with
 | .alloc x => some ((x.o.code, x.o.value, ()), (MV.alloc x, ()))
 | .publish x => some ((x.o.code, x.o.value, ()), (MV.publish x, ()))
 | .claim x => some ((x.o.code, x.o.value, ()), (MV.claim x, ()))
 | .attempt x => some ((x.o.code, x.o.value, ()), (MV.attempt x, ()))
 | .release x => some ((x.o.code, x.o.value, ()), (MV.release x, ()))
 | .opush x => some ((x.o.code, x.o.value, ()), (MV.opush x, ()))
 | .opop x => some ((x.o.code, x.o.value, ()), (MV.opop x, ()))
 | .steal x => some ((x.o.code, x.o.value, ()), (MV.steal x, ()))
 | .set x => some ((x.o.code, x.o.value, ()), (MV.set x, ()))
 | .reset x => some ((x.o.code, x.o.value, ()), (MV.reset x, ()))
 | .insert x => some ((x.o.code, x.o.value, ()), (MV.insert x, ()))
 | .remove x => some ((x.o.code, x.o.value, ()), (MV.remove x, ()))
 | .sleep x => some ((x.o.code, x.o.value, ()), (MV.sleep x, ()))
 | .wake x => some ((x.o.code, x.o.value, ()), (MV.wake x, ()))
 | .raise x => some ((x.o.code, x.o.value, ()), (MV.raise x, ()))
 | .probe x => some ((x.o.code, x.o.value, ()), (MV.probe x, ()))
 | .lpush x => some ((x.o.code, x.o.value, ()), (MV.lpush x, ()))
 | .lpop x => some ((x.o.code, x.o.value, ()), (MV.lpop x, ()))
 | _ => none
noncomputable abbrev afm : Con SR1 := ⟨1000000001, [.mch], [.sh sI_, .sh sI_], fun x => abC x.1⟩
theorem afl : CO Tryz.prog afm := ai9 (S := SR1) (i := 1) (ps := []) (rs := [.sh sI_, .sh sI_]) (spec := fun m _ => abC m) fun m xs out h => by
  cases m with
  | alloc x => exact aai (S := SR1) (ps := []) (rs := [.sh sI_, .sh sI_]) (c := 35) (mk := MV.alloc) (f := 133) (sp := fun x => some ((x.1.o.code, x.1.o.value, ()), (x.1, ()))) (fun _ => rfl) rfl (fun _ _ _ _ => by kernel_rfl) (aar [aah] ⟨aad, trivial⟩ fun x => by kernel_rfl) h
  | publish x => exact aai (S := SR1) (ps := []) (rs := [.sh sI_, .sh sI_]) (c := 50) (mk := MV.publish) (f := 133) (sp := fun x => some ((x.1.o.code, x.1.o.value, ()), (x.1, ()))) (fun _ => rfl) rfl (fun _ _ _ _ => by kernel_rfl) (aar [aah] ⟨aad, trivial⟩ fun x => by kernel_rfl) h
  | claim x => exact aai (S := SR1) (ps := []) (rs := [.sh sI_, .sh sI_]) (c := 45) (mk := MV.claim) (f := 133) (sp := fun x => some ((x.1.o.code, x.1.o.value, ()), (x.1, ()))) (fun _ => rfl) rfl (fun _ _ _ _ => by kernel_rfl) (aar [aah] ⟨aad, trivial⟩ fun x => by kernel_rfl) h
  | attempt x => exact aai (S := SR1) (ps := []) (rs := [.sh sI_, .sh sI_]) (c := 34) (mk := MV.attempt) (f := 133) (sp := fun x => some ((x.1.o.code, x.1.o.value, ()), (x.1, ()))) (fun _ => rfl) rfl (fun _ _ _ _ => by kernel_rfl) (aar [aah] ⟨aad, trivial⟩ fun x => by kernel_rfl) h
  | release x => exact aai (S := SR1) (ps := []) (rs := [.sh sI_, .sh sI_]) (c := 37) (mk := MV.release) (f := 133) (sp := fun x => some ((x.1.o.code, x.1.o.value, ()), (x.1, ()))) (fun _ => rfl) rfl (fun _ _ _ _ => by kernel_rfl) (aar [aah] ⟨aad, trivial⟩ fun x => by kernel_rfl) h
  | opush x => exact aai (S := SR1) (ps := []) (rs := [.sh sI_, .sh sI_]) (c := 53) (mk := MV.opush) (f := 133) (sp := fun x => some ((x.1.o.code, x.1.o.value, ()), (x.1, ()))) (fun _ => rfl) rfl (fun _ _ _ _ => by kernel_rfl) (aar [aah] ⟨aad, trivial⟩ fun x => by kernel_rfl) h
  | opop x => exact aai (S := SR1) (ps := []) (rs := [.sh sI_, .sh sI_]) (c := 52) (mk := MV.opop) (f := 133) (sp := fun x => some ((x.1.o.code, x.1.o.value, ()), (x.1, ()))) (fun _ => rfl) rfl (fun _ _ _ _ => by kernel_rfl) (aar [aah] ⟨aad, trivial⟩ fun x => by kernel_rfl) h
  | steal x => exact aai (S := SR1) (ps := []) (rs := [.sh sI_, .sh sI_]) (c := 42) (mk := MV.steal) (f := 133) (sp := fun x => some ((x.1.o.code, x.1.o.value, ()), (x.1, ()))) (fun _ => rfl) rfl (fun _ _ _ _ => by kernel_rfl) (aar [aah] ⟨aad, trivial⟩ fun x => by kernel_rfl) h
  | set x => exact aai (S := SR1) (ps := []) (rs := [.sh sI_, .sh sI_]) (c := 54) (mk := MV.set) (f := 133) (sp := fun x => some ((x.1.o.code, x.1.o.value, ()), (x.1, ()))) (fun _ => rfl) rfl (fun _ _ _ _ => by kernel_rfl) (aar [aah] ⟨aad, trivial⟩ fun x => by kernel_rfl) h
  | reset x => exact aai (S := SR1) (ps := []) (rs := [.sh sI_, .sh sI_]) (c := 43) (mk := MV.reset) (f := 133) (sp := fun x => some ((x.1.o.code, x.1.o.value, ()), (x.1, ()))) (fun _ => rfl) rfl (fun _ _ _ _ => by kernel_rfl) (aar [aah] ⟨aad, trivial⟩ fun x => by kernel_rfl) h
  | insert x => exact aai (S := SR1) (ps := []) (rs := [.sh sI_, .sh sI_]) (c := 36) (mk := MV.insert) (f := 133) (sp := fun x => some ((x.1.o.code, x.1.o.value, ()), (x.1, ()))) (fun _ => rfl) rfl (fun _ _ _ _ => by kernel_rfl) (aar [aah] ⟨aad, trivial⟩ fun x => by kernel_rfl) h
  | remove x => exact aai (S := SR1) (ps := []) (rs := [.sh sI_, .sh sI_]) (c := 51) (mk := MV.remove) (f := 133) (sp := fun x => some ((x.1.o.code, x.1.o.value, ()), (x.1, ()))) (fun _ => rfl) rfl (fun _ _ _ _ => by kernel_rfl) (aar [aah] ⟨aad, trivial⟩ fun x => by kernel_rfl) h
  | sleep x => exact aai (S := SR1) (ps := []) (rs := [.sh sI_, .sh sI_]) (c := 32) (mk := MV.sleep) (f := 133) (sp := fun x => some ((x.1.o.code, x.1.o.value, ()), (x.1, ()))) (fun _ => rfl) rfl (fun _ _ _ _ => by kernel_rfl) (aar [aah] ⟨aad, trivial⟩ fun x => by kernel_rfl) h
  | wake x => exact aai (S := SR1) (ps := []) (rs := [.sh sI_, .sh sI_]) (c := 38) (mk := MV.wake) (f := 133) (sp := fun x => some ((x.1.o.code, x.1.o.value, ()), (x.1, ()))) (fun _ => rfl) rfl (fun _ _ _ _ => by kernel_rfl) (aar [aah] ⟨aad, trivial⟩ fun x => by kernel_rfl) h
  | raise x => exact aai (S := SR1) (ps := []) (rs := [.sh sI_, .sh sI_]) (c := 55) (mk := MV.raise) (f := 133) (sp := fun x => some ((x.1.o.code, x.1.o.value, ()), (x.1, ()))) (fun _ => rfl) rfl (fun _ _ _ _ => by kernel_rfl) (aar [aah] ⟨aad, trivial⟩ fun x => by kernel_rfl) h
  | probe x => exact aai (S := SR1) (ps := []) (rs := [.sh sI_, .sh sI_]) (c := 46) (mk := MV.probe) (f := 133) (sp := fun x => some ((x.1.o.code, x.1.o.value, ()), (x.1, ()))) (fun _ => rfl) rfl (fun _ _ _ _ => by kernel_rfl) (aar [aah] ⟨aad, trivial⟩ fun x => by kernel_rfl) h
  | lpush x => exact aai (S := SR1) (ps := []) (rs := [.sh sI_, .sh sI_]) (c := 47) (mk := MV.lpush) (f := 133) (sp := fun x => some ((x.1.o.code, x.1.o.value, ()), (x.1, ()))) (fun _ => rfl) rfl (fun _ _ _ _ => by kernel_rfl) (aar [aah] ⟨aad, trivial⟩ fun x => by kernel_rfl) h
  | lpop x => exact aai (S := SR1) (ps := []) (rs := [.sh sI_, .sh sI_]) (c := 44) (mk := MV.lpop) (f := 133) (sp := fun x => some ((x.1.o.code, x.1.o.value, ()), (x.1, ()))) (fun _ => rfl) rfl (fun _ _ _ _ => by kernel_rfl) (aar [aah] ⟨aad, trivial⟩ fun x => by kernel_rfl) h
  | _ => cases h
noncomputable def amn (y0 : Int) (y1 : Int) (y2 : Int) : Option ((MV × Unit) × (Unit)) :=
 some ((MV.raise (⟨⟨false, 0, 0⟩, y0, y1, y2, 1, 0⟩ : RaiseV), ()), (()))
noncomputable abbrev amM : Con SR1 := ⟨242, [.sh sI_, .sh sI_, .sh sI_], [.sh .mach], fun x => amn x.1 x.2.1 x.2.2.1⟩
theorem ara : CO Tryz.prog amM := aaq aap Tryz.func242 [] trivial [] trivial (fun _ => []) [] fun x => by kernel_rfl
end Go.Proofs.YtclaldommncdbaaGreat
