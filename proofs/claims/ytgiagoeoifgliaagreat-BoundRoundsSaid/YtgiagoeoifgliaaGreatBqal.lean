/- The program's machines in the evaluator's form. -/
import Derived.Test.YtgiagoeoifgliaaGreatBqak
set_option linter.all false
namespace Go.Proofs.YtgiagoeoifgliaaGreat
open Go Go.RowKit
set_option maxRecDepth 100000
variable [Tb]
noncomputable def injectorInsertStep (y0 : InsertV) (y1 : EnvP) : Option ((Bool × Unit) × (InsertV × EnvP × Unit)) :=
 (pEnded y0.o).bind fun r1 =>
 if r1.1.1 = true then
  some ((true, ()), (({ y0 with o := r1.2.1 } : InsertV), y1, ()))
 else
 if y1.l.workers = y1.l.workers then
  if y1.l.levels = y1.l.levels then
   if y1.l.classes = y1.l.classes then
   if y1.l.tasks = y1.l.tasks then
   if y1.l.deque = y1.l.deque then
   if y1.l.heap = y1.l.heap then
   if y1.l.sleepers = y1.l.sleepers then
   if y1.l.epochs = y1.l.epochs then
   if y1.l.bitmaps = y1.l.bitmaps then
   if y1.l.queues = y1.l.queues then
   if y1.l.table = y1.l.table then
   if y0.line = 1 then
   (pLSize y1.l).bind fun r2 =>
   (pLoad y1.m r2.1.1).bind fun r3 =>
   if y1.c.heap ≤ (wi (r3.1.1)) then
   (pEnd r1.2.1 3 0).bind fun r4 =>
   some ((r4.1.1, ()), (({ y0 with o := r4.2.1, n := wi (r3.1.1) } : InsertV), ({ y1 with m := r3.2.1 } : EnvP), ()))
   else
   some ((false, ()), (({ y0 with o := r1.2.1, line := 2, n := wi (r3.1.1) } : InsertV), ({ y1 with m := r3.2.1 } : EnvP), ()))
   else
   if y0.line = 2 then
   (pArrival y1.l).bind fun r5 =>
   if y0.task = y0.task then
   if y0.deadline = y0.deadline then
   (pAdd y1.m r5.1.1 1).bind fun r6 =>
   if y0.task = y0.task then
   if y0.deadline = y0.deadline then
   (pPack y0.deadline (wi (r6.1.1)) y0.task).bind fun r7 =>
   if (!r7.1.2.1) = true then
   (pEnd r1.2.1 4 0).bind fun r8 =>
   some ((r8.1.1, ()), (({ y0 with o := r8.2.1 } : InsertV), ({ y1 with m := r6.2.1 } : EnvP), ()))
   else
   (injectorInsertPlace ({ y0 with o := r1.2.1, i := y0.n, k := r7.1.1 } : InsertV)).bind fun r9 =>
   some ((false, ()), (({ r9.2.1 with line := r9.1.1 } : InsertV), ({ y1 with m := r6.2.1 } : EnvP), ()))
   else none
   else none
   else none
   else none
   else
   if y0.line = 3 then
   (pSlot y1.l (wi (Int.tdiv (wi (y0.i - 1)) 2))).bind fun r10 =>
   (pLoad y1.m r10.1.1).bind fun r11 =>
   if y0.k < r11.1.1 then
   some ((false, ()), (({ y0 with o := r1.2.1, line := 4, x := r11.1.1 } : InsertV), ({ y1 with m := r11.2.1 } : EnvP), ()))
   else
   some ((false, ()), (({ y0 with o := r1.2.1, line := 5, x := r11.1.1 } : InsertV), ({ y1 with m := r11.2.1 } : EnvP), ()))
   else
   if y0.line = 4 then
   (pSlot y1.l y0.i).bind fun r12 =>
   if y0.x = y0.x then
   (pStore y1.m r12.1.1 y0.x).bind fun r13 =>
   (injectorInsertPlace ({ y0 with o := r1.2.1, i := wi (Int.tdiv (wi (y0.i - 1)) 2) } : InsertV)).bind fun r14 =>
   some ((false, ()), (({ r14.2.1 with line := r14.1.1 } : InsertV), ({ y1 with m := r13.2.1 } : EnvP), ()))
   else none
   else
   if y0.line = 5 then
   (pSlot y1.l y0.i).bind fun r15 =>
   if y0.k = y0.k then
   (pStore y1.m r15.1.1 y0.k).bind fun r16 =>
   some ((false, ()), (({ y0 with o := r1.2.1, line := 6 } : InsertV), ({ y1 with m := r16.2.1 } : EnvP), ()))
   else none
   else
   (pLSize y1.l).bind fun r17 =>
   if y0.n = y0.n then
   (pStore y1.m r17.1.1 (wu (wi (y0.n + 1)))).bind fun r18 =>
   (pEnd r1.2.1 0 0).bind fun r19 =>
   some ((r19.1.1, ()), (({ y0 with o := r19.2.1 } : InsertV), ({ y1 with m := r18.2.1 } : EnvP), ()))
   else none
   else none
   else none
   else none
   else none
   else none
   else none
   else none
   else none
   else none
  else none
 else none
noncomputable abbrev injectorInsertStep_k : Con SR1 := ⟨294, [.ref 36, .ref 27], [.sh .b], fun x => injectorInsertStep x.1 x.2.1⟩
theorem injectorInsertStep_ok : CO Tryz.prog injectorInsertStep_k := co_fn mixed Tryz.func294 [pEnded_k, pLSize_k, pLoad_k, pEnd_k, pArrival_k, pAdd_k, pPack_k, injectorInsertPlace_k, pSlot_k, pStore_k] ⟨pEnded_ok, pLSize_ok, pLoad_ok, pEnd_ok, pArrival_ok, pAdd_ok, pPack_ok, injectorInsertPlace_ok, pSlot_ok, pStore_ok, trivial⟩ [] trivial (fun _ => []) [] fun x => by kernel_rfl
noncomputable def injectorRemoveDescend (y0 : RemoveV) : Option ((Int × Unit) × (RemoveV × Unit)) :=
 if y0.z < y0.y then
  some ((7, ()), (y0, ()))
 else
 some ((8, ()), (y0, ()))
noncomputable abbrev injectorRemoveDescend_k : Con SR1 := ⟨302, [.ref 51], [.sh sI_], fun x => injectorRemoveDescend x.1⟩
theorem injectorRemoveDescend_ok : CO Tryz.prog injectorRemoveDescend_k := co_fn mixed Tryz.func302 [] trivial [] trivial (fun _ => []) [] fun x => by kernel_rfl
noncomputable def injectorRemoveChildren (y0 : RemoveV) : Option ((Int × Unit) × (RemoveV × Unit)) :=
 if (wi ((wi (2 * y0.i)) + 1)) < (wi (y0.n - 1)) then
  some ((5, ()), (y0, ()))
 else
 some ((8, ()), (y0, ()))
noncomputable abbrev injectorRemoveChildren_k : Con SR1 := ⟨303, [.ref 51], [.sh sI_], fun x => injectorRemoveChildren x.1⟩
theorem injectorRemoveChildren_ok : CO Tryz.prog injectorRemoveChildren_k := co_fn mixed Tryz.func303 [] trivial [] trivial (fun _ => []) [] fun x => by kernel_rfl
noncomputable def injectorRemoveTask (y0 : RemoveV) : Option ((Int × Unit) × (RemoveV × Unit)) :=
 (pUnpack y0.x).bind fun r1 =>
 some ((r1.1.2.2.1, ()), (y0, ()))
noncomputable abbrev injectorRemoveTask_k : Con SR1 := ⟨304, [.ref 51], [.sh sI_], fun x => injectorRemoveTask x.1⟩
theorem injectorRemoveTask_ok : CO Tryz.prog injectorRemoveTask_k := co_fn mixed Tryz.func304 [pUnpack_k] ⟨pUnpack_ok, trivial⟩ [] trivial (fun _ => []) [] fun x => by kernel_rfl
noncomputable def injectorRemoveBegin (y0 : RemoveV) (y1 : EnvP) : Option ((Bool × Unit) × (RemoveV × EnvP × Unit)) :=
 if y1.l.workers = y1.l.workers then
  if y1.l.levels = y1.l.levels then
   if y1.l.classes = y1.l.classes then
   if y1.l.tasks = y1.l.tasks then
   if y1.l.deque = y1.l.deque then
   if y1.l.heap = y1.l.heap then
   if y1.l.sleepers = y1.l.sleepers then
   if y1.l.epochs = y1.l.epochs then
   if y1.l.bitmaps = y1.l.bitmaps then
   if y1.l.queues = y1.l.queues then
   if y1.l.table = y1.l.table then
   if y0.line = 1 then
   (pLSize y1.l).bind fun r1 =>
   (pLoad y1.m r1.1.1).bind fun r2 =>
   if (wi (r2.1.1)) ≤ 0 then
   (pEnd y0.o 2 0).bind fun r3 =>
   some ((r3.1.1, ()), (({ y0 with o := r3.2.1, n := wi (r2.1.1) } : RemoveV), ({ y1 with m := r2.2.1 } : EnvP), ()))
   else
   some ((false, ()), (({ y0 with line := 2, n := wi (r2.1.1) } : RemoveV), ({ y1 with m := r2.2.1 } : EnvP), ()))
   else
   if y0.line = 2 then
   (pSlot y1.l 0).bind fun r4 =>
   (pLoad y1.m r4.1.1).bind fun r5 =>
   some ((false, ()), (({ y0 with line := 3, x := r5.1.1 } : RemoveV), ({ y1 with m := r5.2.1 } : EnvP), ()))
   else
   if y0.line = 3 then
   (pSlot y1.l (wi (y0.n - 1))).bind fun r6 =>
   (pLoad y1.m r6.1.1).bind fun r7 =>
   some ((false, ()), (({ y0 with line := 4, y := r7.1.1 } : RemoveV), ({ y1 with m := r7.2.1 } : EnvP), ()))
   else
   (pLSize y1.l).bind fun r8 =>
   if y0.n = y0.n then
   (pStore y1.m r8.1.1 (wu (wi (y0.n - 1)))).bind fun r9 =>
   (injectorRemoveTask y0).bind fun r10 =>
   if y0.worker = r10.2.1.worker then
   (pEmit ({ y1 with m := r9.2.1 } : EnvP) (⟨13, y0.worker, r10.1.1, 0, 0⟩ : Ev)).bind fun r11 =>
   if r10.2.1.n = 1 then
   (injectorRemoveTask r10.2.1).bind fun r12 =>
   (pEnd r12.2.1.o 1 r12.1.1).bind fun r13 =>
   some ((r13.1.1, ()), (({ r12.2.1 with o := r13.2.1 } : RemoveV), r11.2.1, ()))
   else
   (injectorRemoveChildren r10.2.1).bind fun r14 =>
   some ((false, ()), (({ r14.2.1 with line := r14.1.1 } : RemoveV), r11.2.1, ()))
   else none
   else none
   else none
   else none
   else none
   else none
   else none
   else none
   else none
   else none
   else none
  else none
 else none
noncomputable abbrev injectorRemoveBegin_k : Con SR1 := ⟨305, [.ref 51, .ref 27], [.sh .b], fun x => injectorRemoveBegin x.1 x.2.1⟩
theorem injectorRemoveBegin_ok : CO Tryz.prog injectorRemoveBegin_k := co_fn mixed Tryz.func305 [pLSize_k, pLoad_k, pEnd_k, pSlot_k, pStore_k, injectorRemoveTask_k, pEmit_k, injectorRemoveChildren_k] ⟨pLSize_ok, pLoad_ok, pEnd_ok, pSlot_ok, pStore_ok, injectorRemoveTask_ok, pEmit_ok, injectorRemoveChildren_ok, trivial⟩ [] trivial (fun _ => []) [] fun x => by kernel_rfl
noncomputable def injectorRemoveStep (y0 : RemoveV) (y1 : EnvP) : Option ((Bool × Unit) × (RemoveV × EnvP × Unit)) :=
 (pEnded y0.o).bind fun r1 =>
 if r1.1.1 = true then
  some ((true, ()), (({ y0 with o := r1.2.1 } : RemoveV), y1, ()))
 else
 if y1.l.workers = y1.l.workers then
  if y1.l.levels = y1.l.levels then
   if y1.l.classes = y1.l.classes then
   if y1.l.tasks = y1.l.tasks then
   if y1.l.deque = y1.l.deque then
   if y1.l.heap = y1.l.heap then
   if y1.l.sleepers = y1.l.sleepers then
   if y1.l.epochs = y1.l.epochs then
   if y1.l.bitmaps = y1.l.bitmaps then
   if y1.l.queues = y1.l.queues then
   if y1.l.table = y1.l.table then
   if y0.line = 5 then
   (pSlot y1.l (wi ((wi (2 * y0.i)) + 1))).bind fun r2 =>
   (pLoad y1.m r2.1.1).bind fun r3 =>
   (injectorRemoveDescend ({ y0 with o := r1.2.1, c := wi ((wi (2 * y0.i)) + 1), z := r3.1.1 } : RemoveV)).bind fun r4 =>
   if (wi (r4.2.1.c + 1)) < (wi (r4.2.1.n - 1)) then
   some ((false, ()), (({ r4.2.1 with line := 6 } : RemoveV), ({ y1 with m := r3.2.1 } : EnvP), ()))
   else
   some ((false, ()), (({ r4.2.1 with line := r4.1.1 } : RemoveV), ({ y1 with m := r3.2.1 } : EnvP), ()))
   else
   if y0.line = 6 then
   (pSlot y1.l (wi ((wi (2 * y0.i)) + 2))).bind fun r5 =>
   (pLoad y1.m r5.1.1).bind fun r6 =>
   if r6.1.1 < y0.z then
   (injectorRemoveDescend ({ y0 with o := r1.2.1, c := wi ((wi (2 * y0.i)) + 2), z := r6.1.1 } : RemoveV)).bind fun r7 =>
   some ((false, ()), (({ r7.2.1 with line := r7.1.1 } : RemoveV), ({ y1 with m := r6.2.1 } : EnvP), ()))
   else
   (injectorRemoveDescend ({ y0 with o := r1.2.1 } : RemoveV)).bind fun r8 =>
   some ((false, ()), (({ r8.2.1 with line := r8.1.1 } : RemoveV), ({ y1 with m := r6.2.1 } : EnvP), ()))
   else
   if y0.line = 7 then
   (pSlot y1.l y0.i).bind fun r9 =>
   if y0.z = y0.z then
   (pStore y1.m r9.1.1 y0.z).bind fun r10 =>
   (injectorRemoveChildren ({ y0 with o := r1.2.1, i := y0.c } : RemoveV)).bind fun r11 =>
   some ((false, ()), (({ r11.2.1 with line := r11.1.1 } : RemoveV), ({ y1 with m := r10.2.1 } : EnvP), ()))
   else none
   else
   if y0.line = 8 then
   (pSlot y1.l y0.i).bind fun r12 =>
   if y0.y = y0.y then
   (pStore y1.m r12.1.1 y0.y).bind fun r13 =>
   (injectorRemoveTask ({ y0 with o := r1.2.1 } : RemoveV)).bind fun r14 =>
   (pEnd r14.2.1.o 1 r14.1.1).bind fun r15 =>
   some ((r15.1.1, ()), (({ r14.2.1 with o := r15.2.1 } : RemoveV), ({ y1 with m := r13.2.1 } : EnvP), ()))
   else none
   else
   (injectorRemoveBegin ({ y0 with o := r1.2.1 } : RemoveV) y1).bind fun r16 =>
   some ((r16.1.1, ()), (r16.2.1, r16.2.2.1, ()))
   else none
   else none
   else none
   else none
   else none
   else none
   else none
   else none
   else none
  else none
 else none
noncomputable abbrev injectorRemoveStep_k : Con SR1 := ⟨301, [.ref 51, .ref 27], [.sh .b], fun x => injectorRemoveStep x.1 x.2.1⟩
theorem injectorRemoveStep_ok : CO Tryz.prog injectorRemoveStep_k := co_fn mixed Tryz.func301 [pEnded_k, pSlot_k, pLoad_k, injectorRemoveDescend_k, pStore_k, injectorRemoveChildren_k, injectorRemoveTask_k, pEnd_k, injectorRemoveBegin_k] ⟨pEnded_ok, pSlot_ok, pLoad_ok, injectorRemoveDescend_ok, pStore_ok, injectorRemoveChildren_ok, injectorRemoveTask_ok, pEnd_ok, injectorRemoveBegin_ok, trivial⟩ [] trivial (fun _ => []) [] fun x => by kernel_rfl
noncomputable def parkSleepLook (y0 : SleepV) (y1 : EnvP) : Option ((Unit) × (SleepV × EnvP × Unit)) :=
 (pBitmap y1.l y0.v).bind fun r1 =>
 (pLoad y1.m r1.1.1).bind fun r2 =>
 if r2.1.1 ≠ 0 then
  some ((()), (({ y0 with line := 7 } : SleepV), ({ y1 with m := r2.2.1 } : EnvP), ()))
 else
 if y1.c.workers ≤ (wi (y0.v + 1)) then
  (pEmit ({ y1 with m := r2.2.1 } : EnvP) (⟨16, y0.worker, 0, 0, 0⟩ : Ev)).bind fun r3 =>
  (pNow r3.2.1.k).bind fun r4 =>
  some ((()), (({ y0 with line := 5, v := wi (y0.v + 1), since := r4.1.1 } : SleepV), ({ r3.2.1 with k := r4.2.1 } : EnvP), ()))
 else
 some ((()), (({ y0 with v := wi (y0.v + 1) } : SleepV), ({ y1 with m := r2.2.1 } : EnvP), ()))
noncomputable abbrev parkSleepLook_k : Con SR1 := ⟨232, [.ref 32, .ref 27], [], fun x => parkSleepLook x.1 x.2.1⟩
theorem parkSleepLook_ok : CO Tryz.prog parkSleepLook_k := co_fn mixed Tryz.func232 [pBitmap_k, pLoad_k, pEmit_k, pNow_k] ⟨pBitmap_ok, pLoad_ok, pEmit_ok, pNow_ok, trivial⟩ [] trivial (fun _ => []) [] fun x => by kernel_rfl
noncomputable def parkSleepWait (y0 : SleepV) (y1 : EnvP) : Option ((Unit) × (SleepV × EnvP × Unit)) :=
 (pEpoch y1.l y0.worker).bind fun r1 =>
 (pLoad y1.m r1.1.1).bind fun r2 =>
 if r2.1.1 ≠ y0.ep then
  (pEmit ({ y1 with m := r2.2.1 } : EnvP) (⟨17, y0.worker, 0, 1, 0⟩ : Ev)).bind fun r3 =>
  some ((()), (({ y0 with line := 6 } : SleepV), r3.2.1, ()))
 else
 (pNow y1.k).bind fun r4 =>
 if y1.c.patience = y1.c.patience then
  if y0.since = y0.since then
   if y1.c.patience ≤ (wi (r4.1.1 - y0.since)) then
   (pEmit ({ y1 with m := r2.2.1, k := r4.2.1 } : EnvP) (⟨17, y0.worker, 0, 2, 0⟩ : Ev)).bind fun r5 =>
   some ((()), (({ y0 with line := 6 } : SleepV), r5.2.1, ()))
   else
   some ((()), (y0, ({ y1 with m := r2.2.1, k := r4.2.1 } : EnvP), ()))
  else none
 else none
noncomputable abbrev parkSleepWait_k : Con SR1 := ⟨233, [.ref 32, .ref 27], [], fun x => parkSleepWait x.1 x.2.1⟩
theorem parkSleepWait_ok : CO Tryz.prog parkSleepWait_k := co_fn mixed Tryz.func233 [pEpoch_k, pLoad_k, pEmit_k, pNow_k] ⟨pEpoch_ok, pLoad_ok, pEmit_ok, pNow_ok, trivial⟩ [] trivial (fun _ => []) [] fun x => by kernel_rfl
noncomputable def parkSleepStep (y0 : SleepV) (y1 : EnvP) : Option ((Bool × Unit) × (SleepV × EnvP × Unit)) :=
 (pEnded y0.o).bind fun r1 =>
 if r1.1.1 = true then
  some ((true, ()), (({ y0 with o := r1.2.1 } : SleepV), y1, ()))
 else
 if y0.line = 1 then
  (pEpoch y1.l y0.worker).bind fun r2 =>
  (pLoad y1.m r2.1.1).bind fun r3 =>
  some ((false, ()), (({ y0 with o := r1.2.1, line := 2, ep := r3.1.1 } : SleepV), ({ y1 with m := r3.2.1 } : EnvP), ()))
 else
 if y0.line = 2 then
  ((
   if y1.c.classes < 1 then
   if y0.worker = y0.worker then
   (pBit y0.worker).bind fun r4 =>
   (pOr y1.m (-1) r4.1.1).bind fun r5 =>
   some (({ y1 with m := r5.2.1 } : EnvP), ())
   else none
   else
   (pMod y0.worker y1.c.classes).bind fun r6 =>
   if y1.l.workers = y1.l.workers then
   if y1.l.levels = y1.l.levels then
   if y1.l.classes = y1.l.classes then
   if y1.l.tasks = y1.l.tasks then
   if y1.l.deque = y1.l.deque then
   if y1.l.heap = y1.l.heap then
   if y1.l.sleepers = y1.l.sleepers then
   if y1.l.epochs = y1.l.epochs then
   if y1.l.bitmaps = y1.l.bitmaps then
   if y1.l.queues = y1.l.queues then
   if y1.l.table = y1.l.table then
   (pSleepers y1.l r6.1.1).bind fun r7 =>
   if y0.worker = y0.worker then
   (pBit y0.worker).bind fun r8 =>
   (pOr y1.m r7.1.1 r8.1.1).bind fun r9 =>
   some (({ y1 with m := r9.2.1 } : EnvP), ())
   else none
   else none
   else none
   else none
   else none
   else none
   else none
   else none
   else none
   else none
   else none
   else none
  ) : Option (EnvP × Unit)).bind fun z10 =>
  some ((false, ()), (({ y0 with o := r1.2.1, line := 3 } : SleepV), z10.1, ()))
 else
 if y0.line = 3 then
  (pLSize y1.l).bind fun r11 =>
  (pLoad y1.m r11.1.1).bind fun r12 =>
  if r12.1.1 ≠ 0 then
   some ((false, ()), (({ y0 with o := r1.2.1, line := 7 } : SleepV), ({ y1 with m := r12.2.1 } : EnvP), ()))
  else
  some ((false, ()), (({ y0 with o := r1.2.1, line := 4 } : SleepV), ({ y1 with m := r12.2.1 } : EnvP), ()))
 else
 if y0.line = 4 then
  (parkSleepLook ({ y0 with o := r1.2.1 } : SleepV) y1).bind fun r13 =>
  some ((false, ()), (r13.2.1, r13.2.2.1, ()))
 else
 if y0.line = 5 then
  (parkSleepWait ({ y0 with o := r1.2.1 } : SleepV) y1).bind fun r14 =>
  some ((false, ()), (r14.2.1, r14.2.2.1, ()))
 else
 ((
  if y1.c.classes < 1 then
   if y0.worker = y0.worker then
   (pBit y0.worker).bind fun r15 =>
   (pAnd y1.m (-1) (cplU r15.1.1)).bind fun r16 =>
   some (({ y1 with m := r16.2.1 } : EnvP), ())
   else none
  else
  (pMod y0.worker y1.c.classes).bind fun r17 =>
  if y1.l.workers = y1.l.workers then
   if y1.l.levels = y1.l.levels then
   if y1.l.classes = y1.l.classes then
   if y1.l.tasks = y1.l.tasks then
   if y1.l.deque = y1.l.deque then
   if y1.l.heap = y1.l.heap then
   if y1.l.sleepers = y1.l.sleepers then
   if y1.l.epochs = y1.l.epochs then
   if y1.l.bitmaps = y1.l.bitmaps then
   if y1.l.queues = y1.l.queues then
   if y1.l.table = y1.l.table then
   (pSleepers y1.l r17.1.1).bind fun r18 =>
   if y0.worker = y0.worker then
   (pBit y0.worker).bind fun r19 =>
   (pAnd y1.m r18.1.1 (cplU r19.1.1)).bind fun r20 =>
   some (({ y1 with m := r20.2.1 } : EnvP), ())
   else none
   else none
   else none
   else none
   else none
   else none
   else none
   else none
   else none
   else none
   else none
  else none
 ) : Option (EnvP × Unit)).bind fun z21 =>
 if y0.line = 6 then
  (pEnd r1.2.1 1 0).bind fun r22 =>
  some ((r22.1.1, ()), (({ y0 with o := r22.2.1 } : SleepV), z21.1, ()))
 else
 (pEnd r1.2.1 5 0).bind fun r23 =>
 some ((r23.1.1, ()), (({ y0 with o := r23.2.1 } : SleepV), z21.1, ()))
noncomputable abbrev parkSleepStep_k : Con SR1 := ⟨227, [.ref 32, .ref 27], [.sh .b], fun x => parkSleepStep x.1 x.2.1⟩
noncomputable def parkSleepStep_tb : List (Nat × Func) := [(230, Tryz.f230)]
theorem parkSleepStep_ok : CO Tryz.prog parkSleepStep_k := co_fn mixed Tryz.func227 [pEnded_k, pEpoch_k, pLoad_k, pBit_k, pOr_k, pMod_k, pSleepers_k, pLSize_k, parkSleepLook_k, parkSleepWait_k, pAnd_k, pEnd_k] ⟨pEnded_ok, pEpoch_ok, pLoad_ok, pBit_ok, pOr_ok, pMod_ok, pSleepers_ok, pLSize_ok, parkSleepLook_ok, parkSleepWait_ok, pAnd_ok, pEnd_ok, trivial⟩ parkSleepStep_tb ⟨Tryz.func230, trivial⟩ (fun _ => []) [(13, .cut [.ob 1 27] [0]), (5, .cut [.ob 1 27] [0])] fun x => by kernel_rfl
noncomputable def parkWakeStep (y0 : WakeV) (y1 : EnvP) : Option ((Bool × Unit) × (WakeV × EnvP × Unit)) :=
 (pEnded y0.o).bind fun r1 =>
 if r1.1.1 = true then
  some ((true, ()), (({ y0 with o := r1.2.1 } : WakeV), y1, ()))
 else
 if y0.line = 1 then
  ((
   if y1.c.classes < 1 then
   (pLoad y1.m (-1)).bind fun r2 =>
   some (r2.1.1, ({ y1 with m := r2.2.1 } : EnvP), ())
   else
   (pClass y0.level y1.c.levels y1.c.classes).bind fun r3 =>
   if y1.c.classes = y1.c.classes then
   if y0.j = y0.j then
   if y1.l.workers = y1.l.workers then
   if y1.l.levels = y1.l.levels then
   if y1.l.classes = y1.l.classes then
   if y1.l.tasks = y1.l.tasks then
   if y1.l.deque = y1.l.deque then
   if y1.l.heap = y1.l.heap then
   if y1.l.sleepers = y1.l.sleepers then
   if y1.l.epochs = y1.l.epochs then
   if y1.l.bitmaps = y1.l.bitmaps then
   if y1.l.queues = y1.l.queues then
   if y1.l.table = y1.l.table then
   (pMod (wi (r3.1.1 + y0.j)) y1.c.classes).bind fun r4 =>
   if y1.l.workers = y1.l.workers then
   if y1.l.levels = y1.l.levels then
   if y1.l.classes = y1.l.classes then
   if y1.l.tasks = y1.l.tasks then
   if y1.l.deque = y1.l.deque then
   if y1.l.heap = y1.l.heap then
   if y1.l.sleepers = y1.l.sleepers then
   if y1.l.epochs = y1.l.epochs then
   if y1.l.bitmaps = y1.l.bitmaps then
   if y1.l.queues = y1.l.queues then
   if y1.l.table = y1.l.table then
   (pSleepers y1.l r4.1.1).bind fun r5 =>
   (pLoad y1.m r5.1.1).bind fun r6 =>
   some (r6.1.1, ({ y1 with m := r6.2.1 } : EnvP), ())
   else none
   else none
   else none
   else none
   else none
   else none
   else none
   else none
   else none
   else none
   else none
   else none
   else none
   else none
   else none
   else none
   else none
   else none
   else none
   else none
   else none
   else none
   else none
   else none
  ) : Option (Int × EnvP × Unit)).bind fun z7 =>
  if z7.1 ≠ 0 then
   (pLow z7.1).bind fun r8 =>
   some ((false, ()), (({ y0 with o := r1.2.1, line := 2, v := r8.1.1 } : WakeV), z7.2.1, ()))
  else
  if z7.2.1.c.classes ≤ (wi (y0.j + 1)) then
   (pEnd r1.2.1 2 0).bind fun r9 =>
   some ((r9.1.1, ()), (({ y0 with o := r9.2.1, j := wi (y0.j + 1) } : WakeV), z7.2.1, ()))
  else
  some ((false, ()), (({ y0 with o := r1.2.1, j := wi (y0.j + 1) } : WakeV), z7.2.1, ()))
 else
 if y0.line = 2 then
  (pBit y0.v).bind fun r10 =>
  ((
   if y1.c.classes < 1 then
   (pAnd y1.m (-1) (cplU r10.1.1)).bind fun r11 =>
   some (decide ((andU r11.1.1 r10.1.1) = 0), ({ y1 with m := r11.2.1 } : EnvP), ())
   else
   (pClass y0.level y1.c.levels y1.c.classes).bind fun r12 =>
   if y1.c.classes = y1.c.classes then
   if y0.j = y0.j then
   if y1.l.workers = y1.l.workers then
   if y1.l.levels = y1.l.levels then
   if y1.l.classes = y1.l.classes then
   if y1.l.tasks = y1.l.tasks then
   if y1.l.deque = y1.l.deque then
   if y1.l.heap = y1.l.heap then
   if y1.l.sleepers = y1.l.sleepers then
   if y1.l.epochs = y1.l.epochs then
   if y1.l.bitmaps = y1.l.bitmaps then
   if y1.l.queues = y1.l.queues then
   if y1.l.table = y1.l.table then
   (pMod (wi (r12.1.1 + y0.j)) y1.c.classes).bind fun r13 =>
   if y1.l.workers = y1.l.workers then
   if y1.l.levels = y1.l.levels then
   if y1.l.classes = y1.l.classes then
   if y1.l.tasks = y1.l.tasks then
   if y1.l.deque = y1.l.deque then
   if y1.l.heap = y1.l.heap then
   if y1.l.sleepers = y1.l.sleepers then
   if y1.l.epochs = y1.l.epochs then
   if y1.l.bitmaps = y1.l.bitmaps then
   if y1.l.queues = y1.l.queues then
   if y1.l.table = y1.l.table then
   (pSleepers y1.l r13.1.1).bind fun r14 =>
   (pAnd y1.m r14.1.1 (cplU r10.1.1)).bind fun r15 =>
   some (decide ((andU r15.1.1 r10.1.1) = 0), ({ y1 with m := r15.2.1 } : EnvP), ())
   else none
   else none
   else none
   else none
   else none
   else none
   else none
   else none
   else none
   else none
   else none
   else none
   else none
   else none
   else none
   else none
   else none
   else none
   else none
   else none
   else none
   else none
   else none
   else none
  ) : Option (Bool × EnvP × Unit)).bind fun z16 =>
  if z16.1 = true then
   (pEnd r1.2.1 4 0).bind fun r17 =>
   some ((r17.1.1, ()), (({ y0 with o := r17.2.1 } : WakeV), z16.2.1, ()))
  else
  some ((false, ()), (({ y0 with o := r1.2.1, line := 3 } : WakeV), z16.2.1, ()))
 else
 (pEpoch y1.l y0.v).bind fun r18 =>
 (pAdd y1.m r18.1.1 1).bind fun r19 =>
 (pEmit ({ y1 with m := r19.2.1 } : EnvP) (⟨18, y0.me, 0, y0.v, 0⟩ : Ev)).bind fun r20 =>
 (pEnd r1.2.1 1 y0.v).bind fun r21 =>
 some ((r21.1.1, ()), (({ y0 with o := r21.2.1 } : WakeV), r20.2.1, ()))
noncomputable abbrev parkWakeStep_k : Con SR1 := ⟨277, [.ref 38, .ref 27], [.sh .b], fun x => parkWakeStep x.1 x.2.1⟩
noncomputable def parkWakeStep_tb : List (Nat × Func) := [(278, Tryz.f278)]
theorem parkWakeStep_ok : CO Tryz.prog parkWakeStep_k := co_fn mixed Tryz.func277 [pEnded_k, pLoad_k, pClass_k, pMod_k, pSleepers_k, pLow_k, pEnd_k, pBit_k, pAnd_k, pEpoch_k, pAdd_k, pEmit_k] ⟨pEnded_ok, pLoad_ok, pClass_ok, pMod_ok, pSleepers_ok, pLow_ok, pEnd_ok, pBit_ok, pAnd_ok, pEpoch_ok, pAdd_ok, pEmit_ok, trivial⟩ parkWakeStep_tb ⟨Tryz.func278, trivial⟩ (fun _ => []) [(9, .cut [.rg 5 sU_, .ob 1 27] [0]), (18, .cut [.rg 108 .b, .ob 1 27] [0])] fun x => by kernel_rfl
noncomputable def boostFits (y0 : EnvP) (y1 : Int) (y2 : Int) : Option ((Bool × Unit) × (EnvP × Unit)) :=
 if 0 ≤ y1 then
  if y1 < y0.c.tasks then
   if 0 ≤ y2 then
   some ((decide (y2 < y0.c.levels), ()), (y0, ()))
   else
   some ((false, ()), (y0, ()))
  else
  some ((false, ()), (y0, ()))
 else
 some ((false, ()), (y0, ()))
noncomputable abbrev boostFits_k : Con SR1 := ⟨286, [.ref 27, .sh sI_, .sh sI_], [.sh .b], fun x => boostFits x.1 x.2.1 x.2.2.1⟩
theorem boostFits_ok : CO Tryz.prog boostFits_k := co_fn mixed Tryz.func286 [] trivial [] trivial (fun _ => []) [] fun x => by kernel_rfl
noncomputable def boostRaiseStep (y0 : RaiseV) (y1 : EnvP) : Option ((Bool × Unit) × (RaiseV × EnvP × Unit)) :=
 (pEnded y0.o).bind fun r1 =>
 if r1.1.1 = true then
  some ((true, ()), (({ y0 with o := r1.2.1 } : RaiseV), y1, ()))
 else
 (boostFits y1 y0.task y0.level).bind fun r2 =>
 if (!r2.1.1) = true then
  (pEnd r1.2.1 4 0).bind fun r3 =>
  some ((r3.1.1, ()), (({ y0 with o := r3.2.1 } : RaiseV), r2.2.1, ()))
 else
 if y0.line = 1 then
  (pLevel r2.2.1.l y0.task).bind fun r4 =>
  (pLoad r2.2.1.m r4.1.1).bind fun r5 =>
  if y0.level ≤ (wi (r5.1.1)) then
   (pEnd r1.2.1 0 0).bind fun r6 =>
   some ((r6.1.1, ()), (({ y0 with o := r6.2.1, q := r5.1.1 } : RaiseV), ({ r2.2.1 with m := r5.2.1 } : EnvP), ()))
  else
  some ((false, ()), (({ y0 with o := r1.2.1, line := 2, q := r5.1.1 } : RaiseV), ({ r2.2.1 with m := r5.2.1 } : EnvP), ()))
 else
 (pLevel r2.2.1.l y0.task).bind fun r7 =>
 if y0.level = y0.level then
  if y0.q = y0.q then
   (pCAS r2.2.1.m r7.1.1 y0.q (wu (y0.level))).bind fun r8 =>
   if r8.1.1 = true then
   (pEmit ({ r2.2.1 with m := r8.2.1 } : EnvP) ({ y0 with kind := 11, other := 0 } : Ev)).bind fun r9 =>
   (pEnd r1.2.1 1 0).bind fun r10 =>
   some ((r10.1.1, ()), (({ y0 with o := r10.2.1 } : RaiseV), r9.2.1, ()))
   else
   some ((false, ()), (({ y0 with o := r1.2.1, line := 1 } : RaiseV), ({ r2.2.1 with m := r8.2.1 } : EnvP), ()))
  else none
 else none
noncomputable abbrev boostRaiseStep_k : Con SR1 := ⟨315, [.ref 55, .ref 27], [.sh .b], fun x => boostRaiseStep x.1 x.2.1⟩
theorem boostRaiseStep_ok : CO Tryz.prog boostRaiseStep_k := co_fn mixed Tryz.func315 [pEnded_k, boostFits_k, pEnd_k, pLevel_k, pLoad_k, pCAS_k, pEmit_k] ⟨pEnded_ok, boostFits_ok, pEnd_ok, pLevel_ok, pLoad_ok, pCAS_ok, pEmit_ok, trivial⟩ [] trivial (fun _ => []) [] fun x => by kernel_rfl
noncomputable def stepD0 (m : MV) (e : EnvP) : Option ((Bool × Unit) × (MV × EnvP × Unit)) :=
 match m with
 | .alloc x => (tableAllocateStep x e).bind fun o => some (o.1, (MV.alloc o.2.1, o.2.2))
 | .publish x => (tablePublishStep x e).bind fun o => some (o.1, (MV.publish o.2.1, o.2.2))
 | .claim x => (tableClaimStep x e).bind fun o => some (o.1, (MV.claim o.2.1, o.2.2))
 | .attempt x => (lockAttemptStep x e).bind fun o => some (o.1, (MV.attempt o.2.1, o.2.2))
 | .release x => (lockReleaseStep x e).bind fun o => some (o.1, (MV.release o.2.1, o.2.2))
 | .opush x => (ownerPushStep x e).bind fun o => some (o.1, (MV.opush o.2.1, o.2.2))
 | .opop x => (ownerPopStep x e).bind fun o => some (o.1, (MV.opop o.2.1, o.2.2))
 | .steal x => (thiefStealStep x e).bind fun o => some (o.1, (MV.steal o.2.1, o.2.2))
 | .set x => (bitmapSetStep x e).bind fun o => some (o.1, (MV.set o.2.1, o.2.2))
 | .reset x => (bitmapResetStep x e).bind fun o => some (o.1, (MV.reset o.2.1, o.2.2))
 | .insert x => (injectorInsertStep x e).bind fun o => some (o.1, (MV.insert o.2.1, o.2.2))
 | .remove x => (injectorRemoveStep x e).bind fun o => some (o.1, (MV.remove o.2.1, o.2.2))
 | .sleep x => (parkSleepStep x e).bind fun o => some (o.1, (MV.sleep o.2.1, o.2.2))
 | .wake x => (parkWakeStep x e).bind fun o => some (o.1, (MV.wake o.2.1, o.2.2))
 | .raise x => (boostRaiseStep x e).bind fun o => some (o.1, (MV.raise o.2.1, o.2.2))
 | .probe x => (probeProbeStep x e).bind fun o => some (o.1, (MV.probe o.2.1, o.2.2))
 | _ => none
noncomputable abbrev stepD0_k : Con SR1 := ⟨1000000000, [.mch, .ref 27], [.sh .b], fun x => stepD0 x.1 x.2.1⟩
theorem stepD0_ok : CO Tryz.prog stepD0_k := co_meth (S := SR1) (i := 0) (ps := [.ref 27]) (rs := [.sh .b]) (spec := fun m xs => stepD0 m xs.1) fun m xs out h => by
  cases m with
  | alloc x => exact via_ok (S := SR1) (ps := [.ref 27]) (rs := [.sh .b]) (c := 35) (mk := MV.alloc) (fun _ => rfl) rfl (fun _ _ _ _ => by kernel_rfl) tableAllocateStep_ok h
  | publish x => exact via_ok (S := SR1) (ps := [.ref 27]) (rs := [.sh .b]) (c := 50) (mk := MV.publish) (fun _ => rfl) rfl (fun _ _ _ _ => by kernel_rfl) tablePublishStep_ok h
  | claim x => exact via_ok (S := SR1) (ps := [.ref 27]) (rs := [.sh .b]) (c := 45) (mk := MV.claim) (fun _ => rfl) rfl (fun _ _ _ _ => by kernel_rfl) tableClaimStep_ok h
  | attempt x => exact via_ok (S := SR1) (ps := [.ref 27]) (rs := [.sh .b]) (c := 34) (mk := MV.attempt) (fun _ => rfl) rfl (fun _ _ _ _ => by kernel_rfl) lockAttemptStep_ok h
  | release x => exact via_ok (S := SR1) (ps := [.ref 27]) (rs := [.sh .b]) (c := 37) (mk := MV.release) (fun _ => rfl) rfl (fun _ _ _ _ => by kernel_rfl) lockReleaseStep_ok h
  | opush x => exact via_ok (S := SR1) (ps := [.ref 27]) (rs := [.sh .b]) (c := 53) (mk := MV.opush) (fun _ => rfl) rfl (fun _ _ _ _ => by kernel_rfl) ownerPushStep_ok h
  | opop x => exact via_ok (S := SR1) (ps := [.ref 27]) (rs := [.sh .b]) (c := 52) (mk := MV.opop) (fun _ => rfl) rfl (fun _ _ _ _ => by kernel_rfl) ownerPopStep_ok h
  | steal x => exact via_ok (S := SR1) (ps := [.ref 27]) (rs := [.sh .b]) (c := 42) (mk := MV.steal) (fun _ => rfl) rfl (fun _ _ _ _ => by kernel_rfl) thiefStealStep_ok h
  | set x => exact via_ok (S := SR1) (ps := [.ref 27]) (rs := [.sh .b]) (c := 54) (mk := MV.set) (fun _ => rfl) rfl (fun _ _ _ _ => by kernel_rfl) bitmapSetStep_ok h
  | reset x => exact via_ok (S := SR1) (ps := [.ref 27]) (rs := [.sh .b]) (c := 43) (mk := MV.reset) (fun _ => rfl) rfl (fun _ _ _ _ => by kernel_rfl) bitmapResetStep_ok h
  | insert x => exact via_ok (S := SR1) (ps := [.ref 27]) (rs := [.sh .b]) (c := 36) (mk := MV.insert) (fun _ => rfl) rfl (fun _ _ _ _ => by kernel_rfl) injectorInsertStep_ok h
  | remove x => exact via_ok (S := SR1) (ps := [.ref 27]) (rs := [.sh .b]) (c := 51) (mk := MV.remove) (fun _ => rfl) rfl (fun _ _ _ _ => by kernel_rfl) injectorRemoveStep_ok h
  | sleep x => exact via_ok (S := SR1) (ps := [.ref 27]) (rs := [.sh .b]) (c := 32) (mk := MV.sleep) (fun _ => rfl) rfl (fun _ _ _ _ => by kernel_rfl) parkSleepStep_ok h
  | wake x => exact via_ok (S := SR1) (ps := [.ref 27]) (rs := [.sh .b]) (c := 38) (mk := MV.wake) (fun _ => rfl) rfl (fun _ _ _ _ => by kernel_rfl) parkWakeStep_ok h
  | raise x => exact via_ok (S := SR1) (ps := [.ref 27]) (rs := [.sh .b]) (c := 55) (mk := MV.raise) (fun _ => rfl) rfl (fun _ _ _ _ => by kernel_rfl) boostRaiseStep_ok h
  | probe x => exact via_ok (S := SR1) (ps := [.ref 27]) (rs := [.sh .b]) (c := 46) (mk := MV.probe) (fun _ => rfl) rfl (fun _ _ _ _ => by kernel_rfl) probeProbeStep_ok h
  | _ => cases h
noncomputable def resultD0 (m : MV) : Option ((Int × Int × Unit) × (MV × Unit)) :=
 match m with
 | .alloc x => some ((x.o.code, x.o.value, ()), (MV.alloc x, ()))
 | .publish x => some ((x.o.code, x.o.value, ()), (MV.publish x, ()))
 | .claim x => some ((x.o.code, x.o.value, ()), (MV.claim x, ()))
 | .attempt x => some ((x.o.code, x.o.value, ()), (MV.attempt x, ()))
 | .release x => some ((x.o.code, x.o.value, ()), (MV.release x, ()))
 | .opush x => some ((x.o.code, x.o.value, ()), (MV.opush x, ()))
 | .opop x => some ((x.o.code, x.o.value, ()), (MV.opop x, ()))
 | .steal x => some ((x.o.code, x.o.value, ()), (MV.steal x, ()))
 | .set x => some ((x.o.code, x.o.value, ()), (MV.set x, ()))
 | .reset x => some ((x.o.code, x.o.value, ()), (MV.reset x, ()))
 | .insert x => some ((x.o.code, x.o.value, ()), (MV.insert x, ()))
 | .remove x => some ((x.o.code, x.o.value, ()), (MV.remove x, ()))
 | .sleep x => some ((x.o.code, x.o.value, ()), (MV.sleep x, ()))
 | .wake x => some ((x.o.code, x.o.value, ()), (MV.wake x, ()))
 | .raise x => some ((x.o.code, x.o.value, ()), (MV.raise x, ()))
 | .probe x => some ((x.o.code, x.o.value, ()), (MV.probe x, ()))
 | _ => none
noncomputable abbrev resultD0_k : Con SR1 := ⟨1000000001, [.mch], [.sh sI_, .sh sI_], fun x => resultD0 x.1⟩
theorem resultD0_ok : CO Tryz.prog resultD0_k := co_meth (S := SR1) (i := 1) (ps := []) (rs := [.sh sI_, .sh sI_]) (spec := fun m _ => resultD0 m) fun m xs out h => by
  cases m with
  | alloc x => exact via_ok (S := SR1) (ps := []) (rs := [.sh sI_, .sh sI_]) (c := 35) (mk := MV.alloc) (f := 172) (sp := fun x => some ((x.1.o.code, x.1.o.value, ()), (x.1, ()))) (fun _ => rfl) rfl (fun _ _ _ _ => by kernel_rfl) (co_like [pResult_k] ⟨pResult_ok, trivial⟩ fun x => by kernel_rfl) h
  | publish x => exact via_ok (S := SR1) (ps := []) (rs := [.sh sI_, .sh sI_]) (c := 50) (mk := MV.publish) (f := 172) (sp := fun x => some ((x.1.o.code, x.1.o.value, ()), (x.1, ()))) (fun _ => rfl) rfl (fun _ _ _ _ => by kernel_rfl) (co_like [pResult_k] ⟨pResult_ok, trivial⟩ fun x => by kernel_rfl) h
  | claim x => exact via_ok (S := SR1) (ps := []) (rs := [.sh sI_, .sh sI_]) (c := 45) (mk := MV.claim) (f := 172) (sp := fun x => some ((x.1.o.code, x.1.o.value, ()), (x.1, ()))) (fun _ => rfl) rfl (fun _ _ _ _ => by kernel_rfl) (co_like [pResult_k] ⟨pResult_ok, trivial⟩ fun x => by kernel_rfl) h
  | attempt x => exact via_ok (S := SR1) (ps := []) (rs := [.sh sI_, .sh sI_]) (c := 34) (mk := MV.attempt) (f := 172) (sp := fun x => some ((x.1.o.code, x.1.o.value, ()), (x.1, ()))) (fun _ => rfl) rfl (fun _ _ _ _ => by kernel_rfl) (co_like [pResult_k] ⟨pResult_ok, trivial⟩ fun x => by kernel_rfl) h
  | release x => exact via_ok (S := SR1) (ps := []) (rs := [.sh sI_, .sh sI_]) (c := 37) (mk := MV.release) (f := 172) (sp := fun x => some ((x.1.o.code, x.1.o.value, ()), (x.1, ()))) (fun _ => rfl) rfl (fun _ _ _ _ => by kernel_rfl) (co_like [pResult_k] ⟨pResult_ok, trivial⟩ fun x => by kernel_rfl) h
  | opush x => exact via_ok (S := SR1) (ps := []) (rs := [.sh sI_, .sh sI_]) (c := 53) (mk := MV.opush) (f := 172) (sp := fun x => some ((x.1.o.code, x.1.o.value, ()), (x.1, ()))) (fun _ => rfl) rfl (fun _ _ _ _ => by kernel_rfl) (co_like [pResult_k] ⟨pResult_ok, trivial⟩ fun x => by kernel_rfl) h
  | opop x => exact via_ok (S := SR1) (ps := []) (rs := [.sh sI_, .sh sI_]) (c := 52) (mk := MV.opop) (f := 172) (sp := fun x => some ((x.1.o.code, x.1.o.value, ()), (x.1, ()))) (fun _ => rfl) rfl (fun _ _ _ _ => by kernel_rfl) (co_like [pResult_k] ⟨pResult_ok, trivial⟩ fun x => by kernel_rfl) h
  | steal x => exact via_ok (S := SR1) (ps := []) (rs := [.sh sI_, .sh sI_]) (c := 42) (mk := MV.steal) (f := 172) (sp := fun x => some ((x.1.o.code, x.1.o.value, ()), (x.1, ()))) (fun _ => rfl) rfl (fun _ _ _ _ => by kernel_rfl) (co_like [pResult_k] ⟨pResult_ok, trivial⟩ fun x => by kernel_rfl) h
  | set x => exact via_ok (S := SR1) (ps := []) (rs := [.sh sI_, .sh sI_]) (c := 54) (mk := MV.set) (f := 172) (sp := fun x => some ((x.1.o.code, x.1.o.value, ()), (x.1, ()))) (fun _ => rfl) rfl (fun _ _ _ _ => by kernel_rfl) (co_like [pResult_k] ⟨pResult_ok, trivial⟩ fun x => by kernel_rfl) h
  | reset x => exact via_ok (S := SR1) (ps := []) (rs := [.sh sI_, .sh sI_]) (c := 43) (mk := MV.reset) (f := 172) (sp := fun x => some ((x.1.o.code, x.1.o.value, ()), (x.1, ()))) (fun _ => rfl) rfl (fun _ _ _ _ => by kernel_rfl) (co_like [pResult_k] ⟨pResult_ok, trivial⟩ fun x => by kernel_rfl) h
  | insert x => exact via_ok (S := SR1) (ps := []) (rs := [.sh sI_, .sh sI_]) (c := 36) (mk := MV.insert) (f := 172) (sp := fun x => some ((x.1.o.code, x.1.o.value, ()), (x.1, ()))) (fun _ => rfl) rfl (fun _ _ _ _ => by kernel_rfl) (co_like [pResult_k] ⟨pResult_ok, trivial⟩ fun x => by kernel_rfl) h
  | remove x => exact via_ok (S := SR1) (ps := []) (rs := [.sh sI_, .sh sI_]) (c := 51) (mk := MV.remove) (f := 172) (sp := fun x => some ((x.1.o.code, x.1.o.value, ()), (x.1, ()))) (fun _ => rfl) rfl (fun _ _ _ _ => by kernel_rfl) (co_like [pResult_k] ⟨pResult_ok, trivial⟩ fun x => by kernel_rfl) h
  | sleep x => exact via_ok (S := SR1) (ps := []) (rs := [.sh sI_, .sh sI_]) (c := 32) (mk := MV.sleep) (f := 172) (sp := fun x => some ((x.1.o.code, x.1.o.value, ()), (x.1, ()))) (fun _ => rfl) rfl (fun _ _ _ _ => by kernel_rfl) (co_like [pResult_k] ⟨pResult_ok, trivial⟩ fun x => by kernel_rfl) h
  | wake x => exact via_ok (S := SR1) (ps := []) (rs := [.sh sI_, .sh sI_]) (c := 38) (mk := MV.wake) (f := 172) (sp := fun x => some ((x.1.o.code, x.1.o.value, ()), (x.1, ()))) (fun _ => rfl) rfl (fun _ _ _ _ => by kernel_rfl) (co_like [pResult_k] ⟨pResult_ok, trivial⟩ fun x => by kernel_rfl) h
  | raise x => exact via_ok (S := SR1) (ps := []) (rs := [.sh sI_, .sh sI_]) (c := 55) (mk := MV.raise) (f := 172) (sp := fun x => some ((x.1.o.code, x.1.o.value, ()), (x.1, ()))) (fun _ => rfl) rfl (fun _ _ _ _ => by kernel_rfl) (co_like [pResult_k] ⟨pResult_ok, trivial⟩ fun x => by kernel_rfl) h
  | probe x => exact via_ok (S := SR1) (ps := []) (rs := [.sh sI_, .sh sI_]) (c := 46) (mk := MV.probe) (f := 172) (sp := fun x => some ((x.1.o.code, x.1.o.value, ()), (x.1, ()))) (fun _ => rfl) rfl (fun _ _ _ _ => by kernel_rfl) (co_like [pResult_k] ⟨pResult_ok, trivial⟩ fun x => by kernel_rfl) h
  | _ => cases h
noncomputable def ownerPush (y0 : QV) (y1 : Int) : Option ((MV × Unit) × (Unit)) :=
 some ((MV.opush (⟨⟨false, 0, 0⟩, y0, y1, 1, 0⟩ : OPushV), ()), (()))
noncomputable abbrev ownerPush_k : Con SR1 := ⟨274, [.val 14, .sh sI_], [.sh .mach], fun x => ownerPush x.1 x.2.1⟩
theorem ownerPush_ok : CO Tryz.prog ownerPush_k := co_fn mixed Tryz.func274 [] trivial [] trivial (fun _ => []) [] fun x => by kernel_rfl
noncomputable def bitmapSet (y0 : Int) (y1 : Int) : Option ((MV × Unit) × (Unit)) :=
 some ((MV.set (⟨⟨false, 0, 0⟩, y0, y1⟩ : SetV), ()), (()))
noncomputable abbrev bitmapSet_k : Con SR1 := ⟨275, [.sh sI_, .sh sI_], [.sh .mach], fun x => bitmapSet x.1 x.2.1⟩
theorem bitmapSet_ok : CO Tryz.prog bitmapSet_k := co_fn mixed Tryz.func275 [] trivial [] trivial (fun _ => []) [] fun x => by kernel_rfl
noncomputable def levelsPushStep (y0 : (LPushV MV)) (y1 : EnvP) : Option ((Bool × Unit) × ((LPushV MV) × EnvP × Unit)) :=
 (pEnded y0.o).bind fun r1 =>
 if r1.1.1 = true then
  some ((true, ()), (({ y0 with o := r1.2.1 } : (LPushV MV)), y1, ()))
 else
 if (SR1.spl y0.inside).isNone = true then
  (pQueue y1.l y0.worker y0.level).bind fun r2 =>
  if y0.value = y0.value then
   (ownerPush r2.1.1 y0.value).bind fun r3 =>
   (stepD0 r3.1.1 y1).bind fun r4 =>
   if (!r4.1.1) = true then
   some ((false, ()), (({ y0 with o := r1.2.1, inside := r4.2.1 } : (LPushV MV)), r4.2.2.1, ()))
   else
   (resultD0 r4.2.1).bind fun r5 =>
   if r5.1.1 = 3 then
   (pEnd r1.2.1 3 0).bind fun r6 =>
   some ((r6.1.1, ()), (({ y0 with o := r6.2.1, inside := r5.2.1 } : (LPushV MV)), r4.2.2.1, ()))
   else
   if y0.line = 2 then
   (pEnd r1.2.1 0 0).bind fun r7 =>
   some ((r7.1.1, ()), (({ y0 with o := r7.2.1, inside := r5.2.1 } : (LPushV MV)), r4.2.2.1, ()))
   else
   (pBitmap r4.2.2.1.l y0.worker).bind fun r8 =>
   if y0.level = y0.level then
   (bitmapSet r8.1.1 y0.level).bind fun r9 =>
   some ((false, ()), (({ y0 with o := r1.2.1, line := 2, inside := r9.1.1 } : (LPushV MV)), r4.2.2.1, ()))
   else none
  else none
 else
 (stepD0 y0.inside y1).bind fun r10 =>
 if (!r10.1.1) = true then
  some ((false, ()), (({ y0 with o := r1.2.1, inside := r10.2.1 } : (LPushV MV)), r10.2.2.1, ()))
 else
 (resultD0 r10.2.1).bind fun r11 =>
 if r11.1.1 = 3 then
  (pEnd r1.2.1 3 0).bind fun r12 =>
  some ((r12.1.1, ()), (({ y0 with o := r12.2.1, inside := r11.2.1 } : (LPushV MV)), r10.2.2.1, ()))
 else
 if y0.line = 2 then
  (pEnd r1.2.1 0 0).bind fun r13 =>
  some ((r13.1.1, ()), (({ y0 with o := r13.2.1, inside := r11.2.1 } : (LPushV MV)), r10.2.2.1, ()))
 else
 (pBitmap r10.2.2.1.l y0.worker).bind fun r14 =>
 if y0.level = y0.level then
  (bitmapSet r14.1.1 y0.level).bind fun r15 =>
  some ((false, ()), (({ y0 with o := r1.2.1, line := 2, inside := r15.1.1 } : (LPushV MV)), r10.2.2.1, ()))
 else none
noncomputable abbrev levelsPushStep_k : Con SR1 := ⟨273, [.ref 47, .ref 27], [.sh .b], fun x => levelsPushStep x.1 x.2.1⟩
theorem levelsPushStep_ok : CO Tryz.prog levelsPushStep_k := co_fn mixed Tryz.func273 [pEnded_k, pQueue_k, ownerPush_k, stepD0_k, resultD0_k, pEnd_k, pBitmap_k, bitmapSet_k] ⟨pEnded_ok, pQueue_ok, ownerPush_ok, stepD0_ok, resultD0_ok, pEnd_ok, pBitmap_ok, bitmapSet_ok, trivial⟩ [] trivial (fun _ => []) [] fun x => by kernel_rfl
noncomputable def ownerPop (y0 : QV) : Option ((MV × Unit) × (Unit)) :=
 some ((MV.opop (⟨⟨false, 0, 0⟩, y0, 1, 0, 0⟩ : OPopV), ()), (()))
noncomputable abbrev ownerPop_k : Con SR1 := ⟨264, [.val 14], [.sh .mach], fun x => ownerPop x.1⟩
theorem ownerPop_ok : CO Tryz.prog ownerPop_k := co_fn mixed Tryz.func264 [] trivial [] trivial (fun _ => []) [] fun x => by kernel_rfl
noncomputable def levelsPopLook (y0 : (LPopV MV)) (y1 : EnvP) : Option ((Bool × Unit) × ((LPopV MV) × EnvP × Unit)) :=
 (pBitmap y1.l y0.worker).bind fun r1 =>
 (pLoad y1.m r1.1.1).bind fun r2 =>
 if r2.1.1 = 0 then
  (pEnd y0.o 2 0).bind fun r3 =>
  some ((r3.1.1, ()), (({ y0 with o := r3.2.1 } : (LPopV MV)), ({ y1 with m := r2.2.1 } : EnvP), ()))
 else
 (pHigh r2.1.1).bind fun r4 =>
 (pQueue y1.l y0.worker r4.1.1).bind fun r5 =>
 (ownerPop r5.1.1).bind fun r6 =>
 some ((false, ()), (({ y0 with level := r4.1.1, line := 2, inside := r6.1.1 } : (LPopV MV)), ({ y1 with m := r2.2.1 } : EnvP), ()))
noncomputable abbrev levelsPopLook_k : Con SR1 := ⟨262, [.ref 44, .ref 27], [.sh .b], fun x => levelsPopLook x.1 x.2.1⟩
theorem levelsPopLook_ok : CO Tryz.prog levelsPopLook_k := co_fn mixed Tryz.func262 [pBitmap_k, pLoad_k, pEnd_k, pHigh_k, pQueue_k, ownerPop_k] ⟨pBitmap_ok, pLoad_ok, pEnd_ok, pHigh_ok, pQueue_ok, ownerPop_ok, trivial⟩ [] trivial (fun _ => []) [] fun x => by kernel_rfl
noncomputable def bitmapClear (y0 : Int) (y1 : Int) (y2 : QV) : Option ((MV × Unit) × (Unit)) :=
 some ((MV.reset (⟨⟨false, 0, 0⟩, y0, y1, y2, 1, 0⟩ : ResetV), ()), (()))
noncomputable abbrev bitmapClear_k : Con SR1 := ⟨135, [.sh sI_, .sh sI_, .val 14], [.sh .mach], fun x => bitmapClear x.1 x.2.1 x.2.2.1⟩
theorem bitmapClear_ok : CO Tryz.prog bitmapClear_k := co_fn mixed Tryz.func135 [] trivial [] trivial (fun _ => []) [] fun x => by kernel_rfl
noncomputable def levelsPopStep (y0 : (LPopV MV)) (y1 : EnvP) : Option ((Bool × Unit) × ((LPopV MV) × EnvP × Unit)) :=
 (pEnded y0.o).bind fun r1 =>
 if r1.1.1 = true then
  some ((true, ()), (({ y0 with o := r1.2.1 } : (LPopV MV)), y1, ()))
 else
 if y0.line = 1 then
  (levelsPopLook ({ y0 with o := r1.2.1 } : (LPopV MV)) y1).bind fun r2 =>
  some ((r2.1.1, ()), (r2.2.1, r2.2.2.1, ()))
 else
 (stepD0 y0.inside y1).bind fun r3 =>
 if (!r3.1.1) = true then
  some ((false, ()), (({ y0 with o := r1.2.1, inside := r3.2.1 } : (LPopV MV)), r3.2.2.1, ()))
 else
 (resultD0 r3.2.1).bind fun r4 =>
 if y0.line = 3 then
  some ((false, ()), (({ y0 with o := r1.2.1, line := 1, inside := MV.nil } : (LPopV MV)), r3.2.2.1, ()))
 else
 if r4.1.1 = 1 then
  (pEnd r1.2.1 1 r4.1.2.1).bind fun r5 =>
  some ((r5.1.1, ()), (({ y0 with o := r5.2.1, inside := r4.2.1 } : (LPopV MV)), r3.2.2.1, ()))
 else
 (pBitmap r3.2.2.1.l y0.worker).bind fun r6 =>
 if y0.level = y0.level then
  if y0.worker = y0.worker then
   if r3.2.2.1.l.workers = r3.2.2.1.l.workers then
   if r3.2.2.1.l.levels = r3.2.2.1.l.levels then
   if r3.2.2.1.l.classes = r3.2.2.1.l.classes then
   if r3.2.2.1.l.tasks = r3.2.2.1.l.tasks then
   if r3.2.2.1.l.deque = r3.2.2.1.l.deque then
   if r3.2.2.1.l.heap = r3.2.2.1.l.heap then
   if r3.2.2.1.l.sleepers = r3.2.2.1.l.sleepers then
   if r3.2.2.1.l.epochs = r3.2.2.1.l.epochs then
   if r3.2.2.1.l.bitmaps = r3.2.2.1.l.bitmaps then
   if r3.2.2.1.l.queues = r3.2.2.1.l.queues then
   if r3.2.2.1.l.table = r3.2.2.1.l.table then
   if y0.level = y0.level then
   (pQueue r3.2.2.1.l y0.worker y0.level).bind fun r7 =>
   if y0.level = y0.level then
   (bitmapClear r6.1.1 y0.level r7.1.1).bind fun r8 =>
   some ((false, ()), (({ y0 with o := r1.2.1, line := 3, inside := r8.1.1 } : (LPopV MV)), r3.2.2.1, ()))
   else none
   else none
   else none
   else none
   else none
   else none
   else none
   else none
   else none
   else none
   else none
   else none
   else none
  else none
 else none
noncomputable abbrev levelsPopStep_k : Con SR1 := ⟨261, [.ref 44, .ref 27], [.sh .b], fun x => levelsPopStep x.1 x.2.1⟩
theorem levelsPopStep_ok : CO Tryz.prog levelsPopStep_k := co_fn mixed Tryz.func261 [pEnded_k, levelsPopLook_k, stepD0_k, resultD0_k, pEnd_k, pBitmap_k, pQueue_k, bitmapClear_k] ⟨pEnded_ok, levelsPopLook_ok, stepD0_ok, resultD0_ok, pEnd_ok, pBitmap_ok, pQueue_ok, bitmapClear_ok, trivial⟩ [] trivial (fun _ => []) [] fun x => by kernel_rfl
noncomputable def stepD1 (m : MV) (e : EnvP) : Option ((Bool × Unit) × (MV × EnvP × Unit)) :=
 match m with
 | .alloc x => (tableAllocateStep x e).bind fun o => some (o.1, (MV.alloc o.2.1, o.2.2))
 | .publish x => (tablePublishStep x e).bind fun o => some (o.1, (MV.publish o.2.1, o.2.2))
 | .claim x => (tableClaimStep x e).bind fun o => some (o.1, (MV.claim o.2.1, o.2.2))
 | .attempt x => (lockAttemptStep x e).bind fun o => some (o.1, (MV.attempt o.2.1, o.2.2))
 | .release x => (lockReleaseStep x e).bind fun o => some (o.1, (MV.release o.2.1, o.2.2))
 | .opush x => (ownerPushStep x e).bind fun o => some (o.1, (MV.opush o.2.1, o.2.2))
 | .opop x => (ownerPopStep x e).bind fun o => some (o.1, (MV.opop o.2.1, o.2.2))
 | .steal x => (thiefStealStep x e).bind fun o => some (o.1, (MV.steal o.2.1, o.2.2))
 | .set x => (bitmapSetStep x e).bind fun o => some (o.1, (MV.set o.2.1, o.2.2))
 | .reset x => (bitmapResetStep x e).bind fun o => some (o.1, (MV.reset o.2.1, o.2.2))
 | .insert x => (injectorInsertStep x e).bind fun o => some (o.1, (MV.insert o.2.1, o.2.2))
 | .remove x => (injectorRemoveStep x e).bind fun o => some (o.1, (MV.remove o.2.1, o.2.2))
 | .sleep x => (parkSleepStep x e).bind fun o => some (o.1, (MV.sleep o.2.1, o.2.2))
 | .wake x => (parkWakeStep x e).bind fun o => some (o.1, (MV.wake o.2.1, o.2.2))
 | .raise x => (boostRaiseStep x e).bind fun o => some (o.1, (MV.raise o.2.1, o.2.2))
 | .probe x => (probeProbeStep x e).bind fun o => some (o.1, (MV.probe o.2.1, o.2.2))
 | .lpush x => (levelsPushStep x e).bind fun o => some (o.1, (MV.lpush o.2.1, o.2.2))
 | .lpop x => (levelsPopStep x e).bind fun o => some (o.1, (MV.lpop o.2.1, o.2.2))
 | _ => none
noncomputable abbrev stepD1_k : Con SR1 := ⟨1000000000, [.mch, .ref 27], [.sh .b], fun x => stepD1 x.1 x.2.1⟩
theorem stepD1_ok : CO Tryz.prog stepD1_k := co_meth (S := SR1) (i := 0) (ps := [.ref 27]) (rs := [.sh .b]) (spec := fun m xs => stepD1 m xs.1) fun m xs out h => by
  cases m with
  | alloc x => exact via_ok (S := SR1) (ps := [.ref 27]) (rs := [.sh .b]) (c := 35) (mk := MV.alloc) (fun _ => rfl) rfl (fun _ _ _ _ => by kernel_rfl) tableAllocateStep_ok h
  | publish x => exact via_ok (S := SR1) (ps := [.ref 27]) (rs := [.sh .b]) (c := 50) (mk := MV.publish) (fun _ => rfl) rfl (fun _ _ _ _ => by kernel_rfl) tablePublishStep_ok h
  | claim x => exact via_ok (S := SR1) (ps := [.ref 27]) (rs := [.sh .b]) (c := 45) (mk := MV.claim) (fun _ => rfl) rfl (fun _ _ _ _ => by kernel_rfl) tableClaimStep_ok h
  | attempt x => exact via_ok (S := SR1) (ps := [.ref 27]) (rs := [.sh .b]) (c := 34) (mk := MV.attempt) (fun _ => rfl) rfl (fun _ _ _ _ => by kernel_rfl) lockAttemptStep_ok h
  | release x => exact via_ok (S := SR1) (ps := [.ref 27]) (rs := [.sh .b]) (c := 37) (mk := MV.release) (fun _ => rfl) rfl (fun _ _ _ _ => by kernel_rfl) lockReleaseStep_ok h
  | opush x => exact via_ok (S := SR1) (ps := [.ref 27]) (rs := [.sh .b]) (c := 53) (mk := MV.opush) (fun _ => rfl) rfl (fun _ _ _ _ => by kernel_rfl) ownerPushStep_ok h
  | opop x => exact via_ok (S := SR1) (ps := [.ref 27]) (rs := [.sh .b]) (c := 52) (mk := MV.opop) (fun _ => rfl) rfl (fun _ _ _ _ => by kernel_rfl) ownerPopStep_ok h
  | steal x => exact via_ok (S := SR1) (ps := [.ref 27]) (rs := [.sh .b]) (c := 42) (mk := MV.steal) (fun _ => rfl) rfl (fun _ _ _ _ => by kernel_rfl) thiefStealStep_ok h
  | set x => exact via_ok (S := SR1) (ps := [.ref 27]) (rs := [.sh .b]) (c := 54) (mk := MV.set) (fun _ => rfl) rfl (fun _ _ _ _ => by kernel_rfl) bitmapSetStep_ok h
  | reset x => exact via_ok (S := SR1) (ps := [.ref 27]) (rs := [.sh .b]) (c := 43) (mk := MV.reset) (fun _ => rfl) rfl (fun _ _ _ _ => by kernel_rfl) bitmapResetStep_ok h
  | insert x => exact via_ok (S := SR1) (ps := [.ref 27]) (rs := [.sh .b]) (c := 36) (mk := MV.insert) (fun _ => rfl) rfl (fun _ _ _ _ => by kernel_rfl) injectorInsertStep_ok h
  | remove x => exact via_ok (S := SR1) (ps := [.ref 27]) (rs := [.sh .b]) (c := 51) (mk := MV.remove) (fun _ => rfl) rfl (fun _ _ _ _ => by kernel_rfl) injectorRemoveStep_ok h
  | sleep x => exact via_ok (S := SR1) (ps := [.ref 27]) (rs := [.sh .b]) (c := 32) (mk := MV.sleep) (fun _ => rfl) rfl (fun _ _ _ _ => by kernel_rfl) parkSleepStep_ok h
  | wake x => exact via_ok (S := SR1) (ps := [.ref 27]) (rs := [.sh .b]) (c := 38) (mk := MV.wake) (fun _ => rfl) rfl (fun _ _ _ _ => by kernel_rfl) parkWakeStep_ok h
  | raise x => exact via_ok (S := SR1) (ps := [.ref 27]) (rs := [.sh .b]) (c := 55) (mk := MV.raise) (fun _ => rfl) rfl (fun _ _ _ _ => by kernel_rfl) boostRaiseStep_ok h
  | probe x => exact via_ok (S := SR1) (ps := [.ref 27]) (rs := [.sh .b]) (c := 46) (mk := MV.probe) (fun _ => rfl) rfl (fun _ _ _ _ => by kernel_rfl) probeProbeStep_ok h
  | lpush x => exact via_ok (S := SR1) (ps := [.ref 27]) (rs := [.sh .b]) (c := 47) (mk := MV.lpush) (fun _ => rfl) rfl (fun _ _ _ _ => by kernel_rfl) levelsPushStep_ok h
  | lpop x => exact via_ok (S := SR1) (ps := [.ref 27]) (rs := [.sh .b]) (c := 44) (mk := MV.lpop) (fun _ => rfl) rfl (fun _ _ _ _ => by kernel_rfl) levelsPopStep_ok h
  | _ => cases h
noncomputable def resultD1 (m : MV) : Option ((Int × Int × Unit) × (MV × Unit)) :=
 match m with
 | .alloc x => some ((x.o.code, x.o.value, ()), (MV.alloc x, ()))
 | .publish x => some ((x.o.code, x.o.value, ()), (MV.publish x, ()))
 | .claim x => some ((x.o.code, x.o.value, ()), (MV.claim x, ()))
 | .attempt x => some ((x.o.code, x.o.value, ()), (MV.attempt x, ()))
 | .release x => some ((x.o.code, x.o.value, ()), (MV.release x, ()))
 | .opush x => some ((x.o.code, x.o.value, ()), (MV.opush x, ()))
 | .opop x => some ((x.o.code, x.o.value, ()), (MV.opop x, ()))
 | .steal x => some ((x.o.code, x.o.value, ()), (MV.steal x, ()))
 | .set x => some ((x.o.code, x.o.value, ()), (MV.set x, ()))
 | .reset x => some ((x.o.code, x.o.value, ()), (MV.reset x, ()))
 | .insert x => some ((x.o.code, x.o.value, ()), (MV.insert x, ()))
 | .remove x => some ((x.o.code, x.o.value, ()), (MV.remove x, ()))
 | .sleep x => some ((x.o.code, x.o.value, ()), (MV.sleep x, ()))
 | .wake x => some ((x.o.code, x.o.value, ()), (MV.wake x, ()))
 | .raise x => some ((x.o.code, x.o.value, ()), (MV.raise x, ()))
 | .probe x => some ((x.o.code, x.o.value, ()), (MV.probe x, ()))
 | .lpush x => some ((x.o.code, x.o.value, ()), (MV.lpush x, ()))
 | .lpop x => some ((x.o.code, x.o.value, ()), (MV.lpop x, ()))
 | _ => none
noncomputable abbrev resultD1_k : Con SR1 := ⟨1000000001, [.mch], [.sh sI_, .sh sI_], fun x => resultD1 x.1⟩
theorem resultD1_ok : CO Tryz.prog resultD1_k := co_meth (S := SR1) (i := 1) (ps := []) (rs := [.sh sI_, .sh sI_]) (spec := fun m _ => resultD1 m) fun m xs out h => by
  cases m with
  | alloc x => exact via_ok (S := SR1) (ps := []) (rs := [.sh sI_, .sh sI_]) (c := 35) (mk := MV.alloc) (f := 172) (sp := fun x => some ((x.1.o.code, x.1.o.value, ()), (x.1, ()))) (fun _ => rfl) rfl (fun _ _ _ _ => by kernel_rfl) (co_like [pResult_k] ⟨pResult_ok, trivial⟩ fun x => by kernel_rfl) h
  | publish x => exact via_ok (S := SR1) (ps := []) (rs := [.sh sI_, .sh sI_]) (c := 50) (mk := MV.publish) (f := 172) (sp := fun x => some ((x.1.o.code, x.1.o.value, ()), (x.1, ()))) (fun _ => rfl) rfl (fun _ _ _ _ => by kernel_rfl) (co_like [pResult_k] ⟨pResult_ok, trivial⟩ fun x => by kernel_rfl) h
  | claim x => exact via_ok (S := SR1) (ps := []) (rs := [.sh sI_, .sh sI_]) (c := 45) (mk := MV.claim) (f := 172) (sp := fun x => some ((x.1.o.code, x.1.o.value, ()), (x.1, ()))) (fun _ => rfl) rfl (fun _ _ _ _ => by kernel_rfl) (co_like [pResult_k] ⟨pResult_ok, trivial⟩ fun x => by kernel_rfl) h
  | attempt x => exact via_ok (S := SR1) (ps := []) (rs := [.sh sI_, .sh sI_]) (c := 34) (mk := MV.attempt) (f := 172) (sp := fun x => some ((x.1.o.code, x.1.o.value, ()), (x.1, ()))) (fun _ => rfl) rfl (fun _ _ _ _ => by kernel_rfl) (co_like [pResult_k] ⟨pResult_ok, trivial⟩ fun x => by kernel_rfl) h
  | release x => exact via_ok (S := SR1) (ps := []) (rs := [.sh sI_, .sh sI_]) (c := 37) (mk := MV.release) (f := 172) (sp := fun x => some ((x.1.o.code, x.1.o.value, ()), (x.1, ()))) (fun _ => rfl) rfl (fun _ _ _ _ => by kernel_rfl) (co_like [pResult_k] ⟨pResult_ok, trivial⟩ fun x => by kernel_rfl) h
  | opush x => exact via_ok (S := SR1) (ps := []) (rs := [.sh sI_, .sh sI_]) (c := 53) (mk := MV.opush) (f := 172) (sp := fun x => some ((x.1.o.code, x.1.o.value, ()), (x.1, ()))) (fun _ => rfl) rfl (fun _ _ _ _ => by kernel_rfl) (co_like [pResult_k] ⟨pResult_ok, trivial⟩ fun x => by kernel_rfl) h
  | opop x => exact via_ok (S := SR1) (ps := []) (rs := [.sh sI_, .sh sI_]) (c := 52) (mk := MV.opop) (f := 172) (sp := fun x => some ((x.1.o.code, x.1.o.value, ()), (x.1, ()))) (fun _ => rfl) rfl (fun _ _ _ _ => by kernel_rfl) (co_like [pResult_k] ⟨pResult_ok, trivial⟩ fun x => by kernel_rfl) h
  | steal x => exact via_ok (S := SR1) (ps := []) (rs := [.sh sI_, .sh sI_]) (c := 42) (mk := MV.steal) (f := 172) (sp := fun x => some ((x.1.o.code, x.1.o.value, ()), (x.1, ()))) (fun _ => rfl) rfl (fun _ _ _ _ => by kernel_rfl) (co_like [pResult_k] ⟨pResult_ok, trivial⟩ fun x => by kernel_rfl) h
  | set x => exact via_ok (S := SR1) (ps := []) (rs := [.sh sI_, .sh sI_]) (c := 54) (mk := MV.set) (f := 172) (sp := fun x => some ((x.1.o.code, x.1.o.value, ()), (x.1, ()))) (fun _ => rfl) rfl (fun _ _ _ _ => by kernel_rfl) (co_like [pResult_k] ⟨pResult_ok, trivial⟩ fun x => by kernel_rfl) h
  | reset x => exact via_ok (S := SR1) (ps := []) (rs := [.sh sI_, .sh sI_]) (c := 43) (mk := MV.reset) (f := 172) (sp := fun x => some ((x.1.o.code, x.1.o.value, ()), (x.1, ()))) (fun _ => rfl) rfl (fun _ _ _ _ => by kernel_rfl) (co_like [pResult_k] ⟨pResult_ok, trivial⟩ fun x => by kernel_rfl) h
  | insert x => exact via_ok (S := SR1) (ps := []) (rs := [.sh sI_, .sh sI_]) (c := 36) (mk := MV.insert) (f := 172) (sp := fun x => some ((x.1.o.code, x.1.o.value, ()), (x.1, ()))) (fun _ => rfl) rfl (fun _ _ _ _ => by kernel_rfl) (co_like [pResult_k] ⟨pResult_ok, trivial⟩ fun x => by kernel_rfl) h
  | remove x => exact via_ok (S := SR1) (ps := []) (rs := [.sh sI_, .sh sI_]) (c := 51) (mk := MV.remove) (f := 172) (sp := fun x => some ((x.1.o.code, x.1.o.value, ()), (x.1, ()))) (fun _ => rfl) rfl (fun _ _ _ _ => by kernel_rfl) (co_like [pResult_k] ⟨pResult_ok, trivial⟩ fun x => by kernel_rfl) h
  | sleep x => exact via_ok (S := SR1) (ps := []) (rs := [.sh sI_, .sh sI_]) (c := 32) (mk := MV.sleep) (f := 172) (sp := fun x => some ((x.1.o.code, x.1.o.value, ()), (x.1, ()))) (fun _ => rfl) rfl (fun _ _ _ _ => by kernel_rfl) (co_like [pResult_k] ⟨pResult_ok, trivial⟩ fun x => by kernel_rfl) h
  | wake x => exact via_ok (S := SR1) (ps := []) (rs := [.sh sI_, .sh sI_]) (c := 38) (mk := MV.wake) (f := 172) (sp := fun x => some ((x.1.o.code, x.1.o.value, ()), (x.1, ()))) (fun _ => rfl) rfl (fun _ _ _ _ => by kernel_rfl) (co_like [pResult_k] ⟨pResult_ok, trivial⟩ fun x => by kernel_rfl) h
  | raise x => exact via_ok (S := SR1) (ps := []) (rs := [.sh sI_, .sh sI_]) (c := 55) (mk := MV.raise) (f := 172) (sp := fun x => some ((x.1.o.code, x.1.o.value, ()), (x.1, ()))) (fun _ => rfl) rfl (fun _ _ _ _ => by kernel_rfl) (co_like [pResult_k] ⟨pResult_ok, trivial⟩ fun x => by kernel_rfl) h
  | probe x => exact via_ok (S := SR1) (ps := []) (rs := [.sh sI_, .sh sI_]) (c := 46) (mk := MV.probe) (f := 172) (sp := fun x => some ((x.1.o.code, x.1.o.value, ()), (x.1, ()))) (fun _ => rfl) rfl (fun _ _ _ _ => by kernel_rfl) (co_like [pResult_k] ⟨pResult_ok, trivial⟩ fun x => by kernel_rfl) h
  | lpush x => exact via_ok (S := SR1) (ps := []) (rs := [.sh sI_, .sh sI_]) (c := 47) (mk := MV.lpush) (f := 172) (sp := fun x => some ((x.1.o.code, x.1.o.value, ()), (x.1, ()))) (fun _ => rfl) rfl (fun _ _ _ _ => by kernel_rfl) (co_like [pResult_k] ⟨pResult_ok, trivial⟩ fun x => by kernel_rfl) h
  | lpop x => exact via_ok (S := SR1) (ps := []) (rs := [.sh sI_, .sh sI_]) (c := 44) (mk := MV.lpop) (f := 172) (sp := fun x => some ((x.1.o.code, x.1.o.value, ()), (x.1, ()))) (fun _ => rfl) rfl (fun _ _ _ _ => by kernel_rfl) (co_like [pResult_k] ⟨pResult_ok, trivial⟩ fun x => by kernel_rfl) h
  | _ => cases h
noncomputable def boostRaise (y0 : Int) (y1 : Int) (y2 : Int) : Option ((MV × Unit) × (Unit)) :=
 some ((MV.raise (⟨⟨false, 0, 0⟩, y0, y1, y2, 1, 0⟩ : RaiseV), ()), (()))
noncomputable abbrev boostRaise_k : Con SR1 := ⟨287, [.sh sI_, .sh sI_, .sh sI_], [.sh .mach], fun x => boostRaise x.1 x.2.1 x.2.2.1⟩
theorem boostRaise_ok : CO Tryz.prog boostRaise_k := co_fn mixed Tryz.func287 [] trivial [] trivial (fun _ => []) [] fun x => by kernel_rfl
end Go.Proofs.YtgiagoeoifgliaaGreat
