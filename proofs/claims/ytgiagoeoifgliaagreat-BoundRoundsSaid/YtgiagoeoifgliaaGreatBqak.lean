/- The program's machines in the evaluator's form. -/
import Derived.Test.YtgiagoeoifgliaaGreatBqai
import Derived.Test.YtgiagoeoifgliaaGreatBqaj
set_option linter.all false
namespace Go.Proofs.YtgiagoeoifgliaaGreat
open Go Go.RowKit
set_option maxRecDepth 100000
variable [Tb]
noncomputable def pLow (x : Int) : Option ((Int × Unit) × (Unit)) :=
 if x = 0 then
  some (((-1), ()), (()))
 else
 (pTz x).bind fun r1 =>
 some ((r1.1.1, ()), (()))
noncomputable abbrev pLow_k : Con SR1 := ⟨279, [.sh sU_], [.sh sI_], fun x => pLow x.1⟩
theorem pLow_ok : CO Tryz.prog pLow_k := co_fn mixed Tryz.func279 [pTz_k] ⟨pTz_ok, trivial⟩ [] trivial (fun _ => []) [] fun x => by kernel_rfl
noncomputable def pEnded (o : OutV) : Option ((Bool × Unit) × (OutV × Unit)) :=
 some ((o.ended, ()), (o, ()))
noncomputable abbrev pEnded_k : Con SR1 := ⟨171, [.ref 23], [.sh .b], fun x => pEnded x.1⟩
theorem pEnded_ok : CO Tryz.prog pEnded_k := co_fn mixed Tryz.func171 [] trivial [] trivial (fun _ => []) [] fun x => by kernel_rfl
noncomputable def pEnd (o : OutV) (code : Int) (value : Int) : Option ((Bool × Unit) × (OutV × Unit)) :=
 some ((true, ()), ((⟨true, code, value⟩ : OutV), ()))
noncomputable abbrev pEnd_k : Con SR1 := ⟨175, [.ref 23, .sh sI_, .sh sI_], [.sh .b], fun x => pEnd x.1 x.2.1 x.2.2.1⟩
theorem pEnd_ok : CO Tryz.prog pEnd_k := co_fn mixed Tryz.func175 [] trivial [] trivial (fun _ => []) [] fun x => by kernel_rfl
noncomputable def pResult (o : OutV) : Option ((Int × Int × Unit) × (OutV × Unit)) :=
 some ((o.code, o.value, ()), (o, ()))
noncomputable abbrev pResult_k : Con SR1 := ⟨172, [.ref 23], [.sh sI_, .sh sI_], fun x => pResult x.1⟩
theorem pResult_ok : CO Tryz.prog pResult_k := co_fn mixed Tryz.func172 [] trivial [] trivial (fun _ => []) [] fun x => by kernel_rfl
noncomputable def pLoad (m : MemV) (a : Int) : Option ((Int × Unit) × (MemV × Unit)) :=
 if a < 0 then
  some ((0, ()), (m, ()))
 else
 if ((m.cells.length : Nat) : Int) ≤ a then
  some ((0, ()), (m, ()))
 else
 if 0 ≤ a ∧ a < ((m.cells.length : Nat) : Int) then
  if 0 ≤ a ∧ a < ((m.cells.length : Nat) : Int) then
   if 0 ≤ a ∧ a < (((m.cells.set a.toNat (atK0 m.cells a)).length : Nat) : Int) then
   some ((atK0 m.cells a, ()), ((⟨m.cells.set a.toNat (atK0 m.cells a), ⟨1, a, atK0 m.cells a, atK0 (m.cells.set a.toNat (atK0 m.cells a)) a⟩, wi (m.count + 1)⟩ : MemV), ()))
   else none
  else none
 else none
noncomputable abbrev pLoad_k : Con SR1 := ⟨193, [.ref 9, .sh sI_], [.sh sU_], fun x => pLoad x.1 x.2.1⟩
noncomputable def pLoad_tb : List (Nat × Func) := [(198, Tryz.f198), (201, Tryz.f201)]
theorem pLoad_ok : CO Tryz.prog pLoad_k := co_fn mixed Tryz.func193 [] trivial pLoad_tb ⟨Tryz.func198, Tryz.func201, trivial⟩ (fun _ => []) [] fun x => by kernel_rfl
noncomputable def pStore (m : MemV) (a : Int) (v : Int) : Option ((Unit) × (MemV × Unit)) :=
 if a < 0 then
  some ((()), (m, ()))
 else
 if ((m.cells.length : Nat) : Int) ≤ a then
  some ((()), (m, ()))
 else
 if 0 ≤ a ∧ a < ((m.cells.length : Nat) : Int) then
  if 0 ≤ a ∧ a < ((m.cells.length : Nat) : Int) then
   if 0 ≤ a ∧ a < (((m.cells.set a.toNat v).length : Nat) : Int) then
   some ((()), ((⟨m.cells.set a.toNat v, ⟨2, a, atK0 m.cells a, atK0 (m.cells.set a.toNat v) a⟩, wi (m.count + 1)⟩ : MemV), ()))
   else none
  else none
 else none
noncomputable abbrev pStore_k : Con SR1 := ⟨183, [.ref 9, .sh sI_, .sh sU_], [], fun x => pStore x.1 x.2.1 x.2.2.1⟩
noncomputable def pStore_tb : List (Nat × Func) := [(198, Tryz.f198), (199, Tryz.f199)]
theorem pStore_ok : CO Tryz.prog pStore_k := co_fn mixed Tryz.func183 [] trivial pStore_tb ⟨Tryz.func198, Tryz.func199, trivial⟩ (fun _ => []) [] fun x => by kernel_rfl
noncomputable def pCAS (m : MemV) (a : Int) (old : Int) (v : Int) : Option ((Bool × Unit) × (MemV × Unit)) :=
 if a < 0 then
  some ((false, ()), (m, ()))
 else
 if ((m.cells.length : Nat) : Int) ≤ a then
  some ((false, ()), (m, ()))
 else
 if 0 ≤ a ∧ a < ((m.cells.length : Nat) : Int) then
  if (atK0 m.cells a) = old then
   if 0 ≤ a ∧ a < ((m.cells.length : Nat) : Int) then
   if 0 ≤ a ∧ a < (((m.cells.set a.toNat v).length : Nat) : Int) then
   some ((decide ((atK0 m.cells a) = old), ()), ((⟨m.cells.set a.toNat v, ⟨3, a, atK0 m.cells a, atK0 (m.cells.set a.toNat v) a⟩, wi (m.count + 1)⟩ : MemV), ()))
   else none
   else none
  else
  if 0 ≤ a ∧ a < ((m.cells.length : Nat) : Int) then
   if 0 ≤ a ∧ a < (((m.cells.set a.toNat (atK0 m.cells a)).length : Nat) : Int) then
   some ((decide ((atK0 m.cells a) = old), ()), ((⟨m.cells.set a.toNat (atK0 m.cells a), ⟨3, a, atK0 m.cells a, atK0 (m.cells.set a.toNat (atK0 m.cells a)) a⟩, wi (m.count + 1)⟩ : MemV), ()))
   else none
  else none
 else none
noncomputable abbrev pCAS_k : Con SR1 := ⟨191, [.ref 9, .sh sI_, .sh sU_, .sh sU_], [.sh .b], fun x => pCAS x.1 x.2.1 x.2.2.1 x.2.2.2.1⟩
noncomputable def pCAS_tb : List (Nat × Func) := [(198, Tryz.f198), (200, Tryz.f200)]
theorem pCAS_ok : CO Tryz.prog pCAS_k := co_fn mixed Tryz.func191 [] trivial pCAS_tb ⟨Tryz.func198, Tryz.func200, trivial⟩ (fun _ => []) [] fun x => by kernel_rfl
noncomputable def pOr (m : MemV) (a : Int) (v : Int) : Option ((Int × Unit) × (MemV × Unit)) :=
 if a < 0 then
  some ((0, ()), (m, ()))
 else
 if ((m.cells.length : Nat) : Int) ≤ a then
  some ((0, ()), (m, ()))
 else
 if 0 ≤ a ∧ a < ((m.cells.length : Nat) : Int) then
  if 0 ≤ a ∧ a < ((m.cells.length : Nat) : Int) then
   if 0 ≤ a ∧ a < (((m.cells.set a.toNat (orU (atK0 m.cells a) v)).length : Nat) : Int) then
   some ((atK0 m.cells a, ()), ((⟨m.cells.set a.toNat (orU (atK0 m.cells a) v), ⟨4, a, atK0 m.cells a, atK0 (m.cells.set a.toNat (orU (atK0 m.cells a) v)) a⟩, wi (m.count + 1)⟩ : MemV), ()))
   else none
  else none
 else none
noncomputable abbrev pOr_k : Con SR1 := ⟨229, [.ref 9, .sh sI_, .sh sU_], [.sh sU_], fun x => pOr x.1 x.2.1 x.2.2.1⟩
noncomputable def pOr_tb : List (Nat × Func) := [(198, Tryz.f198), (235, Tryz.f235)]
theorem pOr_ok : CO Tryz.prog pOr_k := co_fn mixed Tryz.func229 [] trivial pOr_tb ⟨Tryz.func198, Tryz.func235, trivial⟩ (fun _ => []) [] fun x => by kernel_rfl
noncomputable def pAnd (m : MemV) (a : Int) (v : Int) : Option ((Int × Unit) × (MemV × Unit)) :=
 if a < 0 then
  some ((0, ()), (m, ()))
 else
 if ((m.cells.length : Nat) : Int) ≤ a then
  some ((0, ()), (m, ()))
 else
 if 0 ≤ a ∧ a < ((m.cells.length : Nat) : Int) then
  if 0 ≤ a ∧ a < ((m.cells.length : Nat) : Int) then
   if 0 ≤ a ∧ a < (((m.cells.set a.toNat (andU (atK0 m.cells a) v)).length : Nat) : Int) then
   some ((atK0 m.cells a, ()), ((⟨m.cells.set a.toNat (andU (atK0 m.cells a) v), ⟨5, a, atK0 m.cells a, atK0 (m.cells.set a.toNat (andU (atK0 m.cells a) v)) a⟩, wi (m.count + 1)⟩ : MemV), ()))
   else none
  else none
 else none
noncomputable abbrev pAnd_k : Con SR1 := ⟨234, [.ref 9, .sh sI_, .sh sU_], [.sh sU_], fun x => pAnd x.1 x.2.1 x.2.2.1⟩
noncomputable def pAnd_tb : List (Nat × Func) := [(198, Tryz.f198), (237, Tryz.f237)]
theorem pAnd_ok : CO Tryz.prog pAnd_k := co_fn mixed Tryz.func234 [] trivial pAnd_tb ⟨Tryz.func198, Tryz.func237, trivial⟩ (fun _ => []) [] fun x => by kernel_rfl
noncomputable def pAdd (m : MemV) (a : Int) (v : Int) : Option ((Int × Unit) × (MemV × Unit)) :=
 if a < 0 then
  some ((0, ()), (m, ()))
 else
 if ((m.cells.length : Nat) : Int) ≤ a then
  some ((0, ()), (m, ()))
 else
 if 0 ≤ a ∧ a < ((m.cells.length : Nat) : Int) then
  if 0 ≤ a ∧ a < ((m.cells.length : Nat) : Int) then
   if 0 ≤ a ∧ a < (((m.cells.set a.toNat (wu ((atK0 m.cells a) + v))).length : Nat) : Int) then
   some ((atK0 m.cells a, ()), ((⟨m.cells.set a.toNat (wu ((atK0 m.cells a) + v)), ⟨6, a, atK0 m.cells a, atK0 (m.cells.set a.toNat (wu ((atK0 m.cells a) + v))) a⟩, wi (m.count + 1)⟩ : MemV), ()))
   else none
  else none
 else none
noncomputable abbrev pAdd_k : Con SR1 := ⟨219, [.ref 9, .sh sI_, .sh sU_], [.sh sU_], fun x => pAdd x.1 x.2.1 x.2.2.1⟩
noncomputable def pAdd_tb : List (Nat × Func) := [(198, Tryz.f198), (221, Tryz.f221)]
theorem pAdd_ok : CO Tryz.prog pAdd_k := co_fn mixed Tryz.func219 [] trivial pAdd_tb ⟨Tryz.func198, Tryz.func221, trivial⟩ (fun _ => []) [] fun x => by kernel_rfl
noncomputable def pNow (k : ClkV) : Option ((Int × Unit) × (ClkV × Unit)) :=
 some ((k.now, ()), (k, ()))
noncomputable abbrev pNow_k : Con SR1 := ⟨214, [.ref 25], [.sh sI_], fun x => pNow x.1⟩
theorem pNow_ok : CO Tryz.prog pNow_k := co_fn mixed Tryz.func214 [] trivial [] trivial (fun _ => []) [] fun x => by kernel_rfl
noncomputable def pDraw (k : ClkV) (n : Int) : Option ((Int × Unit) × (ClkV × Unit)) :=
 if n < 1 then
  some ((0, ()), (k, ()))
 else
 if n ≠ 0 then
  if (Int.tmod k.draw n) < 0 then
   some ((wi ((Int.tmod k.draw n) + n), ()), (k, ()))
  else
  some (((Int.tmod k.draw n), ()), (k, ()))
 else none
noncomputable abbrev pDraw_k : Con SR1 := ⟨268, [.ref 25, .sh sI_], [.sh sI_], fun x => pDraw x.1 x.2.1⟩
theorem pDraw_ok : CO Tryz.prog pDraw_k := co_fn mixed Tryz.func268 [] trivial [] trivial (fun _ => []) [] fun x => by kernel_rfl
noncomputable def pBit (n : Int) : Option ((Int × Unit) × (Unit)) :=
 if n < 0 then
  some ((0, ()), (()))
 else
 if 63 < n then
  some ((0, ()), (()))
 else
 if 0 ≤ wu (n) then
  some ((wu (1 * 2 ^ min (wu (n) : Int).toNat IntKind.u64.bits), ()), (()))
 else none
noncomputable abbrev pBit_k : Con SR1 := ⟨231, [.sh sI_], [.sh sU_], fun x => pBit x.1⟩
theorem pBit_ok : CO Tryz.prog pBit_k := co_fn mixed Tryz.func231 [] trivial [] trivial (fun _ => []) [] fun x => by kernel_rfl
noncomputable def pMod (a : Int) (n : Int) : Option ((Int × Unit) × (Unit)) :=
 if n < 1 then
  some ((0, ()), (()))
 else
 if n ≠ 0 then
  if (Int.tmod a n) < 0 then
   some ((wi ((Int.tmod a n) + n), ()), (()))
  else
  some (((Int.tmod a n), ()), (()))
 else none
noncomputable abbrev pMod_k : Con SR1 := ⟨127, [.sh sI_, .sh sI_], [.sh sI_], fun x => pMod x.1 x.2.1⟩
theorem pMod_ok : CO Tryz.prog pMod_k := co_fn mixed Tryz.func127 [] trivial [] trivial (fun _ => []) [] fun x => by kernel_rfl
noncomputable def pSize (b : Int) (t : Int) : Option ((Int × Unit) × (Unit)) :=
 some ((wi (wu (b - t)), ()), (()))
noncomputable abbrev pSize_k : Con SR1 := ⟨256, [.sh sU_, .sh sU_], [.sh sI_], fun x => pSize x.1 x.2.1⟩
theorem pSize_ok : CO Tryz.prog pSize_k := co_fn mixed Tryz.func256 [] trivial [] trivial (fun _ => []) [] fun x => by kernel_rfl
noncomputable def pCell (q : QV) (i : Int) : Option ((Int × Unit) × (Unit)) :=
 if q.cap < 1 then
  some (((-1), ()), (()))
 else
 if (wu (q.cap)) ≠ 0 then
  some ((wi (q.ring + (wi ((Int.tmod i (wu (q.cap)))))), ()), (()))
 else none
noncomputable abbrev pCell_k : Con SR1 := ⟨257, [.val 14, .sh sU_], [.sh sI_], fun x => pCell x.1 x.2.1⟩
theorem pCell_ok : CO Tryz.prog pCell_k := co_fn mixed Tryz.func257 [] trivial [] trivial (fun _ => []) [] fun x => by kernel_rfl
noncomputable def pAt (i : Int) (n : Int) (a : Int) (w : Int) : Option ((Int × Unit) × (Unit)) :=
 if i < 0 then
  some (((-1), ()), (()))
 else
 if n ≤ i then
  some (((-1), ()), (()))
 else
 some ((wi (a + (wi (i * w))), ()), (()))
noncomputable abbrev pAt_k : Con SR1 := ⟨151, [.sh sI_, .sh sI_, .sh sI_, .sh sI_], [.sh sI_], fun x => pAt x.1 x.2.1 x.2.2.1 x.2.2.2.1⟩
theorem pAt_ok : CO Tryz.prog pAt_k := co_fn mixed Tryz.func151 [] trivial [] trivial (fun _ => []) [] fun x => by kernel_rfl
noncomputable def pTask (l : LayV) (t : Int) (f : Int) : Option ((Int × Unit) × (Unit)) :=
 (pAt t l.tasks (wi (l.table + f)) 5).bind fun r1 =>
 some ((r1.1.1, ()), (()))
noncomputable abbrev pTask_k : Con SR1 := ⟨147, [.val 24, .sh sI_, .sh sI_], [.sh sI_], fun x => pTask x.1 x.2.1 x.2.2.1⟩
theorem pTask_ok : CO Tryz.prog pTask_k := co_fn mixed Tryz.func147 [pAt_k] ⟨pAt_ok, trivial⟩ [] trivial (fun _ => []) [] fun x => by kernel_rfl
noncomputable def pNext (l : LayV) : Option ((Int × Unit) × (Unit)) :=
 some ((0, ()), (()))
noncomputable abbrev pNext_k : Con SR1 := ⟨106, [.val 24], [.sh sI_], fun x => pNext x.1⟩
theorem pNext_ok : CO Tryz.prog pNext_k := co_fn mixed Tryz.func106 [] trivial [] trivial (fun _ => []) [] fun x => by kernel_rfl
noncomputable def pState (l : LayV) (t : Int) : Option ((Int × Unit) × (Unit)) :=
 (pTask l t 0).bind fun r1 =>
 some ((r1.1.1, ()), (()))
noncomputable abbrev pState_k : Con SR1 := ⟨107, [.val 24, .sh sI_], [.sh sI_], fun x => pState x.1 x.2.1⟩
theorem pState_ok : CO Tryz.prog pState_k := co_fn mixed Tryz.func107 [pTask_k] ⟨pTask_ok, trivial⟩ [] trivial (fun _ => []) [] fun x => by kernel_rfl
noncomputable def pLevel (l : LayV) (t : Int) : Option ((Int × Unit) × (Unit)) :=
 (pTask l t 1).bind fun r1 =>
 some ((r1.1.1, ()), (()))
noncomputable abbrev pLevel_k : Con SR1 := ⟨194, [.val 24, .sh sI_], [.sh sI_], fun x => pLevel x.1 x.2.1⟩
theorem pLevel_ok : CO Tryz.prog pLevel_k := co_fn mixed Tryz.func194 [pTask_k] ⟨pTask_ok, trivial⟩ [] trivial (fun _ => []) [] fun x => by kernel_rfl
noncomputable def pSince (l : LayV) (t : Int) : Option ((Int × Unit) × (Unit)) :=
 (pTask l t 4).bind fun r1 =>
 some ((r1.1.1, ()), (()))
noncomputable abbrev pSince_k : Con SR1 := ⟨213, [.val 24, .sh sI_], [.sh sI_], fun x => pSince x.1 x.2.1⟩
theorem pSince_ok : CO Tryz.prog pSince_k := co_fn mixed Tryz.func213 [pTask_k] ⟨pTask_ok, trivial⟩ [] trivial (fun _ => []) [] fun x => by kernel_rfl
noncomputable def pWaits (l : LayV) (t : Int) : Option ((Int × Unit) × (Unit)) :=
 (pTask l t 3).bind fun r1 =>
 some ((r1.1.1, ()), (()))
noncomputable abbrev pWaits_k : Con SR1 := ⟨184, [.val 24, .sh sI_], [.sh sI_], fun x => pWaits x.1 x.2.1⟩
theorem pWaits_ok : CO Tryz.prog pWaits_k := co_fn mixed Tryz.func184 [pTask_k] ⟨pTask_ok, trivial⟩ [] trivial (fun _ => []) [] fun x => by kernel_rfl
noncomputable def pJoin (l : LayV) (t : Int) : Option ((Int × Unit) × (Unit)) :=
 (pTask l t 2).bind fun r1 =>
 some ((r1.1.1, ()), (()))
noncomputable abbrev pJoin_k : Con SR1 := ⟨192, [.val 24, .sh sI_], [.sh sI_], fun x => pJoin x.1 x.2.1⟩
theorem pJoin_ok : CO Tryz.prog pJoin_k := co_fn mixed Tryz.func192 [pTask_k] ⟨pTask_ok, trivial⟩ [] trivial (fun _ => []) [] fun x => by kernel_rfl
noncomputable def pLock (l : LayV) : Option ((Int × Unit) × (Unit)) :=
 some ((1, ()), (()))
noncomputable abbrev pLock_k : Con SR1 := ⟨292, [.val 24], [.sh sI_], fun x => pLock x.1⟩
theorem pLock_ok : CO Tryz.prog pLock_k := co_fn mixed Tryz.func292 [] trivial [] trivial (fun _ => []) [] fun x => by kernel_rfl
noncomputable def pLSize (l : LayV) : Option ((Int × Unit) × (Unit)) :=
 some ((2, ()), (()))
noncomputable abbrev pLSize_k : Con SR1 := ⟨211, [.val 24], [.sh sI_], fun x => pLSize x.1⟩
theorem pLSize_ok : CO Tryz.prog pLSize_k := co_fn mixed Tryz.func211 [] trivial [] trivial (fun _ => []) [] fun x => by kernel_rfl
noncomputable def pSlot (l : LayV) (i : Int) : Option ((Int × Unit) × (Unit)) :=
 (pAt i l.heap 4 1).bind fun r1 =>
 some ((r1.1.1, ()), (()))
noncomputable abbrev pSlot_k : Con SR1 := ⟨297, [.val 24, .sh sI_], [.sh sI_], fun x => pSlot x.1 x.2.1⟩
theorem pSlot_ok : CO Tryz.prog pSlot_k := co_fn mixed Tryz.func297 [pAt_k] ⟨pAt_ok, trivial⟩ [] trivial (fun _ => []) [] fun x => by kernel_rfl
noncomputable def pEpoch (l : LayV) (w : Int) : Option ((Int × Unit) × (Unit)) :=
 (pAt w l.workers l.epochs 1).bind fun r1 =>
 some ((r1.1.1, ()), (()))
noncomputable abbrev pEpoch_k : Con SR1 := ⟨228, [.val 24, .sh sI_], [.sh sI_], fun x => pEpoch x.1 x.2.1⟩
theorem pEpoch_ok : CO Tryz.prog pEpoch_k := co_fn mixed Tryz.func228 [pAt_k] ⟨pAt_ok, trivial⟩ [] trivial (fun _ => []) [] fun x => by kernel_rfl
noncomputable def pSleepers (l : LayV) (l0 : Int) : Option ((Int × Unit) × (Unit)) :=
 (pAt l0 l.classes l.sleepers 1).bind fun r1 =>
 some ((r1.1.1, ()), (()))
noncomputable abbrev pSleepers_k : Con SR1 := ⟨236, [.val 24, .sh sI_], [.sh sI_], fun x => pSleepers x.1 x.2.1⟩
theorem pSleepers_ok : CO Tryz.prog pSleepers_k := co_fn mixed Tryz.func236 [pAt_k] ⟨pAt_ok, trivial⟩ [] trivial (fun _ => []) [] fun x => by kernel_rfl
noncomputable def pBitmap (l : LayV) (w : Int) : Option ((Int × Unit) × (Unit)) :=
 (pAt w l.workers l.bitmaps 1).bind fun r1 =>
 some ((r1.1.1, ()), (()))
noncomputable abbrev pBitmap_k : Con SR1 := ⟨136, [.val 24, .sh sI_], [.sh sI_], fun x => pBitmap x.1 x.2.1⟩
theorem pBitmap_ok : CO Tryz.prog pBitmap_k := co_fn mixed Tryz.func136 [pAt_k] ⟨pAt_ok, trivial⟩ [] trivial (fun _ => []) [] fun x => by kernel_rfl
noncomputable def pQueue (l : LayV) (w : Int) (v : Int) : Option ((QV × Unit) × (Unit)) :=
 (pAt w l.workers l.queues (wi (l.levels * (wi (2 + l.deque))))).bind fun r1 =>
 (pAt v l.levels r1.1.1 (wi (2 + l.deque))).bind fun r2 =>
 if r1.1.1 < 0 then
  some (((⟨(-1), (-1), (-1), 0⟩ : QV), ()), (()))
 else
 if r2.1.1 < 0 then
  some (((⟨(-1), (-1), (-1), 0⟩ : QV), ()), (()))
 else
 some (((⟨r2.1.1, wi (r2.1.1 + 1), wi (r2.1.1 + 2), l.deque⟩ : QV), ()), (()))
noncomputable abbrev pQueue_k : Con SR1 := ⟨133, [.val 24, .sh sI_, .sh sI_], [.val 14], fun x => pQueue x.1 x.2.1 x.2.2.1⟩
theorem pQueue_ok : CO Tryz.prog pQueue_k := co_fn mixed Tryz.func133 [pAt_k] ⟨pAt_ok, trivial⟩ [] trivial (fun _ => []) [] fun x => by kernel_rfl
noncomputable def pArrival (l : LayV) : Option ((Int × Unit) × (Unit)) :=
 some ((3, ()), (()))
noncomputable abbrev pArrival_k : Con SR1 := ⟨167, [.val 24], [.sh sI_], fun x => pArrival x.1⟩
theorem pArrival_ok : CO Tryz.prog pArrival_k := co_fn mixed Tryz.func167 [] trivial [] trivial (fun _ => []) [] fun x => by kernel_rfl
noncomputable def pCells (l : LayV) : Option ((Int × Unit) × (Unit)) :=
 some ((wi (l.table + (wi (5 * l.tasks))), ()), (()))
noncomputable abbrev pCells_k : Con SR1 := ⟨78, [.val 24], [.sh sI_], fun x => pCells x.1⟩
theorem pCells_ok : CO Tryz.prog pCells_k := co_fn mixed Tryz.func78 [] trivial [] trivial (fun _ => []) [] fun x => by kernel_rfl
noncomputable def pEmit (e : EnvP) (v : Ev) : Option ((Unit) × (EnvP × Unit)) :=
 if (((e.evs.length + ([v] : List Ev).length : Nat)) : Int) < 1000000000000 then
  some ((()), (({ e with evs := e.evs ++ ([v]) } : EnvP), ()))
 else none
noncomputable abbrev pEmit_k : Con SR1 := ⟨134, [.ref 27, .val 2], [], fun x => pEmit x.1 x.2.1⟩
theorem pEmit_ok : CO Tryz.prog pEmit_k := co_fn mixed Tryz.func134 [] trivial [] trivial (fun _ => []) [] fun x => by kernel_rfl
noncomputable def pPack (d : Int) (a : Int) (t : Int) : Option ((Int × Bool × Unit) × (Unit)) :=
 if d < 0 then
  some ((0, false, ()), (()))
 else
 if 16777215 < d then
  some ((0, false, ()), (()))
 else
 if a < 0 then
  some ((0, false, ()), (()))
 else
 if 16777215 < a then
  some ((0, false, ()), (()))
 else
 if t < 0 then
  some ((0, false, ()), (()))
 else
 if 65535 < t then
  some ((0, false, ()), (()))
 else
 some ((orU (orU (wu ((wu (d)) * 2 ^ min (40 : Int).toNat IntKind.u64.bits)) (wu ((wu (a)) * 2 ^ min (16 : Int).toNat IntKind.u64.bits))) (wu (t)), true, ()), (()))
noncomputable abbrev pPack_k : Con SR1 := ⟨295, [.sh sI_, .sh sI_, .sh sI_], [.sh sU_, .sh .b], fun x => pPack x.1 x.2.1 x.2.2.1⟩
theorem pPack_ok : CO Tryz.prog pPack_k := co_fn mixed Tryz.func295 [] trivial [] trivial (fun _ => []) [] fun x => by kernel_rfl
noncomputable def pClass (l : Int) (n : Int) (c : Int) : Option ((Int × Unit) × (Unit)) :=
 if n < 1 then
  some ((0, ()), (()))
 else
 if 64 < n then
  some ((0, ()), (()))
 else
 if c < 1 then
  some ((0, ()), (()))
 else
 if 8 < c then
  some ((0, ()), (()))
 else
 if l < 0 then
  some ((0, ()), (()))
 else
 if n ≤ l then
  some ((0, ()), (()))
 else
 if n ≠ 0 then
  some ((wi (Int.tdiv (wi (l * c)) n), ()), (()))
 else none
noncomputable abbrev pClass_k : Con SR1 := ⟨280, [.sh sI_, .sh sI_, .sh sI_], [.sh sI_], fun x => pClass x.1 x.2.1 x.2.2.1⟩
theorem pClass_ok : CO Tryz.prog pClass_k := co_fn mixed Tryz.func280 [] trivial [] trivial (fun _ => []) [] fun x => by kernel_rfl
noncomputable def pUnpack (k : Int) : Option ((Int × Int × Int × Unit) × (Unit)) :=
 some ((wi (Int.fdiv k (2 ^ min (40 : Int).toNat IntKind.u64.bits)), wi (andU (Int.fdiv k (2 ^ min (16 : Int).toNat IntKind.u64.bits)) 16777215), wi (andU k 65535), ()), (()))
noncomputable abbrev pUnpack_k : Con SR1 := ⟨306, [.sh sU_], [.sh sI_, .sh sI_, .sh sI_], fun x => pUnpack x.1⟩
theorem pUnpack_ok : CO Tryz.prog pUnpack_k := co_fn mixed Tryz.func306 [] trivial [] trivial (fun _ => []) [] fun x => by kernel_rfl
noncomputable def pHigh (x : Int) : Option ((Int × Unit) × (Unit)) :=
 if 4294967296 ≤ x then
  if 65536 ≤ (Int.fdiv x (2 ^ min (32 : Int).toNat IntKind.u64.bits)) then
   if 256 ≤ (Int.fdiv (Int.fdiv x (2 ^ min (32 : Int).toNat IntKind.u64.bits)) (2 ^ min (16 : Int).toNat IntKind.u64.bits)) then
   if 0 ≤ IntKind.u8.wrap (Int.fdiv (Int.fdiv (Int.fdiv x (2 ^ min (32 : Int).toNat IntKind.u64.bits)) (2 ^ min (16 : Int).toNat IntKind.u64.bits)) (2 ^ min (8 : Int).toNat IntKind.u64.bits)) ∧ IntKind.u8.wrap (Int.fdiv (Int.fdiv (Int.fdiv x (2 ^ min (32 : Int).toNat IntKind.u64.bits)) (2 ^ min (16 : Int).toNat IntKind.u64.bits)) (2 ^ min (8 : Int).toNat IntKind.u64.bits)) < ((strC0.size : Nat) : Int) then
   some ((wi ((wi (56 + (wi ((((strC0[(IntKind.u8.wrap (Int.fdiv (Int.fdiv (Int.fdiv x (2 ^ min (32 : Int).toNat IntKind.u64.bits)) (2 ^ min (16 : Int).toNat IntKind.u64.bits)) (2 ^ min (8 : Int).toNat IntKind.u64.bits))).toNat]?).map fun b => ((b.toNat : Nat) : Int)).getD 0))))) - 1), ()), (()))
   else none
   else
   if 0 ≤ IntKind.u8.wrap (Int.fdiv (Int.fdiv x (2 ^ min (32 : Int).toNat IntKind.u64.bits)) (2 ^ min (16 : Int).toNat IntKind.u64.bits)) ∧ IntKind.u8.wrap (Int.fdiv (Int.fdiv x (2 ^ min (32 : Int).toNat IntKind.u64.bits)) (2 ^ min (16 : Int).toNat IntKind.u64.bits)) < ((strC0.size : Nat) : Int) then
   some ((wi ((wi (48 + (wi ((((strC0[(IntKind.u8.wrap (Int.fdiv (Int.fdiv x (2 ^ min (32 : Int).toNat IntKind.u64.bits)) (2 ^ min (16 : Int).toNat IntKind.u64.bits))).toNat]?).map fun b => ((b.toNat : Nat) : Int)).getD 0))))) - 1), ()), (()))
   else none
  else
  if 256 ≤ (Int.fdiv x (2 ^ min (32 : Int).toNat IntKind.u64.bits)) then
   if 0 ≤ IntKind.u8.wrap (Int.fdiv (Int.fdiv x (2 ^ min (32 : Int).toNat IntKind.u64.bits)) (2 ^ min (8 : Int).toNat IntKind.u64.bits)) ∧ IntKind.u8.wrap (Int.fdiv (Int.fdiv x (2 ^ min (32 : Int).toNat IntKind.u64.bits)) (2 ^ min (8 : Int).toNat IntKind.u64.bits)) < ((strC0.size : Nat) : Int) then
   some ((wi ((wi (40 + (wi ((((strC0[(IntKind.u8.wrap (Int.fdiv (Int.fdiv x (2 ^ min (32 : Int).toNat IntKind.u64.bits)) (2 ^ min (8 : Int).toNat IntKind.u64.bits))).toNat]?).map fun b => ((b.toNat : Nat) : Int)).getD 0))))) - 1), ()), (()))
   else none
  else
  if 0 ≤ IntKind.u8.wrap (Int.fdiv x (2 ^ min (32 : Int).toNat IntKind.u64.bits)) ∧ IntKind.u8.wrap (Int.fdiv x (2 ^ min (32 : Int).toNat IntKind.u64.bits)) < ((strC0.size : Nat) : Int) then
   some ((wi ((wi (32 + (wi ((((strC0[(IntKind.u8.wrap (Int.fdiv x (2 ^ min (32 : Int).toNat IntKind.u64.bits))).toNat]?).map fun b => ((b.toNat : Nat) : Int)).getD 0))))) - 1), ()), (()))
  else none
 else
 if 65536 ≤ x then
  if 256 ≤ (Int.fdiv x (2 ^ min (16 : Int).toNat IntKind.u64.bits)) then
   if 0 ≤ IntKind.u8.wrap (Int.fdiv (Int.fdiv x (2 ^ min (16 : Int).toNat IntKind.u64.bits)) (2 ^ min (8 : Int).toNat IntKind.u64.bits)) ∧ IntKind.u8.wrap (Int.fdiv (Int.fdiv x (2 ^ min (16 : Int).toNat IntKind.u64.bits)) (2 ^ min (8 : Int).toNat IntKind.u64.bits)) < ((strC0.size : Nat) : Int) then
   some ((wi ((wi (24 + (wi ((((strC0[(IntKind.u8.wrap (Int.fdiv (Int.fdiv x (2 ^ min (16 : Int).toNat IntKind.u64.bits)) (2 ^ min (8 : Int).toNat IntKind.u64.bits))).toNat]?).map fun b => ((b.toNat : Nat) : Int)).getD 0))))) - 1), ()), (()))
   else none
  else
  if 0 ≤ IntKind.u8.wrap (Int.fdiv x (2 ^ min (16 : Int).toNat IntKind.u64.bits)) ∧ IntKind.u8.wrap (Int.fdiv x (2 ^ min (16 : Int).toNat IntKind.u64.bits)) < ((strC0.size : Nat) : Int) then
   some ((wi ((wi (16 + (wi ((((strC0[(IntKind.u8.wrap (Int.fdiv x (2 ^ min (16 : Int).toNat IntKind.u64.bits))).toNat]?).map fun b => ((b.toNat : Nat) : Int)).getD 0))))) - 1), ()), (()))
  else none
 else
 if 256 ≤ x then
  if 0 ≤ IntKind.u8.wrap (Int.fdiv x (2 ^ min (8 : Int).toNat IntKind.u64.bits)) ∧ IntKind.u8.wrap (Int.fdiv x (2 ^ min (8 : Int).toNat IntKind.u64.bits)) < ((strC0.size : Nat) : Int) then
   some ((wi ((wi (8 + (wi ((((strC0[(IntKind.u8.wrap (Int.fdiv x (2 ^ min (8 : Int).toNat IntKind.u64.bits))).toNat]?).map fun b => ((b.toNat : Nat) : Int)).getD 0))))) - 1), ()), (()))
  else none
 else
 if 0 ≤ IntKind.u8.wrap (x) ∧ IntKind.u8.wrap (x) < ((strC0.size : Nat) : Int) then
  some ((wi ((wi (0 + (wi ((((strC0[(IntKind.u8.wrap (x)).toNat]?).map fun b => ((b.toNat : Nat) : Int)).getD 0))))) - 1), ()), (()))
 else none
noncomputable abbrev pHigh_k : Con SR1 := ⟨263, [.sh sU_], [.sh sI_], fun x => pHigh x.1⟩
noncomputable def pHigh_tb : List (Nat × Func) := [(265, Tryz.f265)]
theorem pHigh_ok : CO Tryz.prog pHigh_k := co_fn mixed Tryz.func263 [] trivial pHigh_tb ⟨Tryz.func265, trivial⟩ (fun _ => []) [] fun x => by kernel_rfl
noncomputable def probeProbePass (y0 : ProbeV) (y1 : Int) : Option ((Bool × Unit) × (ProbeV × Unit)) :=
 ((
  if y0.next < y1 then
   if y1 ≠ 0 then
   some (decide ((Int.tmod (wi (y0.start + y0.next)) y1) = y0.worker), ())
   else none
  else
  some (false, ())
 ) : Option (Bool × Unit)).bind fun z1 =>
 if z1.1 = true then
  some ((decide (y1 ≤ (wi (y0.next + 1))), ()), (({ y0 with next := wi (y0.next + 1) } : ProbeV), ()))
 else
 some ((decide (y1 ≤ y0.next), ()), (y0, ()))
noncomputable abbrev probeProbePass_k : Con SR1 := ⟨269, [.ref 46, .sh sI_], [.sh .b], fun x => probeProbePass x.1 x.2.1⟩
theorem probeProbePass_ok : CO Tryz.prog probeProbePass_k := co_fn mixed Tryz.func269 [] trivial [] trivial (fun _ => []) [(2, .cut [.rg 28 .b] [0])] fun x => by kernel_rfl
noncomputable def probeProbeStep (y0 : ProbeV) (y1 : EnvP) : Option ((Bool × Unit) × (ProbeV × EnvP × Unit)) :=
 (pEnded y0.o).bind fun r1 =>
 if r1.1.1 = true then
  some ((true, ()), (({ y0 with o := r1.2.1 } : ProbeV), y1, ()))
 else
 ((
  if (!y0.begun) = true then
   (pDraw y1.k (if 16 < y1.c.workers then 16 else y1.c.workers)).bind fun r2 =>
   some (({ y0 with o := r1.2.1, begun := true, start := r2.1.1 } : ProbeV), ({ y1 with k := r2.2.1 } : EnvP), ())
  else
  some (({ y0 with o := r1.2.1 } : ProbeV), y1, ())
 ) : Option (ProbeV × EnvP × Unit)).bind fun z3 =>
 (probeProbePass z3.1 (if 16 < y1.c.workers then 16 else y1.c.workers)).bind fun r4 =>
 if r4.1.1 = true then
  (pEnd r4.2.1.o 2 0).bind fun r5 =>
  some ((r5.1.1, ()), (({ r4.2.1 with o := r5.2.1 } : ProbeV), z3.2.1, ()))
 else
 if (if 16 < y1.c.workers then 16 else y1.c.workers) ≠ 0 then
  ((
   (pBitmap z3.2.1.l (Int.tmod (wi (r4.2.1.start + r4.2.1.next)) (if 16 < y1.c.workers then 16 else y1.c.workers))).bind fun r6 =>
   (pLoad z3.2.1.m r6.1.1).bind fun r7 =>
   if (Int.tmod (wi (r4.2.1.start + r4.2.1.next)) (if 16 < y1.c.workers then 16 else y1.c.workers)) = ((15 : Nat) : Int) then
   some (({ r4.2.1 with bm := { r4.2.1.bm with b15 := r7.1.1 } } : ProbeV), ({ z3.2.1 with m := r7.2.1 } : EnvP), ())
   else
   if (Int.tmod (wi (r4.2.1.start + r4.2.1.next)) (if 16 < y1.c.workers then 16 else y1.c.workers)) = ((14 : Nat) : Int) then
   some (({ r4.2.1 with bm := { r4.2.1.bm with b14 := r7.1.1 } } : ProbeV), ({ z3.2.1 with m := r7.2.1 } : EnvP), ())
   else
   if (Int.tmod (wi (r4.2.1.start + r4.2.1.next)) (if 16 < y1.c.workers then 16 else y1.c.workers)) = ((13 : Nat) : Int) then
   some (({ r4.2.1 with bm := { r4.2.1.bm with b13 := r7.1.1 } } : ProbeV), ({ z3.2.1 with m := r7.2.1 } : EnvP), ())
   else
   if (Int.tmod (wi (r4.2.1.start + r4.2.1.next)) (if 16 < y1.c.workers then 16 else y1.c.workers)) = ((12 : Nat) : Int) then
   some (({ r4.2.1 with bm := { r4.2.1.bm with b12 := r7.1.1 } } : ProbeV), ({ z3.2.1 with m := r7.2.1 } : EnvP), ())
   else
   if (Int.tmod (wi (r4.2.1.start + r4.2.1.next)) (if 16 < y1.c.workers then 16 else y1.c.workers)) = ((11 : Nat) : Int) then
   some (({ r4.2.1 with bm := { r4.2.1.bm with b11 := r7.1.1 } } : ProbeV), ({ z3.2.1 with m := r7.2.1 } : EnvP), ())
   else
   if (Int.tmod (wi (r4.2.1.start + r4.2.1.next)) (if 16 < y1.c.workers then 16 else y1.c.workers)) = ((10 : Nat) : Int) then
   some (({ r4.2.1 with bm := { r4.2.1.bm with b10 := r7.1.1 } } : ProbeV), ({ z3.2.1 with m := r7.2.1 } : EnvP), ())
   else
   if (Int.tmod (wi (r4.2.1.start + r4.2.1.next)) (if 16 < y1.c.workers then 16 else y1.c.workers)) = ((9 : Nat) : Int) then
   some (({ r4.2.1 with bm := { r4.2.1.bm with b9 := r7.1.1 } } : ProbeV), ({ z3.2.1 with m := r7.2.1 } : EnvP), ())
   else
   if (Int.tmod (wi (r4.2.1.start + r4.2.1.next)) (if 16 < y1.c.workers then 16 else y1.c.workers)) = ((8 : Nat) : Int) then
   some (({ r4.2.1 with bm := { r4.2.1.bm with b8 := r7.1.1 } } : ProbeV), ({ z3.2.1 with m := r7.2.1 } : EnvP), ())
   else
   if (Int.tmod (wi (r4.2.1.start + r4.2.1.next)) (if 16 < y1.c.workers then 16 else y1.c.workers)) = ((7 : Nat) : Int) then
   some (({ r4.2.1 with bm := { r4.2.1.bm with b7 := r7.1.1 } } : ProbeV), ({ z3.2.1 with m := r7.2.1 } : EnvP), ())
   else
   if (Int.tmod (wi (r4.2.1.start + r4.2.1.next)) (if 16 < y1.c.workers then 16 else y1.c.workers)) = ((6 : Nat) : Int) then
   some (({ r4.2.1 with bm := { r4.2.1.bm with b6 := r7.1.1 } } : ProbeV), ({ z3.2.1 with m := r7.2.1 } : EnvP), ())
   else
   if (Int.tmod (wi (r4.2.1.start + r4.2.1.next)) (if 16 < y1.c.workers then 16 else y1.c.workers)) = ((5 : Nat) : Int) then
   some (({ r4.2.1 with bm := { r4.2.1.bm with b5 := r7.1.1 } } : ProbeV), ({ z3.2.1 with m := r7.2.1 } : EnvP), ())
   else
   if (Int.tmod (wi (r4.2.1.start + r4.2.1.next)) (if 16 < y1.c.workers then 16 else y1.c.workers)) = ((4 : Nat) : Int) then
   some (({ r4.2.1 with bm := { r4.2.1.bm with b4 := r7.1.1 } } : ProbeV), ({ z3.2.1 with m := r7.2.1 } : EnvP), ())
   else
   if (Int.tmod (wi (r4.2.1.start + r4.2.1.next)) (if 16 < y1.c.workers then 16 else y1.c.workers)) = ((3 : Nat) : Int) then
   some (({ r4.2.1 with bm := { r4.2.1.bm with b3 := r7.1.1 } } : ProbeV), ({ z3.2.1 with m := r7.2.1 } : EnvP), ())
   else
   if (Int.tmod (wi (r4.2.1.start + r4.2.1.next)) (if 16 < y1.c.workers then 16 else y1.c.workers)) = ((2 : Nat) : Int) then
   some (({ r4.2.1 with bm := { r4.2.1.bm with b2 := r7.1.1 } } : ProbeV), ({ z3.2.1 with m := r7.2.1 } : EnvP), ())
   else
   if (Int.tmod (wi (r4.2.1.start + r4.2.1.next)) (if 16 < y1.c.workers then 16 else y1.c.workers)) = ((1 : Nat) : Int) then
   some (({ r4.2.1 with bm := { r4.2.1.bm with b1 := r7.1.1 } } : ProbeV), ({ z3.2.1 with m := r7.2.1 } : EnvP), ())
   else
   if (Int.tmod (wi (r4.2.1.start + r4.2.1.next)) (if 16 < y1.c.workers then 16 else y1.c.workers)) = ((0 : Nat) : Int) then
   some (({ r4.2.1 with bm := { r4.2.1.bm with b0 := r7.1.1 } } : ProbeV), ({ z3.2.1 with m := r7.2.1 } : EnvP), ())
   else
   none
  ) : Option (ProbeV × EnvP × Unit)).bind fun z8 =>
  (probeProbePass ({ z8.1 with next := wi (z8.1.next + 1) } : ProbeV) (if 16 < y1.c.workers then 16 else y1.c.workers)).bind fun r9 =>
  if (!r9.1.1) = true then
   some ((false, ()), (r9.2.1, z8.2.1, ()))
  else
  if 0 ≤ (if 16 < y1.c.workers then 16 else y1.c.workers) ∧ (if 16 < y1.c.workers then 16 else y1.c.workers) ≤ ((16 : Nat) : Int) then
   (lpF (σ := Int × Int × Int × ProbeV × Unit) (β := Int × Int × Int × ProbeV × Unit) (fun self12 x10 =>
   if x10.2.2.1 < ((((if 16 < y1.c.workers then 16 else y1.c.workers)).toNat : Nat) : Int) then
   (pMod r9.2.1.start ((((if 16 < y1.c.workers then 16 else y1.c.workers)).toNat : Nat) : Int)).bind fun r13 =>
   if ((((if 16 < y1.c.workers then 16 else y1.c.workers)).toNat : Nat) : Int) ≠ 0 then
   ((
   if (Int.tmod (wi (r13.1.1 + x10.2.2.1)) ((((if 16 < y1.c.workers then 16 else y1.c.workers)).toNat : Nat) : Int)) < (if 16 < y1.c.workers then 16 else y1.c.workers) then
   if (Int.tmod (wi (r13.1.1 + x10.2.2.1)) ((((if 16 < y1.c.workers then 16 else y1.c.workers)).toNat : Nat) : Int)) = ((15 : Nat) : Int) then
   (pHigh x10.2.2.2.1.bm.b15).bind fun r14 =>
   some (r14.1.1, x10.2.2.2.1, ())
   else
   if (Int.tmod (wi (r13.1.1 + x10.2.2.1)) ((((if 16 < y1.c.workers then 16 else y1.c.workers)).toNat : Nat) : Int)) = ((14 : Nat) : Int) then
   (pHigh x10.2.2.2.1.bm.b14).bind fun r15 =>
   some (r15.1.1, x10.2.2.2.1, ())
   else
   if (Int.tmod (wi (r13.1.1 + x10.2.2.1)) ((((if 16 < y1.c.workers then 16 else y1.c.workers)).toNat : Nat) : Int)) = ((13 : Nat) : Int) then
   (pHigh x10.2.2.2.1.bm.b13).bind fun r16 =>
   some (r16.1.1, x10.2.2.2.1, ())
   else
   if (Int.tmod (wi (r13.1.1 + x10.2.2.1)) ((((if 16 < y1.c.workers then 16 else y1.c.workers)).toNat : Nat) : Int)) = ((12 : Nat) : Int) then
   (pHigh x10.2.2.2.1.bm.b12).bind fun r17 =>
   some (r17.1.1, x10.2.2.2.1, ())
   else
   if (Int.tmod (wi (r13.1.1 + x10.2.2.1)) ((((if 16 < y1.c.workers then 16 else y1.c.workers)).toNat : Nat) : Int)) = ((11 : Nat) : Int) then
   (pHigh x10.2.2.2.1.bm.b11).bind fun r18 =>
   some (r18.1.1, x10.2.2.2.1, ())
   else
   if (Int.tmod (wi (r13.1.1 + x10.2.2.1)) ((((if 16 < y1.c.workers then 16 else y1.c.workers)).toNat : Nat) : Int)) = ((10 : Nat) : Int) then
   (pHigh x10.2.2.2.1.bm.b10).bind fun r19 =>
   some (r19.1.1, x10.2.2.2.1, ())
   else
   if (Int.tmod (wi (r13.1.1 + x10.2.2.1)) ((((if 16 < y1.c.workers then 16 else y1.c.workers)).toNat : Nat) : Int)) = ((9 : Nat) : Int) then
   (pHigh x10.2.2.2.1.bm.b9).bind fun r20 =>
   some (r20.1.1, x10.2.2.2.1, ())
   else
   if (Int.tmod (wi (r13.1.1 + x10.2.2.1)) ((((if 16 < y1.c.workers then 16 else y1.c.workers)).toNat : Nat) : Int)) = ((8 : Nat) : Int) then
   (pHigh x10.2.2.2.1.bm.b8).bind fun r21 =>
   some (r21.1.1, x10.2.2.2.1, ())
   else
   if (Int.tmod (wi (r13.1.1 + x10.2.2.1)) ((((if 16 < y1.c.workers then 16 else y1.c.workers)).toNat : Nat) : Int)) = ((7 : Nat) : Int) then
   (pHigh x10.2.2.2.1.bm.b7).bind fun r22 =>
   some (r22.1.1, x10.2.2.2.1, ())
   else
   if (Int.tmod (wi (r13.1.1 + x10.2.2.1)) ((((if 16 < y1.c.workers then 16 else y1.c.workers)).toNat : Nat) : Int)) = ((6 : Nat) : Int) then
   (pHigh x10.2.2.2.1.bm.b6).bind fun r23 =>
   some (r23.1.1, x10.2.2.2.1, ())
   else
   if (Int.tmod (wi (r13.1.1 + x10.2.2.1)) ((((if 16 < y1.c.workers then 16 else y1.c.workers)).toNat : Nat) : Int)) = ((5 : Nat) : Int) then
   (pHigh x10.2.2.2.1.bm.b5).bind fun r24 =>
   some (r24.1.1, x10.2.2.2.1, ())
   else
   if (Int.tmod (wi (r13.1.1 + x10.2.2.1)) ((((if 16 < y1.c.workers then 16 else y1.c.workers)).toNat : Nat) : Int)) = ((4 : Nat) : Int) then
   (pHigh x10.2.2.2.1.bm.b4).bind fun r25 =>
   some (r25.1.1, x10.2.2.2.1, ())
   else
   if (Int.tmod (wi (r13.1.1 + x10.2.2.1)) ((((if 16 < y1.c.workers then 16 else y1.c.workers)).toNat : Nat) : Int)) = ((3 : Nat) : Int) then
   (pHigh x10.2.2.2.1.bm.b3).bind fun r26 =>
   some (r26.1.1, x10.2.2.2.1, ())
   else
   if (Int.tmod (wi (r13.1.1 + x10.2.2.1)) ((((if 16 < y1.c.workers then 16 else y1.c.workers)).toNat : Nat) : Int)) = ((2 : Nat) : Int) then
   (pHigh x10.2.2.2.1.bm.b2).bind fun r27 =>
   some (r27.1.1, x10.2.2.2.1, ())
   else
   if (Int.tmod (wi (r13.1.1 + x10.2.2.1)) ((((if 16 < y1.c.workers then 16 else y1.c.workers)).toNat : Nat) : Int)) = ((1 : Nat) : Int) then
   (pHigh x10.2.2.2.1.bm.b1).bind fun r28 =>
   some (r28.1.1, x10.2.2.2.1, ())
   else
   if (Int.tmod (wi (r13.1.1 + x10.2.2.1)) ((((if 16 < y1.c.workers then 16 else y1.c.workers)).toNat : Nat) : Int)) = ((0 : Nat) : Int) then
   (pHigh x10.2.2.2.1.bm.b0).bind fun r29 =>
   some (r29.1.1, x10.2.2.2.1, ())
   else
   none
   else none
   ) : Option (Int × ProbeV × Unit)).bind fun z30 =>
   if (Int.tmod (wi (r13.1.1 + x10.2.2.1)) ((((if 16 < y1.c.workers then 16 else y1.c.workers)).toNat : Nat) : Int)) ≠ r9.2.1.worker then
   if x10.2.1 < z30.1 then
   self12 ((Int.tmod (wi (r13.1.1 + x10.2.2.1)) ((((if 16 < y1.c.workers then 16 else y1.c.workers)).toNat : Nat) : Int)), z30.1, wi (x10.2.2.1 + 1), z30.2.1, ())
   else
   self12 (x10.1, x10.2.1, wi (x10.2.2.1 + 1), z30.2.1, ())
   else
   self12 (x10.1, x10.2.1, wi (x10.2.2.1 + 1), z30.2.1, ())
   else none
   else
   some (x10.1, x10.2.1, x10.2.2.1, x10.2.2.2.1, ())
   ) 18446744073709551616 ((-1), (-1), 0, r9.2.1, ())).bind fun z11 =>
   if z11.1 < 0 then
   (pEnd z11.2.2.2.1.o 2 0).bind fun r31 =>
   some ((r31.1.1, ()), (({ z11.2.2.2.1 with o := r31.2.1 } : ProbeV), z8.2.1, ()))
   else
   (pEnd z11.2.2.2.1.o 1 (wi ((wi (z11.1 * 64)) + z11.2.1))).bind fun r32 =>
   some ((r32.1.1, ()), (({ z11.2.2.2.1 with o := r32.2.1 } : ProbeV), z8.2.1, ()))
  else none
 else none
noncomputable abbrev probeProbeStep_k : Con SR1 := ⟨267, [.ref 46, .ref 27], [.sh .b], fun x => probeProbeStep x.1 x.2.1⟩
noncomputable def probeProbeStep_tb : List (Nat × Func) := [(270, Tryz.f270)]
theorem probeProbeStep_ok : CO Tryz.prog probeProbeStep_k := co_fn mixed Tryz.func267 [pEnded_k, pDraw_k, probeProbePass_k, pEnd_k, pBitmap_k, pLoad_k, pMod_k, pHigh_k] ⟨pEnded_ok, pDraw_ok, probeProbePass_ok, pEnd_ok, pBitmap_ok, pLoad_ok, pMod_ok, pHigh_ok, trivial⟩ probeProbeStep_tb ⟨Tryz.func270, trivial⟩ (fun f => (get [(270, [(4, .loop [.rg 6 sI_, .rg 7 sI_, .rg 15 sI_, .ob 0 46] 18446744073709551616 0), (8, .cut [.rg 11 sI_, .ob 0 46] [])])] f).getD []) [(6, .cut [.ob 0 46, .ob 1 27] []), (10, .cut [.ob 0 46, .ob 1 27] [])] fun x => by kernel_rfl
noncomputable def tableIsTask (y0 : EnvP) (y1 : Int) : Option ((Bool × Unit) × (EnvP × Unit)) :=
 if 0 ≤ y1 then
  some ((decide (y1 < y0.c.tasks), ()), (y0, ()))
 else
 some ((false, ()), (y0, ()))
noncomputable abbrev tableIsTask_k : Con SR1 := ⟨220, [.ref 27, .sh sI_], [.sh .b], fun x => tableIsTask x.1 x.2.1⟩
theorem tableIsTask_ok : CO Tryz.prog tableIsTask_k := co_fn mixed Tryz.func220 [] trivial [] trivial (fun _ => []) [] fun x => by kernel_rfl
noncomputable def tableAllocateStep (y0 : AllocV) (y1 : EnvP) : Option ((Bool × Unit) × (AllocV × EnvP × Unit)) :=
 (pEnded y0.o).bind fun r1 =>
 if r1.1.1 = true then
  some ((true, ()), ((⟨r1.2.1⟩ : AllocV), y1, ()))
 else
 (pNext y1.l).bind fun r2 =>
 (pAdd y1.m r2.1.1 1).bind fun r3 =>
 (tableIsTask ({ y1 with m := r3.2.1 } : EnvP) (wi (r3.1.1))).bind fun r4 =>
 if (!r4.1.1) = true then
  (pEnd r1.2.1 3 0).bind fun r5 =>
  some ((r5.1.1, ()), ((⟨r5.2.1⟩ : AllocV), r4.2.1, ()))
 else
 (pEnd r1.2.1 1 (wi (r3.1.1))).bind fun r6 =>
 some ((r6.1.1, ()), ((⟨r6.2.1⟩ : AllocV), r4.2.1, ()))
noncomputable abbrev tableAllocateStep_k : Con SR1 := ⟨218, [.ref 35, .ref 27], [.sh .b], fun x => tableAllocateStep x.1 x.2.1⟩
theorem tableAllocateStep_ok : CO Tryz.prog tableAllocateStep_k := co_fn mixed Tryz.func218 [pEnded_k, pNext_k, pAdd_k, tableIsTask_k, pEnd_k] ⟨pEnded_ok, pNext_ok, pAdd_ok, tableIsTask_ok, pEnd_ok, trivial⟩ [] trivial (fun _ => []) [] fun x => by kernel_rfl
noncomputable def tablePublishStep (y0 : PublishV) (y1 : EnvP) : Option ((Bool × Unit) × (PublishV × EnvP × Unit)) :=
 (pEnded y0.o).bind fun r1 =>
 if r1.1.1 = true then
  some ((true, ()), (({ y0 with o := r1.2.1 } : PublishV), y1, ()))
 else
 (tableIsTask y1 y0.task).bind fun r2 =>
 if (!r2.1.1) = true then
  (pEnd r1.2.1 4 0).bind fun r3 =>
  some ((r3.1.1, ()), (({ y0 with o := r3.2.1 } : PublishV), r2.2.1, ()))
 else
 if y0.line = 1 then
  (pLevel r2.2.1.l y0.task).bind fun r4 =>
  if y0.level = y0.level then
   (pStore r2.2.1.m r4.1.1 (wu (y0.level))).bind fun r5 =>
   some ((false, ()), (({ y0 with o := r1.2.1, line := wi (y0.line + 1) } : PublishV), ({ r2.2.1 with m := r5.2.1 } : EnvP), ()))
  else none
 else
 if y0.line = 2 then
  (pSince r2.2.1.l y0.task).bind fun r6 =>
  (pNow r2.2.1.k).bind fun r7 =>
  (pStore r2.2.1.m r6.1.1 (wu (r7.1.1))).bind fun r8 =>
  some ((false, ()), (({ y0 with o := r1.2.1, line := wi (y0.line + 1) } : PublishV), ({ r2.2.1 with m := r8.2.1, k := r7.2.1 } : EnvP), ()))
 else
 (pState r2.2.1.l y0.task).bind fun r9 =>
 (pStore r2.2.1.m r9.1.1 1).bind fun r10 =>
 (pEnd r1.2.1 0 0).bind fun r11 =>
 some ((r11.1.1, ()), (({ y0 with o := r11.2.1 } : PublishV), ({ r2.2.1 with m := r10.2.1 } : EnvP), ()))
noncomputable abbrev tablePublishStep_k : Con SR1 := ⟨223, [.ref 50, .ref 27], [.sh .b], fun x => tablePublishStep x.1 x.2.1⟩
theorem tablePublishStep_ok : CO Tryz.prog tablePublishStep_k := co_fn mixed Tryz.func223 [pEnded_k, tableIsTask_k, pEnd_k, pLevel_k, pStore_k, pSince_k, pNow_k, pState_k] ⟨pEnded_ok, tableIsTask_ok, pEnd_ok, pLevel_ok, pStore_ok, pSince_ok, pNow_ok, pState_ok, trivial⟩ [] trivial (fun _ => []) [] fun x => by kernel_rfl
noncomputable def tableClaimStep (y0 : ClaimV) (y1 : EnvP) : Option ((Bool × Unit) × (ClaimV × EnvP × Unit)) :=
 (pEnded y0.o).bind fun r1 =>
 if r1.1.1 = true then
  some ((true, ()), (({ y0 with o := r1.2.1 } : ClaimV), y1, ()))
 else
 if y0.task = y0.task then
  if y0.worker = y0.worker then
   (pState y1.l y0.task).bind fun r2 =>
   (pCAS y1.m r2.1.1 1 2).bind fun r3 =>
   if (!r3.1.1) = true then
   (pEmit ({ y1 with m := r3.2.1 } : EnvP) ({ y0 with kind := 15, other := 0, level := 0 } : Ev)).bind fun r4 =>
   (pEnd r1.2.1 4 0).bind fun r5 =>
   some ((r5.1.1, ()), (({ y0 with o := r5.2.1 } : ClaimV), r4.2.1, ()))
   else
   if 0 ≤ y0.task ∧ y0.task < ((y1.recs.length : Nat) : Int) then
   if (atK26 y1.recs y0.task).started = true then
   (pEmit ({ y1 with m := r3.2.1 } : EnvP) ({ y0 with kind := 9, other := 0, level := 0 } : Ev)).bind fun r6 =>
   (pEnd r1.2.1 1 y0.task).bind fun r7 =>
   some ((r7.1.1, ()), (({ y0 with o := r7.2.1 } : ClaimV), r6.2.1, ()))
   else
   (pEmit ({ y1 with m := r3.2.1, recs := y1.recs.set y0.task.toNat ({ atK26 y1.recs y0.task with started := true } : RecP) } : EnvP) ({ y0 with kind := 5, other := 0, level := 0 } : Ev)).bind fun r8 =>
   (pEnd r1.2.1 1 y0.task).bind fun r9 =>
   some ((r9.1.1, ()), (({ y0 with o := r9.2.1 } : ClaimV), r8.2.1, ()))
   else none
  else none
 else none
noncomputable abbrev tableClaimStep_k : Con SR1 := ⟨225, [.ref 45, .ref 27], [.sh .b], fun x => tableClaimStep x.1 x.2.1⟩
theorem tableClaimStep_ok : CO Tryz.prog tableClaimStep_k := co_fn mixed Tryz.func225 [pEnded_k, pState_k, pCAS_k, pEmit_k, pEnd_k] ⟨pEnded_ok, pState_ok, pCAS_ok, pEmit_ok, pEnd_ok, trivial⟩ [] trivial (fun _ => []) [] fun x => by kernel_rfl
noncomputable def lockAttemptStep (y0 : AttemptV) (y1 : EnvP) : Option ((Bool × Unit) × (AttemptV × EnvP × Unit)) :=
 (pEnded y0.o).bind fun r1 =>
 if r1.1.1 = true then
  some ((true, ()), (({ y0 with o := r1.2.1 } : AttemptV), y1, ()))
 else
 (pLock y1.l).bind fun r2 =>
 if y0.owner = y0.owner then
  (pCAS y1.m r2.1.1 0 (wu (wi (y0.owner + 1)))).bind fun r3 =>
  if r3.1.1 = true then
   (pEnd r1.2.1 1 0).bind fun r4 =>
   some ((r4.1.1, ()), (({ y0 with o := r4.2.1 } : AttemptV), ({ y1 with m := r3.2.1 } : EnvP), ()))
  else
  if y0.once = true then
   (pEnd r1.2.1 5 0).bind fun r5 =>
   some ((r5.1.1, ()), (({ y0 with o := r5.2.1 } : AttemptV), ({ y1 with m := r3.2.1 } : EnvP), ()))
  else
  some ((false, ()), (({ y0 with o := r1.2.1 } : AttemptV), ({ y1 with m := r3.2.1 } : EnvP), ()))
 else none
noncomputable abbrev lockAttemptStep_k : Con SR1 := ⟨291, [.ref 34, .ref 27], [.sh .b], fun x => lockAttemptStep x.1 x.2.1⟩
theorem lockAttemptStep_ok : CO Tryz.prog lockAttemptStep_k := co_fn mixed Tryz.func291 [pEnded_k, pLock_k, pCAS_k, pEnd_k] ⟨pEnded_ok, pLock_ok, pCAS_ok, pEnd_ok, trivial⟩ [] trivial (fun _ => []) [] fun x => by kernel_rfl
noncomputable def lockReleaseStep (y0 : ReleaseV) (y1 : EnvP) : Option ((Bool × Unit) × (ReleaseV × EnvP × Unit)) :=
 (pEnded y0.o).bind fun r1 =>
 if r1.1.1 = true then
  some ((true, ()), ((⟨r1.2.1⟩ : ReleaseV), y1, ()))
 else
 (pLock y1.l).bind fun r2 =>
 (pStore y1.m r2.1.1 0).bind fun r3 =>
 (pEnd r1.2.1 0 0).bind fun r4 =>
 some ((r4.1.1, ()), ((⟨r4.2.1⟩ : ReleaseV), ({ y1 with m := r3.2.1 } : EnvP), ()))
noncomputable abbrev lockReleaseStep_k : Con SR1 := ⟨299, [.ref 37, .ref 27], [.sh .b], fun x => lockReleaseStep x.1 x.2.1⟩
theorem lockReleaseStep_ok : CO Tryz.prog lockReleaseStep_k := co_fn mixed Tryz.func299 [pEnded_k, pLock_k, pStore_k, pEnd_k] ⟨pEnded_ok, pLock_ok, pStore_ok, pEnd_ok, trivial⟩ [] trivial (fun _ => []) [] fun x => by kernel_rfl
noncomputable def ownerPushStep (y0 : OPushV) (y1 : EnvP) : Option ((Bool × Unit) × (OPushV × EnvP × Unit)) :=
 (pEnded y0.o).bind fun r1 =>
 if r1.1.1 = true then
  some ((true, ()), (({ y0 with o := r1.2.1 } : OPushV), y1, ()))
 else
 if y0.line = 1 then
  (pLoad y1.m y0.q.bottom).bind fun r2 =>
  some ((false, ()), (({ y0 with o := r1.2.1, line := wi (y0.line + 1), b := r2.1.1 } : OPushV), ({ y1 with m := r2.2.1 } : EnvP), ()))
 else
 if y0.line = 2 then
  (pLoad y1.m y0.q.top).bind fun r3 =>
  (pSize y0.b r3.1.1).bind fun r4 =>
  if y0.q.cap = y0.q.cap then
   if y0.q.cap ≤ r4.1.1 then
   (pEnd r1.2.1 3 0).bind fun r5 =>
   some ((r5.1.1, ()), (({ y0 with o := r5.2.1 } : OPushV), ({ y1 with m := r3.2.1 } : EnvP), ()))
   else
   some ((false, ()), (({ y0 with o := r1.2.1, line := wi (y0.line + 1) } : OPushV), ({ y1 with m := r3.2.1 } : EnvP), ()))
  else none
 else
 if y0.line = 3 then
  (pCell y0.q y0.b).bind fun r6 =>
  if y0.value = y0.value then
   (pStore y1.m r6.1.1 (wu (y0.value))).bind fun r7 =>
   some ((false, ()), (({ y0 with o := r1.2.1, line := wi (y0.line + 1) } : OPushV), ({ y1 with m := r7.2.1 } : EnvP), ()))
  else none
 else
 (pStore y1.m y0.q.bottom (wu (y0.b + 1))).bind fun r8 =>
 (pEnd r1.2.1 0 0).bind fun r9 =>
 some ((r9.1.1, ()), (({ y0 with o := r9.2.1 } : OPushV), ({ y1 with m := r8.2.1 } : EnvP), ()))
noncomputable abbrev ownerPushStep_k : Con SR1 := ⟨311, [.ref 53, .ref 27], [.sh .b], fun x => ownerPushStep x.1 x.2.1⟩
theorem ownerPushStep_ok : CO Tryz.prog ownerPushStep_k := co_fn mixed Tryz.func311 [pEnded_k, pLoad_k, pSize_k, pEnd_k, pCell_k, pStore_k] ⟨pEnded_ok, pLoad_ok, pSize_ok, pEnd_ok, pCell_ok, pStore_ok, trivial⟩ [] trivial (fun _ => []) [] fun x => by kernel_rfl
noncomputable def ownerPopDecide (y0 : OPopV) (y1 : EnvP) : Option ((Int × Unit) × (OPopV × EnvP × Unit)) :=
 (pLoad y1.m y0.q.top).bind fun r1 =>
 (pSize (wu (y0.b - 1)) r1.1.1).bind fun r2 =>
 if 0 < r2.1.1 then
  some ((5, ()), (({ y0 with t := r1.1.1 } : OPopV), ({ y1 with m := r1.2.1 } : EnvP), ()))
 else
 if r2.1.1 = 0 then
  some ((6, ()), (({ y0 with t := r1.1.1 } : OPopV), ({ y1 with m := r1.2.1 } : EnvP), ()))
 else
 some ((9, ()), (({ y0 with t := r1.1.1 } : OPopV), ({ y1 with m := r1.2.1 } : EnvP), ()))
noncomputable abbrev ownerPopDecide_k : Con SR1 := ⟨309, [.ref 52, .ref 27], [.sh sI_], fun x => ownerPopDecide x.1 x.2.1⟩
theorem ownerPopDecide_ok : CO Tryz.prog ownerPopDecide_k := co_fn mixed Tryz.func309 [pLoad_k, pSize_k] ⟨pLoad_ok, pSize_ok, trivial⟩ [] trivial (fun _ => []) [] fun x => by kernel_rfl
noncomputable def ownerPopStep (y0 : OPopV) (y1 : EnvP) : Option ((Bool × Unit) × (OPopV × EnvP × Unit)) :=
 (pEnded y0.o).bind fun r1 =>
 if r1.1.1 = true then
  some ((true, ()), (({ y0 with o := r1.2.1 } : OPopV), y1, ()))
 else
 if y0.line = 1 then
  (pLoad y1.m y0.q.bottom).bind fun r2 =>
  some ((false, ()), (({ y0 with o := r1.2.1, line := wi (y0.line + 1), b := r2.1.1 } : OPopV), ({ y1 with m := r2.2.1 } : EnvP), ()))
 else
 if y0.line = 2 then
  (pLoad y1.m y0.q.top).bind fun r3 =>
  (pSize y0.b r3.1.1).bind fun r4 =>
  if r4.1.1 ≤ 0 then
   (pEnd r1.2.1 2 0).bind fun r5 =>
   some ((r5.1.1, ()), (({ y0 with o := r5.2.1, t := r3.1.1 } : OPopV), ({ y1 with m := r3.2.1 } : EnvP), ()))
  else
  some ((false, ()), (({ y0 with o := r1.2.1, line := wi (y0.line + 1), t := r3.1.1 } : OPopV), ({ y1 with m := r3.2.1 } : EnvP), ()))
 else
 if y0.line = 3 then
  (pStore y1.m y0.q.bottom (wu (y0.b - 1))).bind fun r6 =>
  some ((false, ()), (({ y0 with o := r1.2.1, line := wi (y0.line + 1) } : OPopV), ({ y1 with m := r6.2.1 } : EnvP), ()))
 else
 if y0.line = 4 then
  (ownerPopDecide ({ y0 with o := r1.2.1 } : OPopV) y1).bind fun r7 =>
  some ((false, ()), (({ r7.2.1 with line := r7.1.1 } : OPopV), r7.2.2.1, ()))
 else
 if y0.line = 5 then
  if y0.line = 5 then
   (pCell y0.q (wu (y0.b - 1))).bind fun r8 =>
   (pLoad y1.m r8.1.1).bind fun r9 =>
   (pEnd r1.2.1 1 (wi (r9.1.1))).bind fun r10 =>
   some ((r10.1.1, ()), (({ y0 with o := r10.2.1 } : OPopV), ({ y1 with m := r9.2.1 } : EnvP), ()))
  else
  if y0.line = 6 then
   (pCAS y1.m y0.q.top y0.t (wu (y0.t + 1))).bind fun r11 =>
   if (!r11.1.1) = true then
   some ((false, ()), (({ y0 with o := r1.2.1, line := 9 } : OPopV), ({ y1 with m := r11.2.1 } : EnvP), ()))
   else
   some ((false, ()), (({ y0 with o := r1.2.1, line := wi (y0.line + 1) } : OPopV), ({ y1 with m := r11.2.1 } : EnvP), ()))
  else
  if y0.line = 7 then
   (pStore y1.m y0.q.bottom y0.b).bind fun r12 =>
   some ((false, ()), (({ y0 with o := r1.2.1, line := wi (y0.line + 1) } : OPopV), ({ y1 with m := r12.2.1 } : EnvP), ()))
  else
  (pStore y1.m y0.q.bottom y0.b).bind fun r13 =>
  (pEnd r1.2.1 2 0).bind fun r14 =>
  some ((r14.1.1, ()), (({ y0 with o := r14.2.1 } : OPopV), ({ y1 with m := r13.2.1 } : EnvP), ()))
 else
 if y0.line = 8 then
  (pCell y0.q (wu (y0.b - 1))).bind fun r15 =>
  (pLoad y1.m r15.1.1).bind fun r16 =>
  (pEnd r1.2.1 1 (wi (r16.1.1))).bind fun r17 =>
  some ((r17.1.1, ()), (({ y0 with o := r17.2.1 } : OPopV), ({ y1 with m := r16.2.1 } : EnvP), ()))
 else
 if y0.line = 6 then
  (pCAS y1.m y0.q.top y0.t (wu (y0.t + 1))).bind fun r18 =>
  if (!r18.1.1) = true then
   some ((false, ()), (({ y0 with o := r1.2.1, line := 9 } : OPopV), ({ y1 with m := r18.2.1 } : EnvP), ()))
  else
  some ((false, ()), (({ y0 with o := r1.2.1, line := wi (y0.line + 1) } : OPopV), ({ y1 with m := r18.2.1 } : EnvP), ()))
 else
 if y0.line = 7 then
  (pStore y1.m y0.q.bottom y0.b).bind fun r19 =>
  some ((false, ()), (({ y0 with o := r1.2.1, line := wi (y0.line + 1) } : OPopV), ({ y1 with m := r19.2.1 } : EnvP), ()))
 else
 (pStore y1.m y0.q.bottom y0.b).bind fun r20 =>
 (pEnd r1.2.1 2 0).bind fun r21 =>
 some ((r21.1.1, ()), (({ y0 with o := r21.2.1 } : OPopV), ({ y1 with m := r20.2.1 } : EnvP), ()))
noncomputable abbrev ownerPopStep_k : Con SR1 := ⟨308, [.ref 52, .ref 27], [.sh .b], fun x => ownerPopStep x.1 x.2.1⟩
theorem ownerPopStep_ok : CO Tryz.prog ownerPopStep_k := co_fn mixed Tryz.func308 [pEnded_k, pLoad_k, pSize_k, pEnd_k, pStore_k, ownerPopDecide_k, pCell_k, pCAS_k] ⟨pEnded_ok, pLoad_ok, pSize_ok, pEnd_ok, pStore_ok, ownerPopDecide_ok, pCell_ok, pCAS_ok, trivial⟩ [] trivial (fun _ => []) [] fun x => by kernel_rfl
noncomputable def thiefStealStep (y0 : StealV) (y1 : EnvP) : Option ((Bool × Unit) × (StealV × EnvP × Unit)) :=
 (pEnded y0.o).bind fun r1 =>
 if r1.1.1 = true then
  some ((true, ()), (({ y0 with o := r1.2.1 } : StealV), y1, ()))
 else
 if y0.line = 1 then
  (pLoad y1.m y0.q.top).bind fun r2 =>
  some ((false, ()), (({ y0 with o := r1.2.1, line := wi (y0.line + 1), t := r2.1.1 } : StealV), ({ y1 with m := r2.2.1 } : EnvP), ()))
 else
 if y0.line = 2 then
  (pLoad y1.m y0.q.bottom).bind fun r3 =>
  (pSize r3.1.1 y0.t).bind fun r4 =>
  if r4.1.1 ≤ 0 then
   (pEnd r1.2.1 2 0).bind fun r5 =>
   some ((r5.1.1, ()), (({ y0 with o := r5.2.1 } : StealV), ({ y1 with m := r3.2.1 } : EnvP), ()))
  else
  some ((false, ()), (({ y0 with o := r1.2.1, line := wi (y0.line + 1) } : StealV), ({ y1 with m := r3.2.1 } : EnvP), ()))
 else
 if y0.line = 3 then
  (pCell y0.q y0.t).bind fun r6 =>
  (pLoad y1.m r6.1.1).bind fun r7 =>
  some ((false, ()), (({ y0 with o := r1.2.1, line := wi (y0.line + 1), value := r7.1.1 } : StealV), ({ y1 with m := r7.2.1 } : EnvP), ()))
 else
 (pCAS y1.m y0.q.top y0.t (wu (y0.t + 1))).bind fun r8 =>
 if r8.1.1 = true then
  (pEnd r1.2.1 1 (wi (y0.value))).bind fun r9 =>
  some ((r9.1.1, ()), (({ y0 with o := r9.2.1 } : StealV), ({ y1 with m := r8.2.1 } : EnvP), ()))
 else
 (pEnd r1.2.1 4 0).bind fun r10 =>
 some ((r10.1.1, ()), (({ y0 with o := r10.2.1 } : StealV), ({ y1 with m := r8.2.1 } : EnvP), ()))
noncomputable abbrev thiefStealStep_k : Con SR1 := ⟨255, [.ref 42, .ref 27], [.sh .b], fun x => thiefStealStep x.1 x.2.1⟩
theorem thiefStealStep_ok : CO Tryz.prog thiefStealStep_k := co_fn mixed Tryz.func255 [pEnded_k, pLoad_k, pSize_k, pEnd_k, pCell_k, pCAS_k] ⟨pEnded_ok, pLoad_ok, pSize_ok, pEnd_ok, pCell_ok, pCAS_ok, trivial⟩ [] trivial (fun _ => []) [] fun x => by kernel_rfl
noncomputable def bitmapSetStep (y0 : SetV) (y1 : EnvP) : Option ((Bool × Unit) × (SetV × EnvP × Unit)) :=
 (pEnded y0.o).bind fun r1 =>
 if r1.1.1 = true then
  some ((true, ()), (({ y0 with o := r1.2.1 } : SetV), y1, ()))
 else
 (pBit y0.bit).bind fun r2 =>
 if y0.cell = y0.cell then
  (pOr y1.m y0.cell r2.1.1).bind fun r3 =>
  (pEnd r1.2.1 0 0).bind fun r4 =>
  some ((r4.1.1, ()), (({ y0 with o := r4.2.1 } : SetV), ({ y1 with m := r3.2.1 } : EnvP), ()))
 else none
noncomputable abbrev bitmapSetStep_k : Con SR1 := ⟨313, [.ref 54, .ref 27], [.sh .b], fun x => bitmapSetStep x.1 x.2.1⟩
theorem bitmapSetStep_ok : CO Tryz.prog bitmapSetStep_k := co_fn mixed Tryz.func313 [pEnded_k, pBit_k, pOr_k, pEnd_k] ⟨pEnded_ok, pBit_ok, pOr_ok, pEnd_ok, trivial⟩ [] trivial (fun _ => []) [] fun x => by kernel_rfl
noncomputable def bitmapResetStep (y0 : ResetV) (y1 : EnvP) : Option ((Bool × Unit) × (ResetV × EnvP × Unit)) :=
 (pEnded y0.o).bind fun r1 =>
 if r1.1.1 = true then
  some ((true, ()), (({ y0 with o := r1.2.1 } : ResetV), y1, ()))
 else
 (pBit y0.bit).bind fun r2 =>
 if y0.line = 1 then
  (pAnd y1.m y0.cell (cplU r2.1.1)).bind fun r3 =>
  some ((false, ()), (({ y0 with o := r1.2.1, line := wi (y0.line + 1) } : ResetV), ({ y1 with m := r3.2.1 } : EnvP), ()))
 else
 if y0.line = 2 then
  (pLoad y1.m y0.q.bottom).bind fun r4 =>
  some ((false, ()), (({ y0 with o := r1.2.1, line := wi (y0.line + 1), b := r4.1.1 } : ResetV), ({ y1 with m := r4.2.1 } : EnvP), ()))
 else
 if y0.line = 3 then
  (pLoad y1.m y0.q.top).bind fun r5 =>
  (pSize y0.b r5.1.1).bind fun r6 =>
  if r6.1.1 ≤ 0 then
   (pEnd r1.2.1 2 0).bind fun r7 =>
   some ((r7.1.1, ()), (({ y0 with o := r7.2.1 } : ResetV), ({ y1 with m := r5.2.1 } : EnvP), ()))
  else
  some ((false, ()), (({ y0 with o := r1.2.1, line := wi (y0.line + 1) } : ResetV), ({ y1 with m := r5.2.1 } : EnvP), ()))
 else
 (pOr y1.m y0.cell r2.1.1).bind fun r8 =>
 (pEnd r1.2.1 1 0).bind fun r9 =>
 some ((r9.1.1, ()), (({ y0 with o := r9.2.1 } : ResetV), ({ y1 with m := r8.2.1 } : EnvP), ()))
noncomputable abbrev bitmapResetStep_k : Con SR1 := ⟨259, [.ref 43, .ref 27], [.sh .b], fun x => bitmapResetStep x.1 x.2.1⟩
theorem bitmapResetStep_ok : CO Tryz.prog bitmapResetStep_k := co_fn mixed Tryz.func259 [pEnded_k, pBit_k, pAnd_k, pLoad_k, pSize_k, pEnd_k, pOr_k] ⟨pEnded_ok, pBit_ok, pAnd_ok, pLoad_ok, pSize_ok, pEnd_ok, pOr_ok, trivial⟩ [] trivial (fun _ => []) [] fun x => by kernel_rfl
noncomputable def injectorInsertPlace (y0 : InsertV) : Option ((Int × Unit) × (InsertV × Unit)) :=
 if 0 < y0.i then
  some ((3, ()), (y0, ()))
 else
 some ((5, ()), (y0, ()))
noncomputable abbrev injectorInsertPlace_k : Con SR1 := ⟨296, [.ref 36], [.sh sI_], fun x => injectorInsertPlace x.1⟩
theorem injectorInsertPlace_ok : CO Tryz.prog injectorInsertPlace_k := co_fn mixed Tryz.func296 [] trivial [] trivial (fun _ => []) [] fun x => by kernel_rfl
end Go.Proofs.YtgiagoeoifgliaaGreat
