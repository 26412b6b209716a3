/- ClientCopies in the evaluator's form. -/
import Derived.Test.YtgiagoeoifgliaaDai
import Derived.Test.YtgiagoeoifgliaaDaj
set_option linter.all false
namespace Go.Proofs.Ytgiagoeoifgliaa
open Go Go.RowKit
set_option maxRecDepth 100000
noncomputable def pLow (x : Int) : Option ((Int × Unit) × Unit) := none
noncomputable abbrev pLow_k : Con SR1 := ⟨117, [.sh sU_], [.sh sI_], fun x => pLow x.1⟩
theorem pLow_ok : CO Try.prog pLow_k := fun x out h => by cases h
noncomputable def pEnded (o : OutV) : Option ((Bool × Unit) × (OutV × Unit)) :=
 some ((o.ended, ()), (o, ()))
noncomputable abbrev pEnded_k : Con SR1 := ⟨94, [.ref 23], [.sh .b], fun x => pEnded x.1⟩
theorem pEnded_ok : CO Try.prog pEnded_k := co_fn mixed Try.func94 [] trivial [] trivial (fun _ => []) [] fun x => by kernel_rfl
noncomputable def pEnd (o : OutV) (code : Int) (value : Int) : Option ((Bool × Unit) × (OutV × Unit)) :=
 some ((true, ()), ((⟨true, code, value⟩ : OutV), ()))
noncomputable abbrev pEnd_k : Con SR1 := ⟨99, [.ref 23, .sh sI_, .sh sI_], [.sh .b], fun x => pEnd x.1 x.2.1 x.2.2.1⟩
theorem pEnd_ok : CO Try.prog pEnd_k := co_fn mixed Try.func99 [] trivial [] trivial (fun _ => []) [] fun x => by kernel_rfl
noncomputable def pResult (o : OutV) : Option ((Int × Int × Unit) × (OutV × Unit)) :=
 some ((o.code, o.value, ()), (o, ()))
noncomputable abbrev pResult_k : Con SR1 := ⟨95, [.ref 23], [.sh sI_, .sh sI_], fun x => pResult x.1⟩
theorem pResult_ok : CO Try.prog pResult_k := co_fn mixed Try.func95 [] trivial [] trivial (fun _ => []) [] fun x => by kernel_rfl
noncomputable def pLoad (m : MemV) (a : Int) : Option ((Int × Unit) × (MemV × Unit)) :=
 if a < 0 then
  some ((0, ()), (m, ()))
 else
 if ((m.cells.length : Nat) : Int) ≤ a then
  some ((0, ()), (m, ()))
 else
 if 0 ≤ a ∧ a < ((m.cells.length : Nat) : Int) then
  if 0 ≤ a ∧ a < ((m.cells.length : Nat) : Int) then
   if 0 ≤ a ∧ a < (((m.cells.set a.toNat (atK0 m.cells a)).length : Nat) : Int) then
    some ((atK0 m.cells a, ()), ((⟨m.cells.set a.toNat (atK0 m.cells a), ⟨1, a, atK0 m.cells a, atK0 (m.cells.set a.toNat (atK0 m.cells a)) a⟩, wi (m.count + 1)⟩ : MemV), ()))
   else none
  else none
 else none
noncomputable abbrev pLoad_k : Con SR1 := ⟨52, [.ref 9, .sh sI_], [.sh sU_], fun x => pLoad x.1 x.2.1⟩
noncomputable def pLoad_tb : List (Nat × Func) := [(27, Try.f27), (68, Try.f68)]
theorem pLoad_ok : CO Try.prog pLoad_k := co_fn mixed Try.func52 [] trivial pLoad_tb ⟨Try.func27, Try.func68, trivial⟩ (fun _ => []) [] fun x => by kernel_rfl
noncomputable def pStore (m : MemV) (a : Int) (v : Int) : Option ((Unit) × (MemV × Unit)) :=
 if a < 0 then
  some ((()), (m, ()))
 else
 if ((m.cells.length : Nat) : Int) ≤ a then
  some ((()), (m, ()))
 else
 if 0 ≤ a ∧ a < ((m.cells.length : Nat) : Int) then
  if 0 ≤ a ∧ a < ((m.cells.length : Nat) : Int) then
   if 0 ≤ a ∧ a < (((m.cells.set a.toNat v).length : Nat) : Int) then
    some ((()), ((⟨m.cells.set a.toNat v, ⟨2, a, atK0 m.cells a, atK0 (m.cells.set a.toNat v) a⟩, wi (m.count + 1)⟩ : MemV), ()))
   else none
  else none
 else none
noncomputable abbrev pStore_k : Con SR1 := ⟨11, [.ref 9, .sh sI_, .sh sU_], [], fun x => pStore x.1 x.2.1 x.2.2.1⟩
noncomputable def pStore_tb : List (Nat × Func) := [(27, Try.f27), (28, Try.f28)]
theorem pStore_ok : CO Try.prog pStore_k := co_fn mixed Try.func11 [] trivial pStore_tb ⟨Try.func27, Try.func28, trivial⟩ (fun _ => []) [] fun x => by kernel_rfl
noncomputable def pCAS (m : MemV) (a : Int) (old : Int) (v : Int) : Option ((Bool × Unit) × (MemV × Unit)) :=
 if a < 0 then
  some ((false, ()), (m, ()))
 else
 if ((m.cells.length : Nat) : Int) ≤ a then
  some ((false, ()), (m, ()))
 else
 if 0 ≤ a ∧ a < ((m.cells.length : Nat) : Int) then
  if (atK0 m.cells a) = old then
   if 0 ≤ a ∧ a < ((m.cells.length : Nat) : Int) then
    if 0 ≤ a ∧ a < (((m.cells.set a.toNat v).length : Nat) : Int) then
     some ((decide ((atK0 m.cells a) = old), ()), ((⟨m.cells.set a.toNat v, ⟨3, a, atK0 m.cells a, atK0 (m.cells.set a.toNat v) a⟩, wi (m.count + 1)⟩ : MemV), ()))
    else none
   else none
  else
  if 0 ≤ a ∧ a < ((m.cells.length : Nat) : Int) then
   if 0 ≤ a ∧ a < (((m.cells.set a.toNat (atK0 m.cells a)).length : Nat) : Int) then
    some ((decide ((atK0 m.cells a) = old), ()), ((⟨m.cells.set a.toNat (atK0 m.cells a), ⟨3, a, atK0 m.cells a, atK0 (m.cells.set a.toNat (atK0 m.cells a)) a⟩, wi (m.count + 1)⟩ : MemV), ()))
   else none
  else none
 else none
noncomputable abbrev pCAS_k : Con SR1 := ⟨97, [.ref 9, .sh sI_, .sh sU_, .sh sU_], [.sh .b], fun x => pCAS x.1 x.2.1 x.2.2.1 x.2.2.2.1⟩
noncomputable def pCAS_tb : List (Nat × Func) := [(27, Try.f27), (100, Try.f100)]
theorem pCAS_ok : CO Try.prog pCAS_k := co_fn mixed Try.func97 [] trivial pCAS_tb ⟨Try.func27, Try.func100, trivial⟩ (fun _ => []) [] fun x => by kernel_rfl
noncomputable def pAnd (m : MemV) (a : Int) (v : Int) : Option ((Int × Unit) × (MemV × Unit)) :=
 if a < 0 then
  some ((0, ()), (m, ()))
 else
 if ((m.cells.length : Nat) : Int) ≤ a then
  some ((0, ()), (m, ()))
 else
 if 0 ≤ a ∧ a < ((m.cells.length : Nat) : Int) then
  if 0 ≤ a ∧ a < ((m.cells.length : Nat) : Int) then
   if 0 ≤ a ∧ a < (((m.cells.set a.toNat (andU (atK0 m.cells a) v)).length : Nat) : Int) then
    some ((atK0 m.cells a, ()), ((⟨m.cells.set a.toNat (andU (atK0 m.cells a) v), ⟨5, a, atK0 m.cells a, atK0 (m.cells.set a.toNat (andU (atK0 m.cells a) v)) a⟩, wi (m.count + 1)⟩ : MemV), ()))
   else none
  else none
 else none
noncomputable abbrev pAnd_k : Con SR1 := ⟨119, [.ref 9, .sh sI_, .sh sU_], [.sh sU_], fun x => pAnd x.1 x.2.1 x.2.2.1⟩
noncomputable def pAnd_tb : List (Nat × Func) := [(27, Try.f27), (125, Try.f125)]
theorem pAnd_ok : CO Try.prog pAnd_k := co_fn mixed Try.func119 [] trivial pAnd_tb ⟨Try.func27, Try.func125, trivial⟩ (fun _ => []) [] fun x => by kernel_rfl
noncomputable def pAdd (m : MemV) (a : Int) (v : Int) : Option ((Int × Unit) × (MemV × Unit)) :=
 if a < 0 then
  some ((0, ()), (m, ()))
 else
 if ((m.cells.length : Nat) : Int) ≤ a then
  some ((0, ()), (m, ()))
 else
 if 0 ≤ a ∧ a < ((m.cells.length : Nat) : Int) then
  if 0 ≤ a ∧ a < ((m.cells.length : Nat) : Int) then
   if 0 ≤ a ∧ a < (((m.cells.set a.toNat (wu ((atK0 m.cells a) + v))).length : Nat) : Int) then
    some ((atK0 m.cells a, ()), ((⟨m.cells.set a.toNat (wu ((atK0 m.cells a) + v)), ⟨6, a, atK0 m.cells a, atK0 (m.cells.set a.toNat (wu ((atK0 m.cells a) + v))) a⟩, wi (m.count + 1)⟩ : MemV), ()))
   else none
  else none
 else none
noncomputable abbrev pAdd_k : Con SR1 := ⟨103, [.ref 9, .sh sI_, .sh sU_], [.sh sU_], fun x => pAdd x.1 x.2.1 x.2.2.1⟩
noncomputable def pAdd_tb : List (Nat × Func) := [(27, Try.f27), (106, Try.f106)]
theorem pAdd_ok : CO Try.prog pAdd_k := co_fn mixed Try.func103 [] trivial pAdd_tb ⟨Try.func27, Try.func106, trivial⟩ (fun _ => []) [] fun x => by kernel_rfl
noncomputable def pNow (k : ClkV) : Option ((Int × Unit) × (ClkV × Unit)) :=
 some ((k.now, ()), (k, ()))
noncomputable abbrev pNow_k : Con SR1 := ⟨57, [.ref 25], [.sh sI_], fun x => pNow x.1⟩
theorem pNow_ok : CO Try.prog pNow_k := co_fn mixed Try.func57 [] trivial [] trivial (fun _ => []) [] fun x => by kernel_rfl
noncomputable def pBit (n : Int) : Option ((Int × Unit) × (Unit)) :=
 if n < 0 then
  some ((0, ()), (()))
 else
 if 63 < n then
  some ((0, ()), (()))
 else
 if 0 ≤ wu (n) then
  some ((wu (1 * 2 ^ min (wu (n) : Int).toNat IntKind.u64.bits), ()), (()))
 else none
noncomputable abbrev pBit_k : Con SR1 := ⟨118, [.sh sI_], [.sh sU_], fun x => pBit x.1⟩
theorem pBit_ok : CO Try.prog pBit_k := co_fn mixed Try.func118 [] trivial [] trivial (fun _ => []) [] fun x => by kernel_rfl
noncomputable def pMod (a : Int) (n : Int) : Option ((Int × Unit) × (Unit)) :=
 if n < 1 then
  some ((0, ()), (()))
 else
 if n ≠ 0 then
  if (Int.tmod a n) < 0 then
   some ((wi ((Int.tmod a n) + n), ()), (()))
  else
  some (((Int.tmod a n), ()), (()))
 else none
noncomputable abbrev pMod_k : Con SR1 := ⟨122, [.sh sI_, .sh sI_], [.sh sI_], fun x => pMod x.1 x.2.1⟩
theorem pMod_ok : CO Try.prog pMod_k := co_fn mixed Try.func122 [] trivial [] trivial (fun _ => []) [] fun x => by kernel_rfl
noncomputable def pAt (i : Int) (n : Int) (a : Int) (w : Int) : Option ((Int × Unit) × (Unit)) :=
 if i < 0 then
  some (((-1), ()), (()))
 else
 if n ≤ i then
  some (((-1), ()), (()))
 else
 some ((wi (a + (wi (i * w))), ()), (()))
noncomputable abbrev pAt_k : Con SR1 := ⟨73, [.sh sI_, .sh sI_, .sh sI_, .sh sI_], [.sh sI_], fun x => pAt x.1 x.2.1 x.2.2.1 x.2.2.2.1⟩
theorem pAt_ok : CO Try.prog pAt_k := co_fn mixed Try.func73 [] trivial [] trivial (fun _ => []) [] fun x => by kernel_rfl
noncomputable def pTask (l : LayV) (t : Int) (f : Int) : Option ((Int × Unit) × (Unit)) :=
 (pAt t l.tasks (wi (l.table + f)) 5).bind fun r1 =>
 some ((r1.1.1, ()), (()))
noncomputable abbrev pTask_k : Con SR1 := ⟨69, [.val 24, .sh sI_, .sh sI_], [.sh sI_], fun x => pTask x.1 x.2.1 x.2.2.1⟩
theorem pTask_ok : CO Try.prog pTask_k := co_fn mixed Try.func69 [pAt_k] ⟨pAt_ok, trivial⟩ [] trivial (fun _ => []) [] fun x => by kernel_rfl
noncomputable def pNext (l : LayV) : Option ((Int × Unit) × (Unit)) :=
 some ((0, ()), (()))
noncomputable abbrev pNext_k : Con SR1 := ⟨104, [.val 24], [.sh sI_], fun x => pNext x.1⟩
theorem pNext_ok : CO Try.prog pNext_k := co_fn mixed Try.func104 [] trivial [] trivial (fun _ => []) [] fun x => by kernel_rfl
noncomputable def pState (l : LayV) (t : Int) : Option ((Int × Unit) × (Unit)) :=
 (pTask l t 0).bind fun r1 =>
 some ((r1.1.1, ()), (()))
noncomputable abbrev pState_k : Con SR1 := ⟨58, [.val 24, .sh sI_], [.sh sI_], fun x => pState x.1 x.2.1⟩
theorem pState_ok : CO Try.prog pState_k := co_fn mixed Try.func58 [pTask_k] ⟨pTask_ok, trivial⟩ [] trivial (fun _ => []) [] fun x => by kernel_rfl
noncomputable def pLevel (l : LayV) (t : Int) : Option ((Int × Unit) × (Unit)) :=
 (pTask l t 1).bind fun r1 =>
 some ((r1.1.1, ()), (()))
noncomputable abbrev pLevel_k : Con SR1 := ⟨55, [.val 24, .sh sI_], [.sh sI_], fun x => pLevel x.1 x.2.1⟩
theorem pLevel_ok : CO Try.prog pLevel_k := co_fn mixed Try.func55 [pTask_k] ⟨pTask_ok, trivial⟩ [] trivial (fun _ => []) [] fun x => by kernel_rfl
noncomputable def pSince (l : LayV) (t : Int) : Option ((Int × Unit) × (Unit)) :=
 (pTask l t 4).bind fun r1 =>
 some ((r1.1.1, ()), (()))
noncomputable abbrev pSince_k : Con SR1 := ⟨56, [.val 24, .sh sI_], [.sh sI_], fun x => pSince x.1 x.2.1⟩
theorem pSince_ok : CO Try.prog pSince_k := co_fn mixed Try.func56 [pTask_k] ⟨pTask_ok, trivial⟩ [] trivial (fun _ => []) [] fun x => by kernel_rfl
noncomputable def pLock (l : LayV) : Option ((Int × Unit) × (Unit)) :=
 some ((1, ()), (()))
noncomputable abbrev pLock_k : Con SR1 := ⟨98, [.val 24], [.sh sI_], fun x => pLock x.1⟩
theorem pLock_ok : CO Try.prog pLock_k := co_fn mixed Try.func98 [] trivial [] trivial (fun _ => []) [] fun x => by kernel_rfl
noncomputable def pLSize (l : LayV) : Option ((Int × Unit) × (Unit)) :=
 some ((2, ()), (()))
noncomputable abbrev pLSize_k : Con SR1 := ⟨53, [.val 24], [.sh sI_], fun x => pLSize x.1⟩
theorem pLSize_ok : CO Try.prog pLSize_k := co_fn mixed Try.func53 [] trivial [] trivial (fun _ => []) [] fun x => by kernel_rfl
noncomputable def pSlot (l : LayV) (i : Int) : Option ((Int × Unit) × (Unit)) :=
 (pAt i l.heap 4 1).bind fun r1 =>
 some ((r1.1.1, ()), (()))
noncomputable abbrev pSlot_k : Con SR1 := ⟨111, [.val 24, .sh sI_], [.sh sI_], fun x => pSlot x.1 x.2.1⟩
theorem pSlot_ok : CO Try.prog pSlot_k := co_fn mixed Try.func111 [pAt_k] ⟨pAt_ok, trivial⟩ [] trivial (fun _ => []) [] fun x => by kernel_rfl
noncomputable def pEpoch (l : LayV) (w : Int) : Option ((Int × Unit) × (Unit)) :=
 (pAt w l.workers l.epochs 1).bind fun r1 =>
 some ((r1.1.1, ()), (()))
noncomputable abbrev pEpoch_k : Con SR1 := ⟨120, [.val 24, .sh sI_], [.sh sI_], fun x => pEpoch x.1 x.2.1⟩
theorem pEpoch_ok : CO Try.prog pEpoch_k := co_fn mixed Try.func120 [pAt_k] ⟨pAt_ok, trivial⟩ [] trivial (fun _ => []) [] fun x => by kernel_rfl
noncomputable def pSleepers (l : LayV) (l0 : Int) : Option ((Int × Unit) × (Unit)) :=
 (pAt l0 l.classes l.sleepers 1).bind fun r1 =>
 some ((r1.1.1, ()), (()))
noncomputable abbrev pSleepers_k : Con SR1 := ⟨121, [.val 24, .sh sI_], [.sh sI_], fun x => pSleepers x.1 x.2.1⟩
theorem pSleepers_ok : CO Try.prog pSleepers_k := co_fn mixed Try.func121 [pAt_k] ⟨pAt_ok, trivial⟩ [] trivial (fun _ => []) [] fun x => by kernel_rfl
noncomputable def pArrival (l : LayV) : Option ((Int × Unit) × (Unit)) :=
 some ((3, ()), (()))
noncomputable abbrev pArrival_k : Con SR1 := ⟨90, [.val 24], [.sh sI_], fun x => pArrival x.1⟩
theorem pArrival_ok : CO Try.prog pArrival_k := co_fn mixed Try.func90 [] trivial [] trivial (fun _ => []) [] fun x => by kernel_rfl
noncomputable def pCells (l : LayV) : Option ((Int × Unit) × (Unit)) :=
 some ((wi (l.table + (wi (5 * l.tasks))), ()), (()))
noncomputable abbrev pCells_k : Con SR1 := ⟨24, [.val 24], [.sh sI_], fun x => pCells x.1⟩
theorem pCells_ok : CO Try.prog pCells_k := co_fn mixed Try.func24 [] trivial [] trivial (fun _ => []) [] fun x => by kernel_rfl
noncomputable def pEmit (e : EnvP) (v : Ev) : Option ((Unit) × (EnvP × Unit)) :=
 if (((e.evs.length + ([v] : List Ev).length : Nat)) : Int) < 1000000000000 then
  some ((()), (({ e with evs := e.evs ++ ([v]) } : EnvP), ()))
 else none
noncomputable abbrev pEmit_k : Con SR1 := ⟨60, [.ref 27, .val 2], [], fun x => pEmit x.1 x.2.1⟩
theorem pEmit_ok : CO Try.prog pEmit_k := co_fn mixed Try.func60 [] trivial [] trivial (fun _ => []) [] fun x => by kernel_rfl
noncomputable def pPack (d : Int) (a : Int) (t : Int) : Option ((Int × Bool × Unit) × (Unit)) :=
 if d < 0 then
  some ((0, false, ()), (()))
 else
 if 16777215 < d then
  some ((0, false, ()), (()))
 else
 if a < 0 then
  some ((0, false, ()), (()))
 else
 if 16777215 < a then
  some ((0, false, ()), (()))
 else
 if t < 0 then
  some ((0, false, ()), (()))
 else
 if 65535 < t then
  some ((0, false, ()), (()))
 else
 some ((orU (orU (wu ((wu (d)) * 2 ^ min (40 : Int).toNat IntKind.u64.bits)) (wu ((wu (a)) * 2 ^ min (16 : Int).toNat IntKind.u64.bits))) (wu (t)), true, ()), (()))
noncomputable abbrev pPack_k : Con SR1 := ⟨109, [.sh sI_, .sh sI_, .sh sI_], [.sh sU_, .sh .b], fun x => pPack x.1 x.2.1 x.2.2.1⟩
theorem pPack_ok : CO Try.prog pPack_k := co_fn mixed Try.func109 [] trivial [] trivial (fun _ => []) [] fun x => by kernel_rfl
noncomputable def pClass (l : Int) (n : Int) (c : Int) : Option ((Int × Unit) × (Unit)) :=
 if n < 1 then
  some ((0, ()), (()))
 else
 if 64 < n then
  some ((0, ()), (()))
 else
 if c < 1 then
  some ((0, ()), (()))
 else
 if 8 < c then
  some ((0, ()), (()))
 else
 if l < 0 then
  some ((0, ()), (()))
 else
 if n ≤ l then
  some ((0, ()), (()))
 else
 if n ≠ 0 then
  some ((wi (Int.tdiv (wi (l * c)) n), ()), (()))
 else none
noncomputable abbrev pClass_k : Con SR1 := ⟨123, [.sh sI_, .sh sI_, .sh sI_], [.sh sI_], fun x => pClass x.1 x.2.1 x.2.2.1⟩
theorem pClass_ok : CO Try.prog pClass_k := co_fn mixed Try.func123 [] trivial [] trivial (fun _ => []) [] fun x => by kernel_rfl
noncomputable def tableIsTask (y0 : EnvP) (y1 : Int) : Option ((Bool × Unit) × (EnvP × Unit)) :=
 if 0 ≤ y1 then
  some ((decide (y1 < y0.c.tasks), ()), (y0, ()))
 else
 some ((false, ()), (y0, ()))
noncomputable abbrev tableIsTask_k : Con SR1 := ⟨105, [.ref 27, .sh sI_], [.sh .b], fun x => tableIsTask x.1 x.2.1⟩
theorem tableIsTask_ok : CO Try.prog tableIsTask_k := co_fn mixed Try.func105 [] trivial [] trivial (fun _ => []) [] fun x => by kernel_rfl
noncomputable def tableAllocateStep (y0 : AllocV) (y1 : EnvP) : Option ((Bool × Unit) × (AllocV × EnvP × Unit)) :=
 (pEnded y0.o).bind fun r1 =>
 if r1.1.1 = true then
  some ((true, ()), ((⟨r1.2.1⟩ : AllocV), y1, ()))
 else
 (pNext y1.l).bind fun r2 =>
 (pAdd y1.m r2.1.1 1).bind fun r3 =>
 (tableIsTask ({ y1 with m := r3.2.1 } : EnvP) (wi (r3.1.1))).bind fun r4 =>
 if (!r4.1.1) = true then
  (pEnd r1.2.1 3 0).bind fun r5 =>
  some ((r5.1.1, ()), ((⟨r5.2.1⟩ : AllocV), r4.2.1, ()))
 else
 (pEnd r1.2.1 1 (wi (r3.1.1))).bind fun r6 =>
 some ((r6.1.1, ()), ((⟨r6.2.1⟩ : AllocV), r4.2.1, ()))
noncomputable abbrev tableAllocateStep_k : Con SR1 := ⟨102, [.ref 32, .ref 27], [.sh .b], fun x => tableAllocateStep x.1 x.2.1⟩
theorem tableAllocateStep_ok : CO Try.prog tableAllocateStep_k := co_fn mixed Try.func102 [pEnded_k, pNext_k, pAdd_k, tableIsTask_k, pEnd_k] ⟨pEnded_ok, pNext_ok, pAdd_ok, tableIsTask_ok, pEnd_ok, trivial⟩ [] trivial (fun _ => []) [] fun x => by kernel_rfl
noncomputable def lockAttemptStep (y0 : AttemptV) (y1 : EnvP) : Option ((Bool × Unit) × (AttemptV × EnvP × Unit)) :=
 (pEnded y0.o).bind fun r1 =>
 if r1.1.1 = true then
  some ((true, ()), (({ y0 with o := r1.2.1 } : AttemptV), y1, ()))
 else
 (pLock y1.l).bind fun r2 =>
 if y0.owner = y0.owner then
  (pCAS y1.m r2.1.1 0 (wu (wi (y0.owner + 1)))).bind fun r3 =>
  if r3.1.1 = true then
   (pEnd r1.2.1 1 0).bind fun r4 =>
   some ((r4.1.1, ()), (({ y0 with o := r4.2.1 } : AttemptV), ({ y1 with m := r3.2.1 } : EnvP), ()))
  else
  if y0.once = true then
   (pEnd r1.2.1 5 0).bind fun r5 =>
   some ((r5.1.1, ()), (({ y0 with o := r5.2.1 } : AttemptV), ({ y1 with m := r3.2.1 } : EnvP), ()))
  else
  some ((false, ()), (({ y0 with o := r1.2.1 } : AttemptV), ({ y1 with m := r3.2.1 } : EnvP), ()))
 else none
noncomputable abbrev lockAttemptStep_k : Con SR1 := ⟨96, [.ref 31, .ref 27], [.sh .b], fun x => lockAttemptStep x.1 x.2.1⟩
theorem lockAttemptStep_ok : CO Try.prog lockAttemptStep_k := co_fn mixed Try.func96 [pEnded_k, pLock_k, pCAS_k, pEnd_k] ⟨pEnded_ok, pLock_ok, pCAS_ok, pEnd_ok, trivial⟩ [] trivial (fun _ => []) [] fun x => by kernel_rfl
noncomputable def lockReleaseStep (y0 : ReleaseV) (y1 : EnvP) : Option ((Bool × Unit) × (ReleaseV × EnvP × Unit)) :=
 (pEnded y0.o).bind fun r1 =>
 if r1.1.1 = true then
  some ((true, ()), ((⟨r1.2.1⟩ : ReleaseV), y1, ()))
 else
 (pLock y1.l).bind fun r2 =>
 (pStore y1.m r2.1.1 0).bind fun r3 =>
 (pEnd r1.2.1 0 0).bind fun r4 =>
 some ((r4.1.1, ()), ((⟨r4.2.1⟩ : ReleaseV), ({ y1 with m := r3.2.1 } : EnvP), ()))
noncomputable abbrev lockReleaseStep_k : Con SR1 := ⟨113, [.ref 34, .ref 27], [.sh .b], fun x => lockReleaseStep x.1 x.2.1⟩
theorem lockReleaseStep_ok : CO Try.prog lockReleaseStep_k := co_fn mixed Try.func113 [pEnded_k, pLock_k, pStore_k, pEnd_k] ⟨pEnded_ok, pLock_ok, pStore_ok, pEnd_ok, trivial⟩ [] trivial (fun _ => []) [] fun x => by kernel_rfl
noncomputable def injectorInsertPlace (y0 : InsertV) : Option ((Int × Unit) × (InsertV × Unit)) :=
 if 0 < y0.i then
  some ((3, ()), (y0, ()))
 else
 some ((5, ()), (y0, ()))
noncomputable abbrev injectorInsertPlace_k : Con SR1 := ⟨110, [.ref 33], [.sh sI_], fun x => injectorInsertPlace x.1⟩
theorem injectorInsertPlace_ok : CO Try.prog injectorInsertPlace_k := co_fn mixed Try.func110 [] trivial [] trivial (fun _ => []) [] fun x => by kernel_rfl
noncomputable def injectorInsertStep (y0 : InsertV) (y1 : EnvP) : Option ((Bool × Unit) × (InsertV × EnvP × Unit)) :=
 (pEnded y0.o).bind fun r1 =>
 if r1.1.1 = true then
  some ((true, ()), (({ y0 with o := r1.2.1 } : InsertV), y1, ()))
 else
 if y1.l.workers = y1.l.workers then
  if y1.l.levels = y1.l.levels then
   if y1.l.classes = y1.l.classes then
    if y1.l.tasks = y1.l.tasks then
     if y1.l.deque = y1.l.deque then
      if y1.l.heap = y1.l.heap then
       if y1.l.sleepers = y1.l.sleepers then
        if y1.l.epochs = y1.l.epochs then
         if y1.l.bitmaps = y1.l.bitmaps then
          if y1.l.queues = y1.l.queues then
           if y1.l.table = y1.l.table then
            if y0.line = 1 then
             (pLSize y1.l).bind fun r2 =>
             (pLoad y1.m r2.1.1).bind fun r3 =>
             if y1.c.heap ≤ (wi (r3.1.1)) then
              (pEnd r1.2.1 3 0).bind fun r4 =>
              some ((r4.1.1, ()), (({ y0 with o := r4.2.1, n := wi (r3.1.1) } : InsertV), ({ y1 with m := r3.2.1 } : EnvP), ()))
             else
             some ((false, ()), (({ y0 with o := r1.2.1, line := 2, n := wi (r3.1.1) } : InsertV), ({ y1 with m := r3.2.1 } : EnvP), ()))
            else
            if y0.line = 2 then
             (pArrival y1.l).bind fun r5 =>
             if y0.task = y0.task then
              if y0.deadline = y0.deadline then
               (pAdd y1.m r5.1.1 1).bind fun r6 =>
               if y0.task = y0.task then
                if y0.deadline = y0.deadline then
                 (pPack y0.deadline (wi (r6.1.1)) y0.task).bind fun r7 =>
                 if (!r7.1.2.1) = true then
                  (pEnd r1.2.1 4 0).bind fun r8 =>
                  some ((r8.1.1, ()), (({ y0 with o := r8.2.1 } : InsertV), ({ y1 with m := r6.2.1 } : EnvP), ()))
                 else
                 (injectorInsertPlace ({ y0 with o := r1.2.1, i := y0.n, k := r7.1.1 } : InsertV)).bind fun r9 =>
                 some ((false, ()), (({ r9.2.1 with line := r9.1.1 } : InsertV), ({ y1 with m := r6.2.1 } : EnvP), ()))
                else none
               else none
              else none
             else none
            else
            if y0.line = 3 then
             (pSlot y1.l (wi (Int.tdiv (wi (y0.i - 1)) 2))).bind fun r10 =>
             (pLoad y1.m r10.1.1).bind fun r11 =>
             if y0.k < r11.1.1 then
              some ((false, ()), (({ y0 with o := r1.2.1, line := 4, x := r11.1.1 } : InsertV), ({ y1 with m := r11.2.1 } : EnvP), ()))
             else
             some ((false, ()), (({ y0 with o := r1.2.1, line := 5, x := r11.1.1 } : InsertV), ({ y1 with m := r11.2.1 } : EnvP), ()))
            else
            if y0.line = 4 then
             (pSlot y1.l y0.i).bind fun r12 =>
             if y0.x = y0.x then
              (pStore y1.m r12.1.1 y0.x).bind fun r13 =>
              (injectorInsertPlace ({ y0 with o := r1.2.1, i := wi (Int.tdiv (wi (y0.i - 1)) 2) } : InsertV)).bind fun r14 =>
              some ((false, ()), (({ r14.2.1 with line := r14.1.1 } : InsertV), ({ y1 with m := r13.2.1 } : EnvP), ()))
             else none
            else
            if y0.line = 5 then
             (pSlot y1.l y0.i).bind fun r15 =>
             if y0.k = y0.k then
              (pStore y1.m r15.1.1 y0.k).bind fun r16 =>
              some ((false, ()), (({ y0 with o := r1.2.1, line := 6 } : InsertV), ({ y1 with m := r16.2.1 } : EnvP), ()))
             else none
            else
            (pLSize y1.l).bind fun r17 =>
            if y0.n = y0.n then
             (pStore y1.m r17.1.1 (wu (wi (y0.n + 1)))).bind fun r18 =>
             (pEnd r1.2.1 0 0).bind fun r19 =>
             some ((r19.1.1, ()), (({ y0 with o := r19.2.1 } : InsertV), ({ y1 with m := r18.2.1 } : EnvP), ()))
            else none
           else none
          else none
         else none
        else none
       else none
      else none
     else none
    else none
   else none
  else none
 else none
noncomputable abbrev injectorInsertStep_k : Con SR1 := ⟨108, [.ref 33, .ref 27], [.sh .b], fun x => injectorInsertStep x.1 x.2.1⟩
theorem injectorInsertStep_ok : CO Try.prog injectorInsertStep_k := co_fn mixed Try.func108 [pEnded_k, pLSize_k, pLoad_k, pEnd_k, pArrival_k, pAdd_k, pPack_k, injectorInsertPlace_k, pSlot_k, pStore_k] ⟨pEnded_ok, pLSize_ok, pLoad_ok, pEnd_ok, pArrival_ok, pAdd_ok, pPack_ok, injectorInsertPlace_ok, pSlot_ok, pStore_ok, trivial⟩ [] trivial (fun _ => []) [] fun x => by kernel_rfl
noncomputable def parkWakeStep (y0 : WakeV) (y1 : EnvP) : Option ((Bool × Unit) × (WakeV × EnvP × Unit)) :=
 (pEnded y0.o).bind fun r1 =>
 if r1.1.1 = true then
  some ((true, ()), (({ y0 with o := r1.2.1 } : WakeV), y1, ()))
 else
 if y0.line = 1 then
  ((
   if y1.c.classes < 1 then
    (pLoad y1.m (-1)).bind fun r2 =>
    some (r2.1.1, ({ y1 with m := r2.2.1 } : EnvP), ())
   else
   (pClass y0.level y1.c.levels y1.c.classes).bind fun r3 =>
   if y1.c.classes = y1.c.classes then
    if y0.j = y0.j then
     if y1.l.workers = y1.l.workers then
      if y1.l.levels = y1.l.levels then
       if y1.l.classes = y1.l.classes then
        if y1.l.tasks = y1.l.tasks then
         if y1.l.deque = y1.l.deque then
          if y1.l.heap = y1.l.heap then
           if y1.l.sleepers = y1.l.sleepers then
            if y1.l.epochs = y1.l.epochs then
             if y1.l.bitmaps = y1.l.bitmaps then
              if y1.l.queues = y1.l.queues then
               if y1.l.table = y1.l.table then
                (pMod (wi (r3.1.1 + y0.j)) y1.c.classes).bind fun r4 =>
                if y1.l.workers = y1.l.workers then
                 if y1.l.levels = y1.l.levels then
                  if y1.l.classes = y1.l.classes then
                   if y1.l.tasks = y1.l.tasks then
                    if y1.l.deque = y1.l.deque then
                     if y1.l.heap = y1.l.heap then
                      if y1.l.sleepers = y1.l.sleepers then
                       if y1.l.epochs = y1.l.epochs then
                        if y1.l.bitmaps = y1.l.bitmaps then
                         if y1.l.queues = y1.l.queues then
                          if y1.l.table = y1.l.table then
                           (pSleepers y1.l r4.1.1).bind fun r5 =>
                           (pLoad y1.m r5.1.1).bind fun r6 =>
                           some (r6.1.1, ({ y1 with m := r6.2.1 } : EnvP), ())
                          else none
                         else none
                        else none
                       else none
                      else none
                     else none
                    else none
                   else none
                  else none
                 else none
                else none
               else none
              else none
             else none
            else none
           else none
          else none
         else none
        else none
       else none
      else none
     else none
    else none
   else none
  ) : Option (Int × EnvP × Unit)).bind fun z7 =>
  if z7.1 ≠ 0 then
   (pLow z7.1).bind fun r8 =>
   some ((false, ()), (({ y0 with o := r1.2.1, line := 2, v := r8.1.1 } : WakeV), z7.2.1, ()))
  else
  if z7.2.1.c.classes ≤ (wi (y0.j + 1)) then
   (pEnd r1.2.1 2 0).bind fun r9 =>
   some ((r9.1.1, ()), (({ y0 with o := r9.2.1, j := wi (y0.j + 1) } : WakeV), z7.2.1, ()))
  else
  some ((false, ()), (({ y0 with o := r1.2.1, j := wi (y0.j + 1) } : WakeV), z7.2.1, ()))
 else
 if y0.line = 2 then
  (pBit y0.v).bind fun r10 =>
  ((
   if y1.c.classes < 1 then
    (pAnd y1.m (-1) (cplU r10.1.1)).bind fun r11 =>
    some (decide ((andU r11.1.1 r10.1.1) = 0), ({ y1 with m := r11.2.1 } : EnvP), ())
   else
   (pClass y0.level y1.c.levels y1.c.classes).bind fun r12 =>
   if y1.c.classes = y1.c.classes then
    if y0.j = y0.j then
     if y1.l.workers = y1.l.workers then
      if y1.l.levels = y1.l.levels then
       if y1.l.classes = y1.l.classes then
        if y1.l.tasks = y1.l.tasks then
         if y1.l.deque = y1.l.deque then
          if y1.l.heap = y1.l.heap then
           if y1.l.sleepers = y1.l.sleepers then
            if y1.l.epochs = y1.l.epochs then
             if y1.l.bitmaps = y1.l.bitmaps then
              if y1.l.queues = y1.l.queues then
               if y1.l.table = y1.l.table then
                (pMod (wi (r12.1.1 + y0.j)) y1.c.classes).bind fun r13 =>
                if y1.l.workers = y1.l.workers then
                 if y1.l.levels = y1.l.levels then
                  if y1.l.classes = y1.l.classes then
                   if y1.l.tasks = y1.l.tasks then
                    if y1.l.deque = y1.l.deque then
                     if y1.l.heap = y1.l.heap then
                      if y1.l.sleepers = y1.l.sleepers then
                       if y1.l.epochs = y1.l.epochs then
                        if y1.l.bitmaps = y1.l.bitmaps then
                         if y1.l.queues = y1.l.queues then
                          if y1.l.table = y1.l.table then
                           (pSleepers y1.l r13.1.1).bind fun r14 =>
                           (pAnd y1.m r14.1.1 (cplU r10.1.1)).bind fun r15 =>
                           some (decide ((andU r15.1.1 r10.1.1) = 0), ({ y1 with m := r15.2.1 } : EnvP), ())
                          else none
                         else none
                        else none
                       else none
                      else none
                     else none
                    else none
                   else none
                  else none
                 else none
                else none
               else none
              else none
             else none
            else none
           else none
          else none
         else none
        else none
       else none
      else none
     else none
    else none
   else none
  ) : Option (Bool × EnvP × Unit)).bind fun z16 =>
  if z16.1 = true then
   (pEnd r1.2.1 4 0).bind fun r17 =>
   some ((r17.1.1, ()), (({ y0 with o := r17.2.1 } : WakeV), z16.2.1, ()))
  else
  some ((false, ()), (({ y0 with o := r1.2.1, line := 3 } : WakeV), z16.2.1, ()))
 else
 (pEpoch y1.l y0.v).bind fun r18 =>
 (pAdd y1.m r18.1.1 1).bind fun r19 =>
 (pEmit ({ y1 with m := r19.2.1 } : EnvP) (⟨18, y0.me, 0, y0.v, 0⟩ : Ev)).bind fun r20 =>
 (pEnd r1.2.1 1 y0.v).bind fun r21 =>
 some ((r21.1.1, ()), (({ y0 with o := r21.2.1 } : WakeV), r20.2.1, ()))
noncomputable abbrev parkWakeStep_k : Con SR1 := ⟨115, [.ref 35, .ref 27], [.sh .b], fun x => parkWakeStep x.1 x.2.1⟩
noncomputable def parkWakeStep_tb : List (Nat × Func) := [(116, Try.f116)]
theorem parkWakeStep_ok : CO Try.prog parkWakeStep_k := co_fn mixed Try.func115 [pEnded_k, pLoad_k, pClass_k, pMod_k, pSleepers_k, pLow_k, pEnd_k, pBit_k, pAnd_k, pEpoch_k, pAdd_k, pEmit_k] ⟨pEnded_ok, pLoad_ok, pClass_ok, pMod_ok, pSleepers_ok, pLow_ok, pEnd_ok, pBit_ok, pAnd_ok, pEpoch_ok, pAdd_ok, pEmit_ok, trivial⟩ parkWakeStep_tb ⟨Try.func116, trivial⟩ (fun _ => []) [(9, .cut [.rg 5 sU_, .ob 1 27] [0]), (18, .cut [.rg 108 .b, .ob 1 27] [0])] fun x => by kernel_rfl
noncomputable def stepD3 (m : MV) (e : EnvP) : Option ((Bool × Unit) × (MV × EnvP × Unit)) :=
 match m with
 | .alloc x => (tableAllocateStep x e).bind fun o => some (o.1, (MV.alloc o.2.1, o.2.2))
 | .attempt x => (lockAttemptStep x e).bind fun o => some (o.1, (MV.attempt o.2.1, o.2.2))
 | .release x => (lockReleaseStep x e).bind fun o => some (o.1, (MV.release o.2.1, o.2.2))
 | .insert x => (injectorInsertStep x e).bind fun o => some (o.1, (MV.insert o.2.1, o.2.2))
 | .wake x => (parkWakeStep x e).bind fun o => some (o.1, (MV.wake o.2.1, o.2.2))
 | _ => none
noncomputable abbrev stepD3_k : Con SR1 := ⟨1000000000, [.mch, .ref 27], [.sh .b], fun x => stepD3 x.1 x.2.1⟩
theorem stepD3_ok : CO Try.prog stepD3_k := co_meth (S := SR1) (i := 0) (ps := [.ref 27]) (rs := [.sh .b]) (spec := fun m xs => stepD3 m xs.1) fun m xs out h => by
  cases m with
  | alloc x => exact via_ok (S := SR1) (ps := [.ref 27]) (rs := [.sh .b]) (c := 32) (mk := MV.alloc) (fun _ => rfl) rfl (fun _ _ _ _ => by kernel_rfl) tableAllocateStep_ok h
  | attempt x => exact via_ok (S := SR1) (ps := [.ref 27]) (rs := [.sh .b]) (c := 31) (mk := MV.attempt) (fun _ => rfl) rfl (fun _ _ _ _ => by kernel_rfl) lockAttemptStep_ok h
  | release x => exact via_ok (S := SR1) (ps := [.ref 27]) (rs := [.sh .b]) (c := 34) (mk := MV.release) (fun _ => rfl) rfl (fun _ _ _ _ => by kernel_rfl) lockReleaseStep_ok h
  | insert x => exact via_ok (S := SR1) (ps := [.ref 27]) (rs := [.sh .b]) (c := 33) (mk := MV.insert) (fun _ => rfl) rfl (fun _ _ _ _ => by kernel_rfl) injectorInsertStep_ok h
  | wake x => exact via_ok (S := SR1) (ps := [.ref 27]) (rs := [.sh .b]) (c := 35) (mk := MV.wake) (fun _ => rfl) rfl (fun _ _ _ _ => by kernel_rfl) parkWakeStep_ok h
  | _ => cases h
noncomputable def resultD3 (m : MV) : Option ((Int × Int × Unit) × (MV × Unit)) :=
 match m with
 | .alloc x => some ((x.o.code, x.o.value, ()), (MV.alloc x, ()))
 | .attempt x => some ((x.o.code, x.o.value, ()), (MV.attempt x, ()))
 | .release x => some ((x.o.code, x.o.value, ()), (MV.release x, ()))
 | .insert x => some ((x.o.code, x.o.value, ()), (MV.insert x, ()))
 | .wake x => some ((x.o.code, x.o.value, ()), (MV.wake x, ()))
 | _ => none
noncomputable abbrev resultD3_k : Con SR1 := ⟨1000000001, [.mch], [.sh sI_, .sh sI_], fun x => resultD3 x.1⟩
theorem resultD3_ok : CO Try.prog resultD3_k := co_meth (S := SR1) (i := 1) (ps := []) (rs := [.sh sI_, .sh sI_]) (spec := fun m _ => resultD3 m) fun m xs out h => by
  cases m with
  | alloc x => exact via_ok (S := SR1) (ps := []) (rs := [.sh sI_, .sh sI_]) (c := 32) (mk := MV.alloc) (f := 95) (sp := fun x => some ((x.1.o.code, x.1.o.value, ()), (x.1, ()))) (fun _ => rfl) rfl (fun _ _ _ _ => by kernel_rfl) (co_like [pResult_k] ⟨pResult_ok, trivial⟩ fun x => by kernel_rfl) h
  | attempt x => exact via_ok (S := SR1) (ps := []) (rs := [.sh sI_, .sh sI_]) (c := 31) (mk := MV.attempt) (f := 95) (sp := fun x => some ((x.1.o.code, x.1.o.value, ()), (x.1, ()))) (fun _ => rfl) rfl (fun _ _ _ _ => by kernel_rfl) (co_like [pResult_k] ⟨pResult_ok, trivial⟩ fun x => by kernel_rfl) h
  | release x => exact via_ok (S := SR1) (ps := []) (rs := [.sh sI_, .sh sI_]) (c := 34) (mk := MV.release) (f := 95) (sp := fun x => some ((x.1.o.code, x.1.o.value, ()), (x.1, ()))) (fun _ => rfl) rfl (fun _ _ _ _ => by kernel_rfl) (co_like [pResult_k] ⟨pResult_ok, trivial⟩ fun x => by kernel_rfl) h
  | insert x => exact via_ok (S := SR1) (ps := []) (rs := [.sh sI_, .sh sI_]) (c := 33) (mk := MV.insert) (f := 95) (sp := fun x => some ((x.1.o.code, x.1.o.value, ()), (x.1, ()))) (fun _ => rfl) rfl (fun _ _ _ _ => by kernel_rfl) (co_like [pResult_k] ⟨pResult_ok, trivial⟩ fun x => by kernel_rfl) h
  | wake x => exact via_ok (S := SR1) (ps := []) (rs := [.sh sI_, .sh sI_]) (c := 35) (mk := MV.wake) (f := 95) (sp := fun x => some ((x.1.o.code, x.1.o.value, ()), (x.1, ()))) (fun _ => rfl) rfl (fun _ _ _ _ => by kernel_rfl) (co_like [pResult_k] ⟨pResult_ok, trivial⟩ fun x => by kernel_rfl) h
  | _ => cases h
noncomputable def clientClientOver (y0 : (ClientV MV)) : Option ((Bool × Unit) × ((ClientV MV) × Unit)) :=
 some ((decide (((y0.subs.length : Nat) : Int) ≤ y0.i), ()), (y0, ()))
noncomputable abbrev clientClientOver_k : Con SR1 := ⟨29, [.ref 30], [.sh .b], fun x => clientClientOver x.1⟩
theorem clientClientOver_ok : CO Try.prog clientClientOver_k := co_fn mixed Try.func29 [] trivial [] trivial (fun _ => []) [] fun x => by kernel_rfl
noncomputable def lockAcquire (y0 : Int) : Option ((MV × Unit) × (Unit)) :=
 some ((MV.attempt (⟨⟨false, 0, 0⟩, y0, false⟩ : AttemptV), ()), (()))
noncomputable abbrev lockAcquire_k : Con SR1 := ⟨47, [.sh sI_], [.sh .mach], fun x => lockAcquire x.1⟩
theorem lockAcquire_ok : CO Try.prog lockAcquire_k := co_fn mixed Try.func47 [] trivial [] trivial (fun _ => []) [] fun x => by kernel_rfl
noncomputable def tableAllocate  : Option ((MV × Unit) × (Unit)) :=
 some ((MV.alloc (⟨⟨false, 0, 0⟩⟩ : AllocV), ()), (()))
noncomputable abbrev tableAllocate_k : Con SR1 := ⟨48, [], [.sh .mach], fun x => tableAllocate ⟩
theorem tableAllocate_ok : CO Try.prog tableAllocate_k := co_fn mixed Try.func48 [] trivial [] trivial (fun _ => []) [] fun x => by kernel_rfl
noncomputable def injectorInsert (y0 : Int) (y1 : Int) : Option ((MV × Unit) × (Unit)) :=
 some ((MV.insert (⟨⟨false, 0, 0⟩, y0, y1, 1, 0, 0, 0, 0⟩ : InsertV), ()), (()))
noncomputable abbrev injectorInsert_k : Con SR1 := ⟨49, [.sh sI_, .sh sI_], [.sh .mach], fun x => injectorInsert x.1 x.2.1⟩
theorem injectorInsert_ok : CO Try.prog injectorInsert_k := co_fn mixed Try.func49 [] trivial [] trivial (fun _ => []) [] fun x => by kernel_rfl
noncomputable def lockRelease  : Option ((MV × Unit) × (Unit)) :=
 some ((MV.release (⟨⟨false, 0, 0⟩⟩ : ReleaseV), ()), (()))
noncomputable abbrev lockRelease_k : Con SR1 := ⟨50, [], [.sh .mach], fun x => lockRelease ⟩
theorem lockRelease_ok : CO Try.prog lockRelease_k := co_fn mixed Try.func50 [] trivial [] trivial (fun _ => []) [] fun x => by kernel_rfl
noncomputable def parkWake (y0 : Int) (y1 : Int) : Option ((MV × Unit) × (Unit)) :=
 some ((MV.wake (⟨⟨false, 0, 0⟩, y0, y1, 1, 0, 0⟩ : WakeV), ()), (()))
noncomputable abbrev parkWake_k : Con SR1 := ⟨51, [.sh sI_, .sh sI_], [.sh .mach], fun x => parkWake x.1 x.2.1⟩
theorem parkWake_ok : CO Try.prog parkWake_k := co_fn mixed Try.func51 [] trivial [] trivial (fun _ => []) [] fun x => by kernel_rfl
noncomputable def clientClientMachines (y0 : (ClientV MV)) : Option ((MV × Unit) × ((ClientV MV) × Unit)) :=
 if 0 ≤ y0.i ∧ y0.i < ((y0.subs.length : Nat) : Int) then
  if ((atK4 y0.subs y0.i).prog) = ((atK4 y0.subs y0.i).prog) then
   if ((atK4 y0.subs y0.i).level) = ((atK4 y0.subs y0.i).level) then
    if ((atK4 y0.subs y0.i).deadline) = ((atK4 y0.subs y0.i).deadline) then
     if y0.i = y0.i then
      (lockAcquire y0.me).bind fun r1 =>
      if y0.line = y0.line then
       if ((atK4 y0.subs y0.i).level) = ((atK4 y0.subs y0.i).level) then
        if y0.me = y0.me then
         if y0.id = y0.id then
          if ((atK4 y0.subs y0.i).deadline) = ((atK4 y0.subs y0.i).deadline) then
           (tableAllocate).bind fun r2 =>
           if y0.line = y0.line then
            if ((atK4 y0.subs y0.i).level) = ((atK4 y0.subs y0.i).level) then
             if y0.me = y0.me then
              if y0.id = y0.id then
               if ((atK4 y0.subs y0.i).deadline) = ((atK4 y0.subs y0.i).deadline) then
                (injectorInsert ((atK4 y0.subs y0.i).deadline) y0.id).bind fun r3 =>
                if y0.line = y0.line then
                 if ((atK4 y0.subs y0.i).level) = ((atK4 y0.subs y0.i).level) then
                  if y0.me = y0.me then
                   (lockRelease).bind fun r4 =>
                   if y0.line = y0.line then
                    if ((atK4 y0.subs y0.i).level) = ((atK4 y0.subs y0.i).level) then
                     if y0.me = y0.me then
                      (parkWake y0.me ((atK4 y0.subs y0.i).level)).bind fun r5 =>
                      if y0.line = y0.line then
                       if y0.line = y0.line then
                        if 0 ≤ wi (y0.line - 1) ∧ wi (y0.line - 1) < ((([r1.1.1, MV.nil, r2.1.1, MV.nil, MV.nil, r3.1.1, MV.nil, r4.1.1, r5.1.1] : List MV).length : Nat) : Int) then
                         some ((atK28 ([r1.1.1, MV.nil, r2.1.1, MV.nil, MV.nil, r3.1.1, MV.nil, r4.1.1, r5.1.1]) (wi (y0.line - 1)), ()), (y0, ()))
                        else none
                       else none
                      else none
                     else none
                    else none
                   else none
                  else none
                 else none
                else none
               else none
              else none
             else none
            else none
           else none
          else none
         else none
        else none
       else none
      else none
     else none
    else none
   else none
  else none
 else none
noncomputable abbrev clientClientMachines_k : Con SR1 := ⟨30, [.ref 30], [.sh .mach], fun x => clientClientMachines x.1⟩
theorem clientClientMachines_ok : CO Try.prog clientClientMachines_k := co_fn mixed Try.func30 [lockAcquire_k, tableAllocate_k, injectorInsert_k, lockRelease_k, parkWake_k] ⟨lockAcquire_ok, tableAllocate_ok, injectorInsert_ok, lockRelease_ok, parkWake_ok, trivial⟩ [] trivial (fun _ => []) [] fun x => by kernel_rfl
noncomputable def clientClientTo (y0 : (ClientV MV)) (y1 : Int) : Option ((Bool × Unit) × ((ClientV MV) × Unit)) :=
 some ((false, ()), (({ y0 with line := y1, inside := MV.nil, fresh := true } : (ClientV MV)), ()))
noncomputable abbrev clientClientTo_k : Con SR1 := ⟨59, [.ref 30, .sh sI_], [.sh .b], fun x => clientClientTo x.1 x.2.1⟩
theorem clientClientTo_ok : CO Try.prog clientClientTo_k := co_fn mixed Try.func59 [] trivial [] trivial (fun _ => []) [] fun x => by kernel_rfl
noncomputable def clientClientReject (y0 : (ClientV MV)) (y1 : EnvP) (y2 : Int) : Option ((Bool × Unit) × ((ClientV MV) × EnvP × Unit)) :=
 (pEmit y1 (⟨2, y0.me, 0, y0.i, y2⟩ : Ev)).bind fun r1 =>
 (clientClientTo y0 8).bind fun r2 =>
 some ((r2.1.1, ()), (r2.2.1, r1.2.1, ()))
noncomputable abbrev clientClientReject_k : Con SR1 := ⟨54, [.ref 30, .ref 27, .sh sI_], [.sh .b], fun x => clientClientReject x.1 x.2.1 x.2.2.1⟩
theorem clientClientReject_ok : CO Try.prog clientClientReject_k := co_fn mixed Try.func54 [pEmit_k, clientClientTo_k] ⟨pEmit_ok, clientClientTo_ok, trivial⟩ [] trivial (fun _ => []) [] fun x => by kernel_rfl
noncomputable def clientClientAccess_a (y0 : (ClientV MV)) (y1 : EnvP) : Option ((Bool × Unit) × ((ClientV MV) × EnvP × Unit)) :=
 if 0 ≤ y0.i ∧ y0.i < ((y0.subs.length : Nat) : Int) then
  agr (
   if y1.l.workers = y1.l.workers then
    if y1.l.levels = y1.l.levels then
     if y1.l.classes = y1.l.classes then
      if y1.l.tasks = y1.l.tasks then
       if y1.l.deque = y1.l.deque then
        if y1.l.heap = y1.l.heap then
         if y1.l.sleepers = y1.l.sleepers then
          if y1.l.epochs = y1.l.epochs then
           if y1.l.bitmaps = y1.l.bitmaps then
            if y1.l.queues = y1.l.queues then
             if y1.l.table = y1.l.table then
              if ((atK4 y0.subs y0.i).prog) = ((atK4 y0.subs y0.i).prog) then
               if ((atK4 y0.subs y0.i).level) = ((atK4 y0.subs y0.i).level) then
                if ((atK4 y0.subs y0.i).deadline) = ((atK4 y0.subs y0.i).deadline) then
                 if y0.i = y0.i then
                  if y1.l.workers = y1.l.workers then
                   if y1.l.levels = y1.l.levels then
                    if y1.l.classes = y1.l.classes then
                     if y1.l.tasks = y1.l.tasks then
                      if y1.l.deque = y1.l.deque then
                       if y1.l.heap = y1.l.heap then
                        if y1.l.sleepers = y1.l.sleepers then
                         if y1.l.epochs = y1.l.epochs then
                          if y1.l.bitmaps = y1.l.bitmaps then
                           if y1.l.queues = y1.l.queues then
                            if y1.l.table = y1.l.table then
                             if ((atK4 y0.subs y0.i).prog) = ((atK4 y0.subs y0.i).prog) then
                              if ((atK4 y0.subs y0.i).level) = ((atK4 y0.subs y0.i).level) then
                               if ((atK4 y0.subs y0.i).deadline) = ((atK4 y0.subs y0.i).deadline) then
                                if y0.i = y0.i then
                                 if y1.l.workers = y1.l.workers then
                                  if y1.l.levels = y1.l.levels then
                                   if y1.l.classes = y1.l.classes then
                                    if y1.l.tasks = y1.l.tasks then
                                     if y1.l.deque = y1.l.deque then
                                      if y1.l.heap = y1.l.heap then
                                       if y1.l.sleepers = y1.l.sleepers then
                                        if y1.l.epochs = y1.l.epochs then
                                         if y1.l.bitmaps = y1.l.bitmaps then
                                          if y1.l.queues = y1.l.queues then
                                           if y1.l.table = y1.l.table then
                                            if y0.line = 2 then
                                             (pLSize y1.l).bind fun r15 =>
                                             if y1.c.heap = y1.c.heap then
                                              (pLoad y1.m r15.1.1).bind fun r16 =>
                                              if y1.c.heap = y1.c.heap then
                                               if y1.c.heap ≤ (wi (r16.1.1)) then
                                                (clientClientReject y0 ({ y1 with m := r16.2.1 } : EnvP) 1).bind fun r17 =>
                                                some ((r17.1.1, ()), (r17.2.1, r17.2.2.1, ()))
                                               else
                                               (clientClientTo y0 (wi (y0.line + 1))).bind fun r18 =>
                                               some ((r18.1.1, ()), (r18.2.1, ({ y1 with m := r16.2.1 } : EnvP), ()))
                                              else none
                                             else none
                                            else
                                            if y0.line = 4 then
                                             (pLevel y1.l y0.id).bind fun r19 =>
                                             if ((atK4 y0.subs y0.i).level) = ((atK4 y0.subs y0.i).level) then
                                              (pStore y1.m r19.1.1 (wu ((atK4 y0.subs y0.i).level))).bind fun r20 =>
                                              (clientClientTo y0 (wi (y0.line + 1))).bind fun r21 =>
                                              some ((r21.1.1, ()), (r21.2.1, ({ y1 with m := r20.2.1 } : EnvP), ()))
                                             else none
                                            else
                                            if y0.line = 5 then
                                             (pSince y1.l y0.id).bind fun r22 =>
                                             (pNow y1.k).bind fun r23 =>
                                             (pStore y1.m r22.1.1 (wu (r23.1.1))).bind fun r24 =>
                                             (clientClientTo y0 (wi (y0.line + 1))).bind fun r25 =>
                                             some ((r25.1.1, ()), (r25.2.1, ({ y1 with m := r24.2.1, k := r23.2.1 } : EnvP), ()))
                                            else
                                            (pState y1.l y0.id).bind fun r26 =>
                                            (pStore y1.m r26.1.1 1).bind fun r27 =>
                                            (clientClientTo y0 (wi (y0.line + 1))).bind fun r28 =>
                                            some ((r28.1.1, ()), (r28.2.1, ({ y1 with m := r27.2.1 } : EnvP), ()))
                                           else none
                                          else none
                                         else none
                                        else none
                                       else none
                                      else none
                                     else none
                                    else none
                                   else none
                                  else none
                                 else none
                                else none
                               else none
                              else none
                             else none
                            else none
                           else none
                          else none
                         else none
                        else none
                       else none
                      else none
                     else none
                    else none
                   else none
                  else none
                 else none
                else none
               else none
              else none
             else none
            else none
           else none
          else none
         else none
        else none
       else none
      else none
     else none
    else none
   else none
  ) (
   if y1.l.workers = y1.l.workers then
    if y1.l.levels = y1.l.levels then
     if y1.l.classes = y1.l.classes then
      if y1.l.tasks = y1.l.tasks then
       if y1.l.deque = y1.l.deque then
        if y1.l.heap = y1.l.heap then
         if y1.l.sleepers = y1.l.sleepers then
          if y1.l.epochs = y1.l.epochs then
           if y1.l.bitmaps = y1.l.bitmaps then
            if y1.l.queues = y1.l.queues then
             if y1.l.table = y1.l.table then
              if ((atK4 y0.subs y0.i).prog) = ((atK4 y0.subs y0.i).prog) then
               if ((atK4 y0.subs y0.i).level) = ((atK4 y0.subs y0.i).level) then
                if ((atK4 y0.subs y0.i).deadline) = ((atK4 y0.subs y0.i).deadline) then
                 if y0.i = y0.i then
                  if y1.l.workers = y1.l.workers then
                   if y1.l.levels = y1.l.levels then
                    if y1.l.classes = y1.l.classes then
                     if y1.l.tasks = y1.l.tasks then
                      if y1.l.deque = y1.l.deque then
                       if y1.l.heap = y1.l.heap then
                        if y1.l.sleepers = y1.l.sleepers then
                         if y1.l.epochs = y1.l.epochs then
                          if y1.l.bitmaps = y1.l.bitmaps then
                           if y1.l.queues = y1.l.queues then
                            if y1.l.table = y1.l.table then
                             if ((atK4 y0.subs y0.i).prog) = ((atK4 y0.subs y0.i).prog) then
                              if ((atK4 y0.subs y0.i).level) = ((atK4 y0.subs y0.i).level) then
                               if ((atK4 y0.subs y0.i).deadline) = ((atK4 y0.subs y0.i).deadline) then
                                if y0.i = y0.i then
                                 if y1.l.workers = y1.l.workers then
                                  if y1.l.levels = y1.l.levels then
                                   if y1.l.classes = y1.l.classes then
                                    if y1.l.tasks = y1.l.tasks then
                                     if y1.l.deque = y1.l.deque then
                                      if y1.l.heap = y1.l.heap then
                                       if y1.l.sleepers = y1.l.sleepers then
                                        if y1.l.epochs = y1.l.epochs then
                                         if y1.l.bitmaps = y1.l.bitmaps then
                                          if y1.l.queues = y1.l.queues then
                                           if y1.l.table = y1.l.table then
                                            if y0.line = 2 then
                                             (pLSize y1.l).bind fun r1 =>
                                             if y1.c.heap = y1.c.heap then
                                              (pLoad y1.m r1.1.1).bind fun r2 =>
                                              if y1.c.heap = y1.c.heap then
                                               if y1.c.heap ≤ (wi (r2.1.1)) then
                                                (clientClientReject y0 ({ y1 with m := r2.2.1 } : EnvP) 1).bind fun r3 =>
                                                some ((r3.1.1, ()), (r3.2.1, r3.2.2.1, ()))
                                               else
                                               (clientClientTo y0 (wi (y0.line + 1))).bind fun r4 =>
                                               some ((r4.1.1, ()), (r4.2.1, ({ y1 with m := r2.2.1 } : EnvP), ()))
                                              else none
                                             else none
                                            else
                                            if y0.line = 4 then
                                             (pLevel y1.l y0.id).bind fun r5 =>
                                             if ((atK4 y0.subs y0.i).level) = ((atK4 y0.subs y0.i).level) then
                                              (pStore y1.m r5.1.1 (wu ((atK4 y0.subs y0.i).level))).bind fun r6 =>
                                              (clientClientTo y0 (wi (y0.line + 1))).bind fun r7 =>
                                              some ((r7.1.1, ()), (r7.2.1, ({ y1 with m := r6.2.1 } : EnvP), ()))
                                             else none
                                            else
                                            if y0.line = 5 then
                                             (pSince y1.l y0.id).bind fun r8 =>
                                             (pNow y1.k).bind fun r9 =>
                                             (pStore y1.m r8.1.1 (wu (r9.1.1))).bind fun r10 =>
                                             (clientClientTo y0 (wi (y0.line + 1))).bind fun r11 =>
                                             some ((r11.1.1, ()), (r11.2.1, ({ y1 with m := r10.2.1, k := r9.2.1 } : EnvP), ()))
                                            else
                                            (pState y1.l y0.id).bind fun r12 =>
                                            (pStore y1.m r12.1.1 1).bind fun r13 =>
                                            (clientClientTo y0 (wi (y0.line + 1))).bind fun r14 =>
                                            some ((r14.1.1, ()), (r14.2.1, ({ y1 with m := r13.2.1 } : EnvP), ()))
                                           else none
                                          else none
                                         else none
                                        else none
                                       else none
                                      else none
                                     else none
                                    else none
                                   else none
                                  else none
                                 else none
                                else none
                               else none
                              else none
                             else none
                            else none
                           else none
                          else none
                         else none
                        else none
                       else none
                      else none
                     else none
                    else none
                   else none
                  else none
                 else none
                else none
               else none
              else none
             else none
            else none
           else none
          else none
         else none
        else none
       else none
      else none
     else none
    else none
   else none
  )
 else none
noncomputable abbrev clientClientAccess_a_k : Con SR1 := ⟨31, [.ref 30, .ref 27], [.sh .b], fun x => clientClientAccess_a x.1 x.2.1⟩
theorem clientClientAccess_a_ok : CO Try.prog clientClientAccess_a_k := co_fn mixed Try.func31 [pLSize_k, pLoad_k, clientClientReject_k, clientClientTo_k, pLevel_k, pStore_k, pSince_k, pNow_k, pState_k] ⟨pLSize_ok, pLoad_ok, clientClientReject_ok, clientClientTo_ok, pLevel_ok, pStore_ok, pSince_ok, pNow_ok, pState_ok, trivial⟩ [] trivial (fun _ => []) [] fun x => by kernel_rfl
noncomputable def clientClientAccess (y0 : (ClientV MV)) (y1 : EnvP) : Option ((Bool × Unit) × ((ClientV MV) × EnvP × Unit)) :=
 if 0 ≤ y0.i ∧ y0.i < ((y0.subs.length : Nat) : Int) then
  if y0.line = 2 then
   (pLSize y1.l).bind fun r1 =>
   (pLoad y1.m r1.1.1).bind fun r2 =>
   if y1.c.heap ≤ (wi (r2.1.1)) then
    (clientClientReject y0 ({ y1 with m := r2.2.1 } : EnvP) 1).bind fun r3 =>
    some ((r3.1.1, ()), (r3.2.1, r3.2.2.1, ()))
   else
   (clientClientTo y0 (wi (y0.line + 1))).bind fun r4 =>
   some ((r4.1.1, ()), (r4.2.1, ({ y1 with m := r2.2.1 } : EnvP), ()))
  else
  if y0.line = 4 then
   (pLevel y1.l y0.id).bind fun r5 =>
   (pStore y1.m r5.1.1 (wu ((atK4 y0.subs y0.i).level))).bind fun r6 =>
   (clientClientTo y0 (wi (y0.line + 1))).bind fun r7 =>
   some ((r7.1.1, ()), (r7.2.1, ({ y1 with m := r6.2.1 } : EnvP), ()))
  else
  if y0.line = 5 then
   (pSince y1.l y0.id).bind fun r8 =>
   (pNow y1.k).bind fun r9 =>
   (pStore y1.m r8.1.1 (wu (r9.1.1))).bind fun r10 =>
   (clientClientTo y0 (wi (y0.line + 1))).bind fun r11 =>
   some ((r11.1.1, ()), (r11.2.1, ({ y1 with m := r10.2.1, k := r9.2.1 } : EnvP), ()))
  else
  (pState y1.l y0.id).bind fun r12 =>
  (pStore y1.m r12.1.1 1).bind fun r13 =>
  (clientClientTo y0 (wi (y0.line + 1))).bind fun r14 =>
  some ((r14.1.1, ()), (r14.2.1, ({ y1 with m := r13.2.1 } : EnvP), ()))
 else none
noncomputable abbrev clientClientAccess_k : Con SR1 := ⟨31, [.ref 30, .ref 27], [.sh .b], fun x => clientClientAccess x.1 x.2.1⟩
theorem clientClientAccess_eq (y0 : (ClientV MV)) (y1 : EnvP) : clientClientAccess_a y0 y1 = clientClientAccess y0 y1 := by
  unfold clientClientAccess_a clientClientAccess
  simp only [if_true, agr_self, bind_guard]
theorem clientClientAccess_ok : CO Try.prog clientClientAccess_k := co_as clientClientAccess_a_ok fun x out hx => (show clientClientAccess_a_k.spec x = some out from (clientClientAccess_eq x.1 x.2.1).trans hx)
noncomputable def clientClientNext (y0 : (ClientV MV)) : Option ((Bool × Unit) × ((ClientV MV) × Unit)) :=
 (clientClientTo ({ y0 with i := wi (y0.i + 1), accepted := false } : (ClientV MV)) 1).bind fun r1 =>
 (clientClientOver r1.2.1).bind fun r2 =>
 some ((r2.1.1, ()), (r2.2.1, ()))
noncomputable abbrev clientClientNext_k : Con SR1 := ⟨61, [.ref 30], [.sh .b], fun x => clientClientNext x.1⟩
theorem clientClientNext_ok : CO Try.prog clientClientNext_k := co_fn mixed Try.func61 [clientClientTo_k, clientClientOver_k] ⟨clientClientTo_ok, clientClientOver_ok, trivial⟩ [] trivial (fun _ => []) [] fun x => by kernel_rfl
noncomputable def clientClientAfter (y0 : (ClientV MV)) (y1 : EnvP) (y2 : Int) (y3 : Int) : Option ((Bool × Unit) × ((ClientV MV) × EnvP × Unit)) :=
 if 0 ≤ y0.i ∧ y0.i < ((y0.subs.length : Nat) : Int) then
  if ((atK4 y0.subs y0.i).prog) = ((atK4 y0.subs y0.i).prog) then
   if ((atK4 y0.subs y0.i).level) = ((atK4 y0.subs y0.i).level) then
    if ((atK4 y0.subs y0.i).deadline) = ((atK4 y0.subs y0.i).deadline) then
     if y0.i = y0.i then
      if y0.line = 3 then
       if y2 = 3 then
        (clientClientReject y0 y1 2).bind fun r1 =>
        some ((r1.1.1, ()), (r1.2.1, r1.2.2.1, ()))
       else
       if 0 ≤ y3 ∧ y3 < ((y1.recs.length : Nat) : Int) then
        (clientClientTo ({ y0 with id := y3 } : (ClientV MV)) (wi (y0.line + 1))).bind fun r2 =>
        some ((r2.1.1, ()), (r2.2.1, ({ y1 with recs := y1.recs.set y3.toNat (⟨(atK4 y0.subs y0.i).prog, (-1), 0, 0, (-1), [], false⟩ : RecP) } : EnvP), ()))
       else none
      else
      if y0.line = 6 then
       if y2 ≠ 0 then
        (clientClientTo y0 8).bind fun r3 =>
        some ((r3.1.1, ()), (r3.2.1, y1, ()))
       else
       (pEmit y1 (⟨1, y0.me, y0.id, y0.i, (atK4 y0.subs y0.i).level⟩ : Ev)).bind fun r4 =>
       (clientClientTo ({ y0 with accepted := true } : (ClientV MV)) (wi (y0.line + 1))).bind fun r5 =>
       some ((r5.1.1, ()), (r5.2.1, r4.2.1, ()))
      else
      if y0.line = 8 then
       if (!y0.accepted) = true then
        (clientClientNext y0).bind fun r6 =>
        some ((r6.1.1, ()), (r6.2.1, y1, ()))
       else
       (clientClientTo y0 (wi (y0.line + 1))).bind fun r7 =>
       some ((r7.1.1, ()), (r7.2.1, y1, ()))
      else
      if y0.line = 9 then
       (clientClientNext y0).bind fun r8 =>
       some ((r8.1.1, ()), (r8.2.1, y1, ()))
      else
      (clientClientTo y0 (wi (y0.line + 1))).bind fun r9 =>
      some ((r9.1.1, ()), (r9.2.1, y1, ()))
     else none
    else none
   else none
  else none
 else none
noncomputable abbrev clientClientAfter_k : Con SR1 := ⟨32, [.ref 30, .ref 27, .sh sI_, .sh sI_], [.sh .b], fun x => clientClientAfter x.1 x.2.1 x.2.2.1 x.2.2.2.1⟩
theorem clientClientAfter_ok : CO Try.prog clientClientAfter_k := co_fn mixed Try.func32 [clientClientReject_k, clientClientTo_k, pEmit_k, clientClientNext_k] ⟨clientClientReject_ok, clientClientTo_ok, pEmit_ok, clientClientNext_ok, trivial⟩ [] trivial (fun _ => []) [] fun x => by kernel_rfl
end Go.Proofs.Ytgiagoeoifgliaa
