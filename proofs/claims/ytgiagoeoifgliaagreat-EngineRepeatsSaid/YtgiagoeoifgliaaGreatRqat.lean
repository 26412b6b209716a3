/- EngineRepeats in the evaluator's form. EngineRepeats in the evaluator's form. The law EngineRepeats, for every number of workers. -/
import Derived.Test.YtgiagoeoifgliaaGreatRqas
set_option linter.all false
namespace Go.Proofs.YtgiagoeoifgliaaGreat
section
open Go Go.RowKit
set_option maxRecDepth 100000
variable [Tb]
noncomputable def worksteallaw28EngineRepeats3_a (y0 : List Int) (y1 : List Int) (y2 : Int) : Option ((Bool × Unit) × (Unit)) :=
 (kshort y0 ([])).bind fun r1 =>
 if (!r1.1.1) = true then
  some ((true, ()), (()))
 else
 if 800 < ((y1.length : Nat) : Int) then
  some ((true, ()), (()))
 else
 (kconfig y0).bind fun r2 =>
 (kscriptR y1 400).bind fun r3 =>
 (workstealkeepNumber ([y2]) 0 (wi (((r3.1.1.length : Nat) : Int) + 1))).bind fun r4 =>
 if 0 ≤ r4.1.1 ∧ r4.1.1 ≤ ((r3.1.1.length : Nat) : Int) then
  (machineNew r2.1.1).bind fun r5 =>
  if r5.1.2.1 ≠ 0 then
   if r5.1.2.1 ≠ 0 then
   gC r2.1.1 (
   (machineNew r2.1.1).bind fun r6 =>
   if r6.1.2.1 ≠ 0 then
   if r6.1.2.1 ≠ 0 then
   (worksteallaw28Awake).bind fun r7 =>
   if (!r7.1.1) = true then
   some ((false, ()), (()))
   else
   some ((false, ()), (()))
   else
   (worksteallaw28Awake).bind fun r8 =>
   if (!r8.1.1) = true then
   some ((false, ()), (()))
   else
   some ((false, ()), (()))
   else
   (clientNew r2.1.1).bind fun r9 =>
   if r2.1.1.workers = ((3 : Nat) : Int) then
   (workerNew 0).bind fun r10 =>
   (workerNew 1).bind fun r11 =>
   (workerNew 2).bind fun r12 =>
   (lpF (travBody3 (r3.1.1.take (r4.1.1 : Int).toNat)) 18446744073709551616 (0, r6.1.1, r10.1.1, r11.1.1, r12.1.1, r9.1.1, (0, [], 0, 0, 0, 0, ()), ())).bind fun z14 =>
   (worksteallaw28Awake).bind fun r33 =>
   if (!r33.1.1) = true then
   some ((false, ()), (()))
   else
   some ((false, ()), (()))
   else
   none
   )
   else
   gC r2.1.1 (
   (machineNew r2.1.1).bind fun r34 =>
   if r34.1.2.1 ≠ 0 then
   if r34.1.2.1 ≠ 0 then
   (worksteallaw28Awake).bind fun r35 =>
   if (!r35.1.1) = true then
   some ((false, ()), (()))
   else
   some ((false, ()), (()))
   else
   (worksteallaw28Awake).bind fun r36 =>
   if (!r36.1.1) = true then
   some ((false, ()), (()))
   else
   some ((false, ()), (()))
   else
   (clientNew r2.1.1).bind fun r37 =>
   if r2.1.1.workers = ((3 : Nat) : Int) then
   (workerNew 0).bind fun r38 =>
   (workerNew 1).bind fun r39 =>
   (workerNew 2).bind fun r40 =>
   (lpF (travBody3 (r3.1.1.take (r4.1.1 : Int).toNat)) 18446744073709551616 (0, r34.1.1, r38.1.1, r39.1.1, r40.1.1, r37.1.1, (0, [], 0, 0, 0, 0, ()), ())).bind fun z42 =>
   (worksteallaw28Awake).bind fun r61 =>
   if (!r61.1.1) = true then
   some ((false, ()), (()))
   else
   some ((false, ()), (()))
   else
   none
   )
  else
  (clientNew r2.1.1).bind fun r62 =>
  if r2.1.1.workers = ((3 : Nat) : Int) then
   (workerNew 0).bind fun r63 =>
   (workerNew 1).bind fun r64 =>
   (workerNew 2).bind fun r65 =>
   (lpF (travBody3 r3.1.1) 18446744073709551616 (0, r5.1.1, r63.1.1, r64.1.1, r65.1.1, r62.1.1, (0, [], 0, 0, 0, 0, ()), ())).bind fun z67 =>
   gC r2.1.1 (
   (machineNew r2.1.1).bind fun r86 =>
   if r86.1.2.1 ≠ 0 then
   if r86.1.2.1 ≠ 0 then
   (worksteallaw28Awake).bind fun r87 =>
   if (!r87.1.1) = true then
   some ((false, ()), (()))
   else
   some ((false, ()), (()))
   else
   (worksteallaw28Awake).bind fun r88 =>
   if (!r88.1.1) = true then
   some ((false, ()), (()))
   else
   some ((false, ()), (()))
   else
   (clientNew r2.1.1).bind fun r89 =>
   if r2.1.1.workers = ((3 : Nat) : Int) then
   (workerNew 0).bind fun r90 =>
   (workerNew 1).bind fun r91 =>
   (workerNew 2).bind fun r92 =>
   (lpF (travBody3 (r3.1.1.take (r4.1.1 : Int).toNat)) 18446744073709551616 (0, r86.1.1, r90.1.1, r91.1.1, r92.1.1, r89.1.1, (0, [], 0, 0, 0, 0, ()), ())).bind fun z94 =>
   (worksteallaw28Awake).bind fun r113 =>
   if (!r113.1.1) = true then
   some ((false, ()), (()))
   else
   if 0 ≤ r4.1.1 ∧ r4.1.1 ≤ ((r3.1.1.length : Nat) : Int) then
   (lpF (travBody3 (r3.1.1.drop (r4.1.1 : Int).toNat)) 18446744073709551616 (0, z94.2.1, z94.2.2.1, z94.2.2.2.1, z94.2.2.2.2.1, z94.2.2.2.2.2.1, z94.2.2.2.2.2.2.1, ())).bind fun z115 =>
   repEnd z67.2.1 z67.2.2.2.2.2.2.1 z115.2.1 z115.2.2.2.2.2.2.1
   else none
   else
   none
   )
  else
  none
 else none
noncomputable abbrev worksteallaw28EngineRepeats3_a_k : Con SR1 := ⟨9, [.sh (.ro 17), .sh (.ro 17), .sh sI_], [.sh .b], fun x => worksteallaw28EngineRepeats3_a x.1 x.2.1 x.2.2.1⟩
noncomputable def worksteallaw28EngineRepeats3_a_tb : List (Nat × Func) := [(21, Tryz.f21), (68, Tryz.f68), (114, Tryz.f114), (47, Tryz.f47), (44, Tryz.f44), (25, Tryz.f25), (26, Tryz.f26), (51, Tryz.f51), (50, Tryz.f50), (52, Tryz.f52)]
theorem worksteallaw28EngineRepeats3_a_ok : CO Tryz.prog worksteallaw28EngineRepeats3_a_k := co_fn mixed Tryz.func9 [kshort_k, kconfig_k, kscriptR_k, workstealkeepNumber_k, machineNew_k, clientNew_k, workerNew_k, memoryMemoryCount_k, scriptMachine_k, clientClientStep_k, workerWorkerStep_k, clockClockTick_k, clockClockSet_k, memoryMemoryLast_k, worksteallaw28Awake_k, memoryMemoryCells_k, workstealref02Same_k, workstealref28SameStamped_k, envCopyC_k, workstealref28Ints_k] ⟨kshort_ok, kconfig_ok, kscriptR_ok, workstealkeepNumber_ok, machineNew_ok, clientNew_ok, workerNew_ok, memoryMemoryCount_ok, scriptMachine_ok, clientClientStep_ok, workerWorkerStep_ok, clockClockTick_ok, clockClockSet_ok, memoryMemoryLast_ok, worksteallaw28Awake_ok, memoryMemoryCells_ok, workstealref02Same_ok, workstealref28SameStamped_ok, envCopyC_ok, workstealref28Ints_ok, trivial⟩ worksteallaw28EngineRepeats3_a_tb ⟨Tryz.func21, Tryz.func68, Tryz.func114, Tryz.func47, Tryz.func44, Tryz.func25, Tryz.func26, Tryz.func51, Tryz.func50, Tryz.func52, trivial⟩ (fun f => (get [(68, [(6, .spl 22 [3] 4)]), (114, [(2, .unroll 4)]), (47, [(1, .loop [.rg 8 sI_, .ob 48 27, .ob 62 31, .ob 76 31, .ob 90 31, .ob 50 30, .cx 51 [.inr (.ptr 48 0), .inr (.sl 92), .inr (.ptr 50 0), .inr (.sl 124), .inl sI_, .inl (.row 1), .inl sI_, .inl sI_, .inl sU_, .inl sU_]] 18446744073709551616 0), (1, .loop [.rg 8 sI_, .ob 44 27, .ob 58 31, .ob 72 31, .ob 86 31, .ob 46 30, .cx 47 [.inr (.ptr 44 0), .inr (.sl 88), .inr (.ptr 46 0), .inr (.sl 120), .inl sI_, .inl (.row 1), .inl sI_, .inl sI_, .inl sU_, .inl sU_]] 18446744073709551616 0), (1, .loop [.rg 8 sI_, .ob 125 27, .ob 139 31, .ob 153 31, .ob 167 31, .ob 127 30, .cx 128 [.inr (.ptr 125 0), .inr (.sl 169), .inr (.ptr 127 0), .inr (.sl 201), .inl sI_, .inl (.row 1), .inl sI_, .inl sI_, .inl sU_, .inl sU_]] 18446744073709551616 0)]), (44, [(9, .cut [.ob 48 27, .ob 62 31, .ob 76 31, .ob 90 31, .ob 50 30, .cx 51 [.inr (.ptr 48 0), .inr (.sl 92), .inr (.ptr 50 0), .inr (.sl 124), .inl sI_, .inl (.row 1), .inl sI_, .inl sI_, .inl sU_, .inl sU_]] [0, 1, 13, 14, 16, 17, 19, 127, 128, 129]), (9, .cut [.ob 44 27, .ob 58 31, .ob 72 31, .ob 86 31, .ob 46 30, .cx 47 [.inr (.ptr 44 0), .inr (.sl 88), .inr (.ptr 46 0), .inr (.sl 120), .inl sI_, .inl (.row 1), .inl sI_, .inl sI_, .inl sU_, .inl sU_]] [0, 1, 13, 14, 16, 17, 19, 123, 124, 125]), (9, .cut [.ob 125 27, .ob 139 31, .ob 153 31, .ob 167 31, .ob 127 30, .cx 128 [.inr (.ptr 125 0), .inr (.sl 169), .inr (.ptr 127 0), .inr (.sl 201), .inl sI_, .inl (.row 1), .inl sI_, .inl sI_, .inl sU_, .inl sU_]] [0, 1, 13, 14, 16, 17, 19, 204, 205, 206]), (9, .cut [.ob 125 27, .ob 139 31, .ob 153 31, .ob 167 31, .ob 127 30, .cx 128 [.inr (.ptr 125 0), .inr (.sl 169), .inr (.ptr 127 0), .inr (.sl 201), .inl sI_, .inl (.row 1), .inl sI_, .inl sI_, .inl sU_, .inl sU_]] [0, 1, 13, 14, 16, 17, 19, 205, 207, 208, 209]), (12, .loop [.ob 48 27, .cx 51 [.inr (.ptr 48 0), .inr (.sl 92), .inr (.ptr 50 0), .inr (.sl 124), .inl sI_, .inl (.row 1), .inl sI_, .inl sI_, .inl sU_, .inl sU_]] 18446744073709551616 1), (12, .loop [.ob 44 27, .cx 47 [.inr (.ptr 44 0), .inr (.sl 88), .inr (.ptr 46 0), .inr (.sl 120), .inl sI_, .inl (.row 1), .inl sI_, .inl sI_, .inl sU_, .inl sU_]] 18446744073709551616 1), (12, .loop [.ob 125 27, .cx 128 [.inr (.ptr 125 0), .inr (.sl 169), .inr (.ptr 127 0), .inr (.sl 201), .inl sI_, .inl (.row 1), .inl sI_, .inl sI_, .inl sU_, .inl sU_]] 18446744073709551616 1)]), (26, [(3, .loop [.rg 14 sI_, .rg 3 (.row 6), .cx 47 [.inr (.ptr 44 0), .inr (.sl 88), .inr (.ptr 46 0), .inr (.sl 120), .inl sI_, .inl (.row 1), .inl sI_, .inl sI_, .inl sU_, .inl sU_]] 18446744073709551616 0), (3, .loop [.rg 14 sI_, .rg 3 (.row 6), .cx 128 [.inr (.ptr 125 0), .inr (.sl 169), .inr (.ptr 127 0), .inr (.sl 201), .inl sI_, .inl (.row 1), .inl sI_, .inl sI_, .inl sU_, .inl sU_]] 18446744073709551616 0)]), (50, [(4, .loopR [.rg 0 (.row 61), .rg 1 (.row 61), .rg 5 sI_] 18446744073709551616 0)])] f).getD []) [] fun x => by kernel_rfl
end
section
open Go Go.RowKit
set_option maxRecDepth 100000
variable [Tb]
noncomputable def worksteallaw28EngineRepeats4_a (y0 : List Int) (y1 : List Int) (y2 : Int) : Option ((Bool × Unit) × (Unit)) :=
 (kshort y0 ([])).bind fun r1 =>
 if (!r1.1.1) = true then
  some ((true, ()), (()))
 else
 if 800 < ((y1.length : Nat) : Int) then
  some ((true, ()), (()))
 else
 (kconfig y0).bind fun r2 =>
 (kscriptR y1 400).bind fun r3 =>
 (workstealkeepNumber ([y2]) 0 (wi (((r3.1.1.length : Nat) : Int) + 1))).bind fun r4 =>
 if 0 ≤ r4.1.1 ∧ r4.1.1 ≤ ((r3.1.1.length : Nat) : Int) then
  (machineNew r2.1.1).bind fun r5 =>
  if r5.1.2.1 ≠ 0 then
   if r5.1.2.1 ≠ 0 then
   gC r2.1.1 (
   (machineNew r2.1.1).bind fun r6 =>
   if r6.1.2.1 ≠ 0 then
   if r6.1.2.1 ≠ 0 then
   (worksteallaw28Awake).bind fun r7 =>
   if (!r7.1.1) = true then
   some ((false, ()), (()))
   else
   some ((false, ()), (()))
   else
   (worksteallaw28Awake).bind fun r8 =>
   if (!r8.1.1) = true then
   some ((false, ()), (()))
   else
   some ((false, ()), (()))
   else
   (clientNew r2.1.1).bind fun r9 =>
   if r2.1.1.workers = ((4 : Nat) : Int) then
   (workerNew 0).bind fun r10 =>
   (workerNew 1).bind fun r11 =>
   (workerNew 2).bind fun r12 =>
   (workerNew 3).bind fun r13 =>
   (lpF (travBody4 (r3.1.1.take (r4.1.1 : Int).toNat)) 18446744073709551616 (0, r6.1.1, r10.1.1, r11.1.1, r12.1.1, r13.1.1, r9.1.1, (0, [], 0, 0, 0, 0, ()), ())).bind fun z15 =>
   (worksteallaw28Awake).bind fun r35 =>
   if (!r35.1.1) = true then
   some ((false, ()), (()))
   else
   some ((false, ()), (()))
   else
   none
   )
   else
   gC r2.1.1 (
   (machineNew r2.1.1).bind fun r36 =>
   if r36.1.2.1 ≠ 0 then
   if r36.1.2.1 ≠ 0 then
   (worksteallaw28Awake).bind fun r37 =>
   if (!r37.1.1) = true then
   some ((false, ()), (()))
   else
   some ((false, ()), (()))
   else
   (worksteallaw28Awake).bind fun r38 =>
   if (!r38.1.1) = true then
   some ((false, ()), (()))
   else
   some ((false, ()), (()))
   else
   (clientNew r2.1.1).bind fun r39 =>
   if r2.1.1.workers = ((4 : Nat) : Int) then
   (workerNew 0).bind fun r40 =>
   (workerNew 1).bind fun r41 =>
   (workerNew 2).bind fun r42 =>
   (workerNew 3).bind fun r43 =>
   (lpF (travBody4 (r3.1.1.take (r4.1.1 : Int).toNat)) 18446744073709551616 (0, r36.1.1, r40.1.1, r41.1.1, r42.1.1, r43.1.1, r39.1.1, (0, [], 0, 0, 0, 0, ()), ())).bind fun z45 =>
   (worksteallaw28Awake).bind fun r65 =>
   if (!r65.1.1) = true then
   some ((false, ()), (()))
   else
   some ((false, ()), (()))
   else
   none
   )
  else
  (clientNew r2.1.1).bind fun r66 =>
  if r2.1.1.workers = ((4 : Nat) : Int) then
   (workerNew 0).bind fun r67 =>
   (workerNew 1).bind fun r68 =>
   (workerNew 2).bind fun r69 =>
   (workerNew 3).bind fun r70 =>
   (lpF (travBody4 r3.1.1) 18446744073709551616 (0, r5.1.1, r67.1.1, r68.1.1, r69.1.1, r70.1.1, r66.1.1, (0, [], 0, 0, 0, 0, ()), ())).bind fun z72 =>
   gC r2.1.1 (
   (machineNew r2.1.1).bind fun r92 =>
   if r92.1.2.1 ≠ 0 then
   if r92.1.2.1 ≠ 0 then
   (worksteallaw28Awake).bind fun r93 =>
   if (!r93.1.1) = true then
   some ((false, ()), (()))
   else
   some ((false, ()), (()))
   else
   (worksteallaw28Awake).bind fun r94 =>
   if (!r94.1.1) = true then
   some ((false, ()), (()))
   else
   some ((false, ()), (()))
   else
   (clientNew r2.1.1).bind fun r95 =>
   if r2.1.1.workers = ((4 : Nat) : Int) then
   (workerNew 0).bind fun r96 =>
   (workerNew 1).bind fun r97 =>
   (workerNew 2).bind fun r98 =>
   (workerNew 3).bind fun r99 =>
   (lpF (travBody4 (r3.1.1.take (r4.1.1 : Int).toNat)) 18446744073709551616 (0, r92.1.1, r96.1.1, r97.1.1, r98.1.1, r99.1.1, r95.1.1, (0, [], 0, 0, 0, 0, ()), ())).bind fun z101 =>
   (worksteallaw28Awake).bind fun r121 =>
   if (!r121.1.1) = true then
   some ((false, ()), (()))
   else
   if 0 ≤ r4.1.1 ∧ r4.1.1 ≤ ((r3.1.1.length : Nat) : Int) then
   (lpF (travBody4 (r3.1.1.drop (r4.1.1 : Int).toNat)) 18446744073709551616 (0, z101.2.1, z101.2.2.1, z101.2.2.2.1, z101.2.2.2.2.1, z101.2.2.2.2.2.1, z101.2.2.2.2.2.2.1, z101.2.2.2.2.2.2.2.1, ())).bind fun z123 =>
   repEnd z72.2.1 z72.2.2.2.2.2.2.2.1 z123.2.1 z123.2.2.2.2.2.2.2.1
   else none
   else
   none
   )
  else
  none
 else none
noncomputable abbrev worksteallaw28EngineRepeats4_a_k : Con SR1 := ⟨9, [.sh (.ro 17), .sh (.ro 17), .sh sI_], [.sh .b], fun x => worksteallaw28EngineRepeats4_a x.1 x.2.1 x.2.2.1⟩
noncomputable def worksteallaw28EngineRepeats4_a_tb : List (Nat × Func) := [(21, Tryz.f21), (68, Tryz.f68), (114, Tryz.f114), (47, Tryz.f47), (44, Tryz.f44), (25, Tryz.f25), (26, Tryz.f26), (51, Tryz.f51), (50, Tryz.f50), (52, Tryz.f52)]
theorem worksteallaw28EngineRepeats4_a_ok : CO Tryz.prog worksteallaw28EngineRepeats4_a_k := co_fn mixed Tryz.func9 [kshort_k, kconfig_k, kscriptR_k, workstealkeepNumber_k, machineNew_k, clientNew_k, workerNew_k, memoryMemoryCount_k, scriptMachine_k, clientClientStep_k, workerWorkerStep_k, clockClockTick_k, clockClockSet_k, memoryMemoryLast_k, worksteallaw28Awake_k, memoryMemoryCells_k, workstealref02Same_k, workstealref28SameStamped_k, envCopyC_k, workstealref28Ints_k] ⟨kshort_ok, kconfig_ok, kscriptR_ok, workstealkeepNumber_ok, machineNew_ok, clientNew_ok, workerNew_ok, memoryMemoryCount_ok, scriptMachine_ok, clientClientStep_ok, workerWorkerStep_ok, clockClockTick_ok, clockClockSet_ok, memoryMemoryLast_ok, worksteallaw28Awake_ok, memoryMemoryCells_ok, workstealref02Same_ok, workstealref28SameStamped_ok, envCopyC_ok, workstealref28Ints_ok, trivial⟩ worksteallaw28EngineRepeats4_a_tb ⟨Tryz.func21, Tryz.func68, Tryz.func114, Tryz.func47, Tryz.func44, Tryz.func25, Tryz.func26, Tryz.func51, Tryz.func50, Tryz.func52, trivial⟩ (fun f => (get [(68, [(6, .spl 22 [4] 5)]), (114, [(2, .unroll 5)]), (47, [(1, .loop [.rg 8 sI_, .ob 48 27, .ob 62 31, .ob 76 31, .ob 90 31, .ob 104 31, .ob 50 30, .cx 51 [.inr (.ptr 48 0), .inr (.sl 106), .inr (.ptr 50 0), .inr (.sl 141), .inl sI_, .inl (.row 1), .inl sI_, .inl sI_, .inl sU_, .inl sU_]] 18446744073709551616 0), (1, .loop [.rg 8 sI_, .ob 44 27, .ob 58 31, .ob 72 31, .ob 86 31, .ob 100 31, .ob 46 30, .cx 47 [.inr (.ptr 44 0), .inr (.sl 102), .inr (.ptr 46 0), .inr (.sl 137), .inl sI_, .inl (.row 1), .inl sI_, .inl sI_, .inl sU_, .inl sU_]] 18446744073709551616 0), (1, .loop [.rg 8 sI_, .ob 142 27, .ob 156 31, .ob 170 31, .ob 184 31, .ob 198 31, .ob 144 30, .cx 145 [.inr (.ptr 142 0), .inr (.sl 200), .inr (.ptr 144 0), .inr (.sl 235), .inl sI_, .inl (.row 1), .inl sI_, .inl sI_, .inl sU_, .inl sU_]] 18446744073709551616 0)]), (44, [(9, .cut [.ob 48 27, .ob 62 31, .ob 76 31, .ob 90 31, .ob 104 31, .ob 50 30, .cx 51 [.inr (.ptr 48 0), .inr (.sl 106), .inr (.ptr 50 0), .inr (.sl 141), .inl sI_, .inl (.row 1), .inl sI_, .inl sI_, .inl sU_, .inl sU_]] [0, 1, 13, 14, 16, 17, 19, 144, 145, 146]), (9, .cut [.ob 44 27, .ob 58 31, .ob 72 31, .ob 86 31, .ob 100 31, .ob 46 30, .cx 47 [.inr (.ptr 44 0), .inr (.sl 102), .inr (.ptr 46 0), .inr (.sl 137), .inl sI_, .inl (.row 1), .inl sI_, .inl sI_, .inl sU_, .inl sU_]] [0, 1, 13, 14, 16, 17, 19, 140, 141, 142]), (9, .cut [.ob 142 27, .ob 156 31, .ob 170 31, .ob 184 31, .ob 198 31, .ob 144 30, .cx 145 [.inr (.ptr 142 0), .inr (.sl 200), .inr (.ptr 144 0), .inr (.sl 235), .inl sI_, .inl (.row 1), .inl sI_, .inl sI_, .inl sU_, .inl sU_]] [0, 1, 13, 14, 16, 17, 19, 238, 239, 240]), (9, .cut [.ob 142 27, .ob 156 31, .ob 170 31, .ob 184 31, .ob 198 31, .ob 144 30, .cx 145 [.inr (.ptr 142 0), .inr (.sl 200), .inr (.ptr 144 0), .inr (.sl 235), .inl sI_, .inl (.row 1), .inl sI_, .inl sI_, .inl sU_, .inl sU_]] [0, 1, 13, 14, 16, 17, 19, 239, 241, 242, 243]), (12, .loop [.ob 48 27, .cx 51 [.inr (.ptr 48 0), .inr (.sl 106), .inr (.ptr 50 0), .inr (.sl 141), .inl sI_, .inl (.row 1), .inl sI_, .inl sI_, .inl sU_, .inl sU_]] 18446744073709551616 1), (12, .loop [.ob 44 27, .cx 47 [.inr (.ptr 44 0), .inr (.sl 102), .inr (.ptr 46 0), .inr (.sl 137), .inl sI_, .inl (.row 1), .inl sI_, .inl sI_, .inl sU_, .inl sU_]] 18446744073709551616 1), (12, .loop [.ob 142 27, .cx 145 [.inr (.ptr 142 0), .inr (.sl 200), .inr (.ptr 144 0), .inr (.sl 235), .inl sI_, .inl (.row 1), .inl sI_, .inl sI_, .inl sU_, .inl sU_]] 18446744073709551616 1)]), (26, [(3, .loop [.rg 14 sI_, .rg 3 (.row 6), .cx 47 [.inr (.ptr 44 0), .inr (.sl 102), .inr (.ptr 46 0), .inr (.sl 137), .inl sI_, .inl (.row 1), .inl sI_, .inl sI_, .inl sU_, .inl sU_]] 18446744073709551616 0), (3, .loop [.rg 14 sI_, .rg 3 (.row 6), .cx 145 [.inr (.ptr 142 0), .inr (.sl 200), .inr (.ptr 144 0), .inr (.sl 235), .inl sI_, .inl (.row 1), .inl sI_, .inl sI_, .inl sU_, .inl sU_]] 18446744073709551616 0)]), (50, [(4, .loopR [.rg 0 (.row 61), .rg 1 (.row 61), .rg 5 sI_] 18446744073709551616 0)])] f).getD []) [] fun x => by kernel_rfl
end
section
open Go Go.RowKit
set_option maxRecDepth 100000
variable [Tb]
theorem awakeE_eq : worksteallaw28Awake = some ((true, ()), ()) := by kernel_rfl
theorem tkind1_good {c : Cfg} {K : Nat} {env : EnvP} {w0 : WorkerV MV} {cl : ClientV MV} {eng : EngT} {i : Int} {l : List EntV} (h : EI c K env) (hK : 1 ≤ K ∧ K ≤ 1000000) (hs : c.subs.length ≤ 1000000) (h0 : WI c K 0 w0) (hc : CI c cl) :
    Good (travKind1 l (i, env, w0, cl, eng, ()) ((env.m.count, ()), (env.m, ()))) fun z => EI c (K + 3) z.1 ∧ WI c (K + 3) 0 z.2.1 ∧ CI c z.2.2.1 ∧ z.2.2.2.1 = eng := by
  unfold travKind1
  refine Good.ite (fun hk => ?_) fun hk => Good.ite (fun _ => ?_) fun _ => Good.ite (fun _ => ?_) fun _ => ?_
  · refine (mach_good (n := 2) (by decide) hk).bind fun o ho => ?_
    refine Good.ite (fun _ => ?_) fun n1 => Good.ite (fun _ => ?_) fun n0 => ?_
    · exact (ci_step h hK hs hc).bind fun o ho => .some_ ⟨ho.2.1, h0.up (by omega), ho.2.2, rfl⟩
    · exact (wi_step h hK h0).bind fun o ho => .some_ ⟨ho.2.1, ho.2.2, hc, rfl⟩
    · exfalso; have m0 : ¬ o.1.1 = ((0 : Nat) : Int) := n0; have m1 : ¬ o.1.1 = ((1 : Nat) : Int) := n1; omega
  · exact ⟨_, rfl, (EI.clk h).up (by omega), h0.up (by omega), hc, rfl⟩
  · exact ⟨_, rfl, (EI.clk h).up (by omega), h0.up (by omega), hc, rfl⟩
  · exact ⟨_, rfl, h.up (by omega), h0.up (by omega), hc, rfl⟩
theorem tloop1_good {c : Cfg} {env : EnvP} {w0 : WorkerV MV} {cl : ClientV MV} {eng : EngT} {l : List EntV} (hl : l.length ≤ 1000) (h : EI c 1 env) (hs : c.subs.length ≤ 1000000) (h0 : WI c 1 0 w0) (hc : CI c cl) (hg : eng.2.1.length ≤ 1) (he : env.evs.length ≤ eng.2.1.length) :
    Good (lpF (travBody1 l) 18446744073709551616 (0, env, w0, cl, eng, ())) fun z => EI c 10000 z.2.1 ∧ z.2.1.evs.length ≤ z.2.2.2.2.1.2.1.length := by
  refine lp_good (fun x => 0 ≤ x.1 ∧ x.1 ≤ (l.length : Int) ∧ EI c (1 + 3 * x.1.toNat) x.2.1 ∧ WI c (1 + 3 * x.1.toNat) 0 x.2.2.1 ∧ CI c x.2.2.2.1 ∧ x.2.2.2.2.1.2.1.length ≤ 1 + 3 * x.1.toNat ∧ x.2.1.evs.length ≤ x.2.2.2.2.1.2.1.length) (fun x => (l.length : Int).toNat - x.1.toNat) (fun self x hx ih => ?_) _ _ ⟨Int.le_refl 0, by show (0 : Int) ≤ _; omega, h, h0, hc, hg, he⟩ (by show _ - _ < _; omega)
  obtain ⟨i, env, w0, cl, eng, ⟨⟩⟩ := x
  obtain ⟨q1, q2, h, h0, hc, hg, he⟩ := hx
  simp only at q1 q2 h h0 hc hg he
  unfold travBody1
  refine Good.ite (fun hlt => ?_) fun _ => .some_ ⟨h.up (by omega), he⟩
  have hlt : i < (l.length : Int) := hlt
  refine Good.guard ⟨q1, hlt⟩ fun _ => ?_
  rw [count_eq, bnd]
  refine (tkind1_good (i := i) (l := l) (eng := eng) h ⟨by omega, by omega⟩ hs h0 hc).bind fun z hz => ?_
  obtain ⟨ze, z0, zc, zg, ⟨⟩⟩ := z
  obtain ⟨a3, b0, ac, ag⟩ := hz
  simp only at a3 b0 ac ag
  subst ag
  refine ttail_good (N := 1 + 3 * i.toNat + 3) a3.ok.ev (by show zg.2.1.length ≤ _; omega) (by omega) fun eng' he he2 => ?_
  have ei : wi (i + 1) = i + 1 := wi_id (rg_lit (by omega))
  have en : 1 + 3 * i.toNat + 3 = 1 + 3 * (i + 1).toNat := by omega
  rw [en] at a3 b0 he
  show Good (self (wi (i + 1), ze, z0, zc, eng', ())) _
  rw [ei]
  exact ih _ ⟨by show 0 ≤ i + 1; omega, by show i + 1 ≤ _; omega, a3, b0, ac, he, he2⟩ (by show _ - (i + 1).toNat < _ - i.toNat; omega)
noncomputable def travS1 (x : EntV) (s : EnvP × (WorkerV MV) × (ClientV MV) × EngT × Unit) : Option (EnvP × (WorkerV MV) × (ClientV MV) × EngT × Unit) :=
 (travKind1 [x] (0, s) ((s.1.m.count, ()), (s.1.m, ()))).bind fun z => travTail s.1.m.count z.1 z.2.2.2.1 fun e g => some (e, z.2.1, z.2.2.1, g, ())
theorem kindAt1 (l : List EntV) (i : Int) (s : EnvP × (WorkerV MV) × (ClientV MV) × EngT × Unit) (r : (Int × Unit) × (MemV × Unit)) : travKind1 l (i, s) r = travKind1 [atK5 l i] (0, s) r := by kernel_rfl
theorem bodyAt1 (l : List EntV) (self : TravT1 → Option TravT1) (i : Int) (s : EnvP × (WorkerV MV) × (ClientV MV) × EngT × Unit) (hl : l.length ≤ 1000000) (h0 : 0 ≤ i) (h1 : i ≤ (l.length : Int)) : travBody1 l self (i, s) = if i < (l.length : Int) then (travS1 (atK5 l i) s).bind fun s' => self (i + 1, s') else some (i, s) := by
  have e1 : wi (i + 1) = i + 1 := wi_id (rg_lit (by omega))
  by_cases h : i < (l.length : Int)
  · unfold travBody1 travS1
    simp only
    rw [if_pos h, if_pos ⟨h0, h⟩, if_pos h, count_eq, bnd, kindAt1, Option.bind_assoc, e1]
    congr 1
    funext z
    rw [travTail_bind]
    rfl
  · unfold travBody1
    simp only
    rw [if_neg h, if_neg h]
theorem repeats1_good {y0 y1 : List Int} {y2 : Int} {o : (Cfg × Unit) × Unit} (e : kconfig y0 = some o) (ho : DecOk o.1.1) (hw : o.1.1.workers = (((1 : Nat) : Int))) : Good (worksteallaw28EngineRepeats1_a y0 y1 y2) fun r => r.1.1 = true := by
  obtain ⟨⟨c, ⟨⟩⟩, ⟨⟩⟩ := o
  simp only at ho hw
  unfold worksteallaw28EngineRepeats1_a
  refine (short_good y0 [] (Nat.zero_le _)).bind fun r _ => Good.ite (fun _ => .some_ rfl) fun _ => Good.ite (fun _ => .some_ rfl) fun hlen => ?_
  obtain ⟨⟨⟨l, ⟨⟩⟩, ⟨⟩⟩, es, hs⟩ := scriptR_len (b := y1) (n := 400) (by omega) (by decide)
  have hs : l.length ≤ 400 := hs
  have hwi : wi ((l.length : Int) + 1) = (l.length : Int) + 1 := wi_id (rg_lit (by omega))
  obtain ⟨⟨⟨m, ⟨⟩⟩, ⟨⟩⟩, em, hm0, hm1⟩ := number_good (y := y2) (k := (l.length : Int) + 1) (by omega)
  have hm : 0 ≤ m ∧ m ≤ (l.length : Int) := ⟨hm0, by have : m < (l.length : Int) + 1 := hm1; omega⟩
  rw [e, bnd, es, bnd]
  simp only
  rw [hwi, em, bnd]
  simp only [gC_eq]
  obtain ⟨z, ez, hz1, hz2⟩ := tloop1_good (l := l) (by omega) (ei_new ho) (by have := ho.sn; omega) (wi_new (j := 0)) ci_ok (eng := (0, [], 0, 0, 0, 0, ())) (Nat.zero_le _) (Nat.le_refl _)
  obtain ⟨z1, ez1, _, _⟩ := tloop1_good (l := l.take m.toNat) (by rw [List.length_take]; omega) (ei_new ho) (by have := ho.sn; omega) (wi_new (j := 0)) ci_ok (eng := (0, [], 0, 0, 0, 0, ())) (Nat.zero_le _) (Nat.le_refl _)
  obtain ⟨z2, ez2, hz3⟩ := run_split bodyAt1 (by omega) ez ez1
  have ez3 : lpF (travBody1 (l.drop m.toNat)) 18446744073709551616 (0, z1.2.1, z1.2.2.1, z1.2.2.2.1, z1.2.2.2.2.1, ()) = some z2 := ez2
  obtain ⟨k, s⟩ := z
  obtain ⟨k2, s2⟩ := z2
  have hz3 : s2 = s := hz3
  subst hz3
  have hrl : s2.1.recs.length ≤ 1000000 := by
    have h1 := hz1.ok.ct
    have h2 : s2.1.c = c := hz1.c
    have h3 := ho.t
    have h1 : s2.1.c.tasks = (s2.1.recs.length : Int) := h1
    rw [h2] at h1
    omega
  have eE : repEnd s2.1 s2.2.2.2.1 s2.1 s2.2.2.2.1 = some ((true, ()), ()) := repEnd_good hz1 (.of (dec_valid ho)) hrl hz2
  rw [if_pos hm, new_eq (dec_valid ho), bnd, if_neg (fun h => h rfl), ci_new ho, bnd, if_pos hw, wk_new (l := layV c) (j := 0), bnd, ez, bnd, bnd, if_neg (fun h => h rfl), bnd, if_pos hw, bnd, ez1, bnd, awakeE_eq, bnd, if_neg (by decide), if_pos hm, ez3, bnd]
  exact ⟨_, eE, rfl⟩
theorem tkind2_good {c : Cfg} {K : Nat} {env : EnvP} {w0 w1 : WorkerV MV} {cl : ClientV MV} {eng : EngT} {i : Int} {l : List EntV} (h : EI c K env) (hK : 1 ≤ K ∧ K ≤ 1000000) (hs : c.subs.length ≤ 1000000) (h0 : WI c K 0 w0) (h1 : WI c K 1 w1) (hc : CI c cl) :
    Good (travKind2 l (i, env, w0, w1, cl, eng, ()) ((env.m.count, ()), (env.m, ()))) fun z => EI c (K + 3) z.1 ∧ WI c (K + 3) 0 z.2.1 ∧ WI c (K + 3) 1 z.2.2.1 ∧ CI c z.2.2.2.1 ∧ z.2.2.2.2.1 = eng := by
  unfold travKind2
  refine Good.ite (fun hk => ?_) fun hk => Good.ite (fun _ => ?_) fun _ => Good.ite (fun _ => ?_) fun _ => ?_
  · refine (mach_good (n := 3) (by decide) hk).bind fun o ho => ?_
    refine Good.ite (fun _ => ?_) fun n2 => Good.ite (fun _ => ?_) fun n1 => Good.ite (fun _ => ?_) fun n0 => ?_
    · exact (ci_step h hK hs hc).bind fun o ho => .some_ ⟨ho.2.1, h0.up (by omega), h1.up (by omega), ho.2.2, rfl⟩
    · exact (wi_step h hK h1).bind fun o ho => .some_ ⟨ho.2.1, h0.up (by omega), ho.2.2, hc, rfl⟩
    · exact (wi_step h hK h0).bind fun o ho => .some_ ⟨ho.2.1, ho.2.2, h1.up (by omega), hc, rfl⟩
    · exfalso; have m0 : ¬ o.1.1 = ((0 : Nat) : Int) := n0; have m1 : ¬ o.1.1 = ((1 : Nat) : Int) := n1; have m2 : ¬ o.1.1 = ((2 : Nat) : Int) := n2; omega
  · exact ⟨_, rfl, (EI.clk h).up (by omega), h0.up (by omega), h1.up (by omega), hc, rfl⟩
  · exact ⟨_, rfl, (EI.clk h).up (by omega), h0.up (by omega), h1.up (by omega), hc, rfl⟩
  · exact ⟨_, rfl, h.up (by omega), h0.up (by omega), h1.up (by omega), hc, rfl⟩
theorem tloop2_good {c : Cfg} {env : EnvP} {w0 w1 : WorkerV MV} {cl : ClientV MV} {eng : EngT} {l : List EntV} (hl : l.length ≤ 1000) (h : EI c 1 env) (hs : c.subs.length ≤ 1000000) (h0 : WI c 1 0 w0) (h1 : WI c 1 1 w1) (hc : CI c cl) (hg : eng.2.1.length ≤ 1) (he : env.evs.length ≤ eng.2.1.length) :
    Good (lpF (travBody2 l) 18446744073709551616 (0, env, w0, w1, cl, eng, ())) fun z => EI c 10000 z.2.1 ∧ z.2.1.evs.length ≤ z.2.2.2.2.2.1.2.1.length := by
  refine lp_good (fun x => 0 ≤ x.1 ∧ x.1 ≤ (l.length : Int) ∧ EI c (1 + 3 * x.1.toNat) x.2.1 ∧ WI c (1 + 3 * x.1.toNat) 0 x.2.2.1 ∧ WI c (1 + 3 * x.1.toNat) 1 x.2.2.2.1 ∧ CI c x.2.2.2.2.1 ∧ x.2.2.2.2.2.1.2.1.length ≤ 1 + 3 * x.1.toNat ∧ x.2.1.evs.length ≤ x.2.2.2.2.2.1.2.1.length) (fun x => (l.length : Int).toNat - x.1.toNat) (fun self x hx ih => ?_) _ _ ⟨Int.le_refl 0, by show (0 : Int) ≤ _; omega, h, h0, h1, hc, hg, he⟩ (by show _ - _ < _; omega)
  obtain ⟨i, env, w0, w1, cl, eng, ⟨⟩⟩ := x
  obtain ⟨q1, q2, h, h0, h1, hc, hg, he⟩ := hx
  simp only at q1 q2 h h0 h1 hc hg he
  unfold travBody2
  refine Good.ite (fun hlt => ?_) fun _ => .some_ ⟨h.up (by omega), he⟩
  have hlt : i < (l.length : Int) := hlt
  refine Good.guard ⟨q1, hlt⟩ fun _ => ?_
  rw [count_eq, bnd]
  refine (tkind2_good (i := i) (l := l) (eng := eng) h ⟨by omega, by omega⟩ hs h0 h1 hc).bind fun z hz => ?_
  obtain ⟨ze, z0, z1, zc, zg, ⟨⟩⟩ := z
  obtain ⟨a3, b0, b1, ac, ag⟩ := hz
  simp only at a3 b0 b1 ac ag
  subst ag
  refine ttail_good (N := 1 + 3 * i.toNat + 3) a3.ok.ev (by show zg.2.1.length ≤ _; omega) (by omega) fun eng' he he2 => ?_
  have ei : wi (i + 1) = i + 1 := wi_id (rg_lit (by omega))
  have en : 1 + 3 * i.toNat + 3 = 1 + 3 * (i + 1).toNat := by omega
  rw [en] at a3 b0 b1 he
  show Good (self (wi (i + 1), ze, z0, z1, zc, eng', ())) _
  rw [ei]
  exact ih _ ⟨by show 0 ≤ i + 1; omega, by show i + 1 ≤ _; omega, a3, b0, b1, ac, he, he2⟩ (by show _ - (i + 1).toNat < _ - i.toNat; omega)
noncomputable def travS2 (x : EntV) (s : EnvP × (WorkerV MV) × (WorkerV MV) × (ClientV MV) × EngT × Unit) : Option (EnvP × (WorkerV MV) × (WorkerV MV) × (ClientV MV) × EngT × Unit) :=
 (travKind2 [x] (0, s) ((s.1.m.count, ()), (s.1.m, ()))).bind fun z => travTail s.1.m.count z.1 z.2.2.2.2.1 fun e g => some (e, z.2.1, z.2.2.1, z.2.2.2.1, g, ())
theorem kindAt2 (l : List EntV) (i : Int) (s : EnvP × (WorkerV MV) × (WorkerV MV) × (ClientV MV) × EngT × Unit) (r : (Int × Unit) × (MemV × Unit)) : travKind2 l (i, s) r = travKind2 [atK5 l i] (0, s) r := by kernel_rfl
theorem bodyAt2 (l : List EntV) (self : TravT2 → Option TravT2) (i : Int) (s : EnvP × (WorkerV MV) × (WorkerV MV) × (ClientV MV) × EngT × Unit) (hl : l.length ≤ 1000000) (h0 : 0 ≤ i) (h1 : i ≤ (l.length : Int)) : travBody2 l self (i, s) = if i < (l.length : Int) then (travS2 (atK5 l i) s).bind fun s' => self (i + 1, s') else some (i, s) := by
  have e1 : wi (i + 1) = i + 1 := wi_id (rg_lit (by omega))
  by_cases h : i < (l.length : Int)
  · unfold travBody2 travS2
    simp only
    rw [if_pos h, if_pos ⟨h0, h⟩, if_pos h, count_eq, bnd, kindAt2, Option.bind_assoc, e1]
    congr 1
    funext z
    rw [travTail_bind]
    rfl
  · unfold travBody2
    simp only
    rw [if_neg h, if_neg h]
theorem repeats2_good {y0 y1 : List Int} {y2 : Int} {o : (Cfg × Unit) × Unit} (e : kconfig y0 = some o) (ho : DecOk o.1.1) (hw : o.1.1.workers = (((2 : Nat) : Int))) : Good (worksteallaw28EngineRepeats2_a y0 y1 y2) fun r => r.1.1 = true := by
  obtain ⟨⟨c, ⟨⟩⟩, ⟨⟩⟩ := o
  simp only at ho hw
  unfold worksteallaw28EngineRepeats2_a
  refine (short_good y0 [] (Nat.zero_le _)).bind fun r _ => Good.ite (fun _ => .some_ rfl) fun _ => Good.ite (fun _ => .some_ rfl) fun hlen => ?_
  obtain ⟨⟨⟨l, ⟨⟩⟩, ⟨⟩⟩, es, hs⟩ := scriptR_len (b := y1) (n := 400) (by omega) (by decide)
  have hs : l.length ≤ 400 := hs
  have hwi : wi ((l.length : Int) + 1) = (l.length : Int) + 1 := wi_id (rg_lit (by omega))
  obtain ⟨⟨⟨m, ⟨⟩⟩, ⟨⟩⟩, em, hm0, hm1⟩ := number_good (y := y2) (k := (l.length : Int) + 1) (by omega)
  have hm : 0 ≤ m ∧ m ≤ (l.length : Int) := ⟨hm0, by have : m < (l.length : Int) + 1 := hm1; omega⟩
  rw [e, bnd, es, bnd]
  simp only
  rw [hwi, em, bnd]
  simp only [gC_eq]
  obtain ⟨z, ez, hz1, hz2⟩ := tloop2_good (l := l) (by omega) (ei_new ho) (by have := ho.sn; omega) (wi_new (j := 0)) (wi_new (j := 1)) ci_ok (eng := (0, [], 0, 0, 0, 0, ())) (Nat.zero_le _) (Nat.le_refl _)
  obtain ⟨z1, ez1, _, _⟩ := tloop2_good (l := l.take m.toNat) (by rw [List.length_take]; omega) (ei_new ho) (by have := ho.sn; omega) (wi_new (j := 0)) (wi_new (j := 1)) ci_ok (eng := (0, [], 0, 0, 0, 0, ())) (Nat.zero_le _) (Nat.le_refl _)
  obtain ⟨z2, ez2, hz3⟩ := run_split bodyAt2 (by omega) ez ez1
  have ez3 : lpF (travBody2 (l.drop m.toNat)) 18446744073709551616 (0, z1.2.1, z1.2.2.1, z1.2.2.2.1, z1.2.2.2.2.1, z1.2.2.2.2.2.1, ()) = some z2 := ez2
  obtain ⟨k, s⟩ := z
  obtain ⟨k2, s2⟩ := z2
  have hz3 : s2 = s := hz3
  subst hz3
  have hrl : s2.1.recs.length ≤ 1000000 := by
    have h1 := hz1.ok.ct
    have h2 : s2.1.c = c := hz1.c
    have h3 := ho.t
    have h1 : s2.1.c.tasks = (s2.1.recs.length : Int) := h1
    rw [h2] at h1
    omega
  have eE : repEnd s2.1 s2.2.2.2.2.1 s2.1 s2.2.2.2.2.1 = some ((true, ()), ()) := repEnd_good hz1 (.of (dec_valid ho)) hrl hz2
  rw [if_pos hm, new_eq (dec_valid ho), bnd, if_neg (fun h => h rfl), ci_new ho, bnd, if_pos hw, wk_new (l := layV c) (j := 0), bnd, wk_new (l := layV c) (j := 1), bnd, ez, bnd, bnd, if_neg (fun h => h rfl), bnd, if_pos hw, bnd, bnd, ez1, bnd, awakeE_eq, bnd, if_neg (by decide), if_pos hm, ez3, bnd]
  exact ⟨_, eE, rfl⟩
theorem tkind3_good {c : Cfg} {K : Nat} {env : EnvP} {w0 w1 w2 : WorkerV MV} {cl : ClientV MV} {eng : EngT} {i : Int} {l : List EntV} (h : EI c K env) (hK : 1 ≤ K ∧ K ≤ 1000000) (hs : c.subs.length ≤ 1000000) (h0 : WI c K 0 w0) (h1 : WI c K 1 w1) (h2 : WI c K 2 w2) (hc : CI c cl) :
    Good (travKind3 l (i, env, w0, w1, w2, cl, eng, ()) ((env.m.count, ()), (env.m, ()))) fun z => EI c (K + 3) z.1 ∧ WI c (K + 3) 0 z.2.1 ∧ WI c (K + 3) 1 z.2.2.1 ∧ WI c (K + 3) 2 z.2.2.2.1 ∧ CI c z.2.2.2.2.1 ∧ z.2.2.2.2.2.1 = eng := by
  unfold travKind3
  refine Good.ite (fun hk => ?_) fun hk => Good.ite (fun _ => ?_) fun _ => Good.ite (fun _ => ?_) fun _ => ?_
  · refine (mach_good (n := 4) (by decide) hk).bind fun o ho => ?_
    refine Good.ite (fun _ => ?_) fun n3 => Good.ite (fun _ => ?_) fun n2 => Good.ite (fun _ => ?_) fun n1 => Good.ite (fun _ => ?_) fun n0 => ?_
    · exact (ci_step h hK hs hc).bind fun o ho => .some_ ⟨ho.2.1, h0.up (by omega), h1.up (by omega), h2.up (by omega), ho.2.2, rfl⟩
    · exact (wi_step h hK h2).bind fun o ho => .some_ ⟨ho.2.1, h0.up (by omega), h1.up (by omega), ho.2.2, hc, rfl⟩
    · exact (wi_step h hK h1).bind fun o ho => .some_ ⟨ho.2.1, h0.up (by omega), ho.2.2, h2.up (by omega), hc, rfl⟩
    · exact (wi_step h hK h0).bind fun o ho => .some_ ⟨ho.2.1, ho.2.2, h1.up (by omega), h2.up (by omega), hc, rfl⟩
    · exfalso; have m0 : ¬ o.1.1 = ((0 : Nat) : Int) := n0; have m1 : ¬ o.1.1 = ((1 : Nat) : Int) := n1; have m2 : ¬ o.1.1 = ((2 : Nat) : Int) := n2; have m3 : ¬ o.1.1 = ((3 : Nat) : Int) := n3; omega
  · exact ⟨_, rfl, (EI.clk h).up (by omega), h0.up (by omega), h1.up (by omega), h2.up (by omega), hc, rfl⟩
  · exact ⟨_, rfl, (EI.clk h).up (by omega), h0.up (by omega), h1.up (by omega), h2.up (by omega), hc, rfl⟩
  · exact ⟨_, rfl, h.up (by omega), h0.up (by omega), h1.up (by omega), h2.up (by omega), hc, rfl⟩
theorem tloop3_good {c : Cfg} {env : EnvP} {w0 w1 w2 : WorkerV MV} {cl : ClientV MV} {eng : EngT} {l : List EntV} (hl : l.length ≤ 1000) (h : EI c 1 env) (hs : c.subs.length ≤ 1000000) (h0 : WI c 1 0 w0) (h1 : WI c 1 1 w1) (h2 : WI c 1 2 w2) (hc : CI c cl) (hg : eng.2.1.length ≤ 1) (he : env.evs.length ≤ eng.2.1.length) :
    Good (lpF (travBody3 l) 18446744073709551616 (0, env, w0, w1, w2, cl, eng, ())) fun z => EI c 10000 z.2.1 ∧ z.2.1.evs.length ≤ z.2.2.2.2.2.2.1.2.1.length := by
  refine lp_good (fun x => 0 ≤ x.1 ∧ x.1 ≤ (l.length : Int) ∧ EI c (1 + 3 * x.1.toNat) x.2.1 ∧ WI c (1 + 3 * x.1.toNat) 0 x.2.2.1 ∧ WI c (1 + 3 * x.1.toNat) 1 x.2.2.2.1 ∧ WI c (1 + 3 * x.1.toNat) 2 x.2.2.2.2.1 ∧ CI c x.2.2.2.2.2.1 ∧ x.2.2.2.2.2.2.1.2.1.length ≤ 1 + 3 * x.1.toNat ∧ x.2.1.evs.length ≤ x.2.2.2.2.2.2.1.2.1.length) (fun x => (l.length : Int).toNat - x.1.toNat) (fun self x hx ih => ?_) _ _ ⟨Int.le_refl 0, by show (0 : Int) ≤ _; omega, h, h0, h1, h2, hc, hg, he⟩ (by show _ - _ < _; omega)
  obtain ⟨i, env, w0, w1, w2, cl, eng, ⟨⟩⟩ := x
  obtain ⟨q1, q2, h, h0, h1, h2, hc, hg, he⟩ := hx
  simp only at q1 q2 h h0 h1 h2 hc hg he
  unfold travBody3
  refine Good.ite (fun hlt => ?_) fun _ => .some_ ⟨h.up (by omega), he⟩
  have hlt : i < (l.length : Int) := hlt
  refine Good.guard ⟨q1, hlt⟩ fun _ => ?_
  rw [count_eq, bnd]
  refine (tkind3_good (i := i) (l := l) (eng := eng) h ⟨by omega, by omega⟩ hs h0 h1 h2 hc).bind fun z hz => ?_
  obtain ⟨ze, z0, z1, z2, zc, zg, ⟨⟩⟩ := z
  obtain ⟨a3, b0, b1, b2, ac, ag⟩ := hz
  simp only at a3 b0 b1 b2 ac ag
  subst ag
  refine ttail_good (N := 1 + 3 * i.toNat + 3) a3.ok.ev (by show zg.2.1.length ≤ _; omega) (by omega) fun eng' he he2 => ?_
  have ei : wi (i + 1) = i + 1 := wi_id (rg_lit (by omega))
  have en : 1 + 3 * i.toNat + 3 = 1 + 3 * (i + 1).toNat := by omega
  rw [en] at a3 b0 b1 b2 he
  show Good (self (wi (i + 1), ze, z0, z1, z2, zc, eng', ())) _
  rw [ei]
  exact ih _ ⟨by show 0 ≤ i + 1; omega, by show i + 1 ≤ _; omega, a3, b0, b1, b2, ac, he, he2⟩ (by show _ - (i + 1).toNat < _ - i.toNat; omega)
noncomputable def travS3 (x : EntV) (s : EnvP × (WorkerV MV) × (WorkerV MV) × (WorkerV MV) × (ClientV MV) × EngT × Unit) : Option (EnvP × (WorkerV MV) × (WorkerV MV) × (WorkerV MV) × (ClientV MV) × EngT × Unit) :=
 (travKind3 [x] (0, s) ((s.1.m.count, ()), (s.1.m, ()))).bind fun z => travTail s.1.m.count z.1 z.2.2.2.2.2.1 fun e g => some (e, z.2.1, z.2.2.1, z.2.2.2.1, z.2.2.2.2.1, g, ())
theorem kindAt3 (l : List EntV) (i : Int) (s : EnvP × (WorkerV MV) × (WorkerV MV) × (WorkerV MV) × (ClientV MV) × EngT × Unit) (r : (Int × Unit) × (MemV × Unit)) : travKind3 l (i, s) r = travKind3 [atK5 l i] (0, s) r := by kernel_rfl
theorem bodyAt3 (l : List EntV) (self : TravT3 → Option TravT3) (i : Int) (s : EnvP × (WorkerV MV) × (WorkerV MV) × (WorkerV MV) × (ClientV MV) × EngT × Unit) (hl : l.length ≤ 1000000) (h0 : 0 ≤ i) (h1 : i ≤ (l.length : Int)) : travBody3 l self (i, s) = if i < (l.length : Int) then (travS3 (atK5 l i) s).bind fun s' => self (i + 1, s') else some (i, s) := by
  have e1 : wi (i + 1) = i + 1 := wi_id (rg_lit (by omega))
  by_cases h : i < (l.length : Int)
  · unfold travBody3 travS3
    simp only
    rw [if_pos h, if_pos ⟨h0, h⟩, if_pos h, count_eq, bnd, kindAt3, Option.bind_assoc, e1]
    congr 1
    funext z
    rw [travTail_bind]
    rfl
  · unfold travBody3
    simp only
    rw [if_neg h, if_neg h]
theorem repeats3_good {y0 y1 : List Int} {y2 : Int} {o : (Cfg × Unit) × Unit} (e : kconfig y0 = some o) (ho : DecOk o.1.1) (hw : o.1.1.workers = (((3 : Nat) : Int))) : Good (worksteallaw28EngineRepeats3_a y0 y1 y2) fun r => r.1.1 = true := by
  obtain ⟨⟨c, ⟨⟩⟩, ⟨⟩⟩ := o
  simp only at ho hw
  unfold worksteallaw28EngineRepeats3_a
  refine (short_good y0 [] (Nat.zero_le _)).bind fun r _ => Good.ite (fun _ => .some_ rfl) fun _ => Good.ite (fun _ => .some_ rfl) fun hlen => ?_
  obtain ⟨⟨⟨l, ⟨⟩⟩, ⟨⟩⟩, es, hs⟩ := scriptR_len (b := y1) (n := 400) (by omega) (by decide)
  have hs : l.length ≤ 400 := hs
  have hwi : wi ((l.length : Int) + 1) = (l.length : Int) + 1 := wi_id (rg_lit (by omega))
  obtain ⟨⟨⟨m, ⟨⟩⟩, ⟨⟩⟩, em, hm0, hm1⟩ := number_good (y := y2) (k := (l.length : Int) + 1) (by omega)
  have hm : 0 ≤ m ∧ m ≤ (l.length : Int) := ⟨hm0, by have : m < (l.length : Int) + 1 := hm1; omega⟩
  rw [e, bnd, es, bnd]
  simp only
  rw [hwi, em, bnd]
  simp only [gC_eq]
  obtain ⟨z, ez, hz1, hz2⟩ := tloop3_good (l := l) (by omega) (ei_new ho) (by have := ho.sn; omega) (wi_new (j := 0)) (wi_new (j := 1)) (wi_new (j := 2)) ci_ok (eng := (0, [], 0, 0, 0, 0, ())) (Nat.zero_le _) (Nat.le_refl _)
  obtain ⟨z1, ez1, _, _⟩ := tloop3_good (l := l.take m.toNat) (by rw [List.length_take]; omega) (ei_new ho) (by have := ho.sn; omega) (wi_new (j := 0)) (wi_new (j := 1)) (wi_new (j := 2)) ci_ok (eng := (0, [], 0, 0, 0, 0, ())) (Nat.zero_le _) (Nat.le_refl _)
  obtain ⟨z2, ez2, hz3⟩ := run_split bodyAt3 (by omega) ez ez1
  have ez3 : lpF (travBody3 (l.drop m.toNat)) 18446744073709551616 (0, z1.2.1, z1.2.2.1, z1.2.2.2.1, z1.2.2.2.2.1, z1.2.2.2.2.2.1, z1.2.2.2.2.2.2.1, ()) = some z2 := ez2
  obtain ⟨k, s⟩ := z
  obtain ⟨k2, s2⟩ := z2
  have hz3 : s2 = s := hz3
  subst hz3
  have hrl : s2.1.recs.length ≤ 1000000 := by
    have h1 := hz1.ok.ct
    have h2 : s2.1.c = c := hz1.c
    have h3 := ho.t
    have h1 : s2.1.c.tasks = (s2.1.recs.length : Int) := h1
    rw [h2] at h1
    omega
  have eE : repEnd s2.1 s2.2.2.2.2.2.1 s2.1 s2.2.2.2.2.2.1 = some ((true, ()), ()) := repEnd_good hz1 (.of (dec_valid ho)) hrl hz2
  rw [if_pos hm, new_eq (dec_valid ho), bnd, if_neg (fun h => h rfl), ci_new ho, bnd, if_pos hw, wk_new (l := layV c) (j := 0), bnd, wk_new (l := layV c) (j := 1), bnd, wk_new (l := layV c) (j := 2), bnd, ez, bnd, bnd, if_neg (fun h => h rfl), bnd, if_pos hw, bnd, bnd, bnd, ez1, bnd, awakeE_eq, bnd, if_neg (by decide), if_pos hm, ez3, bnd]
  exact ⟨_, eE, rfl⟩
theorem tkind4_good {c : Cfg} {K : Nat} {env : EnvP} {w0 w1 w2 w3 : WorkerV MV} {cl : ClientV MV} {eng : EngT} {i : Int} {l : List EntV} (h : EI c K env) (hK : 1 ≤ K ∧ K ≤ 1000000) (hs : c.subs.length ≤ 1000000) (h0 : WI c K 0 w0) (h1 : WI c K 1 w1) (h2 : WI c K 2 w2) (h3 : WI c K 3 w3) (hc : CI c cl) :
    Good (travKind4 l (i, env, w0, w1, w2, w3, cl, eng, ()) ((env.m.count, ()), (env.m, ()))) fun z => EI c (K + 3) z.1 ∧ WI c (K + 3) 0 z.2.1 ∧ WI c (K + 3) 1 z.2.2.1 ∧ WI c (K + 3) 2 z.2.2.2.1 ∧ WI c (K + 3) 3 z.2.2.2.2.1 ∧ CI c z.2.2.2.2.2.1 ∧ z.2.2.2.2.2.2.1 = eng := by
  unfold travKind4
  refine Good.ite (fun hk => ?_) fun hk => Good.ite (fun _ => ?_) fun _ => Good.ite (fun _ => ?_) fun _ => ?_
  · refine (mach_good (n := 5) (by decide) hk).bind fun o ho => ?_
    refine Good.ite (fun _ => ?_) fun n4 => Good.ite (fun _ => ?_) fun n3 => Good.ite (fun _ => ?_) fun n2 => Good.ite (fun _ => ?_) fun n1 => Good.ite (fun _ => ?_) fun n0 => ?_
    · exact (ci_step h hK hs hc).bind fun o ho => .some_ ⟨ho.2.1, h0.up (by omega), h1.up (by omega), h2.up (by omega), h3.up (by omega), ho.2.2, rfl⟩
    · exact (wi_step h hK h3).bind fun o ho => .some_ ⟨ho.2.1, h0.up (by omega), h1.up (by omega), h2.up (by omega), ho.2.2, hc, rfl⟩
    · exact (wi_step h hK h2).bind fun o ho => .some_ ⟨ho.2.1, h0.up (by omega), h1.up (by omega), ho.2.2, h3.up (by omega), hc, rfl⟩
    · exact (wi_step h hK h1).bind fun o ho => .some_ ⟨ho.2.1, h0.up (by omega), ho.2.2, h2.up (by omega), h3.up (by omega), hc, rfl⟩
    · exact (wi_step h hK h0).bind fun o ho => .some_ ⟨ho.2.1, ho.2.2, h1.up (by omega), h2.up (by omega), h3.up (by omega), hc, rfl⟩
    · exfalso; have m0 : ¬ o.1.1 = ((0 : Nat) : Int) := n0; have m1 : ¬ o.1.1 = ((1 : Nat) : Int) := n1; have m2 : ¬ o.1.1 = ((2 : Nat) : Int) := n2; have m3 : ¬ o.1.1 = ((3 : Nat) : Int) := n3; have m4 : ¬ o.1.1 = ((4 : Nat) : Int) := n4; omega
  · exact ⟨_, rfl, (EI.clk h).up (by omega), h0.up (by omega), h1.up (by omega), h2.up (by omega), h3.up (by omega), hc, rfl⟩
  · exact ⟨_, rfl, (EI.clk h).up (by omega), h0.up (by omega), h1.up (by omega), h2.up (by omega), h3.up (by omega), hc, rfl⟩
  · exact ⟨_, rfl, h.up (by omega), h0.up (by omega), h1.up (by omega), h2.up (by omega), h3.up (by omega), hc, rfl⟩
theorem tloop4_good {c : Cfg} {env : EnvP} {w0 w1 w2 w3 : WorkerV MV} {cl : ClientV MV} {eng : EngT} {l : List EntV} (hl : l.length ≤ 1000) (h : EI c 1 env) (hs : c.subs.length ≤ 1000000) (h0 : WI c 1 0 w0) (h1 : WI c 1 1 w1) (h2 : WI c 1 2 w2) (h3 : WI c 1 3 w3) (hc : CI c cl) (hg : eng.2.1.length ≤ 1) (he : env.evs.length ≤ eng.2.1.length) :
    Good (lpF (travBody4 l) 18446744073709551616 (0, env, w0, w1, w2, w3, cl, eng, ())) fun z => EI c 10000 z.2.1 ∧ z.2.1.evs.length ≤ z.2.2.2.2.2.2.2.1.2.1.length := by
  refine lp_good (fun x => 0 ≤ x.1 ∧ x.1 ≤ (l.length : Int) ∧ EI c (1 + 3 * x.1.toNat) x.2.1 ∧ WI c (1 + 3 * x.1.toNat) 0 x.2.2.1 ∧ WI c (1 + 3 * x.1.toNat) 1 x.2.2.2.1 ∧ WI c (1 + 3 * x.1.toNat) 2 x.2.2.2.2.1 ∧ WI c (1 + 3 * x.1.toNat) 3 x.2.2.2.2.2.1 ∧ CI c x.2.2.2.2.2.2.1 ∧ x.2.2.2.2.2.2.2.1.2.1.length ≤ 1 + 3 * x.1.toNat ∧ x.2.1.evs.length ≤ x.2.2.2.2.2.2.2.1.2.1.length) (fun x => (l.length : Int).toNat - x.1.toNat) (fun self x hx ih => ?_) _ _ ⟨Int.le_refl 0, by show (0 : Int) ≤ _; omega, h, h0, h1, h2, h3, hc, hg, he⟩ (by show _ - _ < _; omega)
  obtain ⟨i, env, w0, w1, w2, w3, cl, eng, ⟨⟩⟩ := x
  obtain ⟨q1, q2, h, h0, h1, h2, h3, hc, hg, he⟩ := hx
  simp only at q1 q2 h h0 h1 h2 h3 hc hg he
  unfold travBody4
  refine Good.ite (fun hlt => ?_) fun _ => .some_ ⟨h.up (by omega), he⟩
  have hlt : i < (l.length : Int) := hlt
  refine Good.guard ⟨q1, hlt⟩ fun _ => ?_
  rw [count_eq, bnd]
  refine (tkind4_good (i := i) (l := l) (eng := eng) h ⟨by omega, by omega⟩ hs h0 h1 h2 h3 hc).bind fun z hz => ?_
  obtain ⟨ze, z0, z1, z2, z3, zc, zg, ⟨⟩⟩ := z
  obtain ⟨a3, b0, b1, b2, b3, ac, ag⟩ := hz
  simp only at a3 b0 b1 b2 b3 ac ag
  subst ag
  refine ttail_good (N := 1 + 3 * i.toNat + 3) a3.ok.ev (by show zg.2.1.length ≤ _; omega) (by omega) fun eng' he he2 => ?_
  have ei : wi (i + 1) = i + 1 := wi_id (rg_lit (by omega))
  have en : 1 + 3 * i.toNat + 3 = 1 + 3 * (i + 1).toNat := by omega
  rw [en] at a3 b0 b1 b2 b3 he
  show Good (self (wi (i + 1), ze, z0, z1, z2, z3, zc, eng', ())) _
  rw [ei]
  exact ih _ ⟨by show 0 ≤ i + 1; omega, by show i + 1 ≤ _; omega, a3, b0, b1, b2, b3, ac, he, he2⟩ (by show _ - (i + 1).toNat < _ - i.toNat; omega)
noncomputable def travS4 (x : EntV) (s : EnvP × (WorkerV MV) × (WorkerV MV) × (WorkerV MV) × (WorkerV MV) × (ClientV MV) × EngT × Unit) : Option (EnvP × (WorkerV MV) × (WorkerV MV) × (WorkerV MV) × (WorkerV MV) × (ClientV MV) × EngT × Unit) :=
 (travKind4 [x] (0, s) ((s.1.m.count, ()), (s.1.m, ()))).bind fun z => travTail s.1.m.count z.1 z.2.2.2.2.2.2.1 fun e g => some (e, z.2.1, z.2.2.1, z.2.2.2.1, z.2.2.2.2.1, z.2.2.2.2.2.1, g, ())
theorem kindAt4 (l : List EntV) (i : Int) (s : EnvP × (WorkerV MV) × (WorkerV MV) × (WorkerV MV) × (WorkerV MV) × (ClientV MV) × EngT × Unit) (r : (Int × Unit) × (MemV × Unit)) : travKind4 l (i, s) r = travKind4 [atK5 l i] (0, s) r := by kernel_rfl
theorem bodyAt4 (l : List EntV) (self : TravT4 → Option TravT4) (i : Int) (s : EnvP × (WorkerV MV) × (WorkerV MV) × (WorkerV MV) × (WorkerV MV) × (ClientV MV) × EngT × Unit) (hl : l.length ≤ 1000000) (h0 : 0 ≤ i) (h1 : i ≤ (l.length : Int)) : travBody4 l self (i, s) = if i < (l.length : Int) then (travS4 (atK5 l i) s).bind fun s' => self (i + 1, s') else some (i, s) := by
  have e1 : wi (i + 1) = i + 1 := wi_id (rg_lit (by omega))
  by_cases h : i < (l.length : Int)
  · unfold travBody4 travS4
    simp only
    rw [if_pos h, if_pos ⟨h0, h⟩, if_pos h, count_eq, bnd, kindAt4, Option.bind_assoc, e1]
    congr 1
    funext z
    rw [travTail_bind]
    rfl
  · unfold travBody4
    simp only
    rw [if_neg h, if_neg h]
theorem repeats4_good {y0 y1 : List Int} {y2 : Int} {o : (Cfg × Unit) × Unit} (e : kconfig y0 = some o) (ho : DecOk o.1.1) (hw : o.1.1.workers = (((4 : Nat) : Int))) : Good (worksteallaw28EngineRepeats4_a y0 y1 y2) fun r => r.1.1 = true := by
  obtain ⟨⟨c, ⟨⟩⟩, ⟨⟩⟩ := o
  simp only at ho hw
  unfold worksteallaw28EngineRepeats4_a
  refine (short_good y0 [] (Nat.zero_le _)).bind fun r _ => Good.ite (fun _ => .some_ rfl) fun _ => Good.ite (fun _ => .some_ rfl) fun hlen => ?_
  obtain ⟨⟨⟨l, ⟨⟩⟩, ⟨⟩⟩, es, hs⟩ := scriptR_len (b := y1) (n := 400) (by omega) (by decide)
  have hs : l.length ≤ 400 := hs
  have hwi : wi ((l.length : Int) + 1) = (l.length : Int) + 1 := wi_id (rg_lit (by omega))
  obtain ⟨⟨⟨m, ⟨⟩⟩, ⟨⟩⟩, em, hm0, hm1⟩ := number_good (y := y2) (k := (l.length : Int) + 1) (by omega)
  have hm : 0 ≤ m ∧ m ≤ (l.length : Int) := ⟨hm0, by have : m < (l.length : Int) + 1 := hm1; omega⟩
  rw [e, bnd, es, bnd]
  simp only
  rw [hwi, em, bnd]
  simp only [gC_eq]
  obtain ⟨z, ez, hz1, hz2⟩ := tloop4_good (l := l) (by omega) (ei_new ho) (by have := ho.sn; omega) (wi_new (j := 0)) (wi_new (j := 1)) (wi_new (j := 2)) (wi_new (j := 3)) ci_ok (eng := (0, [], 0, 0, 0, 0, ())) (Nat.zero_le _) (Nat.le_refl _)
  obtain ⟨z1, ez1, _, _⟩ := tloop4_good (l := l.take m.toNat) (by rw [List.length_take]; omega) (ei_new ho) (by have := ho.sn; omega) (wi_new (j := 0)) (wi_new (j := 1)) (wi_new (j := 2)) (wi_new (j := 3)) ci_ok (eng := (0, [], 0, 0, 0, 0, ())) (Nat.zero_le _) (Nat.le_refl _)
  obtain ⟨z2, ez2, hz3⟩ := run_split bodyAt4 (by omega) ez ez1
  have ez3 : lpF (travBody4 (l.drop m.toNat)) 18446744073709551616 (0, z1.2.1, z1.2.2.1, z1.2.2.2.1, z1.2.2.2.2.1, z1.2.2.2.2.2.1, z1.2.2.2.2.2.2.1, z1.2.2.2.2.2.2.2.1, ()) = some z2 := ez2
  obtain ⟨k, s⟩ := z
  obtain ⟨k2, s2⟩ := z2
  have hz3 : s2 = s := hz3
  subst hz3
  have hrl : s2.1.recs.length ≤ 1000000 := by
    have h1 := hz1.ok.ct
    have h2 : s2.1.c = c := hz1.c
    have h3 := ho.t
    have h1 : s2.1.c.tasks = (s2.1.recs.length : Int) := h1
    rw [h2] at h1
    omega
  have eE : repEnd s2.1 s2.2.2.2.2.2.2.1 s2.1 s2.2.2.2.2.2.2.1 = some ((true, ()), ()) := repEnd_good hz1 (.of (dec_valid ho)) hrl hz2
  rw [if_pos hm, new_eq (dec_valid ho), bnd, if_neg (fun h => h rfl), ci_new ho, bnd, if_pos hw, wk_new (l := layV c) (j := 0), bnd, wk_new (l := layV c) (j := 1), bnd, wk_new (l := layV c) (j := 2), bnd, wk_new (l := layV c) (j := 3), bnd, ez, bnd, bnd, if_neg (fun h => h rfl), bnd, if_pos hw, bnd, bnd, bnd, bnd, ez1, bnd, awakeE_eq, bnd, if_neg (by decide), if_pos hm, ez3, bnd]
  exact ⟨_, eE, rfl⟩
theorem repeats_any {y0 y1 : List Int} {y2 : Int} (hb : ∀ x ∈ y0, 0 ≤ x ∧ x ≤ 255) :
    Good (worksteallaw28EngineRepeats1_a y0 y1 y2) (fun r => r.1.1 = true) ∨ Good (worksteallaw28EngineRepeats2_a y0 y1 y2) (fun r => r.1.1 = true) ∨ Good (worksteallaw28EngineRepeats3_a y0 y1 y2) (fun r => r.1.1 = true) ∨ Good (worksteallaw28EngineRepeats4_a y0 y1 y2) (fun r => r.1.1 = true) := by
  by_cases hl : y0.length ≤ 400
  · obtain ⟨o, e, ho⟩ := config_good hb (by omega)
    have hw := ho.w
    have hv : o.1.1.workers = ((1 : Nat) : Int) ∨ o.1.1.workers = ((2 : Nat) : Int) ∨ o.1.1.workers = ((3 : Nat) : Int) ∨ o.1.1.workers = ((4 : Nat) : Int) := by omega
    rcases hv with h | h | h | h
    · exact .inl (repeats1_good e ho h)
    · exact .inr (.inl (repeats2_good e ho h))
    · exact .inr (.inr (.inl (repeats3_good e ho h)))
    · exact .inr (.inr (.inr (repeats4_good e ho h)))
  · refine .inl ?_
    unfold worksteallaw28EngineRepeats1_a
    refine (short_good y0 [] (Nat.zero_le _)).bind fun r hr => Good.ite (fun _ => .some_ rfl) fun h => ?_
    exfalso
    have h1 : r.1.1 = true := by revert h; cases r.1.1 <;> simp
    exact hl (hr h1).1
end
end Go.Proofs.YtgiagoeoifgliaaGreat
