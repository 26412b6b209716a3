/- EngineOnce in the evaluator's form. EngineOnce in the evaluator's form. -/
import Derived.Test.YtgiagoeoifgliaaGreatOnap
set_option linter.all false
namespace Go.Proofs.YtgiagoeoifgliaaGreat
section
open Go Go.RowKit
set_option maxRecDepth 100000
variable [Tb]
noncomputable def r4decode (b : List Int) : Option ((List EntV × Unit) × (Unit)) :=
 (lpF (σ := List EntV × Int × Unit) (β := List EntV × Int × Unit) (fun self3 x1 =>
  if (wi (x1.2.1 + 1)) < ((b.length : Nat) : Int) then
   if ((x1.1.length : Nat) : Int) < 65536 then
   if 0 ≤ x1.2.1 ∧ x1.2.1 < ((b.length : Nat) : Int) then
   if 0 ≤ wi (x1.2.1 + 1) ∧ wi (x1.2.1 + 1) < ((b.length : Nat) : Int) then
   if (atK17 b (wi (x1.2.1 + 1))) = (atK17 b (wi (x1.2.1 + 1))) then
   if (atK17 b x1.2.1) = (atK17 b x1.2.1) then
   if (Int.tmod (wi (atK17 b x1.2.1)) 4) = 1 then
   if (((x1.1.length + ([(⟨(Int.tmod (wi (atK17 b x1.2.1)) 4), 0⟩ : EntV)] : List EntV).length : Nat)) : Int) < 1000000000000 then
   self3 (x1.1 ++ ([(⟨(Int.tmod (wi (atK17 b x1.2.1)) 4), 0⟩ : EntV)]), wi (x1.2.1 + 2), ())
   else none
   else
   if (Int.tmod (wi (atK17 b x1.2.1)) 4) = 3 then
   if (((x1.1.length + ([(⟨(Int.tmod (wi (atK17 b x1.2.1)) 4), 0⟩ : EntV)] : List EntV).length : Nat)) : Int) < 1000000000000 then
   self3 (x1.1 ++ ([(⟨(Int.tmod (wi (atK17 b x1.2.1)) 4), 0⟩ : EntV)]), wi (x1.2.1 + 2), ())
   else none
   else
   if (((x1.1.length + ([(⟨(Int.tmod (wi (atK17 b x1.2.1)) 4), wi (atK17 b (wi (x1.2.1 + 1)))⟩ : EntV)] : List EntV).length : Nat)) : Int) < 1000000000000 then
   self3 (x1.1 ++ ([(⟨(Int.tmod (wi (atK17 b x1.2.1)) 4), wi (atK17 b (wi (x1.2.1 + 1)))⟩ : EntV)]), wi (x1.2.1 + 2), ())
   else none
   else none
   else none
   else none
   else none
   else
   some (x1.1, x1.2.1, ())
  else
  some (x1.1, x1.2.1, ())
 ) 18446744073709551616 ([], 0, ())).bind fun z2 =>
 some ((z2.1, ()), (()))
noncomputable abbrev r4decode_k : Con SR1 := ⟨24, [.sh (.ro 17)], [.sh (.row 5)], fun x => r4decode x.1⟩
theorem r4decode_ok : CO Tryz.prog r4decode_k := co_fn mixed Tryz.func24 [] trivial [] trivial (fun _ => []) [(3, .loop [.rg 3 (.row 5), .rg 4 sI_] 18446744073709551616 0)] fun x => by kernel_rfl
noncomputable def kscript (b : List Int) (n : Int) : Option ((List EntV × Unit) × (Unit)) :=
 (r4decode b).bind fun r1 =>
 if n < ((r1.1.1.length : Nat) : Int) then
  if 0 ≤ n ∧ n ≤ ((r1.1.1.length : Nat) : Int) then
   some ((r1.1.1.take (n : Int).toNat, ()), (()))
  else none
 else
 some ((r1.1.1, ()), (()))
noncomputable abbrev kscript_k : Con SR1 := ⟨43, [.sh (.ro 17), .sh sI_], [.sh (.row 5)], fun x => kscript x.1 x.2.1⟩
theorem kscript_ok : CO Tryz.prog kscript_k := co_fn mixed Tryz.func43 [r4decode_k] ⟨r4decode_ok, trivial⟩ [] trivial (fun _ => []) [] fun x => by kernel_rfl
noncomputable def workstealkeepPick (y0 : Int) : Option ((EntV × Unit) × (Unit)) :=
 some (((⟨0, y0⟩ : EntV), ()), (()))
noncomputable abbrev workstealkeepPick_k : Con SR1 := ⟨70, [.sh sI_], [.val 5], fun x => workstealkeepPick x.1⟩
theorem workstealkeepPick_ok : CO Tryz.prog workstealkeepPick_k := co_fn mixed Tryz.func70 [] trivial [] trivial (fun _ => []) [] fun x => by kernel_rfl
noncomputable def worksteallaw28Awake  : Option ((Bool × Unit) × (Unit)) :=
 (kconfig ([])).bind fun r1 =>
 (machineNew r1.1.1).bind fun r2 =>
 if r2.1.2.1 ≠ 0 then
  if r2.1.2.1 ≠ 0 then
   some ((false, ()), (()))
  else
  some ((false, ()), (()))
 else
 (clientNew r1.1.1).bind fun r3 =>
 if r1.1.1.workers = ((1 : Nat) : Int) then
  (workerNew 0).bind fun r4 =>
  (lpF (σ := Int × EnvP × (WorkerV MV) × (ClientV MV) × (Int × List Int × Int × Int × Int × Int × Unit) × Unit) (β := (Int × EnvP × (WorkerV MV) × (ClientV MV) × (Int × List Int × Int × Int × Int × Int × Unit) × Unit) ⊕ ((Bool × Unit) × (Unit))) (fun self7 x5 =>
   if x5.1 < 7 then
   (workerWorkerStatus x5.2.2.1).bind fun r8 =>
   if (decide (r8.1.1 = 3)) ≠ (decide (x5.1 = 6)) then
   Option.map Sum.inr (
   some ((false, ()), (()))
   )
   else
   (workstealkeepPick 0).bind fun r9 =>
   (memoryMemoryCount x5.2.1.m).bind fun r10 =>
   ((
   if r9.1.1.kind = 0 then
   (scriptMachine r9.1.1 2).bind fun r11 =>
   if r11.1.1 = ((1 : Nat) : Int) then
   (clientClientStep x5.2.2.2.1 ({ x5.2.1 with m := r10.2.1 } : EnvP)).bind fun r12 =>
   some (r12.2.2.1, r8.2.1, r12.2.1, (x5.2.2.2.2.1.1, x5.2.2.2.2.1.2.1, x5.2.2.2.2.1.2.2.1, x5.2.2.2.2.1.2.2.2.1, x5.2.2.2.2.1.2.2.2.2.1, x5.2.2.2.2.1.2.2.2.2.2.1, ()), ())
   else
   if r11.1.1 = ((0 : Nat) : Int) then
   (workerWorkerStep r8.2.1 ({ x5.2.1 with m := r10.2.1 } : EnvP)).bind fun r13 =>
   some (r13.2.2.1, r13.2.1, x5.2.2.2.1, (x5.2.2.2.2.1.1, x5.2.2.2.2.1.2.1, x5.2.2.2.2.1.2.2.1, x5.2.2.2.2.1.2.2.2.1, x5.2.2.2.2.1.2.2.2.2.1, x5.2.2.2.2.1.2.2.2.2.2.1, ()), ())
   else
   none
   else
   if r9.1.1.kind = 1 then
   (clockClockTick x5.2.1.k).bind fun r14 =>
   some (({ x5.2.1 with m := r10.2.1, k := r14.2.1 } : EnvP), r8.2.1, x5.2.2.2.1, (x5.2.2.2.2.1.1, x5.2.2.2.2.1.2.1, x5.2.2.2.2.1.2.2.1, x5.2.2.2.2.1.2.2.2.1, x5.2.2.2.2.1.2.2.2.2.1, x5.2.2.2.2.1.2.2.2.2.2.1, ()), ())
   else
   if r9.1.1.kind = 2 then
   (clockClockSet x5.2.1.k r9.1.1.value).bind fun r15 =>
   some (({ x5.2.1 with m := r10.2.1, k := r15.2.1 } : EnvP), r8.2.1, x5.2.2.2.1, (x5.2.2.2.2.1.1, x5.2.2.2.2.1.2.1, x5.2.2.2.2.1.2.2.1, x5.2.2.2.2.1.2.2.2.1, x5.2.2.2.2.1.2.2.2.2.1, x5.2.2.2.2.1.2.2.2.2.2.1, ()), ())
   else
   some (({ x5.2.1 with m := r10.2.1 } : EnvP), r8.2.1, x5.2.2.2.1, (x5.2.2.2.2.1.1, x5.2.2.2.2.1.2.1, x5.2.2.2.2.1.2.2.1, x5.2.2.2.2.1.2.2.2.1, x5.2.2.2.2.1.2.2.2.2.1, x5.2.2.2.2.1.2.2.2.2.2.1, ()), ())
   ) : Option (EnvP × (WorkerV MV) × (ClientV MV) × (Int × List Int × Int × Int × Int × Int × Unit) × Unit)).bind fun z16 =>
   (memoryMemoryCount z16.1.m).bind fun r17 =>
   if r10.1.1 < r17.1.1 then
   (memoryMemoryLast r17.2.1).bind fun r18 =>
   (lpF (σ := EnvP × (Int × List Int × Int × Int × Int × Int × Unit) × Unit) (β := EnvP × (Int × List Int × Int × Int × Int × Int × Unit) × Unit) (fun self21 x19 =>
   if ((x19.2.1.2.1.length : Nat) : Int) < ((x19.1.evs.length : Nat) : Int) then
   if (((x19.2.1.2.1.length + ([x19.2.1.1] : List Int).length : Nat)) : Int) < 1000000000000 then
   self21 (x19.1, (x19.2.1.1, x19.2.1.2.1 ++ ([x19.2.1.1]), x19.2.1.2.2.1, x19.2.1.2.2.2.1, x19.2.1.2.2.2.2.1, x19.2.1.2.2.2.2.2.1, ()), ())
   else none
   else
   some (x19.1, (x19.2.1.1, x19.2.1.2.1, x19.2.1.2.2.1, x19.2.1.2.2.2.1, x19.2.1.2.2.2.2.1, x19.2.1.2.2.2.2.2.1, ()), ())
   ) 18446744073709551616 (({ z16.1 with m := r18.2.1 } : EnvP), (z16.2.2.2.1.1, z16.2.2.2.1.2.1, r18.1.1.kind, r18.1.1.cell, r18.1.1.old, r18.1.1.new, ()), ())).bind fun z20 =>
   self7 (wi (x5.1 + 1), z20.1, z16.2.1, z16.2.2.1, (wi (z20.2.1.1 + 1), z20.2.1.2.1, z20.2.1.2.2.1, z20.2.1.2.2.2.1, z20.2.1.2.2.2.2.1, z20.2.1.2.2.2.2.2.1, ()), ())
   else
   (lpF (σ := EnvP × (Int × List Int × Int × Int × Int × Int × Unit) × Unit) (β := EnvP × (Int × List Int × Int × Int × Int × Int × Unit) × Unit) (fun self24 x22 =>
   if ((x22.2.1.2.1.length : Nat) : Int) < ((x22.1.evs.length : Nat) : Int) then
   if (((x22.2.1.2.1.length + ([x22.2.1.1] : List Int).length : Nat)) : Int) < 1000000000000 then
   self24 (x22.1, (x22.2.1.1, x22.2.1.2.1 ++ ([x22.2.1.1]), x22.2.1.2.2.1, x22.2.1.2.2.2.1, x22.2.1.2.2.2.2.1, x22.2.1.2.2.2.2.2.1, ()), ())
   else none
   else
   some (x22.1, (x22.2.1.1, x22.2.1.2.1, x22.2.1.2.2.1, x22.2.1.2.2.2.1, x22.2.1.2.2.2.2.1, x22.2.1.2.2.2.2.2.1, ()), ())
   ) 18446744073709551616 (({ z16.1 with m := r17.2.1 } : EnvP), (z16.2.2.2.1.1, z16.2.2.2.1.2.1, 0, 0, 0, 0, ()), ())).bind fun z23 =>
   self7 (wi (x5.1 + 1), z23.1, z16.2.1, z16.2.2.1, (wi (z23.2.1.1 + 1), z23.2.1.2.1, z23.2.1.2.2.1, z23.2.1.2.2.2.1, z23.2.1.2.2.2.2.1, z23.2.1.2.2.2.2.2.1, ()), ())
   else
   some (Sum.inl (x5.1, x5.2.1, x5.2.2.1, x5.2.2.2.1, (x5.2.2.2.2.1.1, x5.2.2.2.2.1.2.1, x5.2.2.2.2.1.2.2.1, x5.2.2.2.2.1.2.2.2.1, x5.2.2.2.2.1.2.2.2.2.1, x5.2.2.2.2.1.2.2.2.2.2.1, ()), ()))
  ) 18446744073709551616 (0, r2.1.1, r4.1.1, r3.1.1, (0, [], 0, 0, 0, 0, ()), ())).bind fun z6 => match z6 with
  | .inr o25 => some o25
  | .inl z6 =>
  (clientClientStatus z6.2.2.2.1).bind fun r26 =>
  if r26.1.1 ≠ 4 then
   some ((false, ()), (()))
  else
  (workerWorkerStatus z6.2.2.1).bind fun r27 =>
  if r27.1.1 = 2 then
   some ((false, ()), (()))
  else
  if z6.2.1.l.workers = z6.2.1.l.workers then
   if z6.2.1.l.levels = z6.2.1.l.levels then
   if z6.2.1.l.classes = z6.2.1.l.classes then
   if z6.2.1.l.tasks = z6.2.1.l.tasks then
   if z6.2.1.l.deque = z6.2.1.l.deque then
   if z6.2.1.l.heap = z6.2.1.l.heap then
   if z6.2.1.l.sleepers = z6.2.1.l.sleepers then
   if z6.2.1.l.epochs = z6.2.1.l.epochs then
   if z6.2.1.l.bitmaps = z6.2.1.l.bitmaps then
   if z6.2.1.l.queues = z6.2.1.l.queues then
   if z6.2.1.l.table = z6.2.1.l.table then
   (lpF (σ := Int × MemV × Unit) (β := (Int × MemV × Unit) ⊕ ((Bool × Unit) × (Unit))) (fun self30 x28 =>
   if x28.1 < z6.2.1.c.tasks then
   (pNext z6.2.1.l).bind fun r31 =>
   if r31.1.1 < 0 then
   if (wu (x28.1)) < 0 then
   (pState z6.2.1.l x28.1).bind fun r32 =>
   if r32.1.1 < 0 then
   Option.map Sum.inr (
   some ((false, ()), (()))
   )
   else
   if ((x28.2.1.cells.length : Nat) : Int) ≤ r32.1.1 then
   Option.map Sum.inr (
   some ((false, ()), (()))
   )
   else
   if 0 ≤ r32.1.1 ∧ r32.1.1 < ((x28.2.1.cells.length : Nat) : Int) then
   if (atK0 x28.2.1.cells r32.1.1) ≠ 4 then
   Option.map Sum.inr (
   some ((false, ()), (()))
   )
   else
   self30 (wi (x28.1 + 1), x28.2.1, ())
   else none
   else
   some (Sum.inl (x28.1, x28.2.1, ()))
   else
   if ((x28.2.1.cells.length : Nat) : Int) ≤ r31.1.1 then
   if (wu (x28.1)) < 0 then
   (pState z6.2.1.l x28.1).bind fun r33 =>
   if r33.1.1 < 0 then
   Option.map Sum.inr (
   some ((false, ()), (()))
   )
   else
   if ((x28.2.1.cells.length : Nat) : Int) ≤ r33.1.1 then
   Option.map Sum.inr (
   some ((false, ()), (()))
   )
   else
   if 0 ≤ r33.1.1 ∧ r33.1.1 < ((x28.2.1.cells.length : Nat) : Int) then
   if (atK0 x28.2.1.cells r33.1.1) ≠ 4 then
   Option.map Sum.inr (
   some ((false, ()), (()))
   )
   else
   self30 (wi (x28.1 + 1), x28.2.1, ())
   else none
   else
   some (Sum.inl (x28.1, x28.2.1, ()))
   else
   if 0 ≤ r31.1.1 ∧ r31.1.1 < ((x28.2.1.cells.length : Nat) : Int) then
   if (wu (x28.1)) < (atK0 x28.2.1.cells r31.1.1) then
   (pState z6.2.1.l x28.1).bind fun r34 =>
   if r34.1.1 < 0 then
   Option.map Sum.inr (
   some ((false, ()), (()))
   )
   else
   if ((x28.2.1.cells.length : Nat) : Int) ≤ r34.1.1 then
   Option.map Sum.inr (
   some ((false, ()), (()))
   )
   else
   if 0 ≤ r34.1.1 ∧ r34.1.1 < ((x28.2.1.cells.length : Nat) : Int) then
   if (atK0 x28.2.1.cells r34.1.1) ≠ 4 then
   Option.map Sum.inr (
   some ((false, ()), (()))
   )
   else
   self30 (wi (x28.1 + 1), x28.2.1, ())
   else none
   else
   some (Sum.inl (x28.1, x28.2.1, ()))
   else none
   else
   some (Sum.inl (x28.1, x28.2.1, ()))
   ) 18446744073709551616 (0, z6.2.1.m, ())).bind fun z29 => match z29 with
   | .inr o35 => some o35
   | .inl z29 =>
   (workerWorkerStatus r27.2.1).bind fun r36 =>
   if r36.1.1 ≠ 0 then
   if r36.1.1 ≠ 3 then
   some ((false, ()), (()))
   else
   (clientClientStatus r26.2.1).bind fun r37 =>
   if r37.1.1 = 0 then
   (clientClientStatus r37.2.1).bind fun r38 =>
   if r38.1.1 = 4 then
   some ((decide (z6.2.2.2.2.1.1 = 7), ()), (()))
   else
   some ((false, ()), (()))
   else
   if r37.1.1 = 4 then
   (clientClientStatus r37.2.1).bind fun r39 =>
   if r39.1.1 = 4 then
   some ((decide (z6.2.2.2.2.1.1 = 7), ()), (()))
   else
   some ((false, ()), (()))
   else
   some ((false, ()), (()))
   else
   (clientClientStatus r26.2.1).bind fun r40 =>
   if r40.1.1 = 0 then
   (clientClientStatus r40.2.1).bind fun r41 =>
   if r41.1.1 = 4 then
   some ((decide (z6.2.2.2.2.1.1 = 7), ()), (()))
   else
   some ((false, ()), (()))
   else
   if r40.1.1 = 4 then
   (clientClientStatus r40.2.1).bind fun r42 =>
   if r42.1.1 = 4 then
   some ((decide (z6.2.2.2.2.1.1 = 7), ()), (()))
   else
   some ((false, ()), (()))
   else
   some ((false, ()), (()))
   else none
   else none
   else none
   else none
   else none
   else none
   else none
   else none
   else none
   else none
  else none
 else
 none
noncomputable abbrev worksteallaw28Awake_k : Con SR1 := ⟨42, [], [.sh .b], fun x => worksteallaw28Awake ⟩
noncomputable def worksteallaw28Awake_tb : List (Nat × Func) := [(68, Tryz.f68), (114, Tryz.f114), (92, Tryz.f92), (44, Tryz.f44), (56, Tryz.f56), (105, Tryz.f105), (146, Tryz.f146), (103, Tryz.f103), (29, Tryz.f29), (93, Tryz.f93), (52, Tryz.f52)]
theorem worksteallaw28Awake_ok : CO Tryz.prog worksteallaw28Awake_k := co_fn mixed Tryz.func42 [kconfig_k, machineNew_k, clientNew_k, workerNew_k, workerWorkerStatus_k, workstealkeepPick_k, memoryMemoryCount_k, scriptMachine_k, clientClientStep_k, workerWorkerStep_k, clockClockTick_k, clockClockSet_k, memoryMemoryLast_k, clientClientStatus_k, pNext_k, pState_k] ⟨kconfig_ok, machineNew_ok, clientNew_ok, workerNew_ok, workerWorkerStatus_ok, workstealkeepPick_ok, memoryMemoryCount_ok, scriptMachine_ok, clientClientStep_ok, workerWorkerStep_ok, clockClockTick_ok, clockClockSet_ok, memoryMemoryLast_ok, clientClientStatus_ok, pNext_ok, pState_ok, trivial⟩ worksteallaw28Awake_tb ⟨Tryz.func68, Tryz.func114, Tryz.func92, Tryz.func44, Tryz.func56, Tryz.func105, Tryz.func146, Tryz.func103, Tryz.func29, Tryz.func93, Tryz.func52, trivial⟩ (fun f => (get [(68, [(6, .spl 22 [1] 2)]), (114, [(2, .unroll 2)]), (44, [(9, .cut [.ob 12 27, .ob 26 31, .ob 14 30, .cx 15 [.inr (.ptr 12 0), .inr (.sl 28), .inr (.ptr 14 0), .inr (.sl 54), .inl sI_, .inl (.row 1), .inl sI_, .inl sI_, .inl sU_, .inl sU_]] [9, 10, 60]), (12, .loop [.ob 12 27, .cx 15 [.inr (.ptr 12 0), .inr (.sl 28), .inr (.ptr 14 0), .inr (.sl 54), .inl sI_, .inl (.row 1), .inl sI_, .inl sI_, .inl sU_, .inl sU_]] 18446744073709551616 1)]), (56, [(6, .loopR [.rg 6 sI_, .ob 91 9] 18446744073709551616 0)]), (146, [(2, .unroll 2)]), (93, [(2, .unroll 2)])] f).getD []) [(5, .loopR [.rg 3 sI_, .ob 12 27, .ob 26 31, .ob 14 30, .cx 15 [.inr (.ptr 12 0), .inr (.sl 28), .inr (.ptr 14 0), .inr (.sl 54), .inl sI_, .inl (.row 1), .inl sI_, .inl sI_, .inl sU_, .inl sU_]] 18446744073709551616 0)] fun x => by kernel_rfl
noncomputable def worksteallaw28EngineOnce1 (y0 : List Int) (y1 : List Int) : Option ((Bool × Unit) × (Unit)) :=
 (kshort y0 ([])).bind fun r1 =>
 if (!r1.1.1) = true then
  some ((true, ()), (()))
 else
 if 600 < ((y1.length : Nat) : Int) then
  some ((true, ()), (()))
 else
 (kconfig y0).bind fun r2 =>
 (machineNew r2.1.1).bind fun r3 =>
 if r3.1.2.1 ≠ 0 then
  if r3.1.2.1 ≠ 0 then
   (worksteallaw28Awake).bind fun r4 =>
   if (!r4.1.1) = true then
   some ((false, ()), (()))
   else
   some ((false, ()), (()))
  else
  (worksteallaw28Awake).bind fun r5 =>
  if (!r5.1.1) = true then
   some ((false, ()), (()))
  else
  some ((false, ()), (()))
 else
 (clientNew r2.1.1).bind fun r6 =>
 if r2.1.1.workers = ((1 : Nat) : Int) then
  (workerNew 0).bind fun r7 =>
  (lpF (σ := Int × EnvP × (WorkerV MV) × (ClientV MV) × (Int × List Int × Int × Int × Int × Int × Unit) × Unit) (β := Int × EnvP × (WorkerV MV) × (ClientV MV) × (Int × List Int × Int × Int × Int × Int × Unit) × Unit) (fun self10 x8 =>
   if x8.1 < 0 then
   none
   else
   some (x8.1, x8.2.1, x8.2.2.1, x8.2.2.2.1, (x8.2.2.2.2.1.1, x8.2.2.2.2.1.2.1, x8.2.2.2.2.1.2.2.1, x8.2.2.2.2.1.2.2.2.1, x8.2.2.2.2.1.2.2.2.2.1, x8.2.2.2.2.1.2.2.2.2.2.1, ()), ())
  ) 18446744073709551616 (0, r3.1.1, r7.1.1, r6.1.1, (0, [], 0, 0, 0, 0, ()), ())).bind fun z9 =>
  (worksteallaw28Awake).bind fun r11 =>
  if (!r11.1.1) = true then
   some ((false, ()), (()))
  else
  (kscript y1 300).bind fun r12 =>
  (memoryMemoryCells z9.2.1.m).bind fun r13 =>
  (lpF (σ := List Int × Int × EnvP × (WorkerV MV) × (ClientV MV) × (Int × List Int × Int × Int × Int × Int × Unit) × Unit) (β := (List Int × Int × EnvP × (WorkerV MV) × (ClientV MV) × (Int × List Int × Int × Int × Int × Int × Unit) × Unit) ⊕ ((Bool × Unit) × (Unit))) (fun self16 x14 =>
   if x14.2.1 < ((r12.1.1.length : Nat) : Int) then
   if 0 ≤ x14.2.1 ∧ x14.2.1 < ((r12.1.1.length : Nat) : Int) then
   (memoryMemoryCount x14.2.2.1.m).bind fun r17 =>
   ((
   if ((atK5 r12.1.1 x14.2.1).kind) = 0 then
   (scriptMachine (atK5 r12.1.1 x14.2.1) 2).bind fun r18 =>
   if r18.1.1 = ((1 : Nat) : Int) then
   (clientClientStep x14.2.2.2.2.1 ({ x14.2.2.1 with m := r17.2.1 } : EnvP)).bind fun r19 =>
   some (r19.2.2.1, x14.2.2.2.1, r19.2.1, (x14.2.2.2.2.2.1.1, x14.2.2.2.2.2.1.2.1, x14.2.2.2.2.2.1.2.2.1, x14.2.2.2.2.2.1.2.2.2.1, x14.2.2.2.2.2.1.2.2.2.2.1, x14.2.2.2.2.2.1.2.2.2.2.2.1, ()), ())
   else
   if r18.1.1 = ((0 : Nat) : Int) then
   (workerWorkerStep x14.2.2.2.1 ({ x14.2.2.1 with m := r17.2.1 } : EnvP)).bind fun r20 =>
   some (r20.2.2.1, r20.2.1, x14.2.2.2.2.1, (x14.2.2.2.2.2.1.1, x14.2.2.2.2.2.1.2.1, x14.2.2.2.2.2.1.2.2.1, x14.2.2.2.2.2.1.2.2.2.1, x14.2.2.2.2.2.1.2.2.2.2.1, x14.2.2.2.2.2.1.2.2.2.2.2.1, ()), ())
   else
   none
   else
   if ((atK5 r12.1.1 x14.2.1).kind) = 1 then
   (clockClockTick x14.2.2.1.k).bind fun r21 =>
   some (({ x14.2.2.1 with m := r17.2.1, k := r21.2.1 } : EnvP), x14.2.2.2.1, x14.2.2.2.2.1, (x14.2.2.2.2.2.1.1, x14.2.2.2.2.2.1.2.1, x14.2.2.2.2.2.1.2.2.1, x14.2.2.2.2.2.1.2.2.2.1, x14.2.2.2.2.2.1.2.2.2.2.1, x14.2.2.2.2.2.1.2.2.2.2.2.1, ()), ())
   else
   if ((atK5 r12.1.1 x14.2.1).kind) = 2 then
   (clockClockSet x14.2.2.1.k ((atK5 r12.1.1 x14.2.1).value)).bind fun r22 =>
   some (({ x14.2.2.1 with m := r17.2.1, k := r22.2.1 } : EnvP), x14.2.2.2.1, x14.2.2.2.2.1, (x14.2.2.2.2.2.1.1, x14.2.2.2.2.2.1.2.1, x14.2.2.2.2.2.1.2.2.1, x14.2.2.2.2.2.1.2.2.2.1, x14.2.2.2.2.2.1.2.2.2.2.1, x14.2.2.2.2.2.1.2.2.2.2.2.1, ()), ())
   else
   some (({ x14.2.2.1 with m := r17.2.1 } : EnvP), x14.2.2.2.1, x14.2.2.2.2.1, (x14.2.2.2.2.2.1.1, x14.2.2.2.2.2.1.2.1, x14.2.2.2.2.2.1.2.2.1, x14.2.2.2.2.2.1.2.2.2.1, x14.2.2.2.2.2.1.2.2.2.2.1, x14.2.2.2.2.2.1.2.2.2.2.2.1, ()), ())
   ) : Option (EnvP × (WorkerV MV) × (ClientV MV) × (Int × List Int × Int × Int × Int × Int × Unit) × Unit)).bind fun z23 =>
   (memoryMemoryCount z23.1.m).bind fun r24 =>
   if r17.1.1 < r24.1.1 then
   (memoryMemoryLast r24.2.1).bind fun r25 =>
   (lpF (σ := EnvP × (Int × List Int × Int × Int × Int × Int × Unit) × Unit) (β := EnvP × (Int × List Int × Int × Int × Int × Int × Unit) × Unit) (fun self28 x26 =>
   if ((x26.2.1.2.1.length : Nat) : Int) < ((x26.1.evs.length : Nat) : Int) then
   if (((x26.2.1.2.1.length + ([x26.2.1.1] : List Int).length : Nat)) : Int) < 1000000000000 then
   self28 (x26.1, (x26.2.1.1, x26.2.1.2.1 ++ ([x26.2.1.1]), x26.2.1.2.2.1, x26.2.1.2.2.2.1, x26.2.1.2.2.2.2.1, x26.2.1.2.2.2.2.2.1, ()), ())
   else none
   else
   some (x26.1, (x26.2.1.1, x26.2.1.2.1, x26.2.1.2.2.1, x26.2.1.2.2.2.1, x26.2.1.2.2.2.2.1, x26.2.1.2.2.2.2.2.1, ()), ())
   ) 18446744073709551616 (({ z23.1 with m := r25.2.1 } : EnvP), (z23.2.2.2.1.1, z23.2.2.2.1.2.1, r25.1.1.kind, r25.1.1.cell, r25.1.1.old, r25.1.1.new, ()), ())).bind fun z27 =>
   (memoryMemoryCells z27.1.m).bind fun r29 =>
   if ((r29.1.1.length : Nat) : Int) ≠ ((x14.1.length : Nat) : Int) then
   Option.map Sum.inr (
   some ((false, ()), (()))
   )
   else
   if 0 ≤ x14.2.1 ∧ x14.2.1 < ((r12.1.1.length : Nat) : Int) then
   if ((atK5 r12.1.1 x14.2.1).kind) ≠ 0 then
   if ¬ (z27.2.1.2.2.1 = 0 ∧ z27.2.1.2.2.2.1 = 0 ∧ z27.2.1.2.2.2.2.1 = 0 ∧ z27.2.1.2.2.2.2.2.1 = 0 ∧ True) then
   Option.map Sum.inr (
   some ((false, ()), (()))
   )
   else
   (lpF (σ := List Int × List Int × AccV × Int × Unit) (β := (List Int × List Int × AccV × Int × Unit) ⊕ ((List Int × Int × EnvP × (WorkerV MV) × (ClientV MV) × (Int × List Int × Int × Int × Int × Int × Unit) × Unit) ⊕ ((Bool × Unit) × (Unit)))) (fun self32 x30 =>
   if x30.2.2.2.1 < ((x30.2.1.length : Nat) : Int) then
   if 0 ≤ x30.2.2.2.1 ∧ x30.2.2.2.1 < ((x30.2.1.length : Nat) : Int) then
   if 0 ≤ x30.2.2.2.1 ∧ x30.2.2.2.1 < ((x30.1.length : Nat) : Int) then
   if (atK0 x30.2.1 x30.2.2.2.1) ≠ (atK0 x30.1 x30.2.2.2.1) then
   if x30.2.2.1.kind < 2 then
   Option.map Sum.inr (
   Option.map Sum.inr (
   some ((false, ()), (()))
   )
   )
   else
   if x30.2.2.1.cell ≠ x30.2.2.2.1 then
   Option.map Sum.inr (
   Option.map Sum.inr (
   some ((false, ()), (()))
   )
   )
   else
   if 0 ≤ x30.2.2.2.1 ∧ x30.2.2.2.1 < ((x30.1.length : Nat) : Int) then
   if x30.2.2.1.old ≠ (atK0 x30.1 x30.2.2.2.1) then
   Option.map Sum.inr (
   Option.map Sum.inr (
   some ((false, ()), (()))
   )
   )
   else
   if 0 ≤ x30.2.2.2.1 ∧ x30.2.2.2.1 < ((x30.2.1.length : Nat) : Int) then
   if x30.2.2.1.new ≠ (atK0 x30.2.1 x30.2.2.2.1) then
   Option.map Sum.inr (
   Option.map Sum.inr (
   some ((false, ()), (()))
   )
   )
   else
   self32 (x30.1, x30.2.1, x30.2.2.1, wi (x30.2.2.2.1 + 1), ())
   else none
   else none
   else
   self32 (x30.1, x30.2.1, x30.2.2.1, wi (x30.2.2.2.1 + 1), ())
   else none
   else none
   else
   some (Sum.inl (x30.1, x30.2.1, x30.2.2.1, x30.2.2.2.1, ()))
   ) 18446744073709551616 (x14.1, r29.1.1, (⟨z27.2.1.2.2.1, z27.2.1.2.2.2.1, z27.2.1.2.2.2.2.1, z27.2.1.2.2.2.2.2.1⟩ : AccV), 0, ())).bind fun z31 => match z31 with
   | .inr o33 => some o33
   | .inl z31 =>
   self16 (z31.2.1, wi (x14.2.1 + 1), ({ z27.1 with m := r29.2.1 } : EnvP), z23.2.1, z23.2.2.1, (wi (z27.2.1.1 + 1), z27.2.1.2.1, z27.2.1.2.2.1, z27.2.1.2.2.2.1, z27.2.1.2.2.2.2.1, z27.2.1.2.2.2.2.2.1, ()), ())
   else
   (lpF (σ := List Int × List Int × AccV × Int × Unit) (β := (List Int × List Int × AccV × Int × Unit) ⊕ ((List Int × Int × EnvP × (WorkerV MV) × (ClientV MV) × (Int × List Int × Int × Int × Int × Int × Unit) × Unit) ⊕ ((Bool × Unit) × (Unit)))) (fun self36 x34 =>
   if x34.2.2.2.1 < ((x34.2.1.length : Nat) : Int) then
   if 0 ≤ x34.2.2.2.1 ∧ x34.2.2.2.1 < ((x34.2.1.length : Nat) : Int) then
   if 0 ≤ x34.2.2.2.1 ∧ x34.2.2.2.1 < ((x34.1.length : Nat) : Int) then
   if (atK0 x34.2.1 x34.2.2.2.1) ≠ (atK0 x34.1 x34.2.2.2.1) then
   if x34.2.2.1.kind < 2 then
   Option.map Sum.inr (
   Option.map Sum.inr (
   some ((false, ()), (()))
   )
   )
   else
   if x34.2.2.1.cell ≠ x34.2.2.2.1 then
   Option.map Sum.inr (
   Option.map Sum.inr (
   some ((false, ()), (()))
   )
   )
   else
   if 0 ≤ x34.2.2.2.1 ∧ x34.2.2.2.1 < ((x34.1.length : Nat) : Int) then
   if x34.2.2.1.old ≠ (atK0 x34.1 x34.2.2.2.1) then
   Option.map Sum.inr (
   Option.map Sum.inr (
   some ((false, ()), (()))
   )
   )
   else
   if 0 ≤ x34.2.2.2.1 ∧ x34.2.2.2.1 < ((x34.2.1.length : Nat) : Int) then
   if x34.2.2.1.new ≠ (atK0 x34.2.1 x34.2.2.2.1) then
   Option.map Sum.inr (
   Option.map Sum.inr (
   some ((false, ()), (()))
   )
   )
   else
   self36 (x34.1, x34.2.1, x34.2.2.1, wi (x34.2.2.2.1 + 1), ())
   else none
   else none
   else
   self36 (x34.1, x34.2.1, x34.2.2.1, wi (x34.2.2.2.1 + 1), ())
   else none
   else none
   else
   some (Sum.inl (x34.1, x34.2.1, x34.2.2.1, x34.2.2.2.1, ()))
   ) 18446744073709551616 (x14.1, r29.1.1, (⟨z27.2.1.2.2.1, z27.2.1.2.2.2.1, z27.2.1.2.2.2.2.1, z27.2.1.2.2.2.2.2.1⟩ : AccV), 0, ())).bind fun z35 => match z35 with
   | .inr o37 => some o37
   | .inl z35 =>
   self16 (z35.2.1, wi (x14.2.1 + 1), ({ z27.1 with m := r29.2.1 } : EnvP), z23.2.1, z23.2.2.1, (wi (z27.2.1.1 + 1), z27.2.1.2.1, z27.2.1.2.2.1, z27.2.1.2.2.2.1, z27.2.1.2.2.2.2.1, z27.2.1.2.2.2.2.2.1, ()), ())
   else none
   else
   (lpF (σ := EnvP × (Int × List Int × Int × Int × Int × Int × Unit) × Unit) (β := EnvP × (Int × List Int × Int × Int × Int × Int × Unit) × Unit) (fun self40 x38 =>
   if ((x38.2.1.2.1.length : Nat) : Int) < ((x38.1.evs.length : Nat) : Int) then
   if (((x38.2.1.2.1.length + ([x38.2.1.1] : List Int).length : Nat)) : Int) < 1000000000000 then
   self40 (x38.1, (x38.2.1.1, x38.2.1.2.1 ++ ([x38.2.1.1]), x38.2.1.2.2.1, x38.2.1.2.2.2.1, x38.2.1.2.2.2.2.1, x38.2.1.2.2.2.2.2.1, ()), ())
   else none
   else
   some (x38.1, (x38.2.1.1, x38.2.1.2.1, x38.2.1.2.2.1, x38.2.1.2.2.2.1, x38.2.1.2.2.2.2.1, x38.2.1.2.2.2.2.2.1, ()), ())
   ) 18446744073709551616 (({ z23.1 with m := r24.2.1 } : EnvP), (z23.2.2.2.1.1, z23.2.2.2.1.2.1, 0, 0, 0, 0, ()), ())).bind fun z39 =>
   (memoryMemoryCells z39.1.m).bind fun r41 =>
   if ((r41.1.1.length : Nat) : Int) ≠ ((x14.1.length : Nat) : Int) then
   Option.map Sum.inr (
   some ((false, ()), (()))
   )
   else
   if 0 ≤ x14.2.1 ∧ x14.2.1 < ((r12.1.1.length : Nat) : Int) then
   if ((atK5 r12.1.1 x14.2.1).kind) ≠ 0 then
   if ¬ (z39.2.1.2.2.1 = 0 ∧ z39.2.1.2.2.2.1 = 0 ∧ z39.2.1.2.2.2.2.1 = 0 ∧ z39.2.1.2.2.2.2.2.1 = 0 ∧ True) then
   Option.map Sum.inr (
   some ((false, ()), (()))
   )
   else
   (lpF (σ := List Int × List Int × AccV × Int × Unit) (β := (List Int × List Int × AccV × Int × Unit) ⊕ ((List Int × Int × EnvP × (WorkerV MV) × (ClientV MV) × (Int × List Int × Int × Int × Int × Int × Unit) × Unit) ⊕ ((Bool × Unit) × (Unit)))) (fun self44 x42 =>
   if x42.2.2.2.1 < ((x42.2.1.length : Nat) : Int) then
   if 0 ≤ x42.2.2.2.1 ∧ x42.2.2.2.1 < ((x42.2.1.length : Nat) : Int) then
   if 0 ≤ x42.2.2.2.1 ∧ x42.2.2.2.1 < ((x42.1.length : Nat) : Int) then
   if (atK0 x42.2.1 x42.2.2.2.1) ≠ (atK0 x42.1 x42.2.2.2.1) then
   if x42.2.2.1.kind < 2 then
   Option.map Sum.inr (
   Option.map Sum.inr (
   some ((false, ()), (()))
   )
   )
   else
   if x42.2.2.1.cell ≠ x42.2.2.2.1 then
   Option.map Sum.inr (
   Option.map Sum.inr (
   some ((false, ()), (()))
   )
   )
   else
   if 0 ≤ x42.2.2.2.1 ∧ x42.2.2.2.1 < ((x42.1.length : Nat) : Int) then
   if x42.2.2.1.old ≠ (atK0 x42.1 x42.2.2.2.1) then
   Option.map Sum.inr (
   Option.map Sum.inr (
   some ((false, ()), (()))
   )
   )
   else
   if 0 ≤ x42.2.2.2.1 ∧ x42.2.2.2.1 < ((x42.2.1.length : Nat) : Int) then
   if x42.2.2.1.new ≠ (atK0 x42.2.1 x42.2.2.2.1) then
   Option.map Sum.inr (
   Option.map Sum.inr (
   some ((false, ()), (()))
   )
   )
   else
   self44 (x42.1, x42.2.1, x42.2.2.1, wi (x42.2.2.2.1 + 1), ())
   else none
   else none
   else
   self44 (x42.1, x42.2.1, x42.2.2.1, wi (x42.2.2.2.1 + 1), ())
   else none
   else none
   else
   some (Sum.inl (x42.1, x42.2.1, x42.2.2.1, x42.2.2.2.1, ()))
   ) 18446744073709551616 (x14.1, r41.1.1, (⟨z39.2.1.2.2.1, z39.2.1.2.2.2.1, z39.2.1.2.2.2.2.1, z39.2.1.2.2.2.2.2.1⟩ : AccV), 0, ())).bind fun z43 => match z43 with
   | .inr o45 => some o45
   | .inl z43 =>
   self16 (z43.2.1, wi (x14.2.1 + 1), ({ z39.1 with m := r41.2.1 } : EnvP), z23.2.1, z23.2.2.1, (wi (z39.2.1.1 + 1), z39.2.1.2.1, z39.2.1.2.2.1, z39.2.1.2.2.2.1, z39.2.1.2.2.2.2.1, z39.2.1.2.2.2.2.2.1, ()), ())
   else
   (lpF (σ := List Int × List Int × AccV × Int × Unit) (β := (List Int × List Int × AccV × Int × Unit) ⊕ ((List Int × Int × EnvP × (WorkerV MV) × (ClientV MV) × (Int × List Int × Int × Int × Int × Int × Unit) × Unit) ⊕ ((Bool × Unit) × (Unit)))) (fun self48 x46 =>
   if x46.2.2.2.1 < ((x46.2.1.length : Nat) : Int) then
   if 0 ≤ x46.2.2.2.1 ∧ x46.2.2.2.1 < ((x46.2.1.length : Nat) : Int) then
   if 0 ≤ x46.2.2.2.1 ∧ x46.2.2.2.1 < ((x46.1.length : Nat) : Int) then
   if (atK0 x46.2.1 x46.2.2.2.1) ≠ (atK0 x46.1 x46.2.2.2.1) then
   if x46.2.2.1.kind < 2 then
   Option.map Sum.inr (
   Option.map Sum.inr (
   some ((false, ()), (()))
   )
   )
   else
   if x46.2.2.1.cell ≠ x46.2.2.2.1 then
   Option.map Sum.inr (
   Option.map Sum.inr (
   some ((false, ()), (()))
   )
   )
   else
   if 0 ≤ x46.2.2.2.1 ∧ x46.2.2.2.1 < ((x46.1.length : Nat) : Int) then
   if x46.2.2.1.old ≠ (atK0 x46.1 x46.2.2.2.1) then
   Option.map Sum.inr (
   Option.map Sum.inr (
   some ((false, ()), (()))
   )
   )
   else
   if 0 ≤ x46.2.2.2.1 ∧ x46.2.2.2.1 < ((x46.2.1.length : Nat) : Int) then
   if x46.2.2.1.new ≠ (atK0 x46.2.1 x46.2.2.2.1) then
   Option.map Sum.inr (
   Option.map Sum.inr (
   some ((false, ()), (()))
   )
   )
   else
   self48 (x46.1, x46.2.1, x46.2.2.1, wi (x46.2.2.2.1 + 1), ())
   else none
   else none
   else
   self48 (x46.1, x46.2.1, x46.2.2.1, wi (x46.2.2.2.1 + 1), ())
   else none
   else none
   else
   some (Sum.inl (x46.1, x46.2.1, x46.2.2.1, x46.2.2.2.1, ()))
   ) 18446744073709551616 (x14.1, r41.1.1, (⟨z39.2.1.2.2.1, z39.2.1.2.2.2.1, z39.2.1.2.2.2.2.1, z39.2.1.2.2.2.2.2.1⟩ : AccV), 0, ())).bind fun z47 => match z47 with
   | .inr o49 => some o49
   | .inl z47 =>
   self16 (z47.2.1, wi (x14.2.1 + 1), ({ z39.1 with m := r41.2.1 } : EnvP), z23.2.1, z23.2.2.1, (wi (z39.2.1.1 + 1), z39.2.1.2.1, z39.2.1.2.2.1, z39.2.1.2.2.2.1, z39.2.1.2.2.2.2.1, z39.2.1.2.2.2.2.2.1, ()), ())
   else none
   else none
   else
   some (Sum.inl (x14.1, x14.2.1, x14.2.2.1, x14.2.2.2.1, x14.2.2.2.2.1, (x14.2.2.2.2.2.1.1, x14.2.2.2.2.2.1.2.1, x14.2.2.2.2.2.1.2.2.1, x14.2.2.2.2.2.1.2.2.2.1, x14.2.2.2.2.2.1.2.2.2.2.1, x14.2.2.2.2.2.1.2.2.2.2.2.1, ()), ()))
  ) 18446744073709551616 (r13.1.1, 0, ({ z9.2.1 with m := r13.2.1 } : EnvP), z9.2.2.1, z9.2.2.2.1, (z9.2.2.2.2.1.1, z9.2.2.2.2.1.2.1, z9.2.2.2.2.1.2.2.1, z9.2.2.2.2.1.2.2.2.1, z9.2.2.2.2.1.2.2.2.2.1, z9.2.2.2.2.1.2.2.2.2.2.1, ()), ())).bind fun z15 => match z15 with
  | .inr o50 => some o50
  | .inl z15 =>
  some ((true, ()), (()))
 else
 none
noncomputable abbrev worksteallaw28EngineOnce1_k : Con SR1 := ⟨8, [.sh (.ro 17), .sh (.ro 17)], [.sh .b], fun x => worksteallaw28EngineOnce1 x.1 x.2.1⟩
noncomputable def worksteallaw28EngineOnce1_tb : List (Nat × Func) := [(21, Tryz.f21), (68, Tryz.f68), (114, Tryz.f114), (47, Tryz.f47), (25, Tryz.f25), (44, Tryz.f44), (45, Tryz.f45)]
theorem worksteallaw28EngineOnce1_ok : CO Tryz.prog worksteallaw28EngineOnce1_k := co_fn mixed Tryz.func8 [kshort_k, kconfig_k, machineNew_k, worksteallaw28Awake_k, clientNew_k, workerNew_k, kscript_k, memoryMemoryCells_k, memoryMemoryCount_k, scriptMachine_k, clientClientStep_k, workerWorkerStep_k, clockClockTick_k, clockClockSet_k, memoryMemoryLast_k] ⟨kshort_ok, kconfig_ok, machineNew_ok, worksteallaw28Awake_ok, clientNew_ok, workerNew_ok, kscript_ok, memoryMemoryCells_ok, memoryMemoryCount_ok, scriptMachine_ok, clientClientStep_ok, workerWorkerStep_ok, clockClockTick_ok, clockClockSet_ok, memoryMemoryLast_ok, trivial⟩ worksteallaw28EngineOnce1_tb ⟨Tryz.func21, Tryz.func68, Tryz.func114, Tryz.func47, Tryz.func25, Tryz.func44, Tryz.func45, trivial⟩ (fun f => (get [(68, [(6, .spl 22 [1] 2)]), (114, [(2, .unroll 2)]), (47, [(1, .loop [.rg 8 sI_, .ob 16 27, .ob 30 31, .ob 18 30, .cx 19 [.inr (.ptr 16 0), .inr (.sl 32), .inr (.ptr 18 0), .inr (.sl 58), .inl sI_, .inl (.row 1), .inl sI_, .inl sI_, .inl sU_, .inl sU_]] 18446744073709551616 0)]), (44, [(9, .cut [.ob 16 27, .ob 30 31, .ob 18 30, .cx 19 [.inr (.ptr 16 0), .inr (.sl 32), .inr (.ptr 18 0), .inr (.sl 58), .inl sI_, .inl (.row 1), .inl sI_, .inl sI_, .inl sU_, .inl sU_]] [0, 1, 12, 13, 65, 67, 68]), (12, .loop [.ob 16 27, .cx 19 [.inr (.ptr 16 0), .inr (.sl 32), .inr (.ptr 18 0), .inr (.sl 58), .inl sI_, .inl (.row 1), .inl sI_, .inl sI_, .inl sU_, .inl sU_]] 18446744073709551616 1)])] f).getD []) [(9, .loopR [.rg 7 (.row 0), .rg 8 sI_, .ob 16 27, .ob 30 31, .ob 18 30, .cx 19 [.inr (.ptr 16 0), .inr (.sl 32), .inr (.ptr 18 0), .inr (.sl 58), .inl sI_, .inl (.row 1), .inl sI_, .inl sI_, .inl sU_, .inl sU_]] 18446744073709551616 0), (16, .loopR [.rg 7 (.row 0), .rg 9 (.row 0), .ob 1000010 60, .rg 11 sI_] 18446744073709551616 2)] fun x => by kernel_rfl
noncomputable def worksteallaw28EngineOnce2 (y0 : List Int) (y1 : List Int) : Option ((Bool × Unit) × (Unit)) :=
 (kshort y0 ([])).bind fun r1 =>
 if (!r1.1.1) = true then
  some ((true, ()), (()))
 else
 if 600 < ((y1.length : Nat) : Int) then
  some ((true, ()), (()))
 else
 (kconfig y0).bind fun r2 =>
 (machineNew r2.1.1).bind fun r3 =>
 if r3.1.2.1 ≠ 0 then
  if r3.1.2.1 ≠ 0 then
   (worksteallaw28Awake).bind fun r4 =>
   if (!r4.1.1) = true then
   some ((false, ()), (()))
   else
   some ((false, ()), (()))
  else
  (worksteallaw28Awake).bind fun r5 =>
  if (!r5.1.1) = true then
   some ((false, ()), (()))
  else
  some ((false, ()), (()))
 else
 (clientNew r2.1.1).bind fun r6 =>
 if r2.1.1.workers = ((2 : Nat) : Int) then
  (workerNew 0).bind fun r7 =>
  (workerNew 1).bind fun r8 =>
  (lpF (σ := Int × EnvP × (WorkerV MV) × (WorkerV MV) × (ClientV MV) × (Int × List Int × Int × Int × Int × Int × Unit) × Unit) (β := Int × EnvP × (WorkerV MV) × (WorkerV MV) × (ClientV MV) × (Int × List Int × Int × Int × Int × Int × Unit) × Unit) (fun self11 x9 =>
   if x9.1 < 0 then
   none
   else
   some (x9.1, x9.2.1, x9.2.2.1, x9.2.2.2.1, x9.2.2.2.2.1, (x9.2.2.2.2.2.1.1, x9.2.2.2.2.2.1.2.1, x9.2.2.2.2.2.1.2.2.1, x9.2.2.2.2.2.1.2.2.2.1, x9.2.2.2.2.2.1.2.2.2.2.1, x9.2.2.2.2.2.1.2.2.2.2.2.1, ()), ())
  ) 18446744073709551616 (0, r3.1.1, r7.1.1, r8.1.1, r6.1.1, (0, [], 0, 0, 0, 0, ()), ())).bind fun z10 =>
  (worksteallaw28Awake).bind fun r12 =>
  if (!r12.1.1) = true then
   some ((false, ()), (()))
  else
  (kscript y1 300).bind fun r13 =>
  (memoryMemoryCells z10.2.1.m).bind fun r14 =>
  (lpF (σ := List Int × Int × EnvP × (WorkerV MV) × (WorkerV MV) × (ClientV MV) × (Int × List Int × Int × Int × Int × Int × Unit) × Unit) (β := (List Int × Int × EnvP × (WorkerV MV) × (WorkerV MV) × (ClientV MV) × (Int × List Int × Int × Int × Int × Int × Unit) × Unit) ⊕ ((Bool × Unit) × (Unit))) (fun self17 x15 =>
   if x15.2.1 < ((r13.1.1.length : Nat) : Int) then
   if 0 ≤ x15.2.1 ∧ x15.2.1 < ((r13.1.1.length : Nat) : Int) then
   (memoryMemoryCount x15.2.2.1.m).bind fun r18 =>
   ((
   if ((atK5 r13.1.1 x15.2.1).kind) = 0 then
   (scriptMachine (atK5 r13.1.1 x15.2.1) 3).bind fun r19 =>
   if r19.1.1 = ((2 : Nat) : Int) then
   (clientClientStep x15.2.2.2.2.2.1 ({ x15.2.2.1 with m := r18.2.1 } : EnvP)).bind fun r20 =>
   some (r20.2.2.1, x15.2.2.2.1, x15.2.2.2.2.1, r20.2.1, (x15.2.2.2.2.2.2.1.1, x15.2.2.2.2.2.2.1.2.1, x15.2.2.2.2.2.2.1.2.2.1, x15.2.2.2.2.2.2.1.2.2.2.1, x15.2.2.2.2.2.2.1.2.2.2.2.1, x15.2.2.2.2.2.2.1.2.2.2.2.2.1, ()), ())
   else
   if r19.1.1 = ((1 : Nat) : Int) then
   (workerWorkerStep x15.2.2.2.2.1 ({ x15.2.2.1 with m := r18.2.1 } : EnvP)).bind fun r21 =>
   some (r21.2.2.1, x15.2.2.2.1, r21.2.1, x15.2.2.2.2.2.1, (x15.2.2.2.2.2.2.1.1, x15.2.2.2.2.2.2.1.2.1, x15.2.2.2.2.2.2.1.2.2.1, x15.2.2.2.2.2.2.1.2.2.2.1, x15.2.2.2.2.2.2.1.2.2.2.2.1, x15.2.2.2.2.2.2.1.2.2.2.2.2.1, ()), ())
   else
   if r19.1.1 = ((0 : Nat) : Int) then
   (workerWorkerStep x15.2.2.2.1 ({ x15.2.2.1 with m := r18.2.1 } : EnvP)).bind fun r22 =>
   some (r22.2.2.1, r22.2.1, x15.2.2.2.2.1, x15.2.2.2.2.2.1, (x15.2.2.2.2.2.2.1.1, x15.2.2.2.2.2.2.1.2.1, x15.2.2.2.2.2.2.1.2.2.1, x15.2.2.2.2.2.2.1.2.2.2.1, x15.2.2.2.2.2.2.1.2.2.2.2.1, x15.2.2.2.2.2.2.1.2.2.2.2.2.1, ()), ())
   else
   none
   else
   if ((atK5 r13.1.1 x15.2.1).kind) = 1 then
   (clockClockTick x15.2.2.1.k).bind fun r23 =>
   some (({ x15.2.2.1 with m := r18.2.1, k := r23.2.1 } : EnvP), x15.2.2.2.1, x15.2.2.2.2.1, x15.2.2.2.2.2.1, (x15.2.2.2.2.2.2.1.1, x15.2.2.2.2.2.2.1.2.1, x15.2.2.2.2.2.2.1.2.2.1, x15.2.2.2.2.2.2.1.2.2.2.1, x15.2.2.2.2.2.2.1.2.2.2.2.1, x15.2.2.2.2.2.2.1.2.2.2.2.2.1, ()), ())
   else
   if ((atK5 r13.1.1 x15.2.1).kind) = 2 then
   (clockClockSet x15.2.2.1.k ((atK5 r13.1.1 x15.2.1).value)).bind fun r24 =>
   some (({ x15.2.2.1 with m := r18.2.1, k := r24.2.1 } : EnvP), x15.2.2.2.1, x15.2.2.2.2.1, x15.2.2.2.2.2.1, (x15.2.2.2.2.2.2.1.1, x15.2.2.2.2.2.2.1.2.1, x15.2.2.2.2.2.2.1.2.2.1, x15.2.2.2.2.2.2.1.2.2.2.1, x15.2.2.2.2.2.2.1.2.2.2.2.1, x15.2.2.2.2.2.2.1.2.2.2.2.2.1, ()), ())
   else
   some (({ x15.2.2.1 with m := r18.2.1 } : EnvP), x15.2.2.2.1, x15.2.2.2.2.1, x15.2.2.2.2.2.1, (x15.2.2.2.2.2.2.1.1, x15.2.2.2.2.2.2.1.2.1, x15.2.2.2.2.2.2.1.2.2.1, x15.2.2.2.2.2.2.1.2.2.2.1, x15.2.2.2.2.2.2.1.2.2.2.2.1, x15.2.2.2.2.2.2.1.2.2.2.2.2.1, ()), ())
   ) : Option (EnvP × (WorkerV MV) × (WorkerV MV) × (ClientV MV) × (Int × List Int × Int × Int × Int × Int × Unit) × Unit)).bind fun z25 =>
   (memoryMemoryCount z25.1.m).bind fun r26 =>
   if r18.1.1 < r26.1.1 then
   (memoryMemoryLast r26.2.1).bind fun r27 =>
   (lpF (σ := EnvP × (Int × List Int × Int × Int × Int × Int × Unit) × Unit) (β := EnvP × (Int × List Int × Int × Int × Int × Int × Unit) × Unit) (fun self30 x28 =>
   if ((x28.2.1.2.1.length : Nat) : Int) < ((x28.1.evs.length : Nat) : Int) then
   if (((x28.2.1.2.1.length + ([x28.2.1.1] : List Int).length : Nat)) : Int) < 1000000000000 then
   self30 (x28.1, (x28.2.1.1, x28.2.1.2.1 ++ ([x28.2.1.1]), x28.2.1.2.2.1, x28.2.1.2.2.2.1, x28.2.1.2.2.2.2.1, x28.2.1.2.2.2.2.2.1, ()), ())
   else none
   else
   some (x28.1, (x28.2.1.1, x28.2.1.2.1, x28.2.1.2.2.1, x28.2.1.2.2.2.1, x28.2.1.2.2.2.2.1, x28.2.1.2.2.2.2.2.1, ()), ())
   ) 18446744073709551616 (({ z25.1 with m := r27.2.1 } : EnvP), (z25.2.2.2.2.1.1, z25.2.2.2.2.1.2.1, r27.1.1.kind, r27.1.1.cell, r27.1.1.old, r27.1.1.new, ()), ())).bind fun z29 =>
   (memoryMemoryCells z29.1.m).bind fun r31 =>
   if ((r31.1.1.length : Nat) : Int) ≠ ((x15.1.length : Nat) : Int) then
   Option.map Sum.inr (
   some ((false, ()), (()))
   )
   else
   if 0 ≤ x15.2.1 ∧ x15.2.1 < ((r13.1.1.length : Nat) : Int) then
   if ((atK5 r13.1.1 x15.2.1).kind) ≠ 0 then
   if ¬ (z29.2.1.2.2.1 = 0 ∧ z29.2.1.2.2.2.1 = 0 ∧ z29.2.1.2.2.2.2.1 = 0 ∧ z29.2.1.2.2.2.2.2.1 = 0 ∧ True) then
   Option.map Sum.inr (
   some ((false, ()), (()))
   )
   else
   (lpF (σ := List Int × List Int × AccV × Int × Unit) (β := (List Int × List Int × AccV × Int × Unit) ⊕ ((List Int × Int × EnvP × (WorkerV MV) × (WorkerV MV) × (ClientV MV) × (Int × List Int × Int × Int × Int × Int × Unit) × Unit) ⊕ ((Bool × Unit) × (Unit)))) (fun self34 x32 =>
   if x32.2.2.2.1 < ((x32.2.1.length : Nat) : Int) then
   if 0 ≤ x32.2.2.2.1 ∧ x32.2.2.2.1 < ((x32.2.1.length : Nat) : Int) then
   if 0 ≤ x32.2.2.2.1 ∧ x32.2.2.2.1 < ((x32.1.length : Nat) : Int) then
   if (atK0 x32.2.1 x32.2.2.2.1) ≠ (atK0 x32.1 x32.2.2.2.1) then
   if x32.2.2.1.kind < 2 then
   Option.map Sum.inr (
   Option.map Sum.inr (
   some ((false, ()), (()))
   )
   )
   else
   if x32.2.2.1.cell ≠ x32.2.2.2.1 then
   Option.map Sum.inr (
   Option.map Sum.inr (
   some ((false, ()), (()))
   )
   )
   else
   if 0 ≤ x32.2.2.2.1 ∧ x32.2.2.2.1 < ((x32.1.length : Nat) : Int) then
   if x32.2.2.1.old ≠ (atK0 x32.1 x32.2.2.2.1) then
   Option.map Sum.inr (
   Option.map Sum.inr (
   some ((false, ()), (()))
   )
   )
   else
   if 0 ≤ x32.2.2.2.1 ∧ x32.2.2.2.1 < ((x32.2.1.length : Nat) : Int) then
   if x32.2.2.1.new ≠ (atK0 x32.2.1 x32.2.2.2.1) then
   Option.map Sum.inr (
   Option.map Sum.inr (
   some ((false, ()), (()))
   )
   )
   else
   self34 (x32.1, x32.2.1, x32.2.2.1, wi (x32.2.2.2.1 + 1), ())
   else none
   else none
   else
   self34 (x32.1, x32.2.1, x32.2.2.1, wi (x32.2.2.2.1 + 1), ())
   else none
   else none
   else
   some (Sum.inl (x32.1, x32.2.1, x32.2.2.1, x32.2.2.2.1, ()))
   ) 18446744073709551616 (x15.1, r31.1.1, (⟨z29.2.1.2.2.1, z29.2.1.2.2.2.1, z29.2.1.2.2.2.2.1, z29.2.1.2.2.2.2.2.1⟩ : AccV), 0, ())).bind fun z33 => match z33 with
   | .inr o35 => some o35
   | .inl z33 =>
   self17 (z33.2.1, wi (x15.2.1 + 1), ({ z29.1 with m := r31.2.1 } : EnvP), z25.2.1, z25.2.2.1, z25.2.2.2.1, (wi (z29.2.1.1 + 1), z29.2.1.2.1, z29.2.1.2.2.1, z29.2.1.2.2.2.1, z29.2.1.2.2.2.2.1, z29.2.1.2.2.2.2.2.1, ()), ())
   else
   (lpF (σ := List Int × List Int × AccV × Int × Unit) (β := (List Int × List Int × AccV × Int × Unit) ⊕ ((List Int × Int × EnvP × (WorkerV MV) × (WorkerV MV) × (ClientV MV) × (Int × List Int × Int × Int × Int × Int × Unit) × Unit) ⊕ ((Bool × Unit) × (Unit)))) (fun self38 x36 =>
   if x36.2.2.2.1 < ((x36.2.1.length : Nat) : Int) then
   if 0 ≤ x36.2.2.2.1 ∧ x36.2.2.2.1 < ((x36.2.1.length : Nat) : Int) then
   if 0 ≤ x36.2.2.2.1 ∧ x36.2.2.2.1 < ((x36.1.length : Nat) : Int) then
   if (atK0 x36.2.1 x36.2.2.2.1) ≠ (atK0 x36.1 x36.2.2.2.1) then
   if x36.2.2.1.kind < 2 then
   Option.map Sum.inr (
   Option.map Sum.inr (
   some ((false, ()), (()))
   )
   )
   else
   if x36.2.2.1.cell ≠ x36.2.2.2.1 then
   Option.map Sum.inr (
   Option.map Sum.inr (
   some ((false, ()), (()))
   )
   )
   else
   if 0 ≤ x36.2.2.2.1 ∧ x36.2.2.2.1 < ((x36.1.length : Nat) : Int) then
   if x36.2.2.1.old ≠ (atK0 x36.1 x36.2.2.2.1) then
   Option.map Sum.inr (
   Option.map Sum.inr (
   some ((false, ()), (()))
   )
   )
   else
   if 0 ≤ x36.2.2.2.1 ∧ x36.2.2.2.1 < ((x36.2.1.length : Nat) : Int) then
   if x36.2.2.1.new ≠ (atK0 x36.2.1 x36.2.2.2.1) then
   Option.map Sum.inr (
   Option.map Sum.inr (
   some ((false, ()), (()))
   )
   )
   else
   self38 (x36.1, x36.2.1, x36.2.2.1, wi (x36.2.2.2.1 + 1), ())
   else none
   else none
   else
   self38 (x36.1, x36.2.1, x36.2.2.1, wi (x36.2.2.2.1 + 1), ())
   else none
   else none
   else
   some (Sum.inl (x36.1, x36.2.1, x36.2.2.1, x36.2.2.2.1, ()))
   ) 18446744073709551616 (x15.1, r31.1.1, (⟨z29.2.1.2.2.1, z29.2.1.2.2.2.1, z29.2.1.2.2.2.2.1, z29.2.1.2.2.2.2.2.1⟩ : AccV), 0, ())).bind fun z37 => match z37 with
   | .inr o39 => some o39
   | .inl z37 =>
   self17 (z37.2.1, wi (x15.2.1 + 1), ({ z29.1 with m := r31.2.1 } : EnvP), z25.2.1, z25.2.2.1, z25.2.2.2.1, (wi (z29.2.1.1 + 1), z29.2.1.2.1, z29.2.1.2.2.1, z29.2.1.2.2.2.1, z29.2.1.2.2.2.2.1, z29.2.1.2.2.2.2.2.1, ()), ())
   else none
   else
   (lpF (σ := EnvP × (Int × List Int × Int × Int × Int × Int × Unit) × Unit) (β := EnvP × (Int × List Int × Int × Int × Int × Int × Unit) × Unit) (fun self42 x40 =>
   if ((x40.2.1.2.1.length : Nat) : Int) < ((x40.1.evs.length : Nat) : Int) then
   if (((x40.2.1.2.1.length + ([x40.2.1.1] : List Int).length : Nat)) : Int) < 1000000000000 then
   self42 (x40.1, (x40.2.1.1, x40.2.1.2.1 ++ ([x40.2.1.1]), x40.2.1.2.2.1, x40.2.1.2.2.2.1, x40.2.1.2.2.2.2.1, x40.2.1.2.2.2.2.2.1, ()), ())
   else none
   else
   some (x40.1, (x40.2.1.1, x40.2.1.2.1, x40.2.1.2.2.1, x40.2.1.2.2.2.1, x40.2.1.2.2.2.2.1, x40.2.1.2.2.2.2.2.1, ()), ())
   ) 18446744073709551616 (({ z25.1 with m := r26.2.1 } : EnvP), (z25.2.2.2.2.1.1, z25.2.2.2.2.1.2.1, 0, 0, 0, 0, ()), ())).bind fun z41 =>
   (memoryMemoryCells z41.1.m).bind fun r43 =>
   if ((r43.1.1.length : Nat) : Int) ≠ ((x15.1.length : Nat) : Int) then
   Option.map Sum.inr (
   some ((false, ()), (()))
   )
   else
   if 0 ≤ x15.2.1 ∧ x15.2.1 < ((r13.1.1.length : Nat) : Int) then
   if ((atK5 r13.1.1 x15.2.1).kind) ≠ 0 then
   if ¬ (z41.2.1.2.2.1 = 0 ∧ z41.2.1.2.2.2.1 = 0 ∧ z41.2.1.2.2.2.2.1 = 0 ∧ z41.2.1.2.2.2.2.2.1 = 0 ∧ True) then
   Option.map Sum.inr (
   some ((false, ()), (()))
   )
   else
   (lpF (σ := List Int × List Int × AccV × Int × Unit) (β := (List Int × List Int × AccV × Int × Unit) ⊕ ((List Int × Int × EnvP × (WorkerV MV) × (WorkerV MV) × (ClientV MV) × (Int × List Int × Int × Int × Int × Int × Unit) × Unit) ⊕ ((Bool × Unit) × (Unit)))) (fun self46 x44 =>
   if x44.2.2.2.1 < ((x44.2.1.length : Nat) : Int) then
   if 0 ≤ x44.2.2.2.1 ∧ x44.2.2.2.1 < ((x44.2.1.length : Nat) : Int) then
   if 0 ≤ x44.2.2.2.1 ∧ x44.2.2.2.1 < ((x44.1.length : Nat) : Int) then
   if (atK0 x44.2.1 x44.2.2.2.1) ≠ (atK0 x44.1 x44.2.2.2.1) then
   if x44.2.2.1.kind < 2 then
   Option.map Sum.inr (
   Option.map Sum.inr (
   some ((false, ()), (()))
   )
   )
   else
   if x44.2.2.1.cell ≠ x44.2.2.2.1 then
   Option.map Sum.inr (
   Option.map Sum.inr (
   some ((false, ()), (()))
   )
   )
   else
   if 0 ≤ x44.2.2.2.1 ∧ x44.2.2.2.1 < ((x44.1.length : Nat) : Int) then
   if x44.2.2.1.old ≠ (atK0 x44.1 x44.2.2.2.1) then
   Option.map Sum.inr (
   Option.map Sum.inr (
   some ((false, ()), (()))
   )
   )
   else
   if 0 ≤ x44.2.2.2.1 ∧ x44.2.2.2.1 < ((x44.2.1.length : Nat) : Int) then
   if x44.2.2.1.new ≠ (atK0 x44.2.1 x44.2.2.2.1) then
   Option.map Sum.inr (
   Option.map Sum.inr (
   some ((false, ()), (()))
   )
   )
   else
   self46 (x44.1, x44.2.1, x44.2.2.1, wi (x44.2.2.2.1 + 1), ())
   else none
   else none
   else
   self46 (x44.1, x44.2.1, x44.2.2.1, wi (x44.2.2.2.1 + 1), ())
   else none
   else none
   else
   some (Sum.inl (x44.1, x44.2.1, x44.2.2.1, x44.2.2.2.1, ()))
   ) 18446744073709551616 (x15.1, r43.1.1, (⟨z41.2.1.2.2.1, z41.2.1.2.2.2.1, z41.2.1.2.2.2.2.1, z41.2.1.2.2.2.2.2.1⟩ : AccV), 0, ())).bind fun z45 => match z45 with
   | .inr o47 => some o47
   | .inl z45 =>
   self17 (z45.2.1, wi (x15.2.1 + 1), ({ z41.1 with m := r43.2.1 } : EnvP), z25.2.1, z25.2.2.1, z25.2.2.2.1, (wi (z41.2.1.1 + 1), z41.2.1.2.1, z41.2.1.2.2.1, z41.2.1.2.2.2.1, z41.2.1.2.2.2.2.1, z41.2.1.2.2.2.2.2.1, ()), ())
   else
   (lpF (σ := List Int × List Int × AccV × Int × Unit) (β := (List Int × List Int × AccV × Int × Unit) ⊕ ((List Int × Int × EnvP × (WorkerV MV) × (WorkerV MV) × (ClientV MV) × (Int × List Int × Int × Int × Int × Int × Unit) × Unit) ⊕ ((Bool × Unit) × (Unit)))) (fun self50 x48 =>
   if x48.2.2.2.1 < ((x48.2.1.length : Nat) : Int) then
   if 0 ≤ x48.2.2.2.1 ∧ x48.2.2.2.1 < ((x48.2.1.length : Nat) : Int) then
   if 0 ≤ x48.2.2.2.1 ∧ x48.2.2.2.1 < ((x48.1.length : Nat) : Int) then
   if (atK0 x48.2.1 x48.2.2.2.1) ≠ (atK0 x48.1 x48.2.2.2.1) then
   if x48.2.2.1.kind < 2 then
   Option.map Sum.inr (
   Option.map Sum.inr (
   some ((false, ()), (()))
   )
   )
   else
   if x48.2.2.1.cell ≠ x48.2.2.2.1 then
   Option.map Sum.inr (
   Option.map Sum.inr (
   some ((false, ()), (()))
   )
   )
   else
   if 0 ≤ x48.2.2.2.1 ∧ x48.2.2.2.1 < ((x48.1.length : Nat) : Int) then
   if x48.2.2.1.old ≠ (atK0 x48.1 x48.2.2.2.1) then
   Option.map Sum.inr (
   Option.map Sum.inr (
   some ((false, ()), (()))
   )
   )
   else
   if 0 ≤ x48.2.2.2.1 ∧ x48.2.2.2.1 < ((x48.2.1.length : Nat) : Int) then
   if x48.2.2.1.new ≠ (atK0 x48.2.1 x48.2.2.2.1) then
   Option.map Sum.inr (
   Option.map Sum.inr (
   some ((false, ()), (()))
   )
   )
   else
   self50 (x48.1, x48.2.1, x48.2.2.1, wi (x48.2.2.2.1 + 1), ())
   else none
   else none
   else
   self50 (x48.1, x48.2.1, x48.2.2.1, wi (x48.2.2.2.1 + 1), ())
   else none
   else none
   else
   some (Sum.inl (x48.1, x48.2.1, x48.2.2.1, x48.2.2.2.1, ()))
   ) 18446744073709551616 (x15.1, r43.1.1, (⟨z41.2.1.2.2.1, z41.2.1.2.2.2.1, z41.2.1.2.2.2.2.1, z41.2.1.2.2.2.2.2.1⟩ : AccV), 0, ())).bind fun z49 => match z49 with
   | .inr o51 => some o51
   | .inl z49 =>
   self17 (z49.2.1, wi (x15.2.1 + 1), ({ z41.1 with m := r43.2.1 } : EnvP), z25.2.1, z25.2.2.1, z25.2.2.2.1, (wi (z41.2.1.1 + 1), z41.2.1.2.1, z41.2.1.2.2.1, z41.2.1.2.2.2.1, z41.2.1.2.2.2.2.1, z41.2.1.2.2.2.2.2.1, ()), ())
   else none
   else none
   else
   some (Sum.inl (x15.1, x15.2.1, x15.2.2.1, x15.2.2.2.1, x15.2.2.2.2.1, x15.2.2.2.2.2.1, (x15.2.2.2.2.2.2.1.1, x15.2.2.2.2.2.2.1.2.1, x15.2.2.2.2.2.2.1.2.2.1, x15.2.2.2.2.2.2.1.2.2.2.1, x15.2.2.2.2.2.2.1.2.2.2.2.1, x15.2.2.2.2.2.2.1.2.2.2.2.2.1, ()), ()))
  ) 18446744073709551616 (r14.1.1, 0, ({ z10.2.1 with m := r14.2.1 } : EnvP), z10.2.2.1, z10.2.2.2.1, z10.2.2.2.2.1, (z10.2.2.2.2.2.1.1, z10.2.2.2.2.2.1.2.1, z10.2.2.2.2.2.1.2.2.1, z10.2.2.2.2.2.1.2.2.2.1, z10.2.2.2.2.2.1.2.2.2.2.1, z10.2.2.2.2.2.1.2.2.2.2.2.1, ()), ())).bind fun z16 => match z16 with
  | .inr o52 => some o52
  | .inl z16 =>
  some ((true, ()), (()))
 else
 none
noncomputable abbrev worksteallaw28EngineOnce2_k : Con SR1 := ⟨8, [.sh (.ro 17), .sh (.ro 17)], [.sh .b], fun x => worksteallaw28EngineOnce2 x.1 x.2.1⟩
noncomputable def worksteallaw28EngineOnce2_tb : List (Nat × Func) := [(21, Tryz.f21), (68, Tryz.f68), (114, Tryz.f114), (47, Tryz.f47), (25, Tryz.f25), (44, Tryz.f44), (45, Tryz.f45)]
theorem worksteallaw28EngineOnce2_ok : CO Tryz.prog worksteallaw28EngineOnce2_k := co_fn mixed Tryz.func8 [kshort_k, kconfig_k, machineNew_k, worksteallaw28Awake_k, clientNew_k, workerNew_k, kscript_k, memoryMemoryCells_k, memoryMemoryCount_k, scriptMachine_k, clientClientStep_k, workerWorkerStep_k, clockClockTick_k, clockClockSet_k, memoryMemoryLast_k] ⟨kshort_ok, kconfig_ok, machineNew_ok, worksteallaw28Awake_ok, clientNew_ok, workerNew_ok, kscript_ok, memoryMemoryCells_ok, memoryMemoryCount_ok, scriptMachine_ok, clientClientStep_ok, workerWorkerStep_ok, clockClockTick_ok, clockClockSet_ok, memoryMemoryLast_ok, trivial⟩ worksteallaw28EngineOnce2_tb ⟨Tryz.func21, Tryz.func68, Tryz.func114, Tryz.func47, Tryz.func25, Tryz.func44, Tryz.func45, trivial⟩ (fun f => (get [(68, [(6, .spl 22 [2] 3)]), (114, [(2, .unroll 3)]), (47, [(1, .loop [.rg 8 sI_, .ob 16 27, .ob 30 31, .ob 44 31, .ob 18 30, .cx 19 [.inr (.ptr 16 0), .inr (.sl 46), .inr (.ptr 18 0), .inr (.sl 75), .inl sI_, .inl (.row 1), .inl sI_, .inl sI_, .inl sU_, .inl sU_]] 18446744073709551616 0)]), (44, [(9, .cut [.ob 16 27, .ob 30 31, .ob 44 31, .ob 18 30, .cx 19 [.inr (.ptr 16 0), .inr (.sl 46), .inr (.ptr 18 0), .inr (.sl 75), .inl sI_, .inl (.row 1), .inl sI_, .inl sI_, .inl sU_, .inl sU_]] [0, 1, 12, 13, 82, 84, 85]), (12, .loop [.ob 16 27, .cx 19 [.inr (.ptr 16 0), .inr (.sl 46), .inr (.ptr 18 0), .inr (.sl 75), .inl sI_, .inl (.row 1), .inl sI_, .inl sI_, .inl sU_, .inl sU_]] 18446744073709551616 1)])] f).getD []) [(9, .loopR [.rg 7 (.row 0), .rg 8 sI_, .ob 16 27, .ob 30 31, .ob 44 31, .ob 18 30, .cx 19 [.inr (.ptr 16 0), .inr (.sl 46), .inr (.ptr 18 0), .inr (.sl 75), .inl sI_, .inl (.row 1), .inl sI_, .inl sI_, .inl sU_, .inl sU_]] 18446744073709551616 0), (16, .loopR [.rg 7 (.row 0), .rg 9 (.row 0), .ob 1000010 60, .rg 11 sI_] 18446744073709551616 2)] fun x => by kernel_rfl
end
section
open Go Go.RowKit
set_option maxRecDepth 100000
variable [Tb]
noncomputable def worksteallaw28EngineOnce3 (y0 : List Int) (y1 : List Int) : Option ((Bool × Unit) × (Unit)) :=
 (kshort y0 ([])).bind fun r1 =>
 if (!r1.1.1) = true then
  some ((true, ()), (()))
 else
 if 600 < ((y1.length : Nat) : Int) then
  some ((true, ()), (()))
 else
 (kconfig y0).bind fun r2 =>
 (machineNew r2.1.1).bind fun r3 =>
 if r3.1.2.1 ≠ 0 then
  if r3.1.2.1 ≠ 0 then
   (worksteallaw28Awake).bind fun r4 =>
   if (!r4.1.1) = true then
   some ((false, ()), (()))
   else
   some ((false, ()), (()))
  else
  (worksteallaw28Awake).bind fun r5 =>
  if (!r5.1.1) = true then
   some ((false, ()), (()))
  else
  some ((false, ()), (()))
 else
 (clientNew r2.1.1).bind fun r6 =>
 if r2.1.1.workers = ((3 : Nat) : Int) then
  (workerNew 0).bind fun r7 =>
  (workerNew 1).bind fun r8 =>
  (workerNew 2).bind fun r9 =>
  (lpF (σ := Int × EnvP × (WorkerV MV) × (WorkerV MV) × (WorkerV MV) × (ClientV MV) × (Int × List Int × Int × Int × Int × Int × Unit) × Unit) (β := Int × EnvP × (WorkerV MV) × (WorkerV MV) × (WorkerV MV) × (ClientV MV) × (Int × List Int × Int × Int × Int × Int × Unit) × Unit) (fun self12 x10 =>
   if x10.1 < 0 then
   none
   else
   some (x10.1, x10.2.1, x10.2.2.1, x10.2.2.2.1, x10.2.2.2.2.1, x10.2.2.2.2.2.1, (x10.2.2.2.2.2.2.1.1, x10.2.2.2.2.2.2.1.2.1, x10.2.2.2.2.2.2.1.2.2.1, x10.2.2.2.2.2.2.1.2.2.2.1, x10.2.2.2.2.2.2.1.2.2.2.2.1, x10.2.2.2.2.2.2.1.2.2.2.2.2.1, ()), ())
  ) 18446744073709551616 (0, r3.1.1, r7.1.1, r8.1.1, r9.1.1, r6.1.1, (0, [], 0, 0, 0, 0, ()), ())).bind fun z11 =>
  (worksteallaw28Awake).bind fun r13 =>
  if (!r13.1.1) = true then
   some ((false, ()), (()))
  else
  (kscript y1 300).bind fun r14 =>
  (memoryMemoryCells z11.2.1.m).bind fun r15 =>
  (lpF (σ := List Int × Int × EnvP × (WorkerV MV) × (WorkerV MV) × (WorkerV MV) × (ClientV MV) × (Int × List Int × Int × Int × Int × Int × Unit) × Unit) (β := (List Int × Int × EnvP × (WorkerV MV) × (WorkerV MV) × (WorkerV MV) × (ClientV MV) × (Int × List Int × Int × Int × Int × Int × Unit) × Unit) ⊕ ((Bool × Unit) × (Unit))) (fun self18 x16 =>
   if x16.2.1 < ((r14.1.1.length : Nat) : Int) then
   if 0 ≤ x16.2.1 ∧ x16.2.1 < ((r14.1.1.length : Nat) : Int) then
   (memoryMemoryCount x16.2.2.1.m).bind fun r19 =>
   ((
   if ((atK5 r14.1.1 x16.2.1).kind) = 0 then
   (scriptMachine (atK5 r14.1.1 x16.2.1) 4).bind fun r20 =>
   if r20.1.1 = ((3 : Nat) : Int) then
   (clientClientStep x16.2.2.2.2.2.2.1 ({ x16.2.2.1 with m := r19.2.1 } : EnvP)).bind fun r21 =>
   some (r21.2.2.1, x16.2.2.2.1, x16.2.2.2.2.1, x16.2.2.2.2.2.1, r21.2.1, (x16.2.2.2.2.2.2.2.1.1, x16.2.2.2.2.2.2.2.1.2.1, x16.2.2.2.2.2.2.2.1.2.2.1, x16.2.2.2.2.2.2.2.1.2.2.2.1, x16.2.2.2.2.2.2.2.1.2.2.2.2.1, x16.2.2.2.2.2.2.2.1.2.2.2.2.2.1, ()), ())
   else
   if r20.1.1 = ((2 : Nat) : Int) then
   (workerWorkerStep x16.2.2.2.2.2.1 ({ x16.2.2.1 with m := r19.2.1 } : EnvP)).bind fun r22 =>
   some (r22.2.2.1, x16.2.2.2.1, x16.2.2.2.2.1, r22.2.1, x16.2.2.2.2.2.2.1, (x16.2.2.2.2.2.2.2.1.1, x16.2.2.2.2.2.2.2.1.2.1, x16.2.2.2.2.2.2.2.1.2.2.1, x16.2.2.2.2.2.2.2.1.2.2.2.1, x16.2.2.2.2.2.2.2.1.2.2.2.2.1, x16.2.2.2.2.2.2.2.1.2.2.2.2.2.1, ()), ())
   else
   if r20.1.1 = ((1 : Nat) : Int) then
   (workerWorkerStep x16.2.2.2.2.1 ({ x16.2.2.1 with m := r19.2.1 } : EnvP)).bind fun r23 =>
   some (r23.2.2.1, x16.2.2.2.1, r23.2.1, x16.2.2.2.2.2.1, x16.2.2.2.2.2.2.1, (x16.2.2.2.2.2.2.2.1.1, x16.2.2.2.2.2.2.2.1.2.1, x16.2.2.2.2.2.2.2.1.2.2.1, x16.2.2.2.2.2.2.2.1.2.2.2.1, x16.2.2.2.2.2.2.2.1.2.2.2.2.1, x16.2.2.2.2.2.2.2.1.2.2.2.2.2.1, ()), ())
   else
   if r20.1.1 = ((0 : Nat) : Int) then
   (workerWorkerStep x16.2.2.2.1 ({ x16.2.2.1 with m := r19.2.1 } : EnvP)).bind fun r24 =>
   some (r24.2.2.1, r24.2.1, x16.2.2.2.2.1, x16.2.2.2.2.2.1, x16.2.2.2.2.2.2.1, (x16.2.2.2.2.2.2.2.1.1, x16.2.2.2.2.2.2.2.1.2.1, x16.2.2.2.2.2.2.2.1.2.2.1, x16.2.2.2.2.2.2.2.1.2.2.2.1, x16.2.2.2.2.2.2.2.1.2.2.2.2.1, x16.2.2.2.2.2.2.2.1.2.2.2.2.2.1, ()), ())
   else
   none
   else
   if ((atK5 r14.1.1 x16.2.1).kind) = 1 then
   (clockClockTick x16.2.2.1.k).bind fun r25 =>
   some (({ x16.2.2.1 with m := r19.2.1, k := r25.2.1 } : EnvP), x16.2.2.2.1, x16.2.2.2.2.1, x16.2.2.2.2.2.1, x16.2.2.2.2.2.2.1, (x16.2.2.2.2.2.2.2.1.1, x16.2.2.2.2.2.2.2.1.2.1, x16.2.2.2.2.2.2.2.1.2.2.1, x16.2.2.2.2.2.2.2.1.2.2.2.1, x16.2.2.2.2.2.2.2.1.2.2.2.2.1, x16.2.2.2.2.2.2.2.1.2.2.2.2.2.1, ()), ())
   else
   if ((atK5 r14.1.1 x16.2.1).kind) = 2 then
   (clockClockSet x16.2.2.1.k ((atK5 r14.1.1 x16.2.1).value)).bind fun r26 =>
   some (({ x16.2.2.1 with m := r19.2.1, k := r26.2.1 } : EnvP), x16.2.2.2.1, x16.2.2.2.2.1, x16.2.2.2.2.2.1, x16.2.2.2.2.2.2.1, (x16.2.2.2.2.2.2.2.1.1, x16.2.2.2.2.2.2.2.1.2.1, x16.2.2.2.2.2.2.2.1.2.2.1, x16.2.2.2.2.2.2.2.1.2.2.2.1, x16.2.2.2.2.2.2.2.1.2.2.2.2.1, x16.2.2.2.2.2.2.2.1.2.2.2.2.2.1, ()), ())
   else
   some (({ x16.2.2.1 with m := r19.2.1 } : EnvP), x16.2.2.2.1, x16.2.2.2.2.1, x16.2.2.2.2.2.1, x16.2.2.2.2.2.2.1, (x16.2.2.2.2.2.2.2.1.1, x16.2.2.2.2.2.2.2.1.2.1, x16.2.2.2.2.2.2.2.1.2.2.1, x16.2.2.2.2.2.2.2.1.2.2.2.1, x16.2.2.2.2.2.2.2.1.2.2.2.2.1, x16.2.2.2.2.2.2.2.1.2.2.2.2.2.1, ()), ())
   ) : Option (EnvP × (WorkerV MV) × (WorkerV MV) × (WorkerV MV) × (ClientV MV) × (Int × List Int × Int × Int × Int × Int × Unit) × Unit)).bind fun z27 =>
   (memoryMemoryCount z27.1.m).bind fun r28 =>
   if r19.1.1 < r28.1.1 then
   (memoryMemoryLast r28.2.1).bind fun r29 =>
   (lpF (σ := EnvP × (Int × List Int × Int × Int × Int × Int × Unit) × Unit) (β := EnvP × (Int × List Int × Int × Int × Int × Int × Unit) × Unit) (fun self32 x30 =>
   if ((x30.2.1.2.1.length : Nat) : Int) < ((x30.1.evs.length : Nat) : Int) then
   if (((x30.2.1.2.1.length + ([x30.2.1.1] : List Int).length : Nat)) : Int) < 1000000000000 then
   self32 (x30.1, (x30.2.1.1, x30.2.1.2.1 ++ ([x30.2.1.1]), x30.2.1.2.2.1, x30.2.1.2.2.2.1, x30.2.1.2.2.2.2.1, x30.2.1.2.2.2.2.2.1, ()), ())
   else none
   else
   some (x30.1, (x30.2.1.1, x30.2.1.2.1, x30.2.1.2.2.1, x30.2.1.2.2.2.1, x30.2.1.2.2.2.2.1, x30.2.1.2.2.2.2.2.1, ()), ())
   ) 18446744073709551616 (({ z27.1 with m := r29.2.1 } : EnvP), (z27.2.2.2.2.2.1.1, z27.2.2.2.2.2.1.2.1, r29.1.1.kind, r29.1.1.cell, r29.1.1.old, r29.1.1.new, ()), ())).bind fun z31 =>
   (memoryMemoryCells z31.1.m).bind fun r33 =>
   if ((r33.1.1.length : Nat) : Int) ≠ ((x16.1.length : Nat) : Int) then
   Option.map Sum.inr (
   some ((false, ()), (()))
   )
   else
   if 0 ≤ x16.2.1 ∧ x16.2.1 < ((r14.1.1.length : Nat) : Int) then
   if ((atK5 r14.1.1 x16.2.1).kind) ≠ 0 then
   if ¬ (z31.2.1.2.2.1 = 0 ∧ z31.2.1.2.2.2.1 = 0 ∧ z31.2.1.2.2.2.2.1 = 0 ∧ z31.2.1.2.2.2.2.2.1 = 0 ∧ True) then
   Option.map Sum.inr (
   some ((false, ()), (()))
   )
   else
   (lpF (σ := List Int × List Int × AccV × Int × Unit) (β := (List Int × List Int × AccV × Int × Unit) ⊕ ((List Int × Int × EnvP × (WorkerV MV) × (WorkerV MV) × (WorkerV MV) × (ClientV MV) × (Int × List Int × Int × Int × Int × Int × Unit) × Unit) ⊕ ((Bool × Unit) × (Unit)))) (fun self36 x34 =>
   if x34.2.2.2.1 < ((x34.2.1.length : Nat) : Int) then
   if 0 ≤ x34.2.2.2.1 ∧ x34.2.2.2.1 < ((x34.2.1.length : Nat) : Int) then
   if 0 ≤ x34.2.2.2.1 ∧ x34.2.2.2.1 < ((x34.1.length : Nat) : Int) then
   if (atK0 x34.2.1 x34.2.2.2.1) ≠ (atK0 x34.1 x34.2.2.2.1) then
   if x34.2.2.1.kind < 2 then
   Option.map Sum.inr (
   Option.map Sum.inr (
   some ((false, ()), (()))
   )
   )
   else
   if x34.2.2.1.cell ≠ x34.2.2.2.1 then
   Option.map Sum.inr (
   Option.map Sum.inr (
   some ((false, ()), (()))
   )
   )
   else
   if 0 ≤ x34.2.2.2.1 ∧ x34.2.2.2.1 < ((x34.1.length : Nat) : Int) then
   if x34.2.2.1.old ≠ (atK0 x34.1 x34.2.2.2.1) then
   Option.map Sum.inr (
   Option.map Sum.inr (
   some ((false, ()), (()))
   )
   )
   else
   if 0 ≤ x34.2.2.2.1 ∧ x34.2.2.2.1 < ((x34.2.1.length : Nat) : Int) then
   if x34.2.2.1.new ≠ (atK0 x34.2.1 x34.2.2.2.1) then
   Option.map Sum.inr (
   Option.map Sum.inr (
   some ((false, ()), (()))
   )
   )
   else
   self36 (x34.1, x34.2.1, x34.2.2.1, wi (x34.2.2.2.1 + 1), ())
   else none
   else none
   else
   self36 (x34.1, x34.2.1, x34.2.2.1, wi (x34.2.2.2.1 + 1), ())
   else none
   else none
   else
   some (Sum.inl (x34.1, x34.2.1, x34.2.2.1, x34.2.2.2.1, ()))
   ) 18446744073709551616 (x16.1, r33.1.1, (⟨z31.2.1.2.2.1, z31.2.1.2.2.2.1, z31.2.1.2.2.2.2.1, z31.2.1.2.2.2.2.2.1⟩ : AccV), 0, ())).bind fun z35 => match z35 with
   | .inr o37 => some o37
   | .inl z35 =>
   self18 (z35.2.1, wi (x16.2.1 + 1), ({ z31.1 with m := r33.2.1 } : EnvP), z27.2.1, z27.2.2.1, z27.2.2.2.1, z27.2.2.2.2.1, (wi (z31.2.1.1 + 1), z31.2.1.2.1, z31.2.1.2.2.1, z31.2.1.2.2.2.1, z31.2.1.2.2.2.2.1, z31.2.1.2.2.2.2.2.1, ()), ())
   else
   (lpF (σ := List Int × List Int × AccV × Int × Unit) (β := (List Int × List Int × AccV × Int × Unit) ⊕ ((List Int × Int × EnvP × (WorkerV MV) × (WorkerV MV) × (WorkerV MV) × (ClientV MV) × (Int × List Int × Int × Int × Int × Int × Unit) × Unit) ⊕ ((Bool × Unit) × (Unit)))) (fun self40 x38 =>
   if x38.2.2.2.1 < ((x38.2.1.length : Nat) : Int) then
   if 0 ≤ x38.2.2.2.1 ∧ x38.2.2.2.1 < ((x38.2.1.length : Nat) : Int) then
   if 0 ≤ x38.2.2.2.1 ∧ x38.2.2.2.1 < ((x38.1.length : Nat) : Int) then
   if (atK0 x38.2.1 x38.2.2.2.1) ≠ (atK0 x38.1 x38.2.2.2.1) then
   if x38.2.2.1.kind < 2 then
   Option.map Sum.inr (
   Option.map Sum.inr (
   some ((false, ()), (()))
   )
   )
   else
   if x38.2.2.1.cell ≠ x38.2.2.2.1 then
   Option.map Sum.inr (
   Option.map Sum.inr (
   some ((false, ()), (()))
   )
   )
   else
   if 0 ≤ x38.2.2.2.1 ∧ x38.2.2.2.1 < ((x38.1.length : Nat) : Int) then
   if x38.2.2.1.old ≠ (atK0 x38.1 x38.2.2.2.1) then
   Option.map Sum.inr (
   Option.map Sum.inr (
   some ((false, ()), (()))
   )
   )
   else
   if 0 ≤ x38.2.2.2.1 ∧ x38.2.2.2.1 < ((x38.2.1.length : Nat) : Int) then
   if x38.2.2.1.new ≠ (atK0 x38.2.1 x38.2.2.2.1) then
   Option.map Sum.inr (
   Option.map Sum.inr (
   some ((false, ()), (()))
   )
   )
   else
   self40 (x38.1, x38.2.1, x38.2.2.1, wi (x38.2.2.2.1 + 1), ())
   else none
   else none
   else
   self40 (x38.1, x38.2.1, x38.2.2.1, wi (x38.2.2.2.1 + 1), ())
   else none
   else none
   else
   some (Sum.inl (x38.1, x38.2.1, x38.2.2.1, x38.2.2.2.1, ()))
   ) 18446744073709551616 (x16.1, r33.1.1, (⟨z31.2.1.2.2.1, z31.2.1.2.2.2.1, z31.2.1.2.2.2.2.1, z31.2.1.2.2.2.2.2.1⟩ : AccV), 0, ())).bind fun z39 => match z39 with
   | .inr o41 => some o41
   | .inl z39 =>
   self18 (z39.2.1, wi (x16.2.1 + 1), ({ z31.1 with m := r33.2.1 } : EnvP), z27.2.1, z27.2.2.1, z27.2.2.2.1, z27.2.2.2.2.1, (wi (z31.2.1.1 + 1), z31.2.1.2.1, z31.2.1.2.2.1, z31.2.1.2.2.2.1, z31.2.1.2.2.2.2.1, z31.2.1.2.2.2.2.2.1, ()), ())
   else none
   else
   (lpF (σ := EnvP × (Int × List Int × Int × Int × Int × Int × Unit) × Unit) (β := EnvP × (Int × List Int × Int × Int × Int × Int × Unit) × Unit) (fun self44 x42 =>
   if ((x42.2.1.2.1.length : Nat) : Int) < ((x42.1.evs.length : Nat) : Int) then
   if (((x42.2.1.2.1.length + ([x42.2.1.1] : List Int).length : Nat)) : Int) < 1000000000000 then
   self44 (x42.1, (x42.2.1.1, x42.2.1.2.1 ++ ([x42.2.1.1]), x42.2.1.2.2.1, x42.2.1.2.2.2.1, x42.2.1.2.2.2.2.1, x42.2.1.2.2.2.2.2.1, ()), ())
   else none
   else
   some (x42.1, (x42.2.1.1, x42.2.1.2.1, x42.2.1.2.2.1, x42.2.1.2.2.2.1, x42.2.1.2.2.2.2.1, x42.2.1.2.2.2.2.2.1, ()), ())
   ) 18446744073709551616 (({ z27.1 with m := r28.2.1 } : EnvP), (z27.2.2.2.2.2.1.1, z27.2.2.2.2.2.1.2.1, 0, 0, 0, 0, ()), ())).bind fun z43 =>
   (memoryMemoryCells z43.1.m).bind fun r45 =>
   if ((r45.1.1.length : Nat) : Int) ≠ ((x16.1.length : Nat) : Int) then
   Option.map Sum.inr (
   some ((false, ()), (()))
   )
   else
   if 0 ≤ x16.2.1 ∧ x16.2.1 < ((r14.1.1.length : Nat) : Int) then
   if ((atK5 r14.1.1 x16.2.1).kind) ≠ 0 then
   if ¬ (z43.2.1.2.2.1 = 0 ∧ z43.2.1.2.2.2.1 = 0 ∧ z43.2.1.2.2.2.2.1 = 0 ∧ z43.2.1.2.2.2.2.2.1 = 0 ∧ True) then
   Option.map Sum.inr (
   some ((false, ()), (()))
   )
   else
   (lpF (σ := List Int × List Int × AccV × Int × Unit) (β := (List Int × List Int × AccV × Int × Unit) ⊕ ((List Int × Int × EnvP × (WorkerV MV) × (WorkerV MV) × (WorkerV MV) × (ClientV MV) × (Int × List Int × Int × Int × Int × Int × Unit) × Unit) ⊕ ((Bool × Unit) × (Unit)))) (fun self48 x46 =>
   if x46.2.2.2.1 < ((x46.2.1.length : Nat) : Int) then
   if 0 ≤ x46.2.2.2.1 ∧ x46.2.2.2.1 < ((x46.2.1.length : Nat) : Int) then
   if 0 ≤ x46.2.2.2.1 ∧ x46.2.2.2.1 < ((x46.1.length : Nat) : Int) then
   if (atK0 x46.2.1 x46.2.2.2.1) ≠ (atK0 x46.1 x46.2.2.2.1) then
   if x46.2.2.1.kind < 2 then
   Option.map Sum.inr (
   Option.map Sum.inr (
   some ((false, ()), (()))
   )
   )
   else
   if x46.2.2.1.cell ≠ x46.2.2.2.1 then
   Option.map Sum.inr (
   Option.map Sum.inr (
   some ((false, ()), (()))
   )
   )
   else
   if 0 ≤ x46.2.2.2.1 ∧ x46.2.2.2.1 < ((x46.1.length : Nat) : Int) then
   if x46.2.2.1.old ≠ (atK0 x46.1 x46.2.2.2.1) then
   Option.map Sum.inr (
   Option.map Sum.inr (
   some ((false, ()), (()))
   )
   )
   else
   if 0 ≤ x46.2.2.2.1 ∧ x46.2.2.2.1 < ((x46.2.1.length : Nat) : Int) then
   if x46.2.2.1.new ≠ (atK0 x46.2.1 x46.2.2.2.1) then
   Option.map Sum.inr (
   Option.map Sum.inr (
   some ((false, ()), (()))
   )
   )
   else
   self48 (x46.1, x46.2.1, x46.2.2.1, wi (x46.2.2.2.1 + 1), ())
   else none
   else none
   else
   self48 (x46.1, x46.2.1, x46.2.2.1, wi (x46.2.2.2.1 + 1), ())
   else none
   else none
   else
   some (Sum.inl (x46.1, x46.2.1, x46.2.2.1, x46.2.2.2.1, ()))
   ) 18446744073709551616 (x16.1, r45.1.1, (⟨z43.2.1.2.2.1, z43.2.1.2.2.2.1, z43.2.1.2.2.2.2.1, z43.2.1.2.2.2.2.2.1⟩ : AccV), 0, ())).bind fun z47 => match z47 with
   | .inr o49 => some o49
   | .inl z47 =>
   self18 (z47.2.1, wi (x16.2.1 + 1), ({ z43.1 with m := r45.2.1 } : EnvP), z27.2.1, z27.2.2.1, z27.2.2.2.1, z27.2.2.2.2.1, (wi (z43.2.1.1 + 1), z43.2.1.2.1, z43.2.1.2.2.1, z43.2.1.2.2.2.1, z43.2.1.2.2.2.2.1, z43.2.1.2.2.2.2.2.1, ()), ())
   else
   (lpF (σ := List Int × List Int × AccV × Int × Unit) (β := (List Int × List Int × AccV × Int × Unit) ⊕ ((List Int × Int × EnvP × (WorkerV MV) × (WorkerV MV) × (WorkerV MV) × (ClientV MV) × (Int × List Int × Int × Int × Int × Int × Unit) × Unit) ⊕ ((Bool × Unit) × (Unit)))) (fun self52 x50 =>
   if x50.2.2.2.1 < ((x50.2.1.length : Nat) : Int) then
   if 0 ≤ x50.2.2.2.1 ∧ x50.2.2.2.1 < ((x50.2.1.length : Nat) : Int) then
   if 0 ≤ x50.2.2.2.1 ∧ x50.2.2.2.1 < ((x50.1.length : Nat) : Int) then
   if (atK0 x50.2.1 x50.2.2.2.1) ≠ (atK0 x50.1 x50.2.2.2.1) then
   if x50.2.2.1.kind < 2 then
   Option.map Sum.inr (
   Option.map Sum.inr (
   some ((false, ()), (()))
   )
   )
   else
   if x50.2.2.1.cell ≠ x50.2.2.2.1 then
   Option.map Sum.inr (
   Option.map Sum.inr (
   some ((false, ()), (()))
   )
   )
   else
   if 0 ≤ x50.2.2.2.1 ∧ x50.2.2.2.1 < ((x50.1.length : Nat) : Int) then
   if x50.2.2.1.old ≠ (atK0 x50.1 x50.2.2.2.1) then
   Option.map Sum.inr (
   Option.map Sum.inr (
   some ((false, ()), (()))
   )
   )
   else
   if 0 ≤ x50.2.2.2.1 ∧ x50.2.2.2.1 < ((x50.2.1.length : Nat) : Int) then
   if x50.2.2.1.new ≠ (atK0 x50.2.1 x50.2.2.2.1) then
   Option.map Sum.inr (
   Option.map Sum.inr (
   some ((false, ()), (()))
   )
   )
   else
   self52 (x50.1, x50.2.1, x50.2.2.1, wi (x50.2.2.2.1 + 1), ())
   else none
   else none
   else
   self52 (x50.1, x50.2.1, x50.2.2.1, wi (x50.2.2.2.1 + 1), ())
   else none
   else none
   else
   some (Sum.inl (x50.1, x50.2.1, x50.2.2.1, x50.2.2.2.1, ()))
   ) 18446744073709551616 (x16.1, r45.1.1, (⟨z43.2.1.2.2.1, z43.2.1.2.2.2.1, z43.2.1.2.2.2.2.1, z43.2.1.2.2.2.2.2.1⟩ : AccV), 0, ())).bind fun z51 => match z51 with
   | .inr o53 => some o53
   | .inl z51 =>
   self18 (z51.2.1, wi (x16.2.1 + 1), ({ z43.1 with m := r45.2.1 } : EnvP), z27.2.1, z27.2.2.1, z27.2.2.2.1, z27.2.2.2.2.1, (wi (z43.2.1.1 + 1), z43.2.1.2.1, z43.2.1.2.2.1, z43.2.1.2.2.2.1, z43.2.1.2.2.2.2.1, z43.2.1.2.2.2.2.2.1, ()), ())
   else none
   else none
   else
   some (Sum.inl (x16.1, x16.2.1, x16.2.2.1, x16.2.2.2.1, x16.2.2.2.2.1, x16.2.2.2.2.2.1, x16.2.2.2.2.2.2.1, (x16.2.2.2.2.2.2.2.1.1, x16.2.2.2.2.2.2.2.1.2.1, x16.2.2.2.2.2.2.2.1.2.2.1, x16.2.2.2.2.2.2.2.1.2.2.2.1, x16.2.2.2.2.2.2.2.1.2.2.2.2.1, x16.2.2.2.2.2.2.2.1.2.2.2.2.2.1, ()), ()))
  ) 18446744073709551616 (r15.1.1, 0, ({ z11.2.1 with m := r15.2.1 } : EnvP), z11.2.2.1, z11.2.2.2.1, z11.2.2.2.2.1, z11.2.2.2.2.2.1, (z11.2.2.2.2.2.2.1.1, z11.2.2.2.2.2.2.1.2.1, z11.2.2.2.2.2.2.1.2.2.1, z11.2.2.2.2.2.2.1.2.2.2.1, z11.2.2.2.2.2.2.1.2.2.2.2.1, z11.2.2.2.2.2.2.1.2.2.2.2.2.1, ()), ())).bind fun z17 => match z17 with
  | .inr o54 => some o54
  | .inl z17 =>
  some ((true, ()), (()))
 else
 none
noncomputable abbrev worksteallaw28EngineOnce3_k : Con SR1 := ⟨8, [.sh (.ro 17), .sh (.ro 17)], [.sh .b], fun x => worksteallaw28EngineOnce3 x.1 x.2.1⟩
noncomputable def worksteallaw28EngineOnce3_tb : List (Nat × Func) := [(21, Tryz.f21), (68, Tryz.f68), (114, Tryz.f114), (47, Tryz.f47), (25, Tryz.f25), (44, Tryz.f44), (45, Tryz.f45)]
theorem worksteallaw28EngineOnce3_ok : CO Tryz.prog worksteallaw28EngineOnce3_k := co_fn mixed Tryz.func8 [kshort_k, kconfig_k, machineNew_k, worksteallaw28Awake_k, clientNew_k, workerNew_k, kscript_k, memoryMemoryCells_k, memoryMemoryCount_k, scriptMachine_k, clientClientStep_k, workerWorkerStep_k, clockClockTick_k, clockClockSet_k, memoryMemoryLast_k] ⟨kshort_ok, kconfig_ok, machineNew_ok, worksteallaw28Awake_ok, clientNew_ok, workerNew_ok, kscript_ok, memoryMemoryCells_ok, memoryMemoryCount_ok, scriptMachine_ok, clientClientStep_ok, workerWorkerStep_ok, clockClockTick_ok, clockClockSet_ok, memoryMemoryLast_ok, trivial⟩ worksteallaw28EngineOnce3_tb ⟨Tryz.func21, Tryz.func68, Tryz.func114, Tryz.func47, Tryz.func25, Tryz.func44, Tryz.func45, trivial⟩ (fun f => (get [(68, [(6, .spl 22 [3] 4)]), (114, [(2, .unroll 4)]), (47, [(1, .loop [.rg 8 sI_, .ob 16 27, .ob 30 31, .ob 44 31, .ob 58 31, .ob 18 30, .cx 19 [.inr (.ptr 16 0), .inr (.sl 60), .inr (.ptr 18 0), .inr (.sl 92), .inl sI_, .inl (.row 1), .inl sI_, .inl sI_, .inl sU_, .inl sU_]] 18446744073709551616 0)]), (44, [(9, .cut [.ob 16 27, .ob 30 31, .ob 44 31, .ob 58 31, .ob 18 30, .cx 19 [.inr (.ptr 16 0), .inr (.sl 60), .inr (.ptr 18 0), .inr (.sl 92), .inl sI_, .inl (.row 1), .inl sI_, .inl sI_, .inl sU_, .inl sU_]] [0, 1, 12, 13, 99, 101, 102]), (12, .loop [.ob 16 27, .cx 19 [.inr (.ptr 16 0), .inr (.sl 60), .inr (.ptr 18 0), .inr (.sl 92), .inl sI_, .inl (.row 1), .inl sI_, .inl sI_, .inl sU_, .inl sU_]] 18446744073709551616 1)])] f).getD []) [(9, .loopR [.rg 7 (.row 0), .rg 8 sI_, .ob 16 27, .ob 30 31, .ob 44 31, .ob 58 31, .ob 18 30, .cx 19 [.inr (.ptr 16 0), .inr (.sl 60), .inr (.ptr 18 0), .inr (.sl 92), .inl sI_, .inl (.row 1), .inl sI_, .inl sI_, .inl sU_, .inl sU_]] 18446744073709551616 0), (16, .loopR [.rg 7 (.row 0), .rg 9 (.row 0), .ob 1000010 60, .rg 11 sI_] 18446744073709551616 2)] fun x => by kernel_rfl
noncomputable def worksteallaw28EngineOnce4 (y0 : List Int) (y1 : List Int) : Option ((Bool × Unit) × (Unit)) :=
 (kshort y0 ([])).bind fun r1 =>
 if (!r1.1.1) = true then
  some ((true, ()), (()))
 else
 if 600 < ((y1.length : Nat) : Int) then
  some ((true, ()), (()))
 else
 (kconfig y0).bind fun r2 =>
 (machineNew r2.1.1).bind fun r3 =>
 if r3.1.2.1 ≠ 0 then
  if r3.1.2.1 ≠ 0 then
   (worksteallaw28Awake).bind fun r4 =>
   if (!r4.1.1) = true then
   some ((false, ()), (()))
   else
   some ((false, ()), (()))
  else
  (worksteallaw28Awake).bind fun r5 =>
  if (!r5.1.1) = true then
   some ((false, ()), (()))
  else
  some ((false, ()), (()))
 else
 (clientNew r2.1.1).bind fun r6 =>
 if r2.1.1.workers = ((4 : Nat) : Int) then
  (workerNew 0).bind fun r7 =>
  (workerNew 1).bind fun r8 =>
  (workerNew 2).bind fun r9 =>
  (workerNew 3).bind fun r10 =>
  (lpF (σ := Int × EnvP × (WorkerV MV) × (WorkerV MV) × (WorkerV MV) × (WorkerV MV) × (ClientV MV) × (Int × List Int × Int × Int × Int × Int × Unit) × Unit) (β := Int × EnvP × (WorkerV MV) × (WorkerV MV) × (WorkerV MV) × (WorkerV MV) × (ClientV MV) × (Int × List Int × Int × Int × Int × Int × Unit) × Unit) (fun self13 x11 =>
   if x11.1 < 0 then
   none
   else
   some (x11.1, x11.2.1, x11.2.2.1, x11.2.2.2.1, x11.2.2.2.2.1, x11.2.2.2.2.2.1, x11.2.2.2.2.2.2.1, (x11.2.2.2.2.2.2.2.1.1, x11.2.2.2.2.2.2.2.1.2.1, x11.2.2.2.2.2.2.2.1.2.2.1, x11.2.2.2.2.2.2.2.1.2.2.2.1, x11.2.2.2.2.2.2.2.1.2.2.2.2.1, x11.2.2.2.2.2.2.2.1.2.2.2.2.2.1, ()), ())
  ) 18446744073709551616 (0, r3.1.1, r7.1.1, r8.1.1, r9.1.1, r10.1.1, r6.1.1, (0, [], 0, 0, 0, 0, ()), ())).bind fun z12 =>
  (worksteallaw28Awake).bind fun r14 =>
  if (!r14.1.1) = true then
   some ((false, ()), (()))
  else
  (kscript y1 300).bind fun r15 =>
  (memoryMemoryCells z12.2.1.m).bind fun r16 =>
  (lpF (σ := List Int × Int × EnvP × (WorkerV MV) × (WorkerV MV) × (WorkerV MV) × (WorkerV MV) × (ClientV MV) × (Int × List Int × Int × Int × Int × Int × Unit) × Unit) (β := (List Int × Int × EnvP × (WorkerV MV) × (WorkerV MV) × (WorkerV MV) × (WorkerV MV) × (ClientV MV) × (Int × List Int × Int × Int × Int × Int × Unit) × Unit) ⊕ ((Bool × Unit) × (Unit))) (fun self19 x17 =>
   if x17.2.1 < ((r15.1.1.length : Nat) : Int) then
   if 0 ≤ x17.2.1 ∧ x17.2.1 < ((r15.1.1.length : Nat) : Int) then
   (memoryMemoryCount x17.2.2.1.m).bind fun r20 =>
   ((
   if ((atK5 r15.1.1 x17.2.1).kind) = 0 then
   (scriptMachine (atK5 r15.1.1 x17.2.1) 5).bind fun r21 =>
   if r21.1.1 = ((4 : Nat) : Int) then
   (clientClientStep x17.2.2.2.2.2.2.2.1 ({ x17.2.2.1 with m := r20.2.1 } : EnvP)).bind fun r22 =>
   some (r22.2.2.1, x17.2.2.2.1, x17.2.2.2.2.1, x17.2.2.2.2.2.1, x17.2.2.2.2.2.2.1, r22.2.1, (x17.2.2.2.2.2.2.2.2.1.1, x17.2.2.2.2.2.2.2.2.1.2.1, x17.2.2.2.2.2.2.2.2.1.2.2.1, x17.2.2.2.2.2.2.2.2.1.2.2.2.1, x17.2.2.2.2.2.2.2.2.1.2.2.2.2.1, x17.2.2.2.2.2.2.2.2.1.2.2.2.2.2.1, ()), ())
   else
   if r21.1.1 = ((3 : Nat) : Int) then
   (workerWorkerStep x17.2.2.2.2.2.2.1 ({ x17.2.2.1 with m := r20.2.1 } : EnvP)).bind fun r23 =>
   some (r23.2.2.1, x17.2.2.2.1, x17.2.2.2.2.1, x17.2.2.2.2.2.1, r23.2.1, x17.2.2.2.2.2.2.2.1, (x17.2.2.2.2.2.2.2.2.1.1, x17.2.2.2.2.2.2.2.2.1.2.1, x17.2.2.2.2.2.2.2.2.1.2.2.1, x17.2.2.2.2.2.2.2.2.1.2.2.2.1, x17.2.2.2.2.2.2.2.2.1.2.2.2.2.1, x17.2.2.2.2.2.2.2.2.1.2.2.2.2.2.1, ()), ())
   else
   if r21.1.1 = ((2 : Nat) : Int) then
   (workerWorkerStep x17.2.2.2.2.2.1 ({ x17.2.2.1 with m := r20.2.1 } : EnvP)).bind fun r24 =>
   some (r24.2.2.1, x17.2.2.2.1, x17.2.2.2.2.1, r24.2.1, x17.2.2.2.2.2.2.1, x17.2.2.2.2.2.2.2.1, (x17.2.2.2.2.2.2.2.2.1.1, x17.2.2.2.2.2.2.2.2.1.2.1, x17.2.2.2.2.2.2.2.2.1.2.2.1, x17.2.2.2.2.2.2.2.2.1.2.2.2.1, x17.2.2.2.2.2.2.2.2.1.2.2.2.2.1, x17.2.2.2.2.2.2.2.2.1.2.2.2.2.2.1, ()), ())
   else
   if r21.1.1 = ((1 : Nat) : Int) then
   (workerWorkerStep x17.2.2.2.2.1 ({ x17.2.2.1 with m := r20.2.1 } : EnvP)).bind fun r25 =>
   some (r25.2.2.1, x17.2.2.2.1, r25.2.1, x17.2.2.2.2.2.1, x17.2.2.2.2.2.2.1, x17.2.2.2.2.2.2.2.1, (x17.2.2.2.2.2.2.2.2.1.1, x17.2.2.2.2.2.2.2.2.1.2.1, x17.2.2.2.2.2.2.2.2.1.2.2.1, x17.2.2.2.2.2.2.2.2.1.2.2.2.1, x17.2.2.2.2.2.2.2.2.1.2.2.2.2.1, x17.2.2.2.2.2.2.2.2.1.2.2.2.2.2.1, ()), ())
   else
   if r21.1.1 = ((0 : Nat) : Int) then
   (workerWorkerStep x17.2.2.2.1 ({ x17.2.2.1 with m := r20.2.1 } : EnvP)).bind fun r26 =>
   some (r26.2.2.1, r26.2.1, x17.2.2.2.2.1, x17.2.2.2.2.2.1, x17.2.2.2.2.2.2.1, x17.2.2.2.2.2.2.2.1, (x17.2.2.2.2.2.2.2.2.1.1, x17.2.2.2.2.2.2.2.2.1.2.1, x17.2.2.2.2.2.2.2.2.1.2.2.1, x17.2.2.2.2.2.2.2.2.1.2.2.2.1, x17.2.2.2.2.2.2.2.2.1.2.2.2.2.1, x17.2.2.2.2.2.2.2.2.1.2.2.2.2.2.1, ()), ())
   else
   none
   else
   if ((atK5 r15.1.1 x17.2.1).kind) = 1 then
   (clockClockTick x17.2.2.1.k).bind fun r27 =>
   some (({ x17.2.2.1 with m := r20.2.1, k := r27.2.1 } : EnvP), x17.2.2.2.1, x17.2.2.2.2.1, x17.2.2.2.2.2.1, x17.2.2.2.2.2.2.1, x17.2.2.2.2.2.2.2.1, (x17.2.2.2.2.2.2.2.2.1.1, x17.2.2.2.2.2.2.2.2.1.2.1, x17.2.2.2.2.2.2.2.2.1.2.2.1, x17.2.2.2.2.2.2.2.2.1.2.2.2.1, x17.2.2.2.2.2.2.2.2.1.2.2.2.2.1, x17.2.2.2.2.2.2.2.2.1.2.2.2.2.2.1, ()), ())
   else
   if ((atK5 r15.1.1 x17.2.1).kind) = 2 then
   (clockClockSet x17.2.2.1.k ((atK5 r15.1.1 x17.2.1).value)).bind fun r28 =>
   some (({ x17.2.2.1 with m := r20.2.1, k := r28.2.1 } : EnvP), x17.2.2.2.1, x17.2.2.2.2.1, x17.2.2.2.2.2.1, x17.2.2.2.2.2.2.1, x17.2.2.2.2.2.2.2.1, (x17.2.2.2.2.2.2.2.2.1.1, x17.2.2.2.2.2.2.2.2.1.2.1, x17.2.2.2.2.2.2.2.2.1.2.2.1, x17.2.2.2.2.2.2.2.2.1.2.2.2.1, x17.2.2.2.2.2.2.2.2.1.2.2.2.2.1, x17.2.2.2.2.2.2.2.2.1.2.2.2.2.2.1, ()), ())
   else
   some (({ x17.2.2.1 with m := r20.2.1 } : EnvP), x17.2.2.2.1, x17.2.2.2.2.1, x17.2.2.2.2.2.1, x17.2.2.2.2.2.2.1, x17.2.2.2.2.2.2.2.1, (x17.2.2.2.2.2.2.2.2.1.1, x17.2.2.2.2.2.2.2.2.1.2.1, x17.2.2.2.2.2.2.2.2.1.2.2.1, x17.2.2.2.2.2.2.2.2.1.2.2.2.1, x17.2.2.2.2.2.2.2.2.1.2.2.2.2.1, x17.2.2.2.2.2.2.2.2.1.2.2.2.2.2.1, ()), ())
   ) : Option (EnvP × (WorkerV MV) × (WorkerV MV) × (WorkerV MV) × (WorkerV MV) × (ClientV MV) × (Int × List Int × Int × Int × Int × Int × Unit) × Unit)).bind fun z29 =>
   (memoryMemoryCount z29.1.m).bind fun r30 =>
   if r20.1.1 < r30.1.1 then
   (memoryMemoryLast r30.2.1).bind fun r31 =>
   (lpF (σ := EnvP × (Int × List Int × Int × Int × Int × Int × Unit) × Unit) (β := EnvP × (Int × List Int × Int × Int × Int × Int × Unit) × Unit) (fun self34 x32 =>
   if ((x32.2.1.2.1.length : Nat) : Int) < ((x32.1.evs.length : Nat) : Int) then
   if (((x32.2.1.2.1.length + ([x32.2.1.1] : List Int).length : Nat)) : Int) < 1000000000000 then
   self34 (x32.1, (x32.2.1.1, x32.2.1.2.1 ++ ([x32.2.1.1]), x32.2.1.2.2.1, x32.2.1.2.2.2.1, x32.2.1.2.2.2.2.1, x32.2.1.2.2.2.2.2.1, ()), ())
   else none
   else
   some (x32.1, (x32.2.1.1, x32.2.1.2.1, x32.2.1.2.2.1, x32.2.1.2.2.2.1, x32.2.1.2.2.2.2.1, x32.2.1.2.2.2.2.2.1, ()), ())
   ) 18446744073709551616 (({ z29.1 with m := r31.2.1 } : EnvP), (z29.2.2.2.2.2.2.1.1, z29.2.2.2.2.2.2.1.2.1, r31.1.1.kind, r31.1.1.cell, r31.1.1.old, r31.1.1.new, ()), ())).bind fun z33 =>
   (memoryMemoryCells z33.1.m).bind fun r35 =>
   if ((r35.1.1.length : Nat) : Int) ≠ ((x17.1.length : Nat) : Int) then
   Option.map Sum.inr (
   some ((false, ()), (()))
   )
   else
   if 0 ≤ x17.2.1 ∧ x17.2.1 < ((r15.1.1.length : Nat) : Int) then
   if ((atK5 r15.1.1 x17.2.1).kind) ≠ 0 then
   if ¬ (z33.2.1.2.2.1 = 0 ∧ z33.2.1.2.2.2.1 = 0 ∧ z33.2.1.2.2.2.2.1 = 0 ∧ z33.2.1.2.2.2.2.2.1 = 0 ∧ True) then
   Option.map Sum.inr (
   some ((false, ()), (()))
   )
   else
   (lpF (σ := List Int × List Int × AccV × Int × Unit) (β := (List Int × List Int × AccV × Int × Unit) ⊕ ((List Int × Int × EnvP × (WorkerV MV) × (WorkerV MV) × (WorkerV MV) × (WorkerV MV) × (ClientV MV) × (Int × List Int × Int × Int × Int × Int × Unit) × Unit) ⊕ ((Bool × Unit) × (Unit)))) (fun self38 x36 =>
   if x36.2.2.2.1 < ((x36.2.1.length : Nat) : Int) then
   if 0 ≤ x36.2.2.2.1 ∧ x36.2.2.2.1 < ((x36.2.1.length : Nat) : Int) then
   if 0 ≤ x36.2.2.2.1 ∧ x36.2.2.2.1 < ((x36.1.length : Nat) : Int) then
   if (atK0 x36.2.1 x36.2.2.2.1) ≠ (atK0 x36.1 x36.2.2.2.1) then
   if x36.2.2.1.kind < 2 then
   Option.map Sum.inr (
   Option.map Sum.inr (
   some ((false, ()), (()))
   )
   )
   else
   if x36.2.2.1.cell ≠ x36.2.2.2.1 then
   Option.map Sum.inr (
   Option.map Sum.inr (
   some ((false, ()), (()))
   )
   )
   else
   if 0 ≤ x36.2.2.2.1 ∧ x36.2.2.2.1 < ((x36.1.length : Nat) : Int) then
   if x36.2.2.1.old ≠ (atK0 x36.1 x36.2.2.2.1) then
   Option.map Sum.inr (
   Option.map Sum.inr (
   some ((false, ()), (()))
   )
   )
   else
   if 0 ≤ x36.2.2.2.1 ∧ x36.2.2.2.1 < ((x36.2.1.length : Nat) : Int) then
   if x36.2.2.1.new ≠ (atK0 x36.2.1 x36.2.2.2.1) then
   Option.map Sum.inr (
   Option.map Sum.inr (
   some ((false, ()), (()))
   )
   )
   else
   self38 (x36.1, x36.2.1, x36.2.2.1, wi (x36.2.2.2.1 + 1), ())
   else none
   else none
   else
   self38 (x36.1, x36.2.1, x36.2.2.1, wi (x36.2.2.2.1 + 1), ())
   else none
   else none
   else
   some (Sum.inl (x36.1, x36.2.1, x36.2.2.1, x36.2.2.2.1, ()))
   ) 18446744073709551616 (x17.1, r35.1.1, (⟨z33.2.1.2.2.1, z33.2.1.2.2.2.1, z33.2.1.2.2.2.2.1, z33.2.1.2.2.2.2.2.1⟩ : AccV), 0, ())).bind fun z37 => match z37 with
   | .inr o39 => some o39
   | .inl z37 =>
   self19 (z37.2.1, wi (x17.2.1 + 1), ({ z33.1 with m := r35.2.1 } : EnvP), z29.2.1, z29.2.2.1, z29.2.2.2.1, z29.2.2.2.2.1, z29.2.2.2.2.2.1, (wi (z33.2.1.1 + 1), z33.2.1.2.1, z33.2.1.2.2.1, z33.2.1.2.2.2.1, z33.2.1.2.2.2.2.1, z33.2.1.2.2.2.2.2.1, ()), ())
   else
   (lpF (σ := List Int × List Int × AccV × Int × Unit) (β := (List Int × List Int × AccV × Int × Unit) ⊕ ((List Int × Int × EnvP × (WorkerV MV) × (WorkerV MV) × (WorkerV MV) × (WorkerV MV) × (ClientV MV) × (Int × List Int × Int × Int × Int × Int × Unit) × Unit) ⊕ ((Bool × Unit) × (Unit)))) (fun self42 x40 =>
   if x40.2.2.2.1 < ((x40.2.1.length : Nat) : Int) then
   if 0 ≤ x40.2.2.2.1 ∧ x40.2.2.2.1 < ((x40.2.1.length : Nat) : Int) then
   if 0 ≤ x40.2.2.2.1 ∧ x40.2.2.2.1 < ((x40.1.length : Nat) : Int) then
   if (atK0 x40.2.1 x40.2.2.2.1) ≠ (atK0 x40.1 x40.2.2.2.1) then
   if x40.2.2.1.kind < 2 then
   Option.map Sum.inr (
   Option.map Sum.inr (
   some ((false, ()), (()))
   )
   )
   else
   if x40.2.2.1.cell ≠ x40.2.2.2.1 then
   Option.map Sum.inr (
   Option.map Sum.inr (
   some ((false, ()), (()))
   )
   )
   else
   if 0 ≤ x40.2.2.2.1 ∧ x40.2.2.2.1 < ((x40.1.length : Nat) : Int) then
   if x40.2.2.1.old ≠ (atK0 x40.1 x40.2.2.2.1) then
   Option.map Sum.inr (
   Option.map Sum.inr (
   some ((false, ()), (()))
   )
   )
   else
   if 0 ≤ x40.2.2.2.1 ∧ x40.2.2.2.1 < ((x40.2.1.length : Nat) : Int) then
   if x40.2.2.1.new ≠ (atK0 x40.2.1 x40.2.2.2.1) then
   Option.map Sum.inr (
   Option.map Sum.inr (
   some ((false, ()), (()))
   )
   )
   else
   self42 (x40.1, x40.2.1, x40.2.2.1, wi (x40.2.2.2.1 + 1), ())
   else none
   else none
   else
   self42 (x40.1, x40.2.1, x40.2.2.1, wi (x40.2.2.2.1 + 1), ())
   else none
   else none
   else
   some (Sum.inl (x40.1, x40.2.1, x40.2.2.1, x40.2.2.2.1, ()))
   ) 18446744073709551616 (x17.1, r35.1.1, (⟨z33.2.1.2.2.1, z33.2.1.2.2.2.1, z33.2.1.2.2.2.2.1, z33.2.1.2.2.2.2.2.1⟩ : AccV), 0, ())).bind fun z41 => match z41 with
   | .inr o43 => some o43
   | .inl z41 =>
   self19 (z41.2.1, wi (x17.2.1 + 1), ({ z33.1 with m := r35.2.1 } : EnvP), z29.2.1, z29.2.2.1, z29.2.2.2.1, z29.2.2.2.2.1, z29.2.2.2.2.2.1, (wi (z33.2.1.1 + 1), z33.2.1.2.1, z33.2.1.2.2.1, z33.2.1.2.2.2.1, z33.2.1.2.2.2.2.1, z33.2.1.2.2.2.2.2.1, ()), ())
   else none
   else
   (lpF (σ := EnvP × (Int × List Int × Int × Int × Int × Int × Unit) × Unit) (β := EnvP × (Int × List Int × Int × Int × Int × Int × Unit) × Unit) (fun self46 x44 =>
   if ((x44.2.1.2.1.length : Nat) : Int) < ((x44.1.evs.length : Nat) : Int) then
   if (((x44.2.1.2.1.length + ([x44.2.1.1] : List Int).length : Nat)) : Int) < 1000000000000 then
   self46 (x44.1, (x44.2.1.1, x44.2.1.2.1 ++ ([x44.2.1.1]), x44.2.1.2.2.1, x44.2.1.2.2.2.1, x44.2.1.2.2.2.2.1, x44.2.1.2.2.2.2.2.1, ()), ())
   else none
   else
   some (x44.1, (x44.2.1.1, x44.2.1.2.1, x44.2.1.2.2.1, x44.2.1.2.2.2.1, x44.2.1.2.2.2.2.1, x44.2.1.2.2.2.2.2.1, ()), ())
   ) 18446744073709551616 (({ z29.1 with m := r30.2.1 } : EnvP), (z29.2.2.2.2.2.2.1.1, z29.2.2.2.2.2.2.1.2.1, 0, 0, 0, 0, ()), ())).bind fun z45 =>
   (memoryMemoryCells z45.1.m).bind fun r47 =>
   if ((r47.1.1.length : Nat) : Int) ≠ ((x17.1.length : Nat) : Int) then
   Option.map Sum.inr (
   some ((false, ()), (()))
   )
   else
   if 0 ≤ x17.2.1 ∧ x17.2.1 < ((r15.1.1.length : Nat) : Int) then
   if ((atK5 r15.1.1 x17.2.1).kind) ≠ 0 then
   if ¬ (z45.2.1.2.2.1 = 0 ∧ z45.2.1.2.2.2.1 = 0 ∧ z45.2.1.2.2.2.2.1 = 0 ∧ z45.2.1.2.2.2.2.2.1 = 0 ∧ True) then
   Option.map Sum.inr (
   some ((false, ()), (()))
   )
   else
   (lpF (σ := List Int × List Int × AccV × Int × Unit) (β := (List Int × List Int × AccV × Int × Unit) ⊕ ((List Int × Int × EnvP × (WorkerV MV) × (WorkerV MV) × (WorkerV MV) × (WorkerV MV) × (ClientV MV) × (Int × List Int × Int × Int × Int × Int × Unit) × Unit) ⊕ ((Bool × Unit) × (Unit)))) (fun self50 x48 =>
   if x48.2.2.2.1 < ((x48.2.1.length : Nat) : Int) then
   if 0 ≤ x48.2.2.2.1 ∧ x48.2.2.2.1 < ((x48.2.1.length : Nat) : Int) then
   if 0 ≤ x48.2.2.2.1 ∧ x48.2.2.2.1 < ((x48.1.length : Nat) : Int) then
   if (atK0 x48.2.1 x48.2.2.2.1) ≠ (atK0 x48.1 x48.2.2.2.1) then
   if x48.2.2.1.kind < 2 then
   Option.map Sum.inr (
   Option.map Sum.inr (
   some ((false, ()), (()))
   )
   )
   else
   if x48.2.2.1.cell ≠ x48.2.2.2.1 then
   Option.map Sum.inr (
   Option.map Sum.inr (
   some ((false, ()), (()))
   )
   )
   else
   if 0 ≤ x48.2.2.2.1 ∧ x48.2.2.2.1 < ((x48.1.length : Nat) : Int) then
   if x48.2.2.1.old ≠ (atK0 x48.1 x48.2.2.2.1) then
   Option.map Sum.inr (
   Option.map Sum.inr (
   some ((false, ()), (()))
   )
   )
   else
   if 0 ≤ x48.2.2.2.1 ∧ x48.2.2.2.1 < ((x48.2.1.length : Nat) : Int) then
   if x48.2.2.1.new ≠ (atK0 x48.2.1 x48.2.2.2.1) then
   Option.map Sum.inr (
   Option.map Sum.inr (
   some ((false, ()), (()))
   )
   )
   else
   self50 (x48.1, x48.2.1, x48.2.2.1, wi (x48.2.2.2.1 + 1), ())
   else none
   else none
   else
   self50 (x48.1, x48.2.1, x48.2.2.1, wi (x48.2.2.2.1 + 1), ())
   else none
   else none
   else
   some (Sum.inl (x48.1, x48.2.1, x48.2.2.1, x48.2.2.2.1, ()))
   ) 18446744073709551616 (x17.1, r47.1.1, (⟨z45.2.1.2.2.1, z45.2.1.2.2.2.1, z45.2.1.2.2.2.2.1, z45.2.1.2.2.2.2.2.1⟩ : AccV), 0, ())).bind fun z49 => match z49 with
   | .inr o51 => some o51
   | .inl z49 =>
   self19 (z49.2.1, wi (x17.2.1 + 1), ({ z45.1 with m := r47.2.1 } : EnvP), z29.2.1, z29.2.2.1, z29.2.2.2.1, z29.2.2.2.2.1, z29.2.2.2.2.2.1, (wi (z45.2.1.1 + 1), z45.2.1.2.1, z45.2.1.2.2.1, z45.2.1.2.2.2.1, z45.2.1.2.2.2.2.1, z45.2.1.2.2.2.2.2.1, ()), ())
   else
   (lpF (σ := List Int × List Int × AccV × Int × Unit) (β := (List Int × List Int × AccV × Int × Unit) ⊕ ((List Int × Int × EnvP × (WorkerV MV) × (WorkerV MV) × (WorkerV MV) × (WorkerV MV) × (ClientV MV) × (Int × List Int × Int × Int × Int × Int × Unit) × Unit) ⊕ ((Bool × Unit) × (Unit)))) (fun self54 x52 =>
   if x52.2.2.2.1 < ((x52.2.1.length : Nat) : Int) then
   if 0 ≤ x52.2.2.2.1 ∧ x52.2.2.2.1 < ((x52.2.1.length : Nat) : Int) then
   if 0 ≤ x52.2.2.2.1 ∧ x52.2.2.2.1 < ((x52.1.length : Nat) : Int) then
   if (atK0 x52.2.1 x52.2.2.2.1) ≠ (atK0 x52.1 x52.2.2.2.1) then
   if x52.2.2.1.kind < 2 then
   Option.map Sum.inr (
   Option.map Sum.inr (
   some ((false, ()), (()))
   )
   )
   else
   if x52.2.2.1.cell ≠ x52.2.2.2.1 then
   Option.map Sum.inr (
   Option.map Sum.inr (
   some ((false, ()), (()))
   )
   )
   else
   if 0 ≤ x52.2.2.2.1 ∧ x52.2.2.2.1 < ((x52.1.length : Nat) : Int) then
   if x52.2.2.1.old ≠ (atK0 x52.1 x52.2.2.2.1) then
   Option.map Sum.inr (
   Option.map Sum.inr (
   some ((false, ()), (()))
   )
   )
   else
   if 0 ≤ x52.2.2.2.1 ∧ x52.2.2.2.1 < ((x52.2.1.length : Nat) : Int) then
   if x52.2.2.1.new ≠ (atK0 x52.2.1 x52.2.2.2.1) then
   Option.map Sum.inr (
   Option.map Sum.inr (
   some ((false, ()), (()))
   )
   )
   else
   self54 (x52.1, x52.2.1, x52.2.2.1, wi (x52.2.2.2.1 + 1), ())
   else none
   else none
   else
   self54 (x52.1, x52.2.1, x52.2.2.1, wi (x52.2.2.2.1 + 1), ())
   else none
   else none
   else
   some (Sum.inl (x52.1, x52.2.1, x52.2.2.1, x52.2.2.2.1, ()))
   ) 18446744073709551616 (x17.1, r47.1.1, (⟨z45.2.1.2.2.1, z45.2.1.2.2.2.1, z45.2.1.2.2.2.2.1, z45.2.1.2.2.2.2.2.1⟩ : AccV), 0, ())).bind fun z53 => match z53 with
   | .inr o55 => some o55
   | .inl z53 =>
   self19 (z53.2.1, wi (x17.2.1 + 1), ({ z45.1 with m := r47.2.1 } : EnvP), z29.2.1, z29.2.2.1, z29.2.2.2.1, z29.2.2.2.2.1, z29.2.2.2.2.2.1, (wi (z45.2.1.1 + 1), z45.2.1.2.1, z45.2.1.2.2.1, z45.2.1.2.2.2.1, z45.2.1.2.2.2.2.1, z45.2.1.2.2.2.2.2.1, ()), ())
   else none
   else none
   else
   some (Sum.inl (x17.1, x17.2.1, x17.2.2.1, x17.2.2.2.1, x17.2.2.2.2.1, x17.2.2.2.2.2.1, x17.2.2.2.2.2.2.1, x17.2.2.2.2.2.2.2.1, (x17.2.2.2.2.2.2.2.2.1.1, x17.2.2.2.2.2.2.2.2.1.2.1, x17.2.2.2.2.2.2.2.2.1.2.2.1, x17.2.2.2.2.2.2.2.2.1.2.2.2.1, x17.2.2.2.2.2.2.2.2.1.2.2.2.2.1, x17.2.2.2.2.2.2.2.2.1.2.2.2.2.2.1, ()), ()))
  ) 18446744073709551616 (r16.1.1, 0, ({ z12.2.1 with m := r16.2.1 } : EnvP), z12.2.2.1, z12.2.2.2.1, z12.2.2.2.2.1, z12.2.2.2.2.2.1, z12.2.2.2.2.2.2.1, (z12.2.2.2.2.2.2.2.1.1, z12.2.2.2.2.2.2.2.1.2.1, z12.2.2.2.2.2.2.2.1.2.2.1, z12.2.2.2.2.2.2.2.1.2.2.2.1, z12.2.2.2.2.2.2.2.1.2.2.2.2.1, z12.2.2.2.2.2.2.2.1.2.2.2.2.2.1, ()), ())).bind fun z18 => match z18 with
  | .inr o56 => some o56
  | .inl z18 =>
  some ((true, ()), (()))
 else
 none
noncomputable abbrev worksteallaw28EngineOnce4_k : Con SR1 := ⟨8, [.sh (.ro 17), .sh (.ro 17)], [.sh .b], fun x => worksteallaw28EngineOnce4 x.1 x.2.1⟩
noncomputable def worksteallaw28EngineOnce4_tb : List (Nat × Func) := [(21, Tryz.f21), (68, Tryz.f68), (114, Tryz.f114), (47, Tryz.f47), (25, Tryz.f25), (44, Tryz.f44), (45, Tryz.f45)]
theorem worksteallaw28EngineOnce4_ok : CO Tryz.prog worksteallaw28EngineOnce4_k := co_fn mixed Tryz.func8 [kshort_k, kconfig_k, machineNew_k, worksteallaw28Awake_k, clientNew_k, workerNew_k, kscript_k, memoryMemoryCells_k, memoryMemoryCount_k, scriptMachine_k, clientClientStep_k, workerWorkerStep_k, clockClockTick_k, clockClockSet_k, memoryMemoryLast_k] ⟨kshort_ok, kconfig_ok, machineNew_ok, worksteallaw28Awake_ok, clientNew_ok, workerNew_ok, kscript_ok, memoryMemoryCells_ok, memoryMemoryCount_ok, scriptMachine_ok, clientClientStep_ok, workerWorkerStep_ok, clockClockTick_ok, clockClockSet_ok, memoryMemoryLast_ok, trivial⟩ worksteallaw28EngineOnce4_tb ⟨Tryz.func21, Tryz.func68, Tryz.func114, Tryz.func47, Tryz.func25, Tryz.func44, Tryz.func45, trivial⟩ (fun f => (get [(68, [(6, .spl 22 [4] 5)]), (114, [(2, .unroll 5)]), (47, [(1, .loop [.rg 8 sI_, .ob 16 27, .ob 30 31, .ob 44 31, .ob 58 31, .ob 72 31, .ob 18 30, .cx 19 [.inr (.ptr 16 0), .inr (.sl 74), .inr (.ptr 18 0), .inr (.sl 109), .inl sI_, .inl (.row 1), .inl sI_, .inl sI_, .inl sU_, .inl sU_]] 18446744073709551616 0)]), (44, [(9, .cut [.ob 16 27, .ob 30 31, .ob 44 31, .ob 58 31, .ob 72 31, .ob 18 30, .cx 19 [.inr (.ptr 16 0), .inr (.sl 74), .inr (.ptr 18 0), .inr (.sl 109), .inl sI_, .inl (.row 1), .inl sI_, .inl sI_, .inl sU_, .inl sU_]] [0, 1, 12, 13, 116, 118, 119]), (12, .loop [.ob 16 27, .cx 19 [.inr (.ptr 16 0), .inr (.sl 74), .inr (.ptr 18 0), .inr (.sl 109), .inl sI_, .inl (.row 1), .inl sI_, .inl sI_, .inl sU_, .inl sU_]] 18446744073709551616 1)])] f).getD []) [(9, .loopR [.rg 7 (.row 0), .rg 8 sI_, .ob 16 27, .ob 30 31, .ob 44 31, .ob 58 31, .ob 72 31, .ob 18 30, .cx 19 [.inr (.ptr 16 0), .inr (.sl 74), .inr (.ptr 18 0), .inr (.sl 109), .inl sI_, .inl (.row 1), .inl sI_, .inl sI_, .inl sU_, .inl sU_]] 18446744073709551616 0), (16, .loopR [.rg 7 (.row 0), .rg 9 (.row 0), .ob 1000010 60, .rg 11 sI_] 18446744073709551616 2)] fun x => by kernel_rfl
end
end Go.Proofs.YtgiagoeoifgliaaGreat
