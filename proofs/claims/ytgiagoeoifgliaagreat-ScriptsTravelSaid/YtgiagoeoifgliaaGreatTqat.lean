/- ScriptsTravel in the evaluator's form. The law ScriptsTravel: what awake28 answers. The law ScriptsTravel: one entry of an engine. ScriptsTravel in the evaluator's form. ScriptsTravel in the evaluator's form. ScriptsTravel in the evaluator's form. The law ScriptsTravel, for every number of workers. -/
import Derived.Test.YtgiagoeoifgliaaGreatTqap
import Derived.Test.YtgiagoeoifgliaaGreatTqas
set_option linter.all false
namespace Go.Proofs.YtgiagoeoifgliaaGreat
section
open Go Go.RowKit
set_option maxRecDepth 100000
variable [Tb]
noncomputable def workstealtopAwake28  : Option ((Bool × Unit) × (Unit)) :=
 (kconfig ([])).bind fun r1 =>
 (workstealkeepOffers ({ r1.1.1 with subs := [(⟨0, 0, 0⟩ : Sub)] } : Cfg)).bind fun r2 =>
 if r1.1.1.workers = r1.1.1.workers then
  if r1.1.1.levels = r1.1.1.levels then
   if r1.1.1.classes = r1.1.1.classes then
   if r1.1.1.tasks = r1.1.1.tasks then
   if r1.1.1.deque = r1.1.1.deque then
   if r1.1.1.heap = r1.1.1.heap then
   if r1.1.1.batch = r1.1.1.batch then
   if r1.1.1.age = r1.1.1.age then
   if r1.1.1.patience = r1.1.1.patience then
   (machineNew ({ r1.1.1 with subs := [(⟨0, 0, 0⟩ : Sub)] } : Cfg)).bind fun r3 =>
   if r3.1.2.1 ≠ 0 then
   if r3.1.2.1 ≠ 0 then
   none
   else
   none
   else
   (clientNew ({ r1.1.1 with subs := [(⟨0, 0, 0⟩ : Sub)] } : Cfg)).bind fun r4 =>
   if r1.1.1.workers = ((1 : Nat) : Int) then
   (workerNew 0).bind fun r5 =>
   (lpF (travBody1 r2.1.1) 18446744073709551616 (0, r3.1.1, r5.1.1, r4.1.1, (0, [], 0, 0, 0, 0, ()), ())).bind fun z7 =>
   (lpF (σ := Int × EnvP × (WorkerV MV) × (ClientV MV) × (Int × List Int × Int × Int × Int × Int × Unit) × Unit) (β := (Int × EnvP × (WorkerV MV) × (ClientV MV) × (Int × List Int × Int × Int × Int × Int × Unit) × Unit) ⊕ ((Bool × Unit) × (Unit))) (fun self26 x24 =>
   if x24.1 < 60 then
   (workstealkeepPick 0).bind fun r27 =>
   (memoryMemoryCount x24.2.1.m).bind fun r28 =>
   ((
   if r27.1.1.kind = 0 then
   (scriptMachine r27.1.1 2).bind fun r29 =>
   if r29.1.1 = ((1 : Nat) : Int) then
   (clientClientStep x24.2.2.2.1 ({ x24.2.1 with m := r28.2.1 } : EnvP)).bind fun r30 =>
   some (r30.2.2.1, x24.2.2.1, r30.2.1, x24.2.2.2.2.1, ())
   else
   if r29.1.1 = ((0 : Nat) : Int) then
   (workerWorkerStep x24.2.2.1 ({ x24.2.1 with m := r28.2.1 } : EnvP)).bind fun r31 =>
   some (r31.2.2.1, r31.2.1, x24.2.2.2.1, x24.2.2.2.2.1, ())
   else
   none
   else
   if r27.1.1.kind = 1 then
   (clockClockTick x24.2.1.k).bind fun r32 =>
   some (({ x24.2.1 with m := r28.2.1, k := r32.2.1 } : EnvP), x24.2.2.1, x24.2.2.2.1, x24.2.2.2.2.1, ())
   else
   if r27.1.1.kind = 2 then
   (clockClockSet x24.2.1.k r27.1.1.value).bind fun r33 =>
   some (({ x24.2.1 with m := r28.2.1, k := r33.2.1 } : EnvP), x24.2.2.1, x24.2.2.2.1, x24.2.2.2.2.1, ())
   else
   some (({ x24.2.1 with m := r28.2.1 } : EnvP), x24.2.2.1, x24.2.2.2.1, x24.2.2.2.2.1, ())
   ) : Option (EnvP × (WorkerV MV) × (ClientV MV) × (Int × List Int × Int × Int × Int × Int × Unit) × Unit)).bind fun z34 =>
   (memoryMemoryCount z34.1.m).bind fun r35 =>
   if r28.1.1 < r35.1.1 then
   (memoryMemoryLast r35.2.1).bind fun r36 =>
   (lpF (σ := EnvP × (Int × List Int × Int × Int × Int × Int × Unit) × Unit) (β := EnvP × (Int × List Int × Int × Int × Int × Int × Unit) × Unit) (fun self39 x37 =>
   if ((x37.2.1.2.1.length : Nat) : Int) < ((x37.1.evs.length : Nat) : Int) then
   if (((x37.2.1.2.1.length + ([x37.2.1.1] : List Int).length : Nat)) : Int) < 1000000000000 then
   self39 (x37.1, (x37.2.1.1, x37.2.1.2.1 ++ ([x37.2.1.1]), x37.2.1.2.2.1, x37.2.1.2.2.2.1, x37.2.1.2.2.2.2.1, x37.2.1.2.2.2.2.2.1, ()), ())
   else none
   else
   some (x37.1, x37.2.1, ())
   ) 18446744073709551616 (({ z34.1 with m := r36.2.1 } : EnvP), (z34.2.2.2.1.1, z34.2.2.2.1.2.1, r36.1.1.kind, r36.1.1.cell, r36.1.1.old, r36.1.1.new, ()), ())).bind fun z38 =>
   self26 (wi (x24.1 + 1), z38.1, z34.2.1, z34.2.2.1, (wi (z38.2.1.1 + 1), z38.2.1.2.1, z38.2.1.2.2.1, z38.2.1.2.2.2.1, z38.2.1.2.2.2.2.1, z38.2.1.2.2.2.2.2.1, ()), ())
   else
   (lpF (σ := EnvP × (Int × List Int × Int × Int × Int × Int × Unit) × Unit) (β := EnvP × (Int × List Int × Int × Int × Int × Int × Unit) × Unit) (fun self42 x40 =>
   if ((x40.2.1.2.1.length : Nat) : Int) < ((x40.1.evs.length : Nat) : Int) then
   if (((x40.2.1.2.1.length + ([x40.2.1.1] : List Int).length : Nat)) : Int) < 1000000000000 then
   self42 (x40.1, (x40.2.1.1, x40.2.1.2.1 ++ ([x40.2.1.1]), x40.2.1.2.2.1, x40.2.1.2.2.2.1, x40.2.1.2.2.2.2.1, x40.2.1.2.2.2.2.2.1, ()), ())
   else none
   else
   some (x40.1, x40.2.1, ())
   ) 18446744073709551616 (({ z34.1 with m := r35.2.1 } : EnvP), (z34.2.2.2.1.1, z34.2.2.2.1.2.1, 0, 0, 0, 0, ()), ())).bind fun z41 =>
   self26 (wi (x24.1 + 1), z41.1, z34.2.1, z34.2.2.1, (wi (z41.2.1.1 + 1), z41.2.1.2.1, z41.2.1.2.2.1, z41.2.1.2.2.2.1, z41.2.1.2.2.2.2.1, z41.2.1.2.2.2.2.2.1, ()), ())
   else
   some (Sum.inl (x24.1, x24.2.1, x24.2.2.1, x24.2.2.2.1, x24.2.2.2.2.1, ()))
   ) 18446744073709551616 (0, z7.2.1, z7.2.2.1, z7.2.2.2.1, z7.2.2.2.2.1, ())).bind fun z25 => match z25 with
   | .inr o43 => some o43
   | .inl z25 =>
   (clientClientStatus z25.2.2.2.1).bind fun r44 =>
   if r44.1.1 ≠ 4 then
   some ((false, ()), (()))
   else
   (workerWorkerStatus z25.2.2.1).bind fun r45 =>
   if r45.1.1 = 2 then
   some ((false, ()), (()))
   else
   if z25.2.1.l.workers = z25.2.1.l.workers then
   if z25.2.1.l.levels = z25.2.1.l.levels then
   if z25.2.1.l.classes = z25.2.1.l.classes then
   if z25.2.1.l.tasks = z25.2.1.l.tasks then
   if z25.2.1.l.deque = z25.2.1.l.deque then
   if z25.2.1.l.heap = z25.2.1.l.heap then
   if z25.2.1.l.sleepers = z25.2.1.l.sleepers then
   if z25.2.1.l.epochs = z25.2.1.l.epochs then
   if z25.2.1.l.bitmaps = z25.2.1.l.bitmaps then
   if z25.2.1.l.queues = z25.2.1.l.queues then
   if z25.2.1.l.table = z25.2.1.l.table then
   (lpF (σ := Int × MemV × Unit) (β := (Int × MemV × Unit) ⊕ ((Bool × Unit) × (Unit))) (fun self48 x46 =>
   if x46.1 < z25.2.1.c.tasks then
   (pNext z25.2.1.l).bind fun r49 =>
   if r49.1.1 < 0 then
   if (wu (x46.1)) < 0 then
   (pState z25.2.1.l x46.1).bind fun r50 =>
   if r50.1.1 < 0 then
   Option.map Sum.inr (
   some ((false, ()), (()))
   )
   else
   if ((x46.2.1.cells.length : Nat) : Int) ≤ r50.1.1 then
   Option.map Sum.inr (
   some ((false, ()), (()))
   )
   else
   if 0 ≤ r50.1.1 ∧ r50.1.1 < ((x46.2.1.cells.length : Nat) : Int) then
   if (atK0 x46.2.1.cells r50.1.1) ≠ 4 then
   Option.map Sum.inr (
   some ((false, ()), (()))
   )
   else
   self48 (wi (x46.1 + 1), x46.2.1, ())
   else none
   else
   some (Sum.inl (x46.1, x46.2.1, ()))
   else
   if ((x46.2.1.cells.length : Nat) : Int) ≤ r49.1.1 then
   if (wu (x46.1)) < 0 then
   (pState z25.2.1.l x46.1).bind fun r51 =>
   if r51.1.1 < 0 then
   Option.map Sum.inr (
   some ((false, ()), (()))
   )
   else
   if ((x46.2.1.cells.length : Nat) : Int) ≤ r51.1.1 then
   Option.map Sum.inr (
   some ((false, ()), (()))
   )
   else
   if 0 ≤ r51.1.1 ∧ r51.1.1 < ((x46.2.1.cells.length : Nat) : Int) then
   if (atK0 x46.2.1.cells r51.1.1) ≠ 4 then
   Option.map Sum.inr (
   some ((false, ()), (()))
   )
   else
   self48 (wi (x46.1 + 1), x46.2.1, ())
   else none
   else
   some (Sum.inl (x46.1, x46.2.1, ()))
   else
   if 0 ≤ r49.1.1 ∧ r49.1.1 < ((x46.2.1.cells.length : Nat) : Int) then
   if (wu (x46.1)) < (atK0 x46.2.1.cells r49.1.1) then
   (pState z25.2.1.l x46.1).bind fun r52 =>
   if r52.1.1 < 0 then
   Option.map Sum.inr (
   some ((false, ()), (()))
   )
   else
   if ((x46.2.1.cells.length : Nat) : Int) ≤ r52.1.1 then
   Option.map Sum.inr (
   some ((false, ()), (()))
   )
   else
   if 0 ≤ r52.1.1 ∧ r52.1.1 < ((x46.2.1.cells.length : Nat) : Int) then
   if (atK0 x46.2.1.cells r52.1.1) ≠ 4 then
   Option.map Sum.inr (
   some ((false, ()), (()))
   )
   else
   self48 (wi (x46.1 + 1), x46.2.1, ())
   else none
   else
   some (Sum.inl (x46.1, x46.2.1, ()))
   else none
   else
   some (Sum.inl (x46.1, x46.2.1, ()))
   ) 18446744073709551616 (0, z25.2.1.m, ())).bind fun z47 => match z47 with
   | .inr o53 => some o53
   | .inl z47 =>
   (lpF (σ := Int × List St × (Int × List Int × Int × Int × Int × Int × Unit) × Unit) (β := Int × List St × (Int × List Int × Int × Int × Int × Int × Unit) × Unit) (fun self56 x54 =>
   if x54.1 < ((z25.2.1.evs.length : Nat) : Int) then
   if 0 ≤ x54.1 ∧ x54.1 < ((z25.2.1.evs.length : Nat) : Int) then
   if 0 ≤ x54.1 ∧ x54.1 < ((x54.2.2.1.2.1.length : Nat) : Int) then
   if (((x54.2.1.length + ([(⟨atK1 x54.2.2.1.2.1 x54.1, atK2 z25.2.1.evs x54.1⟩ : St)] : List St).length : Nat)) : Int) < 1000000000000 then
   self56 (wi (x54.1 + 1), x54.2.1 ++ ([(⟨atK1 x54.2.2.1.2.1 x54.1, atK2 z25.2.1.evs x54.1⟩ : St)]), x54.2.2.1, ())
   else none
   else none
   else none
   else
   some (x54.1, x54.2.1, x54.2.2.1, ())
   ) 18446744073709551616 (0, [], z25.2.2.2.2.1, ())).bind fun z55 =>
   (eventOf z55.2.1).bind fun r57 =>
   (workstealtopKinds r57.1.1).bind fun r58 =>
   if r58.1.1.a1 = 1 then
   if r58.1.1.a13 = 1 then
   if r58.1.1.a5 = 1 then
   some ((decide (r58.1.1.a10 = 1), ()), (()))
   else
   some ((false, ()), (()))
   else
   some ((false, ()), (()))
   else
   some ((false, ()), (()))
   else none
   else none
   else none
   else none
   else none
   else none
   else none
   else none
   else none
   else none
   else none
   else
   none
   else none
   else none
   else none
   else none
   else none
   else none
   else none
  else none
 else none
noncomputable abbrev workstealtopAwake28_k : Con SR1 := ⟨22, [], [.sh .b], fun x => workstealtopAwake28 ⟩
noncomputable def workstealtopAwake28_tb : List (Nat × Func) := [(21, Tryz.f21), (68, Tryz.f68), (114, Tryz.f114), (47, Tryz.f47), (44, Tryz.f44), (56, Tryz.f56), (105, Tryz.f105), (146, Tryz.f146), (103, Tryz.f103), (29, Tryz.f29), (26, Tryz.f26)]
theorem workstealtopAwake28_ok : CO Tryz.prog workstealtopAwake28_k := co_fn mixed Tryz.func22 [kconfig_k, workstealkeepOffers_k, machineNew_k, clientNew_k, workerNew_k, memoryMemoryCount_k, scriptMachine_k, clientClientStep_k, workerWorkerStep_k, clockClockTick_k, clockClockSet_k, memoryMemoryLast_k, workstealkeepPick_k, clientClientStatus_k, workerWorkerStatus_k, pNext_k, pState_k, eventOf_k, workstealtopKinds_k] ⟨kconfig_ok, workstealkeepOffers_ok, machineNew_ok, clientNew_ok, workerNew_ok, memoryMemoryCount_ok, scriptMachine_ok, clientClientStep_ok, workerWorkerStep_ok, clockClockTick_ok, clockClockSet_ok, memoryMemoryLast_ok, workstealkeepPick_ok, clientClientStatus_ok, workerWorkerStatus_ok, pNext_ok, pState_ok, eventOf_ok, workstealtopKinds_ok, trivial⟩ workstealtopAwake28_tb ⟨Tryz.func21, Tryz.func68, Tryz.func114, Tryz.func47, Tryz.func44, Tryz.func56, Tryz.func105, Tryz.func146, Tryz.func103, Tryz.func29, Tryz.func26, trivial⟩ (fun f => (get [(68, [(6, .spl 22 [1] 2)]), (114, [(2, .unroll 2)]), (47, [(1, .loop [.rg 8 sI_, .ob 38 27, .ob 52 31, .ob 40 30, .cx 41 [.inr (.ptr 38 0), .inr (.sl 54), .inr (.ptr 40 0), .inr (.sl 80), .inl sI_, .inl (.row 1), .inl sI_, .inl sI_, .inl sU_, .inl sU_]] 18446744073709551616 0)]), (44, [(9, .cut [.ob 38 27, .ob 52 31, .ob 40 30, .cx 41 [.inr (.ptr 38 0), .inr (.sl 54), .inr (.ptr 40 0), .inr (.sl 80), .inl sI_, .inl (.row 1), .inl sI_, .inl sI_, .inl sU_, .inl sU_]] [9, 10, 12, 83, 84, 85]), (9, .cut [.ob 38 27, .ob 52 31, .ob 40 30, .cx 41 [.inr (.ptr 38 0), .inr (.sl 54), .inr (.ptr 40 0), .inr (.sl 80), .inl sI_, .inl (.row 1), .inl sI_, .inl sI_, .inl sU_, .inl sU_]] [9, 10, 12, 86]), (12, .loop [.ob 38 27, .cx 41 [.inr (.ptr 38 0), .inr (.sl 54), .inr (.ptr 40 0), .inr (.sl 80), .inl sI_, .inl (.row 1), .inl sI_, .inl sI_, .inl sU_, .inl sU_]] 18446744073709551616 1)]), (56, [(6, .loopR [.rg 6 sI_, .ob 118 9] 18446744073709551616 0)]), (146, [(2, .unroll 2)]), (26, [(3, .loop [.rg 14 sI_, .rg 3 (.row 6), .cx 41 [.inr (.ptr 38 0), .inr (.sl 54), .inr (.ptr 40 0), .inr (.sl 80), .inl sI_, .inl (.row 1), .inl sI_, .inl sI_, .inl sU_, .inl sU_]] 18446744073709551616 0)])] f).getD []) [(5, .loopR [.rg 3 sI_, .ob 38 27, .ob 52 31, .ob 40 30, .cx 41 [.inr (.ptr 38 0), .inr (.sl 54), .inr (.ptr 40 0), .inr (.sl 80), .inl sI_, .inl (.row 1), .inl sI_, .inl sI_, .inl sU_, .inl sU_]] 18446744073709551616 0)] fun x => by kernel_rfl
noncomputable def workstealtopScriptsTravel1 (y0 : List Int) (y1 : List Int) : Option ((Bool × Unit) × (Unit)) :=
 (kshort y0 ([])).bind fun r1 =>
 if (!r1.1.1) = true then
  some ((true, ()), (()))
 else
 if 800 < ((y1.length : Nat) : Int) then
  some ((true, ()), (()))
 else
 (configDecode y0).bind fun r2 =>
 (scriptDecode y1).bind fun r3 =>
 (configEncode r2.1.1).bind fun r4 =>
 (scriptEncode r3.1.1).bind fun r5 =>
 (machineNew r2.1.1).bind fun r6 =>
 if r6.1.2.1 ≠ 0 then
  if r6.1.2.1 ≠ 0 then
   (configDecode r4.1.1).bind fun r7 =>
   (scriptDecode r5.1.1).bind fun r8 =>
   (machineNew r7.1.1).bind fun r9 =>
   if r9.1.2.1 ≠ 0 then
   if r9.1.2.1 ≠ 0 then
   some ((false, ()), (()))
   else
   some ((false, ()), (()))
   else
   (clientNew r7.1.1).bind fun r10 =>
   if r7.1.1.workers = ((1 : Nat) : Int) then
   (workerNew 0).bind fun r11 =>
   (lpF (travBody1 r8.1.1) 18446744073709551616 (0, r9.1.1, r11.1.1, r10.1.1, (0, [], 0, 0, 0, 0, ()), ())).bind fun z13 =>
   some ((false, ()), (()))
   else
   none
  else
  (configDecode r4.1.1).bind fun r30 =>
  (scriptDecode r5.1.1).bind fun r31 =>
  (machineNew r30.1.1).bind fun r32 =>
  if r32.1.2.1 ≠ 0 then
   if r32.1.2.1 ≠ 0 then
   some ((false, ()), (()))
   else
   some ((false, ()), (()))
  else
  (clientNew r30.1.1).bind fun r33 =>
  if r30.1.1.workers = ((1 : Nat) : Int) then
   (workerNew 0).bind fun r34 =>
   (lpF (travBody1 r31.1.1) 18446744073709551616 (0, r32.1.1, r34.1.1, r33.1.1, (0, [], 0, 0, 0, 0, ()), ())).bind fun z36 =>
   some ((false, ()), (()))
  else
  none
 else
 (clientNew r2.1.1).bind fun r53 =>
 if r2.1.1.workers = ((1 : Nat) : Int) then
  (workerNew 0).bind fun r54 =>
  (lpF (travBody1 r3.1.1) 18446744073709551616 (0, r6.1.1, r54.1.1, r53.1.1, (0, [], 0, 0, 0, 0, ()), ())).bind fun z56 =>
  (configDecode r4.1.1).bind fun r73 =>
  (scriptDecode r5.1.1).bind fun r74 =>
  (machineNew r73.1.1).bind fun r75 =>
  if r75.1.2.1 ≠ 0 then
   if r75.1.2.1 ≠ 0 then
   some ((false, ()), (()))
   else
   some ((false, ()), (()))
  else
  (clientNew r73.1.1).bind fun r76 =>
  if r73.1.1.workers = ((1 : Nat) : Int) then
   (workerNew 0).bind fun r77 =>
   (lpF (travBody1 r74.1.1) 18446744073709551616 (0, r75.1.1, r77.1.1, r76.1.1, (0, [], 0, 0, 0, 0, ()), ())).bind fun z79 =>
   (workstealtopAwake28).bind fun r96 =>
   if (!r96.1.1) = true then
   some ((false, ()), (()))
   else
   if r4.1.2.1 ≠ 0 then
   some ((false, ()), (()))
   else
   if r5.1.2.1 ≠ 0 then
   some ((false, ()), (()))
   else
   (r4decode y1).bind fun r97 =>
   (workstealref04Same r3.1.1 r97.1.1).bind fun r98 =>
   if (!r98.1.1) = true then
   some ((false, ()), (()))
   else
   (memoryMemoryCells z56.2.1.m).bind fun r99 =>
   (memoryMemoryCells z79.2.1.m).bind fun r100 =>
   if ((r99.1.1.length : Nat) : Int) ≠ ((r100.1.1.length : Nat) : Int) then
   some ((false, ()), (()))
   else
   (lpF (travEv z56.2.1.evs) 18446744073709551616 (0, [], z56.2.2.2.2.1, ())).bind fun z102 =>
   (lpF (travEv z79.2.1.evs) 18446744073709551616 (0, [], z79.2.2.2.2.1, ())).bind fun z105 =>
   if ((z102.2.1.length : Nat) : Int) ≠ ((z105.2.1.length : Nat) : Int) then
   some ((false, ()), (()))
   else
   (lpF (σ := Int × Unit) (β := (Int × Unit) ⊕ ((Bool × Unit) × (Unit))) (fun self109 x107 =>
   if x107.1 < ((r99.1.1.length : Nat) : Int) then
   if 0 ≤ x107.1 ∧ x107.1 < ((r99.1.1.length : Nat) : Int) then
   if 0 ≤ x107.1 ∧ x107.1 < ((r100.1.1.length : Nat) : Int) then
   if (atK0 r99.1.1 x107.1) ≠ (atK0 r100.1.1 x107.1) then
   Option.map Sum.inr (
   some ((false, ()), (()))
   )
   else
   self109 (wi (x107.1 + 1), ())
   else none
   else none
   else
   some (Sum.inl (x107.1, ()))
   ) 18446744073709551616 (0, ())).bind fun z108 => match z108 with
   | .inr o110 => some o110
   | .inl z108 =>
   some ((true, ()), (()))
  else
  none
 else
 none
noncomputable abbrev workstealtopScriptsTravel1_k : Con SR1 := ⟨4, [.sh (.ro 17), .sh (.ro 17)], [.sh .b], fun x => workstealtopScriptsTravel1 x.1 x.2.1⟩
noncomputable def workstealtopScriptsTravel1_tb : List (Nat × Func) := [(21, Tryz.f21), (68, Tryz.f68), (114, Tryz.f114), (47, Tryz.f47), (44, Tryz.f44), (25, Tryz.f25), (26, Tryz.f26)]
theorem workstealtopScriptsTravel1_ok : CO Tryz.prog workstealtopScriptsTravel1_k := co_fn mixed Tryz.func4 [kshort_k, configDecode_k, scriptDecode_k, configEncode_k, scriptEncode_k, machineNew_k, clientNew_k, workerNew_k, memoryMemoryCount_k, scriptMachine_k, clientClientStep_k, workerWorkerStep_k, clockClockTick_k, clockClockSet_k, memoryMemoryLast_k, workstealtopAwake28_k, r4decode_k, workstealref04Same_k, memoryMemoryCells_k] ⟨kshort_ok, configDecode_ok, scriptDecode_ok, configEncode_ok, scriptEncode_ok, machineNew_ok, clientNew_ok, workerNew_ok, memoryMemoryCount_ok, scriptMachine_ok, clientClientStep_ok, workerWorkerStep_ok, clockClockTick_ok, clockClockSet_ok, memoryMemoryLast_ok, workstealtopAwake28_ok, r4decode_ok, workstealref04Same_ok, memoryMemoryCells_ok, trivial⟩ workstealtopScriptsTravel1_tb ⟨Tryz.func21, Tryz.func68, Tryz.func114, Tryz.func47, Tryz.func44, Tryz.func25, Tryz.func26, trivial⟩ (fun f => (get [(68, [(6, .spl 22 [1] 2)]), (114, [(2, .unroll 2)]), (47, [(1, .loop [.rg 8 sI_, .ob 38 27, .ob 52 31, .ob 40 30, .cx 41 [.inr (.ptr 38 0), .inr (.sl 54), .inr (.ptr 40 0), .inr (.sl 80), .inl sI_, .inl (.row 1), .inl sI_, .inl sI_, .inl sU_, .inl sU_]] 18446744073709551616 0), (1, .loop [.rg 8 sI_, .ob 22 27, .ob 36 31, .ob 24 30, .cx 25 [.inr (.ptr 22 0), .inr (.sl 38), .inr (.ptr 24 0), .inr (.sl 64), .inl sI_, .inl (.row 1), .inl sI_, .inl sI_, .inl sU_, .inl sU_]] 18446744073709551616 0), (1, .loop [.rg 8 sI_, .ob 81 27, .ob 95 31, .ob 83 30, .cx 84 [.inr (.ptr 81 0), .inr (.sl 97), .inr (.ptr 83 0), .inr (.sl 123), .inl sI_, .inl (.row 1), .inl sI_, .inl sI_, .inl sU_, .inl sU_]] 18446744073709551616 0)]), (44, [(9, .cut [.ob 38 27, .ob 52 31, .ob 40 30, .cx 41 [.inr (.ptr 38 0), .inr (.sl 54), .inr (.ptr 40 0), .inr (.sl 80), .inl sI_, .inl (.row 1), .inl sI_, .inl sI_, .inl sU_, .inl sU_]] [0, 1, 12, 13, 15, 16, 18, 33, 34, 83, 84, 85]), (9, .cut [.ob 22 27, .ob 36 31, .ob 24 30, .cx 25 [.inr (.ptr 22 0), .inr (.sl 38), .inr (.ptr 24 0), .inr (.sl 64), .inl sI_, .inl (.row 1), .inl sI_, .inl sI_, .inl sU_, .inl sU_]] [0, 1, 12, 13, 15, 67, 68, 69]), (9, .cut [.ob 81 27, .ob 95 31, .ob 83 30, .cx 84 [.inr (.ptr 81 0), .inr (.sl 97), .inr (.ptr 83 0), .inr (.sl 123), .inl sI_, .inl (.row 1), .inl sI_, .inl sI_, .inl sU_, .inl sU_]] [0, 1, 12, 13, 15, 16, 18, 76, 77, 126, 127, 128]), (12, .loop [.ob 38 27, .cx 41 [.inr (.ptr 38 0), .inr (.sl 54), .inr (.ptr 40 0), .inr (.sl 80), .inl sI_, .inl (.row 1), .inl sI_, .inl sI_, .inl sU_, .inl sU_]] 18446744073709551616 1), (12, .loop [.ob 22 27, .cx 25 [.inr (.ptr 22 0), .inr (.sl 38), .inr (.ptr 24 0), .inr (.sl 64), .inl sI_, .inl (.row 1), .inl sI_, .inl sI_, .inl sU_, .inl sU_]] 18446744073709551616 1), (12, .loop [.ob 81 27, .cx 84 [.inr (.ptr 81 0), .inr (.sl 97), .inr (.ptr 83 0), .inr (.sl 123), .inl sI_, .inl (.row 1), .inl sI_, .inl sI_, .inl sU_, .inl sU_]] 18446744073709551616 1)]), (26, [(3, .loop [.rg 14 sI_, .rg 3 (.row 6), .cx 25 [.inr (.ptr 22 0), .inr (.sl 38), .inr (.ptr 24 0), .inr (.sl 64), .inl sI_, .inl (.row 1), .inl sI_, .inl sI_, .inl sU_, .inl sU_]] 18446744073709551616 0), (3, .loop [.rg 14 sI_, .rg 3 (.row 6), .cx 84 [.inr (.ptr 81 0), .inr (.sl 97), .inr (.ptr 83 0), .inr (.sl 123), .inl sI_, .inl (.row 1), .inl sI_, .inl sI_, .inl sU_, .inl sU_]] 18446744073709551616 0)])] f).getD []) [(14, .loopR [.rg 15 sI_] 18446744073709551616 0)] fun x => by kernel_rfl
end
section
open Go Go.RowKit
set_option maxRecDepth 100000
variable [Tb]
theorem awake28_eq : workstealtopAwake28 = some ((true, ()), ()) := by kernel_rfl
end
section
open Go Go.RowKit
set_option maxRecDepth 100000
variable [Tb]
theorem stamp_good2 {N : Nat} {env : EnvP} {eng : EngT} (F : (EnvP × EngT × Unit → Option (EnvP × EngT × Unit)) → EnvP × EngT × Unit → Option (EnvP × EngT × Unit))
    (hF : ∀ self x, F self x = if ((x.2.1.2.1.length : Nat) : Int) < ((x.1.evs.length : Nat) : Int) then
        if (((x.2.1.2.1.length + ([x.2.1.1] : List Int).length : Nat)) : Int) < 1000000000000 then self (x.1, (x.2.1.1, x.2.1.2.1 ++ ([x.2.1.1]), x.2.1.2.2.1, x.2.1.2.2.2.1, x.2.1.2.2.2.2.1, x.2.1.2.2.2.2.2.1, ()), ()) else none
      else some (x.1, (x.2.1.1, x.2.1.2.1, x.2.1.2.2.1, x.2.1.2.2.2.1, x.2.1.2.2.2.2.1, x.2.1.2.2.2.2.2.1, ()), ()))
    (h : eng.2.1.length ≤ N) (he : env.evs.length ≤ N) (hN : N ≤ 999999999) :
    Good (lpF F 18446744073709551616 (env, eng, ())) fun z => z.1 = env ∧ z.2.1.2.1.length ≤ N ∧ env.evs.length ≤ z.2.1.2.1.length := by
  refine lp_good (fun x => x.1 = env ∧ x.2.1.2.1.length ≤ N) (fun x => env.evs.length - x.2.1.2.1.length) (fun self x hx ih => ?_) _ _ ⟨rfl, h⟩ (by show env.evs.length - _ < _; omega)
  obtain ⟨e, ⟨n, st, a, b, c, d, ⟨⟩⟩, ⟨⟩⟩ := x
  obtain ⟨h1, h2⟩ := hx
  simp only at h1 h2
  subst h1
  rw [hF]
  refine Good.ite (fun hlt => ?_) fun hge => ?_
  · have hlt : ((st.length : Nat) : Int) < ((e.evs.length : Nat) : Int) := hlt
    refine Good.guard (by simp only [List.length_singleton]; omega) fun _ => ?_
    refine ih _ ⟨rfl, ?_⟩ ?_
    · show (st ++ [n]).length ≤ _
      rw [List.length_append, List.length_singleton]
      omega
    · show e.evs.length - (st ++ [n]).length < e.evs.length - st.length
      rw [List.length_append, List.length_singleton]
      omega
  · have hge : ¬ ((st.length : Nat) : Int) < ((e.evs.length : Nat) : Int) := hge
    exact .some_ ⟨rfl, h2, by show e.evs.length ≤ st.length; omega⟩
theorem ttail_good {σ : Type} {N : Nat} {c0 : Int} {env : EnvP} {eng : EngT} {self : EnvP → EngT → Option σ} {P : σ → Prop}
    (hev : env.evs.length ≤ N) (hst : eng.2.1.length ≤ N) (hN : N ≤ 999999999)
    (hs : ∀ eng' : EngT, eng'.2.1.length ≤ N → env.evs.length ≤ eng'.2.1.length → Good (self env eng') P) : Good (travTail c0 env eng self) P := by
  unfold travTail
  rw [count_eq, bnd]
  refine Good.ite (fun _ => ?_) fun _ => ?_
  · rw [last_eq, bnd]
    refine Good.bind (stamp_good2 _ (fun _ _ => rfl) (by exact hst) (by exact hev) hN) fun z hz => ?_
    obtain ⟨z1, z2, z3⟩ := hz
    rw [z1]
    exact hs _ z2 z3
  · refine Good.bind (stamp_good2 _ (fun _ _ => rfl) (by exact hst) (by exact hev) hN) fun z hz => ?_
    obtain ⟨z1, z2, z3⟩ := hz
    rw [z1]
    exact hs _ z2 z3
theorem ev_good {evs : List Ev} {eng : EngT} (h : evs.length ≤ eng.2.1.length) (hl : evs.length ≤ 1000000) : Good (lpF (travEv evs) 18446744073709551616 (0, [], eng, ())) fun _ => True := by
  refine lp_good (fun x => 0 ≤ x.1 ∧ x.1 ≤ (evs.length : Int) ∧ (x.2.1.length : Int) ≤ x.1 ∧ x.2.2.1.2.1 = eng.2.1) (fun x => ((evs.length : Int) - x.1).toNat) (fun self x ⟨q0, q1, q2, q3⟩ ih => ?_) _ _ ⟨Int.le_refl 0, by show (0 : Int) ≤ _; omega, by show ((0 : Nat) : Int) ≤ 0; omega, rfl⟩ (by show (_ - 0 : Int).toNat < _; omega)
  have e1 : wi (x.1 + 1) = x.1 + 1 := wi_id (rg_lit (by omega))
  unfold travEv
  rw [e1]
  refine Good.ite (fun h1 => ?_) fun _ => .some_ trivial
  refine .guard ⟨q0, h1⟩ fun _ => .guard ⟨q0, by rw [q3]; omega⟩ fun _ => .guard (by show (((x.2.1.length + 1 : Nat)) : Int) < _; omega) fun _ => ih _ ⟨by show 0 ≤ x.1 + 1; omega, by show x.1 + 1 ≤ _; omega, ?_, q3⟩ (by show (_ - (x.1 + 1) : Int).toNat < (_ - x.1 : Int).toNat; omega)
  show ((x.2.1 ++ [_]).length : Int) ≤ x.1 + 1
  rw [List.length_append, List.length_singleton]; omega
theorem cells_good {a : List Int} (ha : a.length ≤ 1000000) (F : (Int × Unit → Option ((Int × Unit) ⊕ ((Bool × Unit) × Unit))) → Int × Unit → Option ((Int × Unit) ⊕ ((Bool × Unit) × Unit)))
    (hF : ∀ self x, F self x = if x.1 < ((a.length : Nat) : Int) then
      if 0 ≤ x.1 ∧ x.1 < ((a.length : Nat) : Int) then
       if 0 ≤ x.1 ∧ x.1 < ((a.length : Nat) : Int) then
        if (atK0 a x.1) ≠ (atK0 a x.1) then Option.map Sum.inr (some ((false, ()), (())))
        else self (wi (x.1 + 1), ())
       else none
      else none
     else some (Sum.inl (x.1, ()))) :
    Good (lpF F 18446744073709551616 (0, ())) fun z => ∃ y, z = Sum.inl y := by
  refine lp_good (fun x => 0 ≤ x.1 ∧ x.1 ≤ (a.length : Int)) (fun x => ((a.length : Int) - x.1).toNat) (fun self x ⟨q0, q1⟩ ih => ?_) _ _ ⟨Int.le_refl 0, by show (0 : Int) ≤ _; omega⟩ (by show (_ - 0 : Int).toNat < _; omega)
  have e1 : wi (x.1 + 1) = x.1 + 1 := wi_id (rg_lit (by omega))
  rw [hF, e1]
  refine Good.ite (fun h1 => ?_) fun _ => .some_ ⟨_, rfl⟩
  refine .guard ⟨q0, h1⟩ fun _ => .guard ⟨q0, h1⟩ fun _ => ?_
  rw [if_neg (fun h => h rfl)]
  exact ih _ ⟨by show 0 ≤ x.1 + 1; omega, by show x.1 + 1 ≤ _; omega⟩ (by show (_ - (x.1 + 1) : Int).toNat < (_ - x.1 : Int).toNat; omega)
end
section
open Go Go.RowKit
set_option maxRecDepth 100000
variable [Tb]
noncomputable def workstealtopScriptsTravel2 (y0 : List Int) (y1 : List Int) : Option ((Bool × Unit) × (Unit)) :=
 (kshort y0 ([])).bind fun r1 =>
 if (!r1.1.1) = true then
  some ((true, ()), (()))
 else
 if 800 < ((y1.length : Nat) : Int) then
  some ((true, ()), (()))
 else
 (configDecode y0).bind fun r2 =>
 (scriptDecode y1).bind fun r3 =>
 (configEncode r2.1.1).bind fun r4 =>
 (scriptEncode r3.1.1).bind fun r5 =>
 (machineNew r2.1.1).bind fun r6 =>
 if r6.1.2.1 ≠ 0 then
  if r6.1.2.1 ≠ 0 then
   (configDecode r4.1.1).bind fun r7 =>
   (scriptDecode r5.1.1).bind fun r8 =>
   (machineNew r7.1.1).bind fun r9 =>
   if r9.1.2.1 ≠ 0 then
   if r9.1.2.1 ≠ 0 then
   some ((false, ()), (()))
   else
   some ((false, ()), (()))
   else
   (clientNew r7.1.1).bind fun r10 =>
   if r7.1.1.workers = ((2 : Nat) : Int) then
   (workerNew 0).bind fun r11 =>
   (workerNew 1).bind fun r12 =>
   (lpF (travBody2 r8.1.1) 18446744073709551616 (0, r9.1.1, r11.1.1, r12.1.1, r10.1.1, (0, [], 0, 0, 0, 0, ()), ())).bind fun z14 =>
   some ((false, ()), (()))
   else
   none
  else
  (configDecode r4.1.1).bind fun r32 =>
  (scriptDecode r5.1.1).bind fun r33 =>
  (machineNew r32.1.1).bind fun r34 =>
  if r34.1.2.1 ≠ 0 then
   if r34.1.2.1 ≠ 0 then
   some ((false, ()), (()))
   else
   some ((false, ()), (()))
  else
  (clientNew r32.1.1).bind fun r35 =>
  if r32.1.1.workers = ((2 : Nat) : Int) then
   (workerNew 0).bind fun r36 =>
   (workerNew 1).bind fun r37 =>
   (lpF (travBody2 r33.1.1) 18446744073709551616 (0, r34.1.1, r36.1.1, r37.1.1, r35.1.1, (0, [], 0, 0, 0, 0, ()), ())).bind fun z39 =>
   some ((false, ()), (()))
  else
  none
 else
 (clientNew r2.1.1).bind fun r57 =>
 if r2.1.1.workers = ((2 : Nat) : Int) then
  (workerNew 0).bind fun r58 =>
  (workerNew 1).bind fun r59 =>
  (lpF (travBody2 r3.1.1) 18446744073709551616 (0, r6.1.1, r58.1.1, r59.1.1, r57.1.1, (0, [], 0, 0, 0, 0, ()), ())).bind fun z61 =>
  (configDecode r4.1.1).bind fun r79 =>
  (scriptDecode r5.1.1).bind fun r80 =>
  (machineNew r79.1.1).bind fun r81 =>
  if r81.1.2.1 ≠ 0 then
   if r81.1.2.1 ≠ 0 then
   some ((false, ()), (()))
   else
   some ((false, ()), (()))
  else
  (clientNew r79.1.1).bind fun r82 =>
  if r79.1.1.workers = ((2 : Nat) : Int) then
   (workerNew 0).bind fun r83 =>
   (workerNew 1).bind fun r84 =>
   (lpF (travBody2 r80.1.1) 18446744073709551616 (0, r81.1.1, r83.1.1, r84.1.1, r82.1.1, (0, [], 0, 0, 0, 0, ()), ())).bind fun z86 =>
   (workstealtopAwake28).bind fun r104 =>
   if (!r104.1.1) = true then
   some ((false, ()), (()))
   else
   if r4.1.2.1 ≠ 0 then
   some ((false, ()), (()))
   else
   if r5.1.2.1 ≠ 0 then
   some ((false, ()), (()))
   else
   (r4decode y1).bind fun r105 =>
   (workstealref04Same r3.1.1 r105.1.1).bind fun r106 =>
   if (!r106.1.1) = true then
   some ((false, ()), (()))
   else
   (memoryMemoryCells z61.2.1.m).bind fun r107 =>
   (memoryMemoryCells z86.2.1.m).bind fun r108 =>
   if ((r107.1.1.length : Nat) : Int) ≠ ((r108.1.1.length : Nat) : Int) then
   some ((false, ()), (()))
   else
   (lpF (travEv z61.2.1.evs) 18446744073709551616 (0, [], z61.2.2.2.2.2.1, ())).bind fun z110 =>
   (lpF (travEv z86.2.1.evs) 18446744073709551616 (0, [], z86.2.2.2.2.2.1, ())).bind fun z113 =>
   if ((z110.2.1.length : Nat) : Int) ≠ ((z113.2.1.length : Nat) : Int) then
   some ((false, ()), (()))
   else
   (lpF (σ := Int × Unit) (β := (Int × Unit) ⊕ ((Bool × Unit) × (Unit))) (fun self117 x115 =>
   if x115.1 < ((r107.1.1.length : Nat) : Int) then
   if 0 ≤ x115.1 ∧ x115.1 < ((r107.1.1.length : Nat) : Int) then
   if 0 ≤ x115.1 ∧ x115.1 < ((r108.1.1.length : Nat) : Int) then
   if (atK0 r107.1.1 x115.1) ≠ (atK0 r108.1.1 x115.1) then
   Option.map Sum.inr (
   some ((false, ()), (()))
   )
   else
   self117 (wi (x115.1 + 1), ())
   else none
   else none
   else
   some (Sum.inl (x115.1, ()))
   ) 18446744073709551616 (0, ())).bind fun z116 => match z116 with
   | .inr o118 => some o118
   | .inl z116 =>
   some ((true, ()), (()))
  else
  none
 else
 none
noncomputable abbrev workstealtopScriptsTravel2_k : Con SR1 := ⟨4, [.sh (.ro 17), .sh (.ro 17)], [.sh .b], fun x => workstealtopScriptsTravel2 x.1 x.2.1⟩
noncomputable def workstealtopScriptsTravel2_tb : List (Nat × Func) := [(21, Tryz.f21), (68, Tryz.f68), (114, Tryz.f114), (47, Tryz.f47), (44, Tryz.f44), (25, Tryz.f25), (26, Tryz.f26)]
theorem workstealtopScriptsTravel2_ok : CO Tryz.prog workstealtopScriptsTravel2_k := co_fn mixed Tryz.func4 [kshort_k, configDecode_k, scriptDecode_k, configEncode_k, scriptEncode_k, machineNew_k, clientNew_k, workerNew_k, memoryMemoryCount_k, scriptMachine_k, clientClientStep_k, workerWorkerStep_k, clockClockTick_k, clockClockSet_k, memoryMemoryLast_k, workstealtopAwake28_k, r4decode_k, workstealref04Same_k, memoryMemoryCells_k] ⟨kshort_ok, configDecode_ok, scriptDecode_ok, configEncode_ok, scriptEncode_ok, machineNew_ok, clientNew_ok, workerNew_ok, memoryMemoryCount_ok, scriptMachine_ok, clientClientStep_ok, workerWorkerStep_ok, clockClockTick_ok, clockClockSet_ok, memoryMemoryLast_ok, workstealtopAwake28_ok, r4decode_ok, workstealref04Same_ok, memoryMemoryCells_ok, trivial⟩ workstealtopScriptsTravel2_tb ⟨Tryz.func21, Tryz.func68, Tryz.func114, Tryz.func47, Tryz.func44, Tryz.func25, Tryz.func26, trivial⟩ (fun f => (get [(68, [(6, .spl 22 [2] 3)]), (114, [(2, .unroll 3)]), (47, [(1, .loop [.rg 8 sI_, .ob 38 27, .ob 52 31, .ob 66 31, .ob 40 30, .cx 41 [.inr (.ptr 38 0), .inr (.sl 68), .inr (.ptr 40 0), .inr (.sl 97), .inl sI_, .inl (.row 1), .inl sI_, .inl sI_, .inl sU_, .inl sU_]] 18446744073709551616 0), (1, .loop [.rg 8 sI_, .ob 22 27, .ob 36 31, .ob 50 31, .ob 24 30, .cx 25 [.inr (.ptr 22 0), .inr (.sl 52), .inr (.ptr 24 0), .inr (.sl 81), .inl sI_, .inl (.row 1), .inl sI_, .inl sI_, .inl sU_, .inl sU_]] 18446744073709551616 0), (1, .loop [.rg 8 sI_, .ob 98 27, .ob 112 31, .ob 126 31, .ob 100 30, .cx 101 [.inr (.ptr 98 0), .inr (.sl 128), .inr (.ptr 100 0), .inr (.sl 157), .inl sI_, .inl (.row 1), .inl sI_, .inl sI_, .inl sU_, .inl sU_]] 18446744073709551616 0)]), (44, [(9, .cut [.ob 38 27, .ob 52 31, .ob 66 31, .ob 40 30, .cx 41 [.inr (.ptr 38 0), .inr (.sl 68), .inr (.ptr 40 0), .inr (.sl 97), .inl sI_, .inl (.row 1), .inl sI_, .inl sI_, .inl sU_, .inl sU_]] [0, 1, 12, 13, 15, 16, 18, 33, 34, 100, 101, 102]), (9, .cut [.ob 22 27, .ob 36 31, .ob 50 31, .ob 24 30, .cx 25 [.inr (.ptr 22 0), .inr (.sl 52), .inr (.ptr 24 0), .inr (.sl 81), .inl sI_, .inl (.row 1), .inl sI_, .inl sI_, .inl sU_, .inl sU_]] [0, 1, 12, 13, 15, 84, 85, 86]), (9, .cut [.ob 98 27, .ob 112 31, .ob 126 31, .ob 100 30, .cx 101 [.inr (.ptr 98 0), .inr (.sl 128), .inr (.ptr 100 0), .inr (.sl 157), .inl sI_, .inl (.row 1), .inl sI_, .inl sI_, .inl sU_, .inl sU_]] [0, 1, 12, 13, 15, 16, 18, 93, 94, 160, 161, 162]), (12, .loop [.ob 38 27, .cx 41 [.inr (.ptr 38 0), .inr (.sl 68), .inr (.ptr 40 0), .inr (.sl 97), .inl sI_, .inl (.row 1), .inl sI_, .inl sI_, .inl sU_, .inl sU_]] 18446744073709551616 1), (12, .loop [.ob 22 27, .cx 25 [.inr (.ptr 22 0), .inr (.sl 52), .inr (.ptr 24 0), .inr (.sl 81), .inl sI_, .inl (.row 1), .inl sI_, .inl sI_, .inl sU_, .inl sU_]] 18446744073709551616 1), (12, .loop [.ob 98 27, .cx 101 [.inr (.ptr 98 0), .inr (.sl 128), .inr (.ptr 100 0), .inr (.sl 157), .inl sI_, .inl (.row 1), .inl sI_, .inl sI_, .inl sU_, .inl sU_]] 18446744073709551616 1)]), (26, [(3, .loop [.rg 14 sI_, .rg 3 (.row 6), .cx 25 [.inr (.ptr 22 0), .inr (.sl 52), .inr (.ptr 24 0), .inr (.sl 81), .inl sI_, .inl (.row 1), .inl sI_, .inl sI_, .inl sU_, .inl sU_]] 18446744073709551616 0), (3, .loop [.rg 14 sI_, .rg 3 (.row 6), .cx 101 [.inr (.ptr 98 0), .inr (.sl 128), .inr (.ptr 100 0), .inr (.sl 157), .inl sI_, .inl (.row 1), .inl sI_, .inl sI_, .inl sU_, .inl sU_]] 18446744073709551616 0)])] f).getD []) [(14, .loopR [.rg 15 sI_] 18446744073709551616 0)] fun x => by kernel_rfl
end
section
open Go Go.RowKit
set_option maxRecDepth 100000
variable [Tb]
noncomputable def workstealtopScriptsTravel3 (y0 : List Int) (y1 : List Int) : Option ((Bool × Unit) × (Unit)) :=
 (kshort y0 ([])).bind fun r1 =>
 if (!r1.1.1) = true then
  some ((true, ()), (()))
 else
 if 800 < ((y1.length : Nat) : Int) then
  some ((true, ()), (()))
 else
 (configDecode y0).bind fun r2 =>
 (scriptDecode y1).bind fun r3 =>
 (configEncode r2.1.1).bind fun r4 =>
 (scriptEncode r3.1.1).bind fun r5 =>
 (machineNew r2.1.1).bind fun r6 =>
 if r6.1.2.1 ≠ 0 then
  if r6.1.2.1 ≠ 0 then
   (configDecode r4.1.1).bind fun r7 =>
   (scriptDecode r5.1.1).bind fun r8 =>
   (machineNew r7.1.1).bind fun r9 =>
   if r9.1.2.1 ≠ 0 then
   if r9.1.2.1 ≠ 0 then
   some ((false, ()), (()))
   else
   some ((false, ()), (()))
   else
   (clientNew r7.1.1).bind fun r10 =>
   if r7.1.1.workers = ((3 : Nat) : Int) then
   (workerNew 0).bind fun r11 =>
   (workerNew 1).bind fun r12 =>
   (workerNew 2).bind fun r13 =>
   (lpF (travBody3 r8.1.1) 18446744073709551616 (0, r9.1.1, r11.1.1, r12.1.1, r13.1.1, r10.1.1, (0, [], 0, 0, 0, 0, ()), ())).bind fun z15 =>
   some ((false, ()), (()))
   else
   none
  else
  (configDecode r4.1.1).bind fun r34 =>
  (scriptDecode r5.1.1).bind fun r35 =>
  (machineNew r34.1.1).bind fun r36 =>
  if r36.1.2.1 ≠ 0 then
   if r36.1.2.1 ≠ 0 then
   some ((false, ()), (()))
   else
   some ((false, ()), (()))
  else
  (clientNew r34.1.1).bind fun r37 =>
  if r34.1.1.workers = ((3 : Nat) : Int) then
   (workerNew 0).bind fun r38 =>
   (workerNew 1).bind fun r39 =>
   (workerNew 2).bind fun r40 =>
   (lpF (travBody3 r35.1.1) 18446744073709551616 (0, r36.1.1, r38.1.1, r39.1.1, r40.1.1, r37.1.1, (0, [], 0, 0, 0, 0, ()), ())).bind fun z42 =>
   some ((false, ()), (()))
  else
  none
 else
 (clientNew r2.1.1).bind fun r61 =>
 if r2.1.1.workers = ((3 : Nat) : Int) then
  (workerNew 0).bind fun r62 =>
  (workerNew 1).bind fun r63 =>
  (workerNew 2).bind fun r64 =>
  (lpF (travBody3 r3.1.1) 18446744073709551616 (0, r6.1.1, r62.1.1, r63.1.1, r64.1.1, r61.1.1, (0, [], 0, 0, 0, 0, ()), ())).bind fun z66 =>
  (configDecode r4.1.1).bind fun r85 =>
  (scriptDecode r5.1.1).bind fun r86 =>
  (machineNew r85.1.1).bind fun r87 =>
  if r87.1.2.1 ≠ 0 then
   if r87.1.2.1 ≠ 0 then
   some ((false, ()), (()))
   else
   some ((false, ()), (()))
  else
  (clientNew r85.1.1).bind fun r88 =>
  if r85.1.1.workers = ((3 : Nat) : Int) then
   (workerNew 0).bind fun r89 =>
   (workerNew 1).bind fun r90 =>
   (workerNew 2).bind fun r91 =>
   (lpF (travBody3 r86.1.1) 18446744073709551616 (0, r87.1.1, r89.1.1, r90.1.1, r91.1.1, r88.1.1, (0, [], 0, 0, 0, 0, ()), ())).bind fun z93 =>
   (workstealtopAwake28).bind fun r112 =>
   if (!r112.1.1) = true then
   some ((false, ()), (()))
   else
   if r4.1.2.1 ≠ 0 then
   some ((false, ()), (()))
   else
   if r5.1.2.1 ≠ 0 then
   some ((false, ()), (()))
   else
   (r4decode y1).bind fun r113 =>
   (workstealref04Same r3.1.1 r113.1.1).bind fun r114 =>
   if (!r114.1.1) = true then
   some ((false, ()), (()))
   else
   (memoryMemoryCells z66.2.1.m).bind fun r115 =>
   (memoryMemoryCells z93.2.1.m).bind fun r116 =>
   if ((r115.1.1.length : Nat) : Int) ≠ ((r116.1.1.length : Nat) : Int) then
   some ((false, ()), (()))
   else
   (lpF (travEv z66.2.1.evs) 18446744073709551616 (0, [], z66.2.2.2.2.2.2.1, ())).bind fun z118 =>
   (lpF (travEv z93.2.1.evs) 18446744073709551616 (0, [], z93.2.2.2.2.2.2.1, ())).bind fun z121 =>
   if ((z118.2.1.length : Nat) : Int) ≠ ((z121.2.1.length : Nat) : Int) then
   some ((false, ()), (()))
   else
   (lpF (σ := Int × Unit) (β := (Int × Unit) ⊕ ((Bool × Unit) × (Unit))) (fun self125 x123 =>
   if x123.1 < ((r115.1.1.length : Nat) : Int) then
   if 0 ≤ x123.1 ∧ x123.1 < ((r115.1.1.length : Nat) : Int) then
   if 0 ≤ x123.1 ∧ x123.1 < ((r116.1.1.length : Nat) : Int) then
   if (atK0 r115.1.1 x123.1) ≠ (atK0 r116.1.1 x123.1) then
   Option.map Sum.inr (
   some ((false, ()), (()))
   )
   else
   self125 (wi (x123.1 + 1), ())
   else none
   else none
   else
   some (Sum.inl (x123.1, ()))
   ) 18446744073709551616 (0, ())).bind fun z124 => match z124 with
   | .inr o126 => some o126
   | .inl z124 =>
   some ((true, ()), (()))
  else
  none
 else
 none
noncomputable abbrev workstealtopScriptsTravel3_k : Con SR1 := ⟨4, [.sh (.ro 17), .sh (.ro 17)], [.sh .b], fun x => workstealtopScriptsTravel3 x.1 x.2.1⟩
noncomputable def workstealtopScriptsTravel3_tb : List (Nat × Func) := [(21, Tryz.f21), (68, Tryz.f68), (114, Tryz.f114), (47, Tryz.f47), (44, Tryz.f44), (25, Tryz.f25), (26, Tryz.f26)]
theorem workstealtopScriptsTravel3_ok : CO Tryz.prog workstealtopScriptsTravel3_k := co_fn mixed Tryz.func4 [kshort_k, configDecode_k, scriptDecode_k, configEncode_k, scriptEncode_k, machineNew_k, clientNew_k, workerNew_k, memoryMemoryCount_k, scriptMachine_k, clientClientStep_k, workerWorkerStep_k, clockClockTick_k, clockClockSet_k, memoryMemoryLast_k, workstealtopAwake28_k, r4decode_k, workstealref04Same_k, memoryMemoryCells_k] ⟨kshort_ok, configDecode_ok, scriptDecode_ok, configEncode_ok, scriptEncode_ok, machineNew_ok, clientNew_ok, workerNew_ok, memoryMemoryCount_ok, scriptMachine_ok, clientClientStep_ok, workerWorkerStep_ok, clockClockTick_ok, clockClockSet_ok, memoryMemoryLast_ok, workstealtopAwake28_ok, r4decode_ok, workstealref04Same_ok, memoryMemoryCells_ok, trivial⟩ workstealtopScriptsTravel3_tb ⟨Tryz.func21, Tryz.func68, Tryz.func114, Tryz.func47, Tryz.func44, Tryz.func25, Tryz.func26, trivial⟩ (fun f => (get [(68, [(6, .spl 22 [3] 4)]), (114, [(2, .unroll 4)]), (47, [(1, .loop [.rg 8 sI_, .ob 38 27, .ob 52 31, .ob 66 31, .ob 80 31, .ob 40 30, .cx 41 [.inr (.ptr 38 0), .inr (.sl 82), .inr (.ptr 40 0), .inr (.sl 114), .inl sI_, .inl (.row 1), .inl sI_, .inl sI_, .inl sU_, .inl sU_]] 18446744073709551616 0), (1, .loop [.rg 8 sI_, .ob 22 27, .ob 36 31, .ob 50 31, .ob 64 31, .ob 24 30, .cx 25 [.inr (.ptr 22 0), .inr (.sl 66), .inr (.ptr 24 0), .inr (.sl 98), .inl sI_, .inl (.row 1), .inl sI_, .inl sI_, .inl sU_, .inl sU_]] 18446744073709551616 0), (1, .loop [.rg 8 sI_, .ob 115 27, .ob 129 31, .ob 143 31, .ob 157 31, .ob 117 30, .cx 118 [.inr (.ptr 115 0), .inr (.sl 159), .inr (.ptr 117 0), .inr (.sl 191), .inl sI_, .inl (.row 1), .inl sI_, .inl sI_, .inl sU_, .inl sU_]] 18446744073709551616 0)]), (44, [(9, .cut [.ob 38 27, .ob 52 31, .ob 66 31, .ob 80 31, .ob 40 30, .cx 41 [.inr (.ptr 38 0), .inr (.sl 82), .inr (.ptr 40 0), .inr (.sl 114), .inl sI_, .inl (.row 1), .inl sI_, .inl sI_, .inl sU_, .inl sU_]] [0, 1, 12, 13, 15, 16, 18, 33, 34, 117, 118, 119]), (9, .cut [.ob 22 27, .ob 36 31, .ob 50 31, .ob 64 31, .ob 24 30, .cx 25 [.inr (.ptr 22 0), .inr (.sl 66), .inr (.ptr 24 0), .inr (.sl 98), .inl sI_, .inl (.row 1), .inl sI_, .inl sI_, .inl sU_, .inl sU_]] [0, 1, 12, 13, 15, 101, 102, 103]), (9, .cut [.ob 115 27, .ob 129 31, .ob 143 31, .ob 157 31, .ob 117 30, .cx 118 [.inr (.ptr 115 0), .inr (.sl 159), .inr (.ptr 117 0), .inr (.sl 191), .inl sI_, .inl (.row 1), .inl sI_, .inl sI_, .inl sU_, .inl sU_]] [0, 1, 12, 13, 15, 16, 18, 110, 111, 194, 195, 196]), (12, .loop [.ob 38 27, .cx 41 [.inr (.ptr 38 0), .inr (.sl 82), .inr (.ptr 40 0), .inr (.sl 114), .inl sI_, .inl (.row 1), .inl sI_, .inl sI_, .inl sU_, .inl sU_]] 18446744073709551616 1), (12, .loop [.ob 22 27, .cx 25 [.inr (.ptr 22 0), .inr (.sl 66), .inr (.ptr 24 0), .inr (.sl 98), .inl sI_, .inl (.row 1), .inl sI_, .inl sI_, .inl sU_, .inl sU_]] 18446744073709551616 1), (12, .loop [.ob 115 27, .cx 118 [.inr (.ptr 115 0), .inr (.sl 159), .inr (.ptr 117 0), .inr (.sl 191), .inl sI_, .inl (.row 1), .inl sI_, .inl sI_, .inl sU_, .inl sU_]] 18446744073709551616 1)]), (26, [(3, .loop [.rg 14 sI_, .rg 3 (.row 6), .cx 25 [.inr (.ptr 22 0), .inr (.sl 66), .inr (.ptr 24 0), .inr (.sl 98), .inl sI_, .inl (.row 1), .inl sI_, .inl sI_, .inl sU_, .inl sU_]] 18446744073709551616 0), (3, .loop [.rg 14 sI_, .rg 3 (.row 6), .cx 118 [.inr (.ptr 115 0), .inr (.sl 159), .inr (.ptr 117 0), .inr (.sl 191), .inl sI_, .inl (.row 1), .inl sI_, .inl sI_, .inl sU_, .inl sU_]] 18446744073709551616 0)])] f).getD []) [(14, .loopR [.rg 15 sI_] 18446744073709551616 0)] fun x => by kernel_rfl
end
section
open Go Go.RowKit
set_option maxRecDepth 100000
variable [Tb]
noncomputable def workstealtopScriptsTravel4 (y0 : List Int) (y1 : List Int) : Option ((Bool × Unit) × (Unit)) :=
 (kshort y0 ([])).bind fun r1 =>
 if (!r1.1.1) = true then
  some ((true, ()), (()))
 else
 if 800 < ((y1.length : Nat) : Int) then
  some ((true, ()), (()))
 else
 (configDecode y0).bind fun r2 =>
 (scriptDecode y1).bind fun r3 =>
 (configEncode r2.1.1).bind fun r4 =>
 (scriptEncode r3.1.1).bind fun r5 =>
 (machineNew r2.1.1).bind fun r6 =>
 if r6.1.2.1 ≠ 0 then
  if r6.1.2.1 ≠ 0 then
   (configDecode r4.1.1).bind fun r7 =>
   (scriptDecode r5.1.1).bind fun r8 =>
   (machineNew r7.1.1).bind fun r9 =>
   if r9.1.2.1 ≠ 0 then
   if r9.1.2.1 ≠ 0 then
   some ((false, ()), (()))
   else
   some ((false, ()), (()))
   else
   (clientNew r7.1.1).bind fun r10 =>
   if r7.1.1.workers = ((4 : Nat) : Int) then
   (workerNew 0).bind fun r11 =>
   (workerNew 1).bind fun r12 =>
   (workerNew 2).bind fun r13 =>
   (workerNew 3).bind fun r14 =>
   (lpF (travBody4 r8.1.1) 18446744073709551616 (0, r9.1.1, r11.1.1, r12.1.1, r13.1.1, r14.1.1, r10.1.1, (0, [], 0, 0, 0, 0, ()), ())).bind fun z16 =>
   some ((false, ()), (()))
   else
   none
  else
  (configDecode r4.1.1).bind fun r36 =>
  (scriptDecode r5.1.1).bind fun r37 =>
  (machineNew r36.1.1).bind fun r38 =>
  if r38.1.2.1 ≠ 0 then
   if r38.1.2.1 ≠ 0 then
   some ((false, ()), (()))
   else
   some ((false, ()), (()))
  else
  (clientNew r36.1.1).bind fun r39 =>
  if r36.1.1.workers = ((4 : Nat) : Int) then
   (workerNew 0).bind fun r40 =>
   (workerNew 1).bind fun r41 =>
   (workerNew 2).bind fun r42 =>
   (workerNew 3).bind fun r43 =>
   (lpF (travBody4 r37.1.1) 18446744073709551616 (0, r38.1.1, r40.1.1, r41.1.1, r42.1.1, r43.1.1, r39.1.1, (0, [], 0, 0, 0, 0, ()), ())).bind fun z45 =>
   some ((false, ()), (()))
  else
  none
 else
 (clientNew r2.1.1).bind fun r65 =>
 if r2.1.1.workers = ((4 : Nat) : Int) then
  (workerNew 0).bind fun r66 =>
  (workerNew 1).bind fun r67 =>
  (workerNew 2).bind fun r68 =>
  (workerNew 3).bind fun r69 =>
  (lpF (travBody4 r3.1.1) 18446744073709551616 (0, r6.1.1, r66.1.1, r67.1.1, r68.1.1, r69.1.1, r65.1.1, (0, [], 0, 0, 0, 0, ()), ())).bind fun z71 =>
  (configDecode r4.1.1).bind fun r91 =>
  (scriptDecode r5.1.1).bind fun r92 =>
  (machineNew r91.1.1).bind fun r93 =>
  if r93.1.2.1 ≠ 0 then
   if r93.1.2.1 ≠ 0 then
   some ((false, ()), (()))
   else
   some ((false, ()), (()))
  else
  (clientNew r91.1.1).bind fun r94 =>
  if r91.1.1.workers = ((4 : Nat) : Int) then
   (workerNew 0).bind fun r95 =>
   (workerNew 1).bind fun r96 =>
   (workerNew 2).bind fun r97 =>
   (workerNew 3).bind fun r98 =>
   (lpF (travBody4 r92.1.1) 18446744073709551616 (0, r93.1.1, r95.1.1, r96.1.1, r97.1.1, r98.1.1, r94.1.1, (0, [], 0, 0, 0, 0, ()), ())).bind fun z100 =>
   (workstealtopAwake28).bind fun r120 =>
   if (!r120.1.1) = true then
   some ((false, ()), (()))
   else
   if r4.1.2.1 ≠ 0 then
   some ((false, ()), (()))
   else
   if r5.1.2.1 ≠ 0 then
   some ((false, ()), (()))
   else
   (r4decode y1).bind fun r121 =>
   (workstealref04Same r3.1.1 r121.1.1).bind fun r122 =>
   if (!r122.1.1) = true then
   some ((false, ()), (()))
   else
   (memoryMemoryCells z71.2.1.m).bind fun r123 =>
   (memoryMemoryCells z100.2.1.m).bind fun r124 =>
   if ((r123.1.1.length : Nat) : Int) ≠ ((r124.1.1.length : Nat) : Int) then
   some ((false, ()), (()))
   else
   (lpF (travEv z71.2.1.evs) 18446744073709551616 (0, [], z71.2.2.2.2.2.2.2.1, ())).bind fun z126 =>
   (lpF (travEv z100.2.1.evs) 18446744073709551616 (0, [], z100.2.2.2.2.2.2.2.1, ())).bind fun z129 =>
   if ((z126.2.1.length : Nat) : Int) ≠ ((z129.2.1.length : Nat) : Int) then
   some ((false, ()), (()))
   else
   (lpF (σ := Int × Unit) (β := (Int × Unit) ⊕ ((Bool × Unit) × (Unit))) (fun self133 x131 =>
   if x131.1 < ((r123.1.1.length : Nat) : Int) then
   if 0 ≤ x131.1 ∧ x131.1 < ((r123.1.1.length : Nat) : Int) then
   if 0 ≤ x131.1 ∧ x131.1 < ((r124.1.1.length : Nat) : Int) then
   if (atK0 r123.1.1 x131.1) ≠ (atK0 r124.1.1 x131.1) then
   Option.map Sum.inr (
   some ((false, ()), (()))
   )
   else
   self133 (wi (x131.1 + 1), ())
   else none
   else none
   else
   some (Sum.inl (x131.1, ()))
   ) 18446744073709551616 (0, ())).bind fun z132 => match z132 with
   | .inr o134 => some o134
   | .inl z132 =>
   some ((true, ()), (()))
  else
  none
 else
 none
noncomputable abbrev workstealtopScriptsTravel4_k : Con SR1 := ⟨4, [.sh (.ro 17), .sh (.ro 17)], [.sh .b], fun x => workstealtopScriptsTravel4 x.1 x.2.1⟩
noncomputable def workstealtopScriptsTravel4_tb : List (Nat × Func) := [(21, Tryz.f21), (68, Tryz.f68), (114, Tryz.f114), (47, Tryz.f47), (44, Tryz.f44), (25, Tryz.f25), (26, Tryz.f26)]
theorem workstealtopScriptsTravel4_ok : CO Tryz.prog workstealtopScriptsTravel4_k := co_fn mixed Tryz.func4 [kshort_k, configDecode_k, scriptDecode_k, configEncode_k, scriptEncode_k, machineNew_k, clientNew_k, workerNew_k, memoryMemoryCount_k, scriptMachine_k, clientClientStep_k, workerWorkerStep_k, clockClockTick_k, clockClockSet_k, memoryMemoryLast_k, workstealtopAwake28_k, r4decode_k, workstealref04Same_k, memoryMemoryCells_k] ⟨kshort_ok, configDecode_ok, scriptDecode_ok, configEncode_ok, scriptEncode_ok, machineNew_ok, clientNew_ok, workerNew_ok, memoryMemoryCount_ok, scriptMachine_ok, clientClientStep_ok, workerWorkerStep_ok, clockClockTick_ok, clockClockSet_ok, memoryMemoryLast_ok, workstealtopAwake28_ok, r4decode_ok, workstealref04Same_ok, memoryMemoryCells_ok, trivial⟩ workstealtopScriptsTravel4_tb ⟨Tryz.func21, Tryz.func68, Tryz.func114, Tryz.func47, Tryz.func44, Tryz.func25, Tryz.func26, trivial⟩ (fun f => (get [(68, [(6, .spl 22 [4] 5)]), (114, [(2, .unroll 5)]), (47, [(1, .loop [.rg 8 sI_, .ob 38 27, .ob 52 31, .ob 66 31, .ob 80 31, .ob 94 31, .ob 40 30, .cx 41 [.inr (.ptr 38 0), .inr (.sl 96), .inr (.ptr 40 0), .inr (.sl 131), .inl sI_, .inl (.row 1), .inl sI_, .inl sI_, .inl sU_, .inl sU_]] 18446744073709551616 0), (1, .loop [.rg 8 sI_, .ob 22 27, .ob 36 31, .ob 50 31, .ob 64 31, .ob 78 31, .ob 24 30, .cx 25 [.inr (.ptr 22 0), .inr (.sl 80), .inr (.ptr 24 0), .inr (.sl 115), .inl sI_, .inl (.row 1), .inl sI_, .inl sI_, .inl sU_, .inl sU_]] 18446744073709551616 0), (1, .loop [.rg 8 sI_, .ob 132 27, .ob 146 31, .ob 160 31, .ob 174 31, .ob 188 31, .ob 134 30, .cx 135 [.inr (.ptr 132 0), .inr (.sl 190), .inr (.ptr 134 0), .inr (.sl 225), .inl sI_, .inl (.row 1), .inl sI_, .inl sI_, .inl sU_, .inl sU_]] 18446744073709551616 0)]), (44, [(9, .cut [.ob 38 27, .ob 52 31, .ob 66 31, .ob 80 31, .ob 94 31, .ob 40 30, .cx 41 [.inr (.ptr 38 0), .inr (.sl 96), .inr (.ptr 40 0), .inr (.sl 131), .inl sI_, .inl (.row 1), .inl sI_, .inl sI_, .inl sU_, .inl sU_]] [0, 1, 12, 13, 15, 16, 18, 33, 34, 134, 135, 136]), (9, .cut [.ob 22 27, .ob 36 31, .ob 50 31, .ob 64 31, .ob 78 31, .ob 24 30, .cx 25 [.inr (.ptr 22 0), .inr (.sl 80), .inr (.ptr 24 0), .inr (.sl 115), .inl sI_, .inl (.row 1), .inl sI_, .inl sI_, .inl sU_, .inl sU_]] [0, 1, 12, 13, 15, 118, 119, 120]), (9, .cut [.ob 132 27, .ob 146 31, .ob 160 31, .ob 174 31, .ob 188 31, .ob 134 30, .cx 135 [.inr (.ptr 132 0), .inr (.sl 190), .inr (.ptr 134 0), .inr (.sl 225), .inl sI_, .inl (.row 1), .inl sI_, .inl sI_, .inl sU_, .inl sU_]] [0, 1, 12, 13, 15, 16, 18, 127, 128, 228, 229, 230]), (12, .loop [.ob 38 27, .cx 41 [.inr (.ptr 38 0), .inr (.sl 96), .inr (.ptr 40 0), .inr (.sl 131), .inl sI_, .inl (.row 1), .inl sI_, .inl sI_, .inl sU_, .inl sU_]] 18446744073709551616 1), (12, .loop [.ob 22 27, .cx 25 [.inr (.ptr 22 0), .inr (.sl 80), .inr (.ptr 24 0), .inr (.sl 115), .inl sI_, .inl (.row 1), .inl sI_, .inl sI_, .inl sU_, .inl sU_]] 18446744073709551616 1), (12, .loop [.ob 132 27, .cx 135 [.inr (.ptr 132 0), .inr (.sl 190), .inr (.ptr 134 0), .inr (.sl 225), .inl sI_, .inl (.row 1), .inl sI_, .inl sI_, .inl sU_, .inl sU_]] 18446744073709551616 1)]), (26, [(3, .loop [.rg 14 sI_, .rg 3 (.row 6), .cx 25 [.inr (.ptr 22 0), .inr (.sl 80), .inr (.ptr 24 0), .inr (.sl 115), .inl sI_, .inl (.row 1), .inl sI_, .inl sI_, .inl sU_, .inl sU_]] 18446744073709551616 0), (3, .loop [.rg 14 sI_, .rg 3 (.row 6), .cx 135 [.inr (.ptr 132 0), .inr (.sl 190), .inr (.ptr 134 0), .inr (.sl 225), .inl sI_, .inl (.row 1), .inl sI_, .inl sI_, .inl sU_, .inl sU_]] 18446744073709551616 0)])] f).getD []) [(14, .loopR [.rg 15 sI_] 18446744073709551616 0)] fun x => by kernel_rfl
end
section
open Go Go.RowKit
set_option maxRecDepth 100000
variable [Tb]
theorem tkind1_good {c : Cfg} {K : Nat} {env : EnvP} {w0 : WorkerV MV} {cl : ClientV MV} {eng : EngT} {i : Int} {l : List EntV} (h : EI c K env) (hK : 1 ≤ K ∧ K ≤ 1000000) (hs : c.subs.length ≤ 1000000) (h0 : WI c K 0 w0) (hc : CI c cl) :
    Good (travKind1 l (i, env, w0, cl, eng, ()) ((env.m.count, ()), (env.m, ()))) fun z => EI c (K + 3) z.1 ∧ WI c (K + 3) 0 z.2.1 ∧ CI c z.2.2.1 ∧ z.2.2.2.1 = eng := by
  unfold travKind1
  refine Good.ite (fun hk => ?_) fun hk => Good.ite (fun _ => ?_) fun _ => Good.ite (fun _ => ?_) fun _ => ?_
  · refine (mach_good (n := 2) (by decide) hk).bind fun o ho => ?_
    refine Good.ite (fun _ => ?_) fun n1 => Good.ite (fun _ => ?_) fun n0 => ?_
    · exact (ci_step h hK hs hc).bind fun o ho => .some_ ⟨ho.2.1, h0.up (by omega), ho.2.2, rfl⟩
    · exact (wi_step h hK h0).bind fun o ho => .some_ ⟨ho.2.1, ho.2.2, hc, rfl⟩
    · exfalso; have m0 : ¬ o.1.1 = ((0 : Nat) : Int) := n0; have m1 : ¬ o.1.1 = ((1 : Nat) : Int) := n1; omega
  · exact ⟨_, rfl, (EI.clk h).up (by omega), h0.up (by omega), hc, rfl⟩
  · exact ⟨_, rfl, (EI.clk h).up (by omega), h0.up (by omega), hc, rfl⟩
  · exact ⟨_, rfl, h.up (by omega), h0.up (by omega), hc, rfl⟩
theorem tloop1_good {c : Cfg} {env : EnvP} {w0 : WorkerV MV} {cl : ClientV MV} {eng : EngT} {l : List EntV} (hl : l.length ≤ 1000) (h : EI c 1 env) (hs : c.subs.length ≤ 1000000) (h0 : WI c 1 0 w0) (hc : CI c cl) (hg : eng.2.1.length ≤ 1) (he : env.evs.length ≤ eng.2.1.length) :
    Good (lpF (travBody1 l) 18446744073709551616 (0, env, w0, cl, eng, ())) fun z => EI c 10000 z.2.1 ∧ z.2.1.evs.length ≤ z.2.2.2.2.1.2.1.length := by
  refine lp_good (fun x => 0 ≤ x.1 ∧ x.1 ≤ (l.length : Int) ∧ EI c (1 + 3 * x.1.toNat) x.2.1 ∧ WI c (1 + 3 * x.1.toNat) 0 x.2.2.1 ∧ CI c x.2.2.2.1 ∧ x.2.2.2.2.1.2.1.length ≤ 1 + 3 * x.1.toNat ∧ x.2.1.evs.length ≤ x.2.2.2.2.1.2.1.length) (fun x => (l.length : Int).toNat - x.1.toNat) (fun self x hx ih => ?_) _ _ ⟨Int.le_refl 0, by show (0 : Int) ≤ _; omega, h, h0, hc, hg, he⟩ (by show _ - _ < _; omega)
  obtain ⟨i, env, w0, cl, eng, ⟨⟩⟩ := x
  obtain ⟨q1, q2, h, h0, hc, hg, he⟩ := hx
  simp only at q1 q2 h h0 hc hg he
  unfold travBody1
  refine Good.ite (fun hlt => ?_) fun _ => .some_ ⟨h.up (by omega), he⟩
  have hlt : i < (l.length : Int) := hlt
  refine Good.guard ⟨q1, hlt⟩ fun _ => ?_
  rw [count_eq, bnd]
  refine (tkind1_good (i := i) (l := l) (eng := eng) h ⟨by omega, by omega⟩ hs h0 hc).bind fun z hz => ?_
  obtain ⟨ze, z0, zc, zg, ⟨⟩⟩ := z
  obtain ⟨a3, b0, ac, ag⟩ := hz
  simp only at a3 b0 ac ag
  subst ag
  refine ttail_good (N := 1 + 3 * i.toNat + 3) a3.ok.ev (by show zg.2.1.length ≤ _; omega) (by omega) fun eng' he he2 => ?_
  have ei : wi (i + 1) = i + 1 := wi_id (rg_lit (by omega))
  have en : 1 + 3 * i.toNat + 3 = 1 + 3 * (i + 1).toNat := by omega
  rw [en] at a3 b0 he
  show Good (self (wi (i + 1), ze, z0, zc, eng', ())) _
  rw [ei]
  exact ih _ ⟨by show 0 ≤ i + 1; omega, by show i + 1 ≤ _; omega, a3, b0, ac, he, he2⟩ (by show _ - (i + 1).toNat < _ - i.toNat; omega)
theorem travel1_good {y0 y1 : List Int} (hb0 : ∀ x ∈ y0, 0 ≤ x ∧ x ≤ 255) (hb1 : ∀ x ∈ y1, 0 ≤ x ∧ x ≤ 255) {o : (Cfg × Unit) × Unit} (e : configDecode y0 = some o) (ho : DecOk o.1.1) (hw : o.1.1.workers = (((1 : Nat) : Int))) : Good (workstealtopScriptsTravel1 y0 y1) fun r => r.1.1 = true := by
  obtain ⟨⟨c, ⟨⟩⟩, ⟨⟩⟩ := o
  simp only at ho hw
  unfold workstealtopScriptsTravel1
  refine (short_good y0 [] (Nat.zero_le _)).bind fun r _ => Good.ite (fun _ => .some_ rfl) fun _ => Good.ite (fun _ => .some_ rfl) fun hlen => ?_
  obtain ⟨⟨⟨s, ⟨⟩⟩, ⟨⟩⟩, es, hs⟩ := scriptDecode_eq hb1 (by omega)
  have hs : s = sd y1 := hs
  subst hs
  have hok := sd_ok hb1
  have hsl : (sd y1).length ≤ 1000 := by have := sd_len y1; omega
  obtain ⟨⟨⟨p, pc, ⟨⟩⟩, ⟨⟩⟩, ep, hpc, hp⟩ := encode_ok ho
  obtain ⟨⟨⟨q, qc, ⟨⟩⟩, ⟨⟩⟩, eq, hqc, hq⟩ := scriptEncode_eq hok (by omega)
  have hpc : pc = 0 := hpc
  have hqc : qc = 0 := hqc
  have hq : q = (sd y1).flatMap enc2 := hq
  subst hpc hqc hq
  have hl2 := enc2_len (sd y1)
  obtain ⟨⟨⟨s2, ⟨⟩⟩, ⟨⟩⟩, es2, hs2⟩ := scriptDecode_eq (enc2_by hok) (by omega)
  have hs2 : s2 = sd y1 := hs2.trans (sd_enc hok)
  subst hs2
  obtain ⟨⟨⟨c2, ⟨⟩⟩, ⟨⟩⟩, ec2, hc2⟩ := decode_back ho hp
  have hc2 : c2 = c := hc2
  subst hc2
  obtain ⟨z, ez, hz1, hz2⟩ := tloop1_good (l := sd y1) hsl (ei_new ho) (by have := ho.sn; omega) (wi_new (j := 0)) ci_ok (eng := (0, [], 0, 0, 0, 0, ())) (Nat.zero_le _) (Nat.le_refl _)
  rw [e, bnd, es, bnd, ep, bnd, eq, bnd, new_eq (dec_valid ho), bnd, if_neg (fun h => h rfl), ci_new ho, bnd, if_pos hw, wk_new (l := layV c2) (j := 0), bnd, ez, bnd, ec2, bnd, es2, bnd, new_eq (dec_valid ho), bnd, if_neg (fun h => h rfl), ci_new ho, bnd, if_pos hw, bnd, ez, bnd]
  rw [awake28_eq, bnd, if_neg (by decide), if_neg (fun h => h rfl), if_neg (fun h => h rfl)]
  obtain ⟨⟨⟨t, ⟨⟩⟩, ⟨⟩⟩, et, ht⟩ := r4decode_eq hb1 (by omega)
  have ht : t = sd y1 := ht
  subst ht
  obtain ⟨u, eu, hu⟩ := same_good (sd y1) (by omega)
  rw [et, bnd, eu, bnd, if_neg (by rw [hu]; decide), cells_eq _ hz1.cl, bnd, bnd, if_neg (fun h => h rfl)]
  obtain ⟨v, ev, _⟩ := ev_good (evs := z.2.1.evs) (eng := z.2.2.2.2.1) hz2 (by have := hz1.ok.ev; omega)
  have ev2 : lpF (travEv z.2.1.evs) 18446744073709551616 (0, [], z.2.2.2.2.1, ()) = some v := ev
  rw [ev2, bnd, bnd, if_neg (fun h => h rfl)]
  refine Good.bind (cells_good hz1.cl _ fun _ _ => rfl) fun w hw2 => ?_
  obtain ⟨y, rfl⟩ := hw2
  exact .some_ rfl
theorem tkind2_good {c : Cfg} {K : Nat} {env : EnvP} {w0 w1 : WorkerV MV} {cl : ClientV MV} {eng : EngT} {i : Int} {l : List EntV} (h : EI c K env) (hK : 1 ≤ K ∧ K ≤ 1000000) (hs : c.subs.length ≤ 1000000) (h0 : WI c K 0 w0) (h1 : WI c K 1 w1) (hc : CI c cl) :
    Good (travKind2 l (i, env, w0, w1, cl, eng, ()) ((env.m.count, ()), (env.m, ()))) fun z => EI c (K + 3) z.1 ∧ WI c (K + 3) 0 z.2.1 ∧ WI c (K + 3) 1 z.2.2.1 ∧ CI c z.2.2.2.1 ∧ z.2.2.2.2.1 = eng := by
  unfold travKind2
  refine Good.ite (fun hk => ?_) fun hk => Good.ite (fun _ => ?_) fun _ => Good.ite (fun _ => ?_) fun _ => ?_
  · refine (mach_good (n := 3) (by decide) hk).bind fun o ho => ?_
    refine Good.ite (fun _ => ?_) fun n2 => Good.ite (fun _ => ?_) fun n1 => Good.ite (fun _ => ?_) fun n0 => ?_
    · exact (ci_step h hK hs hc).bind fun o ho => .some_ ⟨ho.2.1, h0.up (by omega), h1.up (by omega), ho.2.2, rfl⟩
    · exact (wi_step h hK h1).bind fun o ho => .some_ ⟨ho.2.1, h0.up (by omega), ho.2.2, hc, rfl⟩
    · exact (wi_step h hK h0).bind fun o ho => .some_ ⟨ho.2.1, ho.2.2, h1.up (by omega), hc, rfl⟩
    · exfalso; have m0 : ¬ o.1.1 = ((0 : Nat) : Int) := n0; have m1 : ¬ o.1.1 = ((1 : Nat) : Int) := n1; have m2 : ¬ o.1.1 = ((2 : Nat) : Int) := n2; omega
  · exact ⟨_, rfl, (EI.clk h).up (by omega), h0.up (by omega), h1.up (by omega), hc, rfl⟩
  · exact ⟨_, rfl, (EI.clk h).up (by omega), h0.up (by omega), h1.up (by omega), hc, rfl⟩
  · exact ⟨_, rfl, h.up (by omega), h0.up (by omega), h1.up (by omega), hc, rfl⟩
theorem tloop2_good {c : Cfg} {env : EnvP} {w0 w1 : WorkerV MV} {cl : ClientV MV} {eng : EngT} {l : List EntV} (hl : l.length ≤ 1000) (h : EI c 1 env) (hs : c.subs.length ≤ 1000000) (h0 : WI c 1 0 w0) (h1 : WI c 1 1 w1) (hc : CI c cl) (hg : eng.2.1.length ≤ 1) (he : env.evs.length ≤ eng.2.1.length) :
    Good (lpF (travBody2 l) 18446744073709551616 (0, env, w0, w1, cl, eng, ())) fun z => EI c 10000 z.2.1 ∧ z.2.1.evs.length ≤ z.2.2.2.2.2.1.2.1.length := by
  refine lp_good (fun x => 0 ≤ x.1 ∧ x.1 ≤ (l.length : Int) ∧ EI c (1 + 3 * x.1.toNat) x.2.1 ∧ WI c (1 + 3 * x.1.toNat) 0 x.2.2.1 ∧ WI c (1 + 3 * x.1.toNat) 1 x.2.2.2.1 ∧ CI c x.2.2.2.2.1 ∧ x.2.2.2.2.2.1.2.1.length ≤ 1 + 3 * x.1.toNat ∧ x.2.1.evs.length ≤ x.2.2.2.2.2.1.2.1.length) (fun x => (l.length : Int).toNat - x.1.toNat) (fun self x hx ih => ?_) _ _ ⟨Int.le_refl 0, by show (0 : Int) ≤ _; omega, h, h0, h1, hc, hg, he⟩ (by show _ - _ < _; omega)
  obtain ⟨i, env, w0, w1, cl, eng, ⟨⟩⟩ := x
  obtain ⟨q1, q2, h, h0, h1, hc, hg, he⟩ := hx
  simp only at q1 q2 h h0 h1 hc hg he
  unfold travBody2
  refine Good.ite (fun hlt => ?_) fun _ => .some_ ⟨h.up (by omega), he⟩
  have hlt : i < (l.length : Int) := hlt
  refine Good.guard ⟨q1, hlt⟩ fun _ => ?_
  rw [count_eq, bnd]
  refine (tkind2_good (i := i) (l := l) (eng := eng) h ⟨by omega, by omega⟩ hs h0 h1 hc).bind fun z hz => ?_
  obtain ⟨ze, z0, z1, zc, zg, ⟨⟩⟩ := z
  obtain ⟨a3, b0, b1, ac, ag⟩ := hz
  simp only at a3 b0 b1 ac ag
  subst ag
  refine ttail_good (N := 1 + 3 * i.toNat + 3) a3.ok.ev (by show zg.2.1.length ≤ _; omega) (by omega) fun eng' he he2 => ?_
  have ei : wi (i + 1) = i + 1 := wi_id (rg_lit (by omega))
  have en : 1 + 3 * i.toNat + 3 = 1 + 3 * (i + 1).toNat := by omega
  rw [en] at a3 b0 b1 he
  show Good (self (wi (i + 1), ze, z0, z1, zc, eng', ())) _
  rw [ei]
  exact ih _ ⟨by show 0 ≤ i + 1; omega, by show i + 1 ≤ _; omega, a3, b0, b1, ac, he, he2⟩ (by show _ - (i + 1).toNat < _ - i.toNat; omega)
theorem travel2_good {y0 y1 : List Int} (hb0 : ∀ x ∈ y0, 0 ≤ x ∧ x ≤ 255) (hb1 : ∀ x ∈ y1, 0 ≤ x ∧ x ≤ 255) {o : (Cfg × Unit) × Unit} (e : configDecode y0 = some o) (ho : DecOk o.1.1) (hw : o.1.1.workers = (((2 : Nat) : Int))) : Good (workstealtopScriptsTravel2 y0 y1) fun r => r.1.1 = true := by
  obtain ⟨⟨c, ⟨⟩⟩, ⟨⟩⟩ := o
  simp only at ho hw
  unfold workstealtopScriptsTravel2
  refine (short_good y0 [] (Nat.zero_le _)).bind fun r _ => Good.ite (fun _ => .some_ rfl) fun _ => Good.ite (fun _ => .some_ rfl) fun hlen => ?_
  obtain ⟨⟨⟨s, ⟨⟩⟩, ⟨⟩⟩, es, hs⟩ := scriptDecode_eq hb1 (by omega)
  have hs : s = sd y1 := hs
  subst hs
  have hok := sd_ok hb1
  have hsl : (sd y1).length ≤ 1000 := by have := sd_len y1; omega
  obtain ⟨⟨⟨p, pc, ⟨⟩⟩, ⟨⟩⟩, ep, hpc, hp⟩ := encode_ok ho
  obtain ⟨⟨⟨q, qc, ⟨⟩⟩, ⟨⟩⟩, eq, hqc, hq⟩ := scriptEncode_eq hok (by omega)
  have hpc : pc = 0 := hpc
  have hqc : qc = 0 := hqc
  have hq : q = (sd y1).flatMap enc2 := hq
  subst hpc hqc hq
  have hl2 := enc2_len (sd y1)
  obtain ⟨⟨⟨s2, ⟨⟩⟩, ⟨⟩⟩, es2, hs2⟩ := scriptDecode_eq (enc2_by hok) (by omega)
  have hs2 : s2 = sd y1 := hs2.trans (sd_enc hok)
  subst hs2
  obtain ⟨⟨⟨c2, ⟨⟩⟩, ⟨⟩⟩, ec2, hc2⟩ := decode_back ho hp
  have hc2 : c2 = c := hc2
  subst hc2
  obtain ⟨z, ez, hz1, hz2⟩ := tloop2_good (l := sd y1) hsl (ei_new ho) (by have := ho.sn; omega) (wi_new (j := 0)) (wi_new (j := 1)) ci_ok (eng := (0, [], 0, 0, 0, 0, ())) (Nat.zero_le _) (Nat.le_refl _)
  rw [e, bnd, es, bnd, ep, bnd, eq, bnd, new_eq (dec_valid ho), bnd, if_neg (fun h => h rfl), ci_new ho, bnd, if_pos hw, wk_new (l := layV c2) (j := 0), bnd, wk_new (l := layV c2) (j := 1), bnd, ez, bnd, ec2, bnd, es2, bnd, new_eq (dec_valid ho), bnd, if_neg (fun h => h rfl), ci_new ho, bnd, if_pos hw, bnd, bnd, ez, bnd]
  rw [awake28_eq, bnd, if_neg (by decide), if_neg (fun h => h rfl), if_neg (fun h => h rfl)]
  obtain ⟨⟨⟨t, ⟨⟩⟩, ⟨⟩⟩, et, ht⟩ := r4decode_eq hb1 (by omega)
  have ht : t = sd y1 := ht
  subst ht
  obtain ⟨u, eu, hu⟩ := same_good (sd y1) (by omega)
  rw [et, bnd, eu, bnd, if_neg (by rw [hu]; decide), cells_eq _ hz1.cl, bnd, bnd, if_neg (fun h => h rfl)]
  obtain ⟨v, ev, _⟩ := ev_good (evs := z.2.1.evs) (eng := z.2.2.2.2.2.1) hz2 (by have := hz1.ok.ev; omega)
  have ev2 : lpF (travEv z.2.1.evs) 18446744073709551616 (0, [], z.2.2.2.2.2.1, ()) = some v := ev
  rw [ev2, bnd, bnd, if_neg (fun h => h rfl)]
  refine Good.bind (cells_good hz1.cl _ fun _ _ => rfl) fun w hw2 => ?_
  obtain ⟨y, rfl⟩ := hw2
  exact .some_ rfl
theorem tkind3_good {c : Cfg} {K : Nat} {env : EnvP} {w0 w1 w2 : WorkerV MV} {cl : ClientV MV} {eng : EngT} {i : Int} {l : List EntV} (h : EI c K env) (hK : 1 ≤ K ∧ K ≤ 1000000) (hs : c.subs.length ≤ 1000000) (h0 : WI c K 0 w0) (h1 : WI c K 1 w1) (h2 : WI c K 2 w2) (hc : CI c cl) :
    Good (travKind3 l (i, env, w0, w1, w2, cl, eng, ()) ((env.m.count, ()), (env.m, ()))) fun z => EI c (K + 3) z.1 ∧ WI c (K + 3) 0 z.2.1 ∧ WI c (K + 3) 1 z.2.2.1 ∧ WI c (K + 3) 2 z.2.2.2.1 ∧ CI c z.2.2.2.2.1 ∧ z.2.2.2.2.2.1 = eng := by
  unfold travKind3
  refine Good.ite (fun hk => ?_) fun hk => Good.ite (fun _ => ?_) fun _ => Good.ite (fun _ => ?_) fun _ => ?_
  · refine (mach_good (n := 4) (by decide) hk).bind fun o ho => ?_
    refine Good.ite (fun _ => ?_) fun n3 => Good.ite (fun _ => ?_) fun n2 => Good.ite (fun _ => ?_) fun n1 => Good.ite (fun _ => ?_) fun n0 => ?_
    · exact (ci_step h hK hs hc).bind fun o ho => .some_ ⟨ho.2.1, h0.up (by omega), h1.up (by omega), h2.up (by omega), ho.2.2, rfl⟩
    · exact (wi_step h hK h2).bind fun o ho => .some_ ⟨ho.2.1, h0.up (by omega), h1.up (by omega), ho.2.2, hc, rfl⟩
    · exact (wi_step h hK h1).bind fun o ho => .some_ ⟨ho.2.1, h0.up (by omega), ho.2.2, h2.up (by omega), hc, rfl⟩
    · exact (wi_step h hK h0).bind fun o ho => .some_ ⟨ho.2.1, ho.2.2, h1.up (by omega), h2.up (by omega), hc, rfl⟩
    · exfalso; have m0 : ¬ o.1.1 = ((0 : Nat) : Int) := n0; have m1 : ¬ o.1.1 = ((1 : Nat) : Int) := n1; have m2 : ¬ o.1.1 = ((2 : Nat) : Int) := n2; have m3 : ¬ o.1.1 = ((3 : Nat) : Int) := n3; omega
  · exact ⟨_, rfl, (EI.clk h).up (by omega), h0.up (by omega), h1.up (by omega), h2.up (by omega), hc, rfl⟩
  · exact ⟨_, rfl, (EI.clk h).up (by omega), h0.up (by omega), h1.up (by omega), h2.up (by omega), hc, rfl⟩
  · exact ⟨_, rfl, h.up (by omega), h0.up (by omega), h1.up (by omega), h2.up (by omega), hc, rfl⟩
theorem tloop3_good {c : Cfg} {env : EnvP} {w0 w1 w2 : WorkerV MV} {cl : ClientV MV} {eng : EngT} {l : List EntV} (hl : l.length ≤ 1000) (h : EI c 1 env) (hs : c.subs.length ≤ 1000000) (h0 : WI c 1 0 w0) (h1 : WI c 1 1 w1) (h2 : WI c 1 2 w2) (hc : CI c cl) (hg : eng.2.1.length ≤ 1) (he : env.evs.length ≤ eng.2.1.length) :
    Good (lpF (travBody3 l) 18446744073709551616 (0, env, w0, w1, w2, cl, eng, ())) fun z => EI c 10000 z.2.1 ∧ z.2.1.evs.length ≤ z.2.2.2.2.2.2.1.2.1.length := by
  refine lp_good (fun x => 0 ≤ x.1 ∧ x.1 ≤ (l.length : Int) ∧ EI c (1 + 3 * x.1.toNat) x.2.1 ∧ WI c (1 + 3 * x.1.toNat) 0 x.2.2.1 ∧ WI c (1 + 3 * x.1.toNat) 1 x.2.2.2.1 ∧ WI c (1 + 3 * x.1.toNat) 2 x.2.2.2.2.1 ∧ CI c x.2.2.2.2.2.1 ∧ x.2.2.2.2.2.2.1.2.1.length ≤ 1 + 3 * x.1.toNat ∧ x.2.1.evs.length ≤ x.2.2.2.2.2.2.1.2.1.length) (fun x => (l.length : Int).toNat - x.1.toNat) (fun self x hx ih => ?_) _ _ ⟨Int.le_refl 0, by show (0 : Int) ≤ _; omega, h, h0, h1, h2, hc, hg, he⟩ (by show _ - _ < _; omega)
  obtain ⟨i, env, w0, w1, w2, cl, eng, ⟨⟩⟩ := x
  obtain ⟨q1, q2, h, h0, h1, h2, hc, hg, he⟩ := hx
  simp only at q1 q2 h h0 h1 h2 hc hg he
  unfold travBody3
  refine Good.ite (fun hlt => ?_) fun _ => .some_ ⟨h.up (by omega), he⟩
  have hlt : i < (l.length : Int) := hlt
  refine Good.guard ⟨q1, hlt⟩ fun _ => ?_
  rw [count_eq, bnd]
  refine (tkind3_good (i := i) (l := l) (eng := eng) h ⟨by omega, by omega⟩ hs h0 h1 h2 hc).bind fun z hz => ?_
  obtain ⟨ze, z0, z1, z2, zc, zg, ⟨⟩⟩ := z
  obtain ⟨a3, b0, b1, b2, ac, ag⟩ := hz
  simp only at a3 b0 b1 b2 ac ag
  subst ag
  refine ttail_good (N := 1 + 3 * i.toNat + 3) a3.ok.ev (by show zg.2.1.length ≤ _; omega) (by omega) fun eng' he he2 => ?_
  have ei : wi (i + 1) = i + 1 := wi_id (rg_lit (by omega))
  have en : 1 + 3 * i.toNat + 3 = 1 + 3 * (i + 1).toNat := by omega
  rw [en] at a3 b0 b1 b2 he
  show Good (self (wi (i + 1), ze, z0, z1, z2, zc, eng', ())) _
  rw [ei]
  exact ih _ ⟨by show 0 ≤ i + 1; omega, by show i + 1 ≤ _; omega, a3, b0, b1, b2, ac, he, he2⟩ (by show _ - (i + 1).toNat < _ - i.toNat; omega)
theorem travel3_good {y0 y1 : List Int} (hb0 : ∀ x ∈ y0, 0 ≤ x ∧ x ≤ 255) (hb1 : ∀ x ∈ y1, 0 ≤ x ∧ x ≤ 255) {o : (Cfg × Unit) × Unit} (e : configDecode y0 = some o) (ho : DecOk o.1.1) (hw : o.1.1.workers = (((3 : Nat) : Int))) : Good (workstealtopScriptsTravel3 y0 y1) fun r => r.1.1 = true := by
  obtain ⟨⟨c, ⟨⟩⟩, ⟨⟩⟩ := o
  simp only at ho hw
  unfold workstealtopScriptsTravel3
  refine (short_good y0 [] (Nat.zero_le _)).bind fun r _ => Good.ite (fun _ => .some_ rfl) fun _ => Good.ite (fun _ => .some_ rfl) fun hlen => ?_
  obtain ⟨⟨⟨s, ⟨⟩⟩, ⟨⟩⟩, es, hs⟩ := scriptDecode_eq hb1 (by omega)
  have hs : s = sd y1 := hs
  subst hs
  have hok := sd_ok hb1
  have hsl : (sd y1).length ≤ 1000 := by have := sd_len y1; omega
  obtain ⟨⟨⟨p, pc, ⟨⟩⟩, ⟨⟩⟩, ep, hpc, hp⟩ := encode_ok ho
  obtain ⟨⟨⟨q, qc, ⟨⟩⟩, ⟨⟩⟩, eq, hqc, hq⟩ := scriptEncode_eq hok (by omega)
  have hpc : pc = 0 := hpc
  have hqc : qc = 0 := hqc
  have hq : q = (sd y1).flatMap enc2 := hq
  subst hpc hqc hq
  have hl2 := enc2_len (sd y1)
  obtain ⟨⟨⟨s2, ⟨⟩⟩, ⟨⟩⟩, es2, hs2⟩ := scriptDecode_eq (enc2_by hok) (by omega)
  have hs2 : s2 = sd y1 := hs2.trans (sd_enc hok)
  subst hs2
  obtain ⟨⟨⟨c2, ⟨⟩⟩, ⟨⟩⟩, ec2, hc2⟩ := decode_back ho hp
  have hc2 : c2 = c := hc2
  subst hc2
  obtain ⟨z, ez, hz1, hz2⟩ := tloop3_good (l := sd y1) hsl (ei_new ho) (by have := ho.sn; omega) (wi_new (j := 0)) (wi_new (j := 1)) (wi_new (j := 2)) ci_ok (eng := (0, [], 0, 0, 0, 0, ())) (Nat.zero_le _) (Nat.le_refl _)
  rw [e, bnd, es, bnd, ep, bnd, eq, bnd, new_eq (dec_valid ho), bnd, if_neg (fun h => h rfl), ci_new ho, bnd, if_pos hw, wk_new (l := layV c2) (j := 0), bnd, wk_new (l := layV c2) (j := 1), bnd, wk_new (l := layV c2) (j := 2), bnd, ez, bnd, ec2, bnd, es2, bnd, new_eq (dec_valid ho), bnd, if_neg (fun h => h rfl), ci_new ho, bnd, if_pos hw, bnd, bnd, bnd, ez, bnd]
  rw [awake28_eq, bnd, if_neg (by decide), if_neg (fun h => h rfl), if_neg (fun h => h rfl)]
  obtain ⟨⟨⟨t, ⟨⟩⟩, ⟨⟩⟩, et, ht⟩ := r4decode_eq hb1 (by omega)
  have ht : t = sd y1 := ht
  subst ht
  obtain ⟨u, eu, hu⟩ := same_good (sd y1) (by omega)
  rw [et, bnd, eu, bnd, if_neg (by rw [hu]; decide), cells_eq _ hz1.cl, bnd, bnd, if_neg (fun h => h rfl)]
  obtain ⟨v, ev, _⟩ := ev_good (evs := z.2.1.evs) (eng := z.2.2.2.2.2.2.1) hz2 (by have := hz1.ok.ev; omega)
  have ev2 : lpF (travEv z.2.1.evs) 18446744073709551616 (0, [], z.2.2.2.2.2.2.1, ()) = some v := ev
  rw [ev2, bnd, bnd, if_neg (fun h => h rfl)]
  refine Good.bind (cells_good hz1.cl _ fun _ _ => rfl) fun w hw2 => ?_
  obtain ⟨y, rfl⟩ := hw2
  exact .some_ rfl
theorem tkind4_good {c : Cfg} {K : Nat} {env : EnvP} {w0 w1 w2 w3 : WorkerV MV} {cl : ClientV MV} {eng : EngT} {i : Int} {l : List EntV} (h : EI c K env) (hK : 1 ≤ K ∧ K ≤ 1000000) (hs : c.subs.length ≤ 1000000) (h0 : WI c K 0 w0) (h1 : WI c K 1 w1) (h2 : WI c K 2 w2) (h3 : WI c K 3 w3) (hc : CI c cl) :
    Good (travKind4 l (i, env, w0, w1, w2, w3, cl, eng, ()) ((env.m.count, ()), (env.m, ()))) fun z => EI c (K + 3) z.1 ∧ WI c (K + 3) 0 z.2.1 ∧ WI c (K + 3) 1 z.2.2.1 ∧ WI c (K + 3) 2 z.2.2.2.1 ∧ WI c (K + 3) 3 z.2.2.2.2.1 ∧ CI c z.2.2.2.2.2.1 ∧ z.2.2.2.2.2.2.1 = eng := by
  unfold travKind4
  refine Good.ite (fun hk => ?_) fun hk => Good.ite (fun _ => ?_) fun _ => Good.ite (fun _ => ?_) fun _ => ?_
  · refine (mach_good (n := 5) (by decide) hk).bind fun o ho => ?_
    refine Good.ite (fun _ => ?_) fun n4 => Good.ite (fun _ => ?_) fun n3 => Good.ite (fun _ => ?_) fun n2 => Good.ite (fun _ => ?_) fun n1 => Good.ite (fun _ => ?_) fun n0 => ?_
    · exact (ci_step h hK hs hc).bind fun o ho => .some_ ⟨ho.2.1, h0.up (by omega), h1.up (by omega), h2.up (by omega), h3.up (by omega), ho.2.2, rfl⟩
    · exact (wi_step h hK h3).bind fun o ho => .some_ ⟨ho.2.1, h0.up (by omega), h1.up (by omega), h2.up (by omega), ho.2.2, hc, rfl⟩
    · exact (wi_step h hK h2).bind fun o ho => .some_ ⟨ho.2.1, h0.up (by omega), h1.up (by omega), ho.2.2, h3.up (by omega), hc, rfl⟩
    · exact (wi_step h hK h1).bind fun o ho => .some_ ⟨ho.2.1, h0.up (by omega), ho.2.2, h2.up (by omega), h3.up (by omega), hc, rfl⟩
    · exact (wi_step h hK h0).bind fun o ho => .some_ ⟨ho.2.1, ho.2.2, h1.up (by omega), h2.up (by omega), h3.up (by omega), hc, rfl⟩
    · exfalso; have m0 : ¬ o.1.1 = ((0 : Nat) : Int) := n0; have m1 : ¬ o.1.1 = ((1 : Nat) : Int) := n1; have m2 : ¬ o.1.1 = ((2 : Nat) : Int) := n2; have m3 : ¬ o.1.1 = ((3 : Nat) : Int) := n3; have m4 : ¬ o.1.1 = ((4 : Nat) : Int) := n4; omega
  · exact ⟨_, rfl, (EI.clk h).up (by omega), h0.up (by omega), h1.up (by omega), h2.up (by omega), h3.up (by omega), hc, rfl⟩
  · exact ⟨_, rfl, (EI.clk h).up (by omega), h0.up (by omega), h1.up (by omega), h2.up (by omega), h3.up (by omega), hc, rfl⟩
  · exact ⟨_, rfl, h.up (by omega), h0.up (by omega), h1.up (by omega), h2.up (by omega), h3.up (by omega), hc, rfl⟩
theorem tloop4_good {c : Cfg} {env : EnvP} {w0 w1 w2 w3 : WorkerV MV} {cl : ClientV MV} {eng : EngT} {l : List EntV} (hl : l.length ≤ 1000) (h : EI c 1 env) (hs : c.subs.length ≤ 1000000) (h0 : WI c 1 0 w0) (h1 : WI c 1 1 w1) (h2 : WI c 1 2 w2) (h3 : WI c 1 3 w3) (hc : CI c cl) (hg : eng.2.1.length ≤ 1) (he : env.evs.length ≤ eng.2.1.length) :
    Good (lpF (travBody4 l) 18446744073709551616 (0, env, w0, w1, w2, w3, cl, eng, ())) fun z => EI c 10000 z.2.1 ∧ z.2.1.evs.length ≤ z.2.2.2.2.2.2.2.1.2.1.length := by
  refine lp_good (fun x => 0 ≤ x.1 ∧ x.1 ≤ (l.length : Int) ∧ EI c (1 + 3 * x.1.toNat) x.2.1 ∧ WI c (1 + 3 * x.1.toNat) 0 x.2.2.1 ∧ WI c (1 + 3 * x.1.toNat) 1 x.2.2.2.1 ∧ WI c (1 + 3 * x.1.toNat) 2 x.2.2.2.2.1 ∧ WI c (1 + 3 * x.1.toNat) 3 x.2.2.2.2.2.1 ∧ CI c x.2.2.2.2.2.2.1 ∧ x.2.2.2.2.2.2.2.1.2.1.length ≤ 1 + 3 * x.1.toNat ∧ x.2.1.evs.length ≤ x.2.2.2.2.2.2.2.1.2.1.length) (fun x => (l.length : Int).toNat - x.1.toNat) (fun self x hx ih => ?_) _ _ ⟨Int.le_refl 0, by show (0 : Int) ≤ _; omega, h, h0, h1, h2, h3, hc, hg, he⟩ (by show _ - _ < _; omega)
  obtain ⟨i, env, w0, w1, w2, w3, cl, eng, ⟨⟩⟩ := x
  obtain ⟨q1, q2, h, h0, h1, h2, h3, hc, hg, he⟩ := hx
  simp only at q1 q2 h h0 h1 h2 h3 hc hg he
  unfold travBody4
  refine Good.ite (fun hlt => ?_) fun _ => .some_ ⟨h.up (by omega), he⟩
  have hlt : i < (l.length : Int) := hlt
  refine Good.guard ⟨q1, hlt⟩ fun _ => ?_
  rw [count_eq, bnd]
  refine (tkind4_good (i := i) (l := l) (eng := eng) h ⟨by omega, by omega⟩ hs h0 h1 h2 h3 hc).bind fun z hz => ?_
  obtain ⟨ze, z0, z1, z2, z3, zc, zg, ⟨⟩⟩ := z
  obtain ⟨a3, b0, b1, b2, b3, ac, ag⟩ := hz
  simp only at a3 b0 b1 b2 b3 ac ag
  subst ag
  refine ttail_good (N := 1 + 3 * i.toNat + 3) a3.ok.ev (by show zg.2.1.length ≤ _; omega) (by omega) fun eng' he he2 => ?_
  have ei : wi (i + 1) = i + 1 := wi_id (rg_lit (by omega))
  have en : 1 + 3 * i.toNat + 3 = 1 + 3 * (i + 1).toNat := by omega
  rw [en] at a3 b0 b1 b2 b3 he
  show Good (self (wi (i + 1), ze, z0, z1, z2, z3, zc, eng', ())) _
  rw [ei]
  exact ih _ ⟨by show 0 ≤ i + 1; omega, by show i + 1 ≤ _; omega, a3, b0, b1, b2, b3, ac, he, he2⟩ (by show _ - (i + 1).toNat < _ - i.toNat; omega)
theorem travel4_good {y0 y1 : List Int} (hb0 : ∀ x ∈ y0, 0 ≤ x ∧ x ≤ 255) (hb1 : ∀ x ∈ y1, 0 ≤ x ∧ x ≤ 255) {o : (Cfg × Unit) × Unit} (e : configDecode y0 = some o) (ho : DecOk o.1.1) (hw : o.1.1.workers = (((4 : Nat) : Int))) : Good (workstealtopScriptsTravel4 y0 y1) fun r => r.1.1 = true := by
  obtain ⟨⟨c, ⟨⟩⟩, ⟨⟩⟩ := o
  simp only at ho hw
  unfold workstealtopScriptsTravel4
  refine (short_good y0 [] (Nat.zero_le _)).bind fun r _ => Good.ite (fun _ => .some_ rfl) fun _ => Good.ite (fun _ => .some_ rfl) fun hlen => ?_
  obtain ⟨⟨⟨s, ⟨⟩⟩, ⟨⟩⟩, es, hs⟩ := scriptDecode_eq hb1 (by omega)
  have hs : s = sd y1 := hs
  subst hs
  have hok := sd_ok hb1
  have hsl : (sd y1).length ≤ 1000 := by have := sd_len y1; omega
  obtain ⟨⟨⟨p, pc, ⟨⟩⟩, ⟨⟩⟩, ep, hpc, hp⟩ := encode_ok ho
  obtain ⟨⟨⟨q, qc, ⟨⟩⟩, ⟨⟩⟩, eq, hqc, hq⟩ := scriptEncode_eq hok (by omega)
  have hpc : pc = 0 := hpc
  have hqc : qc = 0 := hqc
  have hq : q = (sd y1).flatMap enc2 := hq
  subst hpc hqc hq
  have hl2 := enc2_len (sd y1)
  obtain ⟨⟨⟨s2, ⟨⟩⟩, ⟨⟩⟩, es2, hs2⟩ := scriptDecode_eq (enc2_by hok) (by omega)
  have hs2 : s2 = sd y1 := hs2.trans (sd_enc hok)
  subst hs2
  obtain ⟨⟨⟨c2, ⟨⟩⟩, ⟨⟩⟩, ec2, hc2⟩ := decode_back ho hp
  have hc2 : c2 = c := hc2
  subst hc2
  obtain ⟨z, ez, hz1, hz2⟩ := tloop4_good (l := sd y1) hsl (ei_new ho) (by have := ho.sn; omega) (wi_new (j := 0)) (wi_new (j := 1)) (wi_new (j := 2)) (wi_new (j := 3)) ci_ok (eng := (0, [], 0, 0, 0, 0, ())) (Nat.zero_le _) (Nat.le_refl _)
  rw [e, bnd, es, bnd, ep, bnd, eq, bnd, new_eq (dec_valid ho), bnd, if_neg (fun h => h rfl), ci_new ho, bnd, if_pos hw, wk_new (l := layV c2) (j := 0), bnd, wk_new (l := layV c2) (j := 1), bnd, wk_new (l := layV c2) (j := 2), bnd, wk_new (l := layV c2) (j := 3), bnd, ez, bnd, ec2, bnd, es2, bnd, new_eq (dec_valid ho), bnd, if_neg (fun h => h rfl), ci_new ho, bnd, if_pos hw, bnd, bnd, bnd, bnd, ez, bnd]
  rw [awake28_eq, bnd, if_neg (by decide), if_neg (fun h => h rfl), if_neg (fun h => h rfl)]
  obtain ⟨⟨⟨t, ⟨⟩⟩, ⟨⟩⟩, et, ht⟩ := r4decode_eq hb1 (by omega)
  have ht : t = sd y1 := ht
  subst ht
  obtain ⟨u, eu, hu⟩ := same_good (sd y1) (by omega)
  rw [et, bnd, eu, bnd, if_neg (by rw [hu]; decide), cells_eq _ hz1.cl, bnd, bnd, if_neg (fun h => h rfl)]
  obtain ⟨v, ev, _⟩ := ev_good (evs := z.2.1.evs) (eng := z.2.2.2.2.2.2.2.1) hz2 (by have := hz1.ok.ev; omega)
  have ev2 : lpF (travEv z.2.1.evs) 18446744073709551616 (0, [], z.2.2.2.2.2.2.2.1, ()) = some v := ev
  rw [ev2, bnd, bnd, if_neg (fun h => h rfl)]
  refine Good.bind (cells_good hz1.cl _ fun _ _ => rfl) fun w hw2 => ?_
  obtain ⟨y, rfl⟩ := hw2
  exact .some_ rfl
theorem travel_any {y0 y1 : List Int} (hb0 : ∀ x ∈ y0, 0 ≤ x ∧ x ≤ 255) (hb1 : ∀ x ∈ y1, 0 ≤ x ∧ x ≤ 255) :
    Good (workstealtopScriptsTravel1 y0 y1) (fun r => r.1.1 = true) ∨ Good (workstealtopScriptsTravel2 y0 y1) (fun r => r.1.1 = true) ∨ Good (workstealtopScriptsTravel3 y0 y1) (fun r => r.1.1 = true) ∨ Good (workstealtopScriptsTravel4 y0 y1) (fun r => r.1.1 = true) := by
  by_cases hl : y0.length ≤ 400
  · obtain ⟨o, e, ho⟩ := decode_good2 hb0 (by omega)
    have hw := ho.w
    have hv : o.1.1.workers = ((1 : Nat) : Int) ∨ o.1.1.workers = ((2 : Nat) : Int) ∨ o.1.1.workers = ((3 : Nat) : Int) ∨ o.1.1.workers = ((4 : Nat) : Int) := by omega
    rcases hv with h | h | h | h
    · exact .inl (travel1_good hb0 hb1 e ho h)
    · exact .inr (.inl (travel2_good hb0 hb1 e ho h))
    · exact .inr (.inr (.inl (travel3_good hb0 hb1 e ho h)))
    · exact .inr (.inr (.inr (travel4_good hb0 hb1 e ho h)))
  · refine .inl ?_
    unfold workstealtopScriptsTravel1
    refine (short_good y0 [] (Nat.zero_le _)).bind fun r hr => Good.ite (fun _ => .some_ rfl) fun h => ?_
    exfalso
    have h1 : r.1.1 = true := by revert h; cases r.1.1 <;> simp
    exact hl (hr h1).1
end
end Go.Proofs.YtgiagoeoifgliaaGreat
