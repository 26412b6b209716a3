/- CommuteIndependent in the evaluator's form. CommuteIndependent answers true. -/
import Derived.Test.YtgiagoeoifgliaaGreatQkap
set_option linter.all false
namespace Go.Proofs.YtgiagoeoifgliaaGreat
section
open Go Go.RowKit
set_option maxRecDepth 100000
noncomputable def commutePerform (y0 : Cfg) (y1 : List EntV) (y2 : List Int) : Option ((List AccV × Int × Unit) × (Unit)) :=
 (machineNew y0).bind fun r1 =>
 if r1.1.2.1 ≠ 0 then
  if r1.1.2.1 ≠ 0 then
   some (([], r1.1.2.1, ()), (()))
  else
  if 64 < ((y2.length : Nat) : Int) then
   some (([], 2, ()), (()))
  else
  none
 else
 (clientNew y0).bind fun r2 =>
 if y0.workers = ((2 : Nat) : Int) then
  (workerNew 0).bind fun r3 =>
  (workerNew 1).bind fun r4 =>
  if 64 < ((y2.length : Nat) : Int) then
   some (([], 2, ()), (()))
  else
  (lpF (σ := Int × EnvP × (WorkerV MV) × (WorkerV MV) × (ClientV MV) × (Int × List Int × Int × Int × Int × Int × Unit) × Unit) (β := Int × EnvP × (WorkerV MV) × (WorkerV MV) × (ClientV MV) × (Int × List Int × Int × Int × Int × Int × Unit) × Unit) (fun self7 x5 =>
   if x5.1 < ((y1.length : Nat) : Int) then
    if 0 ≤ x5.1 ∧ x5.1 < ((y1.length : Nat) : Int) then
     (memoryMemoryCount x5.2.1.m).bind fun r8 =>
     ((
      if ((atK5 y1 x5.1).kind) = 0 then
       (scriptMachine (atK5 y1 x5.1) 3).bind fun r9 =>
       if r9.1.1 = ((2 : Nat) : Int) then
        (clientClientStep x5.2.2.2.2.1 ({ x5.2.1 with m := r8.2.1 } : EnvP)).bind fun r10 =>
        some (r10.2.2.1, x5.2.2.1, x5.2.2.2.1, r10.2.1, (x5.2.2.2.2.2.1.1, x5.2.2.2.2.2.1.2.1, x5.2.2.2.2.2.1.2.2.1, x5.2.2.2.2.2.1.2.2.2.1, x5.2.2.2.2.2.1.2.2.2.2.1, x5.2.2.2.2.2.1.2.2.2.2.2.1, ()), ())
       else
        if r9.1.1 = ((1 : Nat) : Int) then
         (workerWorkerStep x5.2.2.2.1 ({ x5.2.1 with m := r8.2.1 } : EnvP)).bind fun r11 =>
         some (r11.2.2.1, x5.2.2.1, r11.2.1, x5.2.2.2.2.1, (x5.2.2.2.2.2.1.1, x5.2.2.2.2.2.1.2.1, x5.2.2.2.2.2.1.2.2.1, x5.2.2.2.2.2.1.2.2.2.1, x5.2.2.2.2.2.1.2.2.2.2.1, x5.2.2.2.2.2.1.2.2.2.2.2.1, ()), ())
        else
         if r9.1.1 = ((0 : Nat) : Int) then
          (workerWorkerStep x5.2.2.1 ({ x5.2.1 with m := r8.2.1 } : EnvP)).bind fun r12 =>
          some (r12.2.2.1, r12.2.1, x5.2.2.2.1, x5.2.2.2.2.1, (x5.2.2.2.2.2.1.1, x5.2.2.2.2.2.1.2.1, x5.2.2.2.2.2.1.2.2.1, x5.2.2.2.2.2.1.2.2.2.1, x5.2.2.2.2.2.1.2.2.2.2.1, x5.2.2.2.2.2.1.2.2.2.2.2.1, ()), ())
         else
          none
      else
      if ((atK5 y1 x5.1).kind) = 1 then
       (clockClockTick x5.2.1.k).bind fun r13 =>
       some (({ x5.2.1 with m := r8.2.1, k := r13.2.1 } : EnvP), x5.2.2.1, x5.2.2.2.1, x5.2.2.2.2.1, (x5.2.2.2.2.2.1.1, x5.2.2.2.2.2.1.2.1, x5.2.2.2.2.2.1.2.2.1, x5.2.2.2.2.2.1.2.2.2.1, x5.2.2.2.2.2.1.2.2.2.2.1, x5.2.2.2.2.2.1.2.2.2.2.2.1, ()), ())
      else
      if ((atK5 y1 x5.1).kind) = 2 then
       (clockClockSet x5.2.1.k ((atK5 y1 x5.1).value)).bind fun r14 =>
       some (({ x5.2.1 with m := r8.2.1, k := r14.2.1 } : EnvP), x5.2.2.1, x5.2.2.2.1, x5.2.2.2.2.1, (x5.2.2.2.2.2.1.1, x5.2.2.2.2.2.1.2.1, x5.2.2.2.2.2.1.2.2.1, x5.2.2.2.2.2.1.2.2.2.1, x5.2.2.2.2.2.1.2.2.2.2.1, x5.2.2.2.2.2.1.2.2.2.2.2.1, ()), ())
      else
      some (({ x5.2.1 with m := r8.2.1 } : EnvP), x5.2.2.1, x5.2.2.2.1, x5.2.2.2.2.1, (x5.2.2.2.2.2.1.1, x5.2.2.2.2.2.1.2.1, x5.2.2.2.2.2.1.2.2.1, x5.2.2.2.2.2.1.2.2.2.1, x5.2.2.2.2.2.1.2.2.2.2.1, x5.2.2.2.2.2.1.2.2.2.2.2.1, ()), ())
     ) : Option (EnvP × (WorkerV MV) × (WorkerV MV) × (ClientV MV) × (Int × List Int × Int × Int × Int × Int × Unit) × Unit)).bind fun z15 =>
     (memoryMemoryCount z15.1.m).bind fun r16 =>
     if r8.1.1 < r16.1.1 then
      (memoryMemoryLast r16.2.1).bind fun r17 =>
      (lpF (σ := EnvP × (Int × List Int × Int × Int × Int × Int × Unit) × Unit) (β := EnvP × (Int × List Int × Int × Int × Int × Int × Unit) × Unit) (fun self20 x18 =>
       if ((x18.2.1.2.1.length : Nat) : Int) < ((x18.1.evs.length : Nat) : Int) then
        if (((x18.2.1.2.1.length + ([x18.2.1.1] : List Int).length : Nat)) : Int) < 1000000000000 then
         self20 (x18.1, (x18.2.1.1, x18.2.1.2.1 ++ ([x18.2.1.1]), x18.2.1.2.2.1, x18.2.1.2.2.2.1, x18.2.1.2.2.2.2.1, x18.2.1.2.2.2.2.2.1, ()), ())
        else none
       else
       some (x18.1, (x18.2.1.1, x18.2.1.2.1, x18.2.1.2.2.1, x18.2.1.2.2.2.1, x18.2.1.2.2.2.2.1, x18.2.1.2.2.2.2.2.1, ()), ())
      ) 18446744073709551616 (({ z15.1 with m := r17.2.1 } : EnvP), (z15.2.2.2.2.1.1, z15.2.2.2.2.1.2.1, r17.1.1.kind, r17.1.1.cell, r17.1.1.old, r17.1.1.new, ()), ())).bind fun z19 =>
      self7 (wi (x5.1 + 1), z19.1, z15.2.1, z15.2.2.1, z15.2.2.2.1, (wi (z19.2.1.1 + 1), z19.2.1.2.1, z19.2.1.2.2.1, z19.2.1.2.2.2.1, z19.2.1.2.2.2.2.1, z19.2.1.2.2.2.2.2.1, ()), ())
     else
     (lpF (σ := EnvP × (Int × List Int × Int × Int × Int × Int × Unit) × Unit) (β := EnvP × (Int × List Int × Int × Int × Int × Int × Unit) × Unit) (fun self23 x21 =>
      if ((x21.2.1.2.1.length : Nat) : Int) < ((x21.1.evs.length : Nat) : Int) then
       if (((x21.2.1.2.1.length + ([x21.2.1.1] : List Int).length : Nat)) : Int) < 1000000000000 then
        self23 (x21.1, (x21.2.1.1, x21.2.1.2.1 ++ ([x21.2.1.1]), x21.2.1.2.2.1, x21.2.1.2.2.2.1, x21.2.1.2.2.2.2.1, x21.2.1.2.2.2.2.2.1, ()), ())
       else none
      else
      some (x21.1, (x21.2.1.1, x21.2.1.2.1, x21.2.1.2.2.1, x21.2.1.2.2.2.1, x21.2.1.2.2.2.2.1, x21.2.1.2.2.2.2.2.1, ()), ())
     ) 18446744073709551616 (({ z15.1 with m := r16.2.1 } : EnvP), (z15.2.2.2.2.1.1, z15.2.2.2.2.1.2.1, 0, 0, 0, 0, ()), ())).bind fun z22 =>
     self7 (wi (x5.1 + 1), z22.1, z15.2.1, z15.2.2.1, z15.2.2.2.1, (wi (z22.2.1.1 + 1), z22.2.1.2.1, z22.2.1.2.2.1, z22.2.1.2.2.2.1, z22.2.1.2.2.2.2.1, z22.2.1.2.2.2.2.2.1, ()), ())
    else none
   else
   some (x5.1, x5.2.1, x5.2.2.1, x5.2.2.2.1, x5.2.2.2.2.1, (x5.2.2.2.2.2.1.1, x5.2.2.2.2.2.1.2.1, x5.2.2.2.2.2.1.2.2.1, x5.2.2.2.2.2.1.2.2.2.1, x5.2.2.2.2.2.1.2.2.2.2.1, x5.2.2.2.2.2.1.2.2.2.2.2.1, ()), ())
  ) 18446744073709551616 (0, r1.1.1, r3.1.1, r4.1.1, r2.1.1, (0, [], 0, 0, 0, 0, ()), ())).bind fun z6 =>
  (lpF (σ := List AccV × Int × EnvP × (WorkerV MV) × (WorkerV MV) × (ClientV MV) × (Int × List Int × Int × Int × Int × Int × Unit) × Unit) (β := List AccV × Int × EnvP × (WorkerV MV) × (WorkerV MV) × (ClientV MV) × (Int × List Int × Int × Int × Int × Int × Unit) × Unit) (fun self26 x24 =>
   if x24.2.1 < ((y2.length : Nat) : Int) then
    if 0 ≤ x24.2.1 ∧ x24.2.1 < ((y2.length : Nat) : Int) then
     (pMod (atK1 y2 x24.2.1) (wi (y0.workers + 1))).bind fun r27 =>
     (memoryMemoryCount x24.2.2.1.m).bind fun r28 =>
     ((
      (scriptMachine (⟨0, r27.1.1⟩ : EntV) 3).bind fun r29 =>
      if r29.1.1 = ((2 : Nat) : Int) then
       (clientClientStep x24.2.2.2.2.2.1 ({ x24.2.2.1 with m := r28.2.1 } : EnvP)).bind fun r30 =>
       some (r30.2.2.1, x24.2.2.2.1, x24.2.2.2.2.1, r30.2.1, (x24.2.2.2.2.2.2.1.1, x24.2.2.2.2.2.2.1.2.1, x24.2.2.2.2.2.2.1.2.2.1, x24.2.2.2.2.2.2.1.2.2.2.1, x24.2.2.2.2.2.2.1.2.2.2.2.1, x24.2.2.2.2.2.2.1.2.2.2.2.2.1, ()), ())
      else
       if r29.1.1 = ((1 : Nat) : Int) then
        (workerWorkerStep x24.2.2.2.2.1 ({ x24.2.2.1 with m := r28.2.1 } : EnvP)).bind fun r31 =>
        some (r31.2.2.1, x24.2.2.2.1, r31.2.1, x24.2.2.2.2.2.1, (x24.2.2.2.2.2.2.1.1, x24.2.2.2.2.2.2.1.2.1, x24.2.2.2.2.2.2.1.2.2.1, x24.2.2.2.2.2.2.1.2.2.2.1, x24.2.2.2.2.2.2.1.2.2.2.2.1, x24.2.2.2.2.2.2.1.2.2.2.2.2.1, ()), ())
       else
        if r29.1.1 = ((0 : Nat) : Int) then
         (workerWorkerStep x24.2.2.2.1 ({ x24.2.2.1 with m := r28.2.1 } : EnvP)).bind fun r32 =>
         some (r32.2.2.1, r32.2.1, x24.2.2.2.2.1, x24.2.2.2.2.2.1, (x24.2.2.2.2.2.2.1.1, x24.2.2.2.2.2.2.1.2.1, x24.2.2.2.2.2.2.1.2.2.1, x24.2.2.2.2.2.2.1.2.2.2.1, x24.2.2.2.2.2.2.1.2.2.2.2.1, x24.2.2.2.2.2.2.1.2.2.2.2.2.1, ()), ())
        else
         none
     ) : Option (EnvP × (WorkerV MV) × (WorkerV MV) × (ClientV MV) × (Int × List Int × Int × Int × Int × Int × Unit) × Unit)).bind fun z33 =>
     (memoryMemoryCount z33.1.m).bind fun r34 =>
     if r28.1.1 < r34.1.1 then
      (memoryMemoryLast r34.2.1).bind fun r35 =>
      (lpF (σ := EnvP × (Int × List Int × Int × Int × Int × Int × Unit) × Unit) (β := EnvP × (Int × List Int × Int × Int × Int × Int × Unit) × Unit) (fun self38 x36 =>
       if ((x36.2.1.2.1.length : Nat) : Int) < ((x36.1.evs.length : Nat) : Int) then
        if (((x36.2.1.2.1.length + ([x36.2.1.1] : List Int).length : Nat)) : Int) < 1000000000000 then
         self38 (x36.1, (x36.2.1.1, x36.2.1.2.1 ++ ([x36.2.1.1]), x36.2.1.2.2.1, x36.2.1.2.2.2.1, x36.2.1.2.2.2.2.1, x36.2.1.2.2.2.2.2.1, ()), ())
        else none
       else
       some (x36.1, (x36.2.1.1, x36.2.1.2.1, x36.2.1.2.2.1, x36.2.1.2.2.2.1, x36.2.1.2.2.2.2.1, x36.2.1.2.2.2.2.2.1, ()), ())
      ) 18446744073709551616 (({ z33.1 with m := r35.2.1 } : EnvP), (z33.2.2.2.2.1.1, z33.2.2.2.2.1.2.1, r35.1.1.kind, r35.1.1.cell, r35.1.1.old, r35.1.1.new, ()), ())).bind fun z37 =>
      if (((x24.1.length + ([(⟨z37.2.1.2.2.1, z37.2.1.2.2.2.1, z37.2.1.2.2.2.2.1, z37.2.1.2.2.2.2.2.1⟩ : AccV)] : List AccV).length : Nat)) : Int) < 1000000000000 then
       self26 (x24.1 ++ ([(⟨z37.2.1.2.2.1, z37.2.1.2.2.2.1, z37.2.1.2.2.2.2.1, z37.2.1.2.2.2.2.2.1⟩ : AccV)]), wi (x24.2.1 + 1), z37.1, z33.2.1, z33.2.2.1, z33.2.2.2.1, (wi (z37.2.1.1 + 1), z37.2.1.2.1, z37.2.1.2.2.1, z37.2.1.2.2.2.1, z37.2.1.2.2.2.2.1, z37.2.1.2.2.2.2.2.1, ()), ())
      else none
     else
     (lpF (σ := EnvP × (Int × List Int × Int × Int × Int × Int × Unit) × Unit) (β := EnvP × (Int × List Int × Int × Int × Int × Int × Unit) × Unit) (fun self41 x39 =>
      if ((x39.2.1.2.1.length : Nat) : Int) < ((x39.1.evs.length : Nat) : Int) then
       if (((x39.2.1.2.1.length + ([x39.2.1.1] : List Int).length : Nat)) : Int) < 1000000000000 then
        self41 (x39.1, (x39.2.1.1, x39.2.1.2.1 ++ ([x39.2.1.1]), x39.2.1.2.2.1, x39.2.1.2.2.2.1, x39.2.1.2.2.2.2.1, x39.2.1.2.2.2.2.2.1, ()), ())
       else none
      else
      some (x39.1, (x39.2.1.1, x39.2.1.2.1, x39.2.1.2.2.1, x39.2.1.2.2.2.1, x39.2.1.2.2.2.2.1, x39.2.1.2.2.2.2.2.1, ()), ())
     ) 18446744073709551616 (({ z33.1 with m := r34.2.1 } : EnvP), (z33.2.2.2.2.1.1, z33.2.2.2.2.1.2.1, 0, 0, 0, 0, ()), ())).bind fun z40 =>
     if (((x24.1.length + ([(⟨z40.2.1.2.2.1, z40.2.1.2.2.2.1, z40.2.1.2.2.2.2.1, z40.2.1.2.2.2.2.2.1⟩ : AccV)] : List AccV).length : Nat)) : Int) < 1000000000000 then
      self26 (x24.1 ++ ([(⟨z40.2.1.2.2.1, z40.2.1.2.2.2.1, z40.2.1.2.2.2.2.1, z40.2.1.2.2.2.2.2.1⟩ : AccV)]), wi (x24.2.1 + 1), z40.1, z33.2.1, z33.2.2.1, z33.2.2.2.1, (wi (z40.2.1.1 + 1), z40.2.1.2.1, z40.2.1.2.2.1, z40.2.1.2.2.2.1, z40.2.1.2.2.2.2.1, z40.2.1.2.2.2.2.2.1, ()), ())
     else none
    else none
   else
   some (x24.1, x24.2.1, x24.2.2.1, x24.2.2.2.1, x24.2.2.2.2.1, x24.2.2.2.2.2.1, (x24.2.2.2.2.2.2.1.1, x24.2.2.2.2.2.2.1.2.1, x24.2.2.2.2.2.2.1.2.2.1, x24.2.2.2.2.2.2.1.2.2.2.1, x24.2.2.2.2.2.2.1.2.2.2.2.1, x24.2.2.2.2.2.2.1.2.2.2.2.2.1, ()), ())
  ) 18446744073709551616 ([], 0, z6.2.1, z6.2.2.1, z6.2.2.2.1, z6.2.2.2.2.1, (z6.2.2.2.2.2.1.1, z6.2.2.2.2.2.1.2.1, z6.2.2.2.2.2.1.2.2.1, z6.2.2.2.2.2.1.2.2.2.1, z6.2.2.2.2.2.1.2.2.2.2.1, z6.2.2.2.2.2.1.2.2.2.2.2.1, ()), ())).bind fun z25 =>
  some ((z25.1, 0, ()), (()))
 else
 none
noncomputable abbrev commutePerform_k : Con SR1 := ⟨137, [.val 13, .sh (.ro 5), .sh (.ro 1)], [.sh (.row 60), .sh sI_], fun x => commutePerform x.1 x.2.1 x.2.2.1⟩
noncomputable def commutePerform_tb : List (Nat × Func) := [(68, Tryz.f68), (47, Tryz.f47), (114, Tryz.f114), (44, Tryz.f44), (45, Tryz.f45)]
theorem commutePerform_ok : CO Tryz.prog commutePerform_k := co_fn mixed Tryz.func137 [machineNew_k, clientNew_k, workerNew_k, memoryMemoryCount_k, scriptMachine_k, clientClientStep_k, workerWorkerStep_k, clockClockTick_k, clockClockSet_k, memoryMemoryLast_k, pMod_k] ⟨machineNew_ok, clientNew_ok, workerNew_ok, memoryMemoryCount_ok, scriptMachine_ok, clientClientStep_ok, workerWorkerStep_ok, clockClockTick_ok, clockClockSet_ok, memoryMemoryLast_ok, pMod_ok, trivial⟩ commutePerform_tb ⟨Tryz.func68, Tryz.func47, Tryz.func114, Tryz.func44, Tryz.func45, trivial⟩ (fun f => (get [(68, [(6, .spl 22 [2] 3)]), (47, [(1, .loop [.rg 8 sI_, .ob 15 27, .ob 29 31, .ob 43 31, .ob 17 30, .cx 18 [.inr (.ptr 15 0), .inr (.sl 45), .inr (.ptr 17 0), .inr (.sl 74), .inl sI_, .inl (.row 1), .inl sI_, .inl sI_, .inl sU_, .inl sU_]] 18446744073709551616 0)]), (114, [(2, .unroll 3)]), (44, [(9, .cut [.ob 15 27, .ob 29 31, .ob 43 31, .ob 17 30, .cx 18 [.inr (.ptr 15 0), .inr (.sl 45), .inr (.ptr 17 0), .inr (.sl 74), .inl sI_, .inl (.row 1), .inl sI_, .inl sI_, .inl sU_, .inl sU_]] [9, 10, 11, 12, 77, 78, 79]), (12, .loop [.ob 15 27, .cx 18 [.inr (.ptr 15 0), .inr (.sl 45), .inr (.ptr 17 0), .inr (.sl 74), .inl sI_, .inl (.row 1), .inl sI_, .inl sI_, .inl sU_, .inl sU_]] 18446744073709551616 1)])] f).getD []) [(9, .loop [.rg 10 (.row 60), .rg 29 sI_, .ob 15 27, .ob 29 31, .ob 43 31, .ob 17 30, .cx 18 [.inr (.ptr 15 0), .inr (.sl 45), .inr (.ptr 17 0), .inr (.sl 74), .inl sI_, .inl (.row 1), .inl sI_, .inl sI_, .inl sU_, .inl sU_]] 18446744073709551616 0)] fun x => by kernel_rfl
abbrev atK60 (xs : List AccV) (i : Int) : AccV := atL (dfR 60 : TR 60) xs i
noncomputable def workstealref28Ints (y0 : List Int) (y1 : List Int) : Option ((Bool × Unit) × (Unit)) :=
 if ((y0.length : Nat) : Int) ≠ ((y1.length : Nat) : Int) then
  some ((false, ()), (()))
 else
 (lpF (σ := Int × Unit) (β := (Int × Unit) ⊕ ((Bool × Unit) × (Unit))) (fun self3 x1 =>
  if x1.1 < ((y0.length : Nat) : Int) then
   if 0 ≤ x1.1 ∧ x1.1 < ((y0.length : Nat) : Int) then
    if 0 ≤ x1.1 ∧ x1.1 < ((y1.length : Nat) : Int) then
     if (atK1 y0 x1.1) ≠ (atK1 y1 x1.1) then
      Option.map Sum.inr (
       some ((false, ()), (()))
      )
     else
     self3 (wi (x1.1 + 1), ())
    else none
   else none
  else
  some (Sum.inl (x1.1, ()))
 ) 18446744073709551616 (0, ())).bind fun z2 => match z2 with
 | .inr o4 => some o4
 | .inl z2 =>
 some ((true, ()), (()))
noncomputable abbrev workstealref28Ints_k : Con SR1 := ⟨91, [.sh (.ro 1), .sh (.ro 1)], [.sh .b], fun x => workstealref28Ints x.1 x.2.1⟩
theorem workstealref28Ints_ok : CO Tryz.prog workstealref28Ints_k := co_fn mixed Tryz.func91 [] trivial [] trivial (fun _ => []) [(4, .loopR [.rg 5 sI_] 18446744073709551616 0)] fun x => by kernel_rfl
noncomputable def commuteIndependent (y0 : AccV) (y1 : AccV) : Option ((Bool × Unit) × (Unit)) :=
 if y0.kind = 0 then
  some ((true, ()), (()))
 else
 if y1.kind = 0 then
  some ((true, ()), (()))
 else
 if y0.cell ≠ y1.cell then
  some ((true, ()), (()))
 else
 if y0.kind = 1 then
  some ((decide (y1.kind = 1), ()), (()))
 else
 some ((false, ()), (()))
noncomputable abbrev commuteIndependent_k : Con SR1 := ⟨40, [.val 60, .val 60], [.sh .b], fun x => commuteIndependent x.1 x.2.1⟩
theorem commuteIndependent_ok : CO Tryz.prog commuteIndependent_k := co_fn mixed Tryz.func40 [] trivial [] trivial (fun _ => []) [] fun x => by kernel_rfl
noncomputable def worksteallaw33Awake  : Option ((Bool × Unit) × (Unit)) :=
 (kconfig ([1, 0, 0, 1])).bind fun r1 =>
 (commutePerform r1.1.1 ([]) ([1, 0])).bind fun r2 =>
 if r2.1.2.1 ≠ 0 then
  (commutePerform r1.1.1 ([]) ([1, 0])).bind fun r3 =>
  if r2.1.2.1 = 0 then
   if r3.1.2.1 = 0 then
    (workstealref28Ints ([]) ([0, 1])).bind fun r4 =>
    if r4.1.1 = true then
     if ((r3.1.1.length : Nat) : Int) = 2 then
      if 0 ≤ (0 : Int) ∧ (0 : Int) < ((r3.1.1.length : Nat) : Int) then
       if ((atK60 r3.1.1 0).kind) = 1 then
        if 0 ≤ (0 : Int) ∧ (0 : Int) < ((r3.1.1.length : Nat) : Int) then
         if 0 ≤ (1 : Int) ∧ (1 : Int) < ((r3.1.1.length : Nat) : Int) then
          if ((atK60 r3.1.1 0).cell) ≠ ((atK60 r3.1.1 1).cell) then
           if 0 ≤ (0 : Int) ∧ (0 : Int) < ((r3.1.1.length : Nat) : Int) then
            if 0 ≤ (1 : Int) ∧ (1 : Int) < ((r3.1.1.length : Nat) : Int) then
             (commuteIndependent (atK60 r3.1.1 0) (atK60 r3.1.1 1)).bind fun r5 =>
             if r5.1.1 = true then
              (commuteIndependent (⟨6, 3, 0, 0⟩ : AccV) (⟨1, 3, 0, 0⟩ : AccV)).bind fun r6 =>
              some (((!r6.1.1), ()), (()))
             else
             some ((false, ()), (()))
            else none
           else none
          else
          some ((false, ()), (()))
         else none
        else none
       else
       some ((false, ()), (()))
      else none
     else
     some ((false, ()), (()))
    else
    some ((false, ()), (()))
   else
   some ((false, ()), (()))
  else
  some ((false, ()), (()))
 else
 if ((([1, 0] : List Int).length : Nat) : Int) = ((([1, 0] : List Int).length : Nat) : Int) then
  if 0 ≤ ((([1, 0] : List Int).length : Nat) : Int) ∧ ((([1, 0] : List Int).length : Nat) : Int) ≤ 1099511627776 then
   if ((([1, 0] : List Int).length : Nat) : Int) = ((2 : Nat) : Int) then
    if 0 ≤ (0 : Int) ∧ (0 : Int) < ((([1, 0] : List Int).length : Nat) : Int) then
     (pMod (atK1 ([1, 0]) 0) (wi (r1.1.1.workers + 1))).bind fun r7 =>
     if 0 ≤ (0 : Int) ∧ (0 : Int) < (((List.replicate (((([1, 0] : List Int).length : Nat) : Int) : Int).toNat (0 : Int)).length : Nat) : Int) then
      if 0 ≤ (1 : Int) ∧ (1 : Int) < ((([1, 0] : List Int).length : Nat) : Int) then
       (pMod (atK1 ([1, 0]) 1) (wi (r1.1.1.workers + 1))).bind fun r8 =>
       if 0 ≤ (1 : Int) ∧ (1 : Int) < ((((List.replicate (((([1, 0] : List Int).length : Nat) : Int) : Int).toNat (0 : Int)).set (0 : Int).toNat r7.1.1).length : Nat) : Int) then
        if 0 ≤ (0 : Int) ∧ (0 : Int) < (((((List.replicate (((([1, 0] : List Int).length : Nat) : Int) : Int).toNat (0 : Int)).set (0 : Int).toNat r7.1.1).set (1 : Int).toNat r8.1.1).length : Nat) : Int) then
         if 0 ≤ (1 : Int) ∧ (1 : Int) < (((((List.replicate (((([1, 0] : List Int).length : Nat) : Int) : Int).toNat (0 : Int)).set (0 : Int).toNat r7.1.1).set (1 : Int).toNat r8.1.1).length : Nat) : Int) then
          if (atK1 (((List.replicate (((([1, 0] : List Int).length : Nat) : Int) : Int).toNat (0 : Int)).set (0 : Int).toNat r7.1.1).set (1 : Int).toNat r8.1.1) 0) = (atK1 (((List.replicate (((([1, 0] : List Int).length : Nat) : Int) : Int).toNat (0 : Int)).set (0 : Int).toNat r7.1.1).set (1 : Int).toNat r8.1.1) 1) then
           if ((([1, 0] : List Int).length : Nat) : Int) = ((2 : Nat) : Int) then
            if (((((List.replicate (((([1, 0] : List Int).length : Nat) : Int) : Int).toNat (0 : Int)).set (0 : Int).toNat r7.1.1).set (1 : Int).toNat r8.1.1).length : Nat) : Int) = ((2 : Nat) : Int) then
             if 0 ≤ (0 : Int) ∧ (0 : Int) < (((((List.replicate (((([1, 0] : List Int).length : Nat) : Int) : Int).toNat (0 : Int)).set (0 : Int).toNat r7.1.1).set (1 : Int).toNat r8.1.1).length : Nat) : Int) then
              if 0 ≤ (1 : Int) ∧ (1 : Int) < (((((List.replicate (((([1, 0] : List Int).length : Nat) : Int) : Int).toNat (0 : Int)).set (0 : Int).toNat r7.1.1).set (1 : Int).toNat r8.1.1).length : Nat) : Int) then
               if 0 ≤ (0 : Int) ∧ (0 : Int) < (((((List.replicate (((([1, 0] : List Int).length : Nat) : Int) : Int).toNat (0 : Int)).set (0 : Int).toNat r7.1.1).set (1 : Int).toNat r8.1.1).length : Nat) : Int) then
                if (((([] : List Int).length + ([atK1 (((List.replicate (((([1, 0] : List Int).length : Nat) : Int) : Int).toNat (0 : Int)).set (0 : Int).toNat r7.1.1).set (1 : Int).toNat r8.1.1) 0] : List Int).length : Nat)) : Int) < 1000000000000 then
                 if (((((List.replicate (((([1, 0] : List Int).length : Nat) : Int) : Int).toNat (0 : Int)).set (0 : Int).toNat r7.1.1).set (1 : Int).toNat r8.1.1).length : Nat) : Int) = ((2 : Nat) : Int) then
                  if 0 ≤ (0 : Int) ∧ (0 : Int) < (((((List.replicate (((([1, 0] : List Int).length : Nat) : Int) : Int).toNat (0 : Int)).set (0 : Int).toNat r7.1.1).set (1 : Int).toNat r8.1.1).length : Nat) : Int) then
                   if 0 ≤ (1 : Int) ∧ (1 : Int) < (((((List.replicate (((([1, 0] : List Int).length : Nat) : Int) : Int).toNat (0 : Int)).set (0 : Int).toNat r7.1.1).set (1 : Int).toNat r8.1.1).length : Nat) : Int) then
                    if 0 ≤ (1 : Int) ∧ (1 : Int) < (((((List.replicate (((([1, 0] : List Int).length : Nat) : Int) : Int).toNat (0 : Int)).set (0 : Int).toNat r7.1.1).set (1 : Int).toNat r8.1.1).length : Nat) : Int) then
                     if ((((([]) ++ ([atK1 (((List.replicate (((([1, 0] : List Int).length : Nat) : Int) : Int).toNat (0 : Int)).set (0 : Int).toNat r7.1.1).set (1 : Int).toNat r8.1.1) 0])).length + ([atK1 (((List.replicate (((([1, 0] : List Int).length : Nat) : Int) : Int).toNat (0 : Int)).set (0 : Int).toNat r7.1.1).set (1 : Int).toNat r8.1.1) 1] : List Int).length : Nat)) : Int) < 1000000000000 then
                      (commutePerform r1.1.1 ([]) ([1, 0])).bind fun r9 =>
                      if r9.1.2.1 = 0 then
                       (workstealref28Ints ((([]) ++ ([atK1 (((List.replicate (((([1, 0] : List Int).length : Nat) : Int) : Int).toNat (0 : Int)).set (0 : Int).toNat r7.1.1).set (1 : Int).toNat r8.1.1) 0])) ++ ([atK1 (((List.replicate (((([1, 0] : List Int).length : Nat) : Int) : Int).toNat (0 : Int)).set (0 : Int).toNat r7.1.1).set (1 : Int).toNat r8.1.1) 1])) ([0, 1])).bind fun r10 =>
                       if r10.1.1 = true then
                        if ((r9.1.1.length : Nat) : Int) = 2 then
                         if 0 ≤ (0 : Int) ∧ (0 : Int) < ((r9.1.1.length : Nat) : Int) then
                          if ((atK60 r9.1.1 0).kind) = 1 then
                           if 0 ≤ (0 : Int) ∧ (0 : Int) < ((r9.1.1.length : Nat) : Int) then
                            if 0 ≤ (1 : Int) ∧ (1 : Int) < ((r9.1.1.length : Nat) : Int) then
                             if ((atK60 r9.1.1 0).cell) ≠ ((atK60 r9.1.1 1).cell) then
                              if 0 ≤ (0 : Int) ∧ (0 : Int) < ((r9.1.1.length : Nat) : Int) then
                               if 0 ≤ (1 : Int) ∧ (1 : Int) < ((r9.1.1.length : Nat) : Int) then
                                (commuteIndependent (atK60 r9.1.1 0) (atK60 r9.1.1 1)).bind fun r11 =>
                                if r11.1.1 = true then
                                 (commuteIndependent (⟨6, 3, 0, 0⟩ : AccV) (⟨1, 3, 0, 0⟩ : AccV)).bind fun r12 =>
                                 some (((!r12.1.1), ()), (()))
                                else
                                some ((false, ()), (()))
                               else none
                              else none
                             else
                             some ((false, ()), (()))
                            else none
                           else none
                          else
                          some ((false, ()), (()))
                         else none
                        else
                        some ((false, ()), (()))
                       else
                       some ((false, ()), (()))
                      else
                      some ((false, ()), (()))
                     else none
                    else none
                   else none
                  else none
                 else
                 none
                else none
               else none
              else none
             else none
            else
            none
           else
           none
          else
          if 0 ≤ (0 : Int) ∧ (0 : Int) < ((r2.1.1.length : Nat) : Int) then
           if 0 ≤ (1 : Int) ∧ (1 : Int) < ((r2.1.1.length : Nat) : Int) then
            (commuteIndependent (atK60 r2.1.1 0) (atK60 r2.1.1 1)).bind fun r13 =>
            if (!r13.1.1) = true then
             if ((([1, 0] : List Int).length : Nat) : Int) = ((2 : Nat) : Int) then
              if (((((List.replicate (((([1, 0] : List Int).length : Nat) : Int) : Int).toNat (0 : Int)).set (0 : Int).toNat r7.1.1).set (1 : Int).toNat r8.1.1).length : Nat) : Int) = ((2 : Nat) : Int) then
               if 0 ≤ (0 : Int) ∧ (0 : Int) < (((((List.replicate (((([1, 0] : List Int).length : Nat) : Int) : Int).toNat (0 : Int)).set (0 : Int).toNat r7.1.1).set (1 : Int).toNat r8.1.1).length : Nat) : Int) then
                if 0 ≤ (1 : Int) ∧ (1 : Int) < (((((List.replicate (((([1, 0] : List Int).length : Nat) : Int) : Int).toNat (0 : Int)).set (0 : Int).toNat r7.1.1).set (1 : Int).toNat r8.1.1).length : Nat) : Int) then
                 if 0 ≤ (0 : Int) ∧ (0 : Int) < (((((List.replicate (((([1, 0] : List Int).length : Nat) : Int) : Int).toNat (0 : Int)).set (0 : Int).toNat r7.1.1).set (1 : Int).toNat r8.1.1).length : Nat) : Int) then
                  if (((([] : List Int).length + ([atK1 (((List.replicate (((([1, 0] : List Int).length : Nat) : Int) : Int).toNat (0 : Int)).set (0 : Int).toNat r7.1.1).set (1 : Int).toNat r8.1.1) 0] : List Int).length : Nat)) : Int) < 1000000000000 then
                   if (((((List.replicate (((([1, 0] : List Int).length : Nat) : Int) : Int).toNat (0 : Int)).set (0 : Int).toNat r7.1.1).set (1 : Int).toNat r8.1.1).length : Nat) : Int) = ((2 : Nat) : Int) then
                    if 0 ≤ (0 : Int) ∧ (0 : Int) < (((((List.replicate (((([1, 0] : List Int).length : Nat) : Int) : Int).toNat (0 : Int)).set (0 : Int).toNat r7.1.1).set (1 : Int).toNat r8.1.1).length : Nat) : Int) then
                     if 0 ≤ (1 : Int) ∧ (1 : Int) < (((((List.replicate (((([1, 0] : List Int).length : Nat) : Int) : Int).toNat (0 : Int)).set (0 : Int).toNat r7.1.1).set (1 : Int).toNat r8.1.1).length : Nat) : Int) then
                      if 0 ≤ (1 : Int) ∧ (1 : Int) < (((((List.replicate (((([1, 0] : List Int).length : Nat) : Int) : Int).toNat (0 : Int)).set (0 : Int).toNat r7.1.1).set (1 : Int).toNat r8.1.1).length : Nat) : Int) then
                       if ((((([]) ++ ([atK1 (((List.replicate (((([1, 0] : List Int).length : Nat) : Int) : Int).toNat (0 : Int)).set (0 : Int).toNat r7.1.1).set (1 : Int).toNat r8.1.1) 0])).length + ([atK1 (((List.replicate (((([1, 0] : List Int).length : Nat) : Int) : Int).toNat (0 : Int)).set (0 : Int).toNat r7.1.1).set (1 : Int).toNat r8.1.1) 1] : List Int).length : Nat)) : Int) < 1000000000000 then
                        (commutePerform r1.1.1 ([]) ([1, 0])).bind fun r14 =>
                        if r14.1.2.1 = 0 then
                         (workstealref28Ints ((([]) ++ ([atK1 (((List.replicate (((([1, 0] : List Int).length : Nat) : Int) : Int).toNat (0 : Int)).set (0 : Int).toNat r7.1.1).set (1 : Int).toNat r8.1.1) 0])) ++ ([atK1 (((List.replicate (((([1, 0] : List Int).length : Nat) : Int) : Int).toNat (0 : Int)).set (0 : Int).toNat r7.1.1).set (1 : Int).toNat r8.1.1) 1])) ([0, 1])).bind fun r15 =>
                         if r15.1.1 = true then
                          if ((r14.1.1.length : Nat) : Int) = 2 then
                           if 0 ≤ (0 : Int) ∧ (0 : Int) < ((r14.1.1.length : Nat) : Int) then
                            if ((atK60 r14.1.1 0).kind) = 1 then
                             if 0 ≤ (0 : Int) ∧ (0 : Int) < ((r14.1.1.length : Nat) : Int) then
                              if 0 ≤ (1 : Int) ∧ (1 : Int) < ((r14.1.1.length : Nat) : Int) then
                               if ((atK60 r14.1.1 0).cell) ≠ ((atK60 r14.1.1 1).cell) then
                                if 0 ≤ (0 : Int) ∧ (0 : Int) < ((r14.1.1.length : Nat) : Int) then
                                 if 0 ≤ (1 : Int) ∧ (1 : Int) < ((r14.1.1.length : Nat) : Int) then
                                  (commuteIndependent (atK60 r14.1.1 0) (atK60 r14.1.1 1)).bind fun r16 =>
                                  if r16.1.1 = true then
                                   (commuteIndependent (⟨6, 3, 0, 0⟩ : AccV) (⟨1, 3, 0, 0⟩ : AccV)).bind fun r17 =>
                                   some (((!r17.1.1), ()), (()))
                                  else
                                  some ((false, ()), (()))
                                 else none
                                else none
                               else
                               some ((false, ()), (()))
                              else none
                             else none
                            else
                            some ((false, ()), (()))
                           else none
                          else
                          some ((false, ()), (()))
                         else
                         some ((false, ()), (()))
                        else
                        some ((false, ()), (()))
                       else none
                      else none
                     else none
                    else none
                   else
                   none
                  else none
                 else none
                else none
               else none
              else
              none
             else
             none
            else
            if ((([1, 0] : List Int).length : Nat) : Int) = ((2 : Nat) : Int) then
             if (((((List.replicate (((([1, 0] : List Int).length : Nat) : Int) : Int).toNat (0 : Int)).set (0 : Int).toNat r7.1.1).set (1 : Int).toNat r8.1.1).length : Nat) : Int) = ((2 : Nat) : Int) then
              if 0 ≤ (0 : Int) ∧ (0 : Int) < (((((List.replicate (((([1, 0] : List Int).length : Nat) : Int) : Int).toNat (0 : Int)).set (0 : Int).toNat r7.1.1).set (1 : Int).toNat r8.1.1).length : Nat) : Int) then
               if 0 ≤ (1 : Int) ∧ (1 : Int) < (((((List.replicate (((([1, 0] : List Int).length : Nat) : Int) : Int).toNat (0 : Int)).set (0 : Int).toNat r7.1.1).set (1 : Int).toNat r8.1.1).length : Nat) : Int) then
                if 0 ≤ (0 : Int) ∧ (0 : Int) < (((((List.replicate (((([1, 0] : List Int).length : Nat) : Int) : Int).toNat (0 : Int)).set (0 : Int).toNat r7.1.1).set (1 : Int).toNat r8.1.1).length : Nat) : Int) then
                 if (atK1 (((List.replicate (((([1, 0] : List Int).length : Nat) : Int) : Int).toNat (0 : Int)).set (0 : Int).toNat r7.1.1).set (1 : Int).toNat r8.1.1) 1) < (atK1 (((List.replicate (((([1, 0] : List Int).length : Nat) : Int) : Int).toNat (0 : Int)).set (0 : Int).toNat r7.1.1).set (1 : Int).toNat r8.1.1) 0) then
                  if 0 ≤ (1 : Int) ∧ (1 : Int) < (((((List.replicate (((([1, 0] : List Int).length : Nat) : Int) : Int).toNat (0 : Int)).set (0 : Int).toNat r7.1.1).set (1 : Int).toNat r8.1.1).length : Nat) : Int) then
                   if (((([] : List Int).length + ([atK1 (((List.replicate (((([1, 0] : List Int).length : Nat) : Int) : Int).toNat (0 : Int)).set (0 : Int).toNat r7.1.1).set (1 : Int).toNat r8.1.1) 1] : List Int).length : Nat)) : Int) < 1000000000000 then
                    if (((((List.replicate (((([1, 0] : List Int).length : Nat) : Int) : Int).toNat (0 : Int)).set (0 : Int).toNat r7.1.1).set (1 : Int).toNat r8.1.1).length : Nat) : Int) = ((2 : Nat) : Int) then
                     if 0 ≤ (0 : Int) ∧ (0 : Int) < (((((List.replicate (((([1, 0] : List Int).length : Nat) : Int) : Int).toNat (0 : Int)).set (0 : Int).toNat r7.1.1).set (1 : Int).toNat r8.1.1).length : Nat) : Int) then
                      if 0 ≤ (1 : Int) ∧ (1 : Int) < (((((List.replicate (((([1, 0] : List Int).length : Nat) : Int) : Int).toNat (0 : Int)).set (0 : Int).toNat r7.1.1).set (1 : Int).toNat r8.1.1).length : Nat) : Int) then
                       if 0 ≤ (0 : Int) ∧ (0 : Int) < (((((List.replicate (((([1, 0] : List Int).length : Nat) : Int) : Int).toNat (0 : Int)).set (0 : Int).toNat r7.1.1).set (1 : Int).toNat r8.1.1).length : Nat) : Int) then
                        if ((((([]) ++ ([atK1 (((List.replicate (((([1, 0] : List Int).length : Nat) : Int) : Int).toNat (0 : Int)).set (0 : Int).toNat r7.1.1).set (1 : Int).toNat r8.1.1) 1])).length + ([atK1 (((List.replicate (((([1, 0] : List Int).length : Nat) : Int) : Int).toNat (0 : Int)).set (0 : Int).toNat r7.1.1).set (1 : Int).toNat r8.1.1) 0] : List Int).length : Nat)) : Int) < 1000000000000 then
                         (commutePerform r1.1.1 ([]) ([1, 0])).bind fun r18 =>
                         if r18.1.2.1 = 0 then
                          (workstealref28Ints ((([]) ++ ([atK1 (((List.replicate (((([1, 0] : List Int).length : Nat) : Int) : Int).toNat (0 : Int)).set (0 : Int).toNat r7.1.1).set (1 : Int).toNat r8.1.1) 1])) ++ ([atK1 (((List.replicate (((([1, 0] : List Int).length : Nat) : Int) : Int).toNat (0 : Int)).set (0 : Int).toNat r7.1.1).set (1 : Int).toNat r8.1.1) 0])) ([0, 1])).bind fun r19 =>
                          if r19.1.1 = true then
                           if ((r18.1.1.length : Nat) : Int) = 2 then
                            if 0 ≤ (0 : Int) ∧ (0 : Int) < ((r18.1.1.length : Nat) : Int) then
                             if ((atK60 r18.1.1 0).kind) = 1 then
                              if 0 ≤ (0 : Int) ∧ (0 : Int) < ((r18.1.1.length : Nat) : Int) then
                               if 0 ≤ (1 : Int) ∧ (1 : Int) < ((r18.1.1.length : Nat) : Int) then
                                if ((atK60 r18.1.1 0).cell) ≠ ((atK60 r18.1.1 1).cell) then
                                 if 0 ≤ (0 : Int) ∧ (0 : Int) < ((r18.1.1.length : Nat) : Int) then
                                  if 0 ≤ (1 : Int) ∧ (1 : Int) < ((r18.1.1.length : Nat) : Int) then
                                   (commuteIndependent (atK60 r18.1.1 0) (atK60 r18.1.1 1)).bind fun r20 =>
                                   if r20.1.1 = true then
                                    (commuteIndependent (⟨6, 3, 0, 0⟩ : AccV) (⟨1, 3, 0, 0⟩ : AccV)).bind fun r21 =>
                                    some (((!r21.1.1), ()), (()))
                                   else
                                   some ((false, ()), (()))
                                  else none
                                 else none
                                else
                                some ((false, ()), (()))
                               else none
                              else none
                             else
                             some ((false, ()), (()))
                            else none
                           else
                           some ((false, ()), (()))
                          else
                          some ((false, ()), (()))
                         else
                         some ((false, ()), (()))
                        else none
                       else none
                      else none
                     else none
                    else
                    none
                   else none
                  else none
                 else
                 if 0 ≤ (0 : Int) ∧ (0 : Int) < (((((List.replicate (((([1, 0] : List Int).length : Nat) : Int) : Int).toNat (0 : Int)).set (0 : Int).toNat r7.1.1).set (1 : Int).toNat r8.1.1).length : Nat) : Int) then
                  if (((([] : List Int).length + ([atK1 (((List.replicate (((([1, 0] : List Int).length : Nat) : Int) : Int).toNat (0 : Int)).set (0 : Int).toNat r7.1.1).set (1 : Int).toNat r8.1.1) 0] : List Int).length : Nat)) : Int) < 1000000000000 then
                   if (((((List.replicate (((([1, 0] : List Int).length : Nat) : Int) : Int).toNat (0 : Int)).set (0 : Int).toNat r7.1.1).set (1 : Int).toNat r8.1.1).length : Nat) : Int) = ((2 : Nat) : Int) then
                    if 0 ≤ (0 : Int) ∧ (0 : Int) < (((((List.replicate (((([1, 0] : List Int).length : Nat) : Int) : Int).toNat (0 : Int)).set (0 : Int).toNat r7.1.1).set (1 : Int).toNat r8.1.1).length : Nat) : Int) then
                     if 0 ≤ (1 : Int) ∧ (1 : Int) < (((((List.replicate (((([1, 0] : List Int).length : Nat) : Int) : Int).toNat (0 : Int)).set (0 : Int).toNat r7.1.1).set (1 : Int).toNat r8.1.1).length : Nat) : Int) then
                      if 0 ≤ (1 : Int) ∧ (1 : Int) < (((((List.replicate (((([1, 0] : List Int).length : Nat) : Int) : Int).toNat (0 : Int)).set (0 : Int).toNat r7.1.1).set (1 : Int).toNat r8.1.1).length : Nat) : Int) then
                       if ((((([]) ++ ([atK1 (((List.replicate (((([1, 0] : List Int).length : Nat) : Int) : Int).toNat (0 : Int)).set (0 : Int).toNat r7.1.1).set (1 : Int).toNat r8.1.1) 0])).length + ([atK1 (((List.replicate (((([1, 0] : List Int).length : Nat) : Int) : Int).toNat (0 : Int)).set (0 : Int).toNat r7.1.1).set (1 : Int).toNat r8.1.1) 1] : List Int).length : Nat)) : Int) < 1000000000000 then
                        (commutePerform r1.1.1 ([]) ([1, 0])).bind fun r22 =>
                        if r22.1.2.1 = 0 then
                         (workstealref28Ints ((([]) ++ ([atK1 (((List.replicate (((([1, 0] : List Int).length : Nat) : Int) : Int).toNat (0 : Int)).set (0 : Int).toNat r7.1.1).set (1 : Int).toNat r8.1.1) 0])) ++ ([atK1 (((List.replicate (((([1, 0] : List Int).length : Nat) : Int) : Int).toNat (0 : Int)).set (0 : Int).toNat r7.1.1).set (1 : Int).toNat r8.1.1) 1])) ([0, 1])).bind fun r23 =>
                         if r23.1.1 = true then
                          if ((r22.1.1.length : Nat) : Int) = 2 then
                           if 0 ≤ (0 : Int) ∧ (0 : Int) < ((r22.1.1.length : Nat) : Int) then
                            if ((atK60 r22.1.1 0).kind) = 1 then
                             if 0 ≤ (0 : Int) ∧ (0 : Int) < ((r22.1.1.length : Nat) : Int) then
                              if 0 ≤ (1 : Int) ∧ (1 : Int) < ((r22.1.1.length : Nat) : Int) then
                               if ((atK60 r22.1.1 0).cell) ≠ ((atK60 r22.1.1 1).cell) then
                                if 0 ≤ (0 : Int) ∧ (0 : Int) < ((r22.1.1.length : Nat) : Int) then
                                 if 0 ≤ (1 : Int) ∧ (1 : Int) < ((r22.1.1.length : Nat) : Int) then
                                  (commuteIndependent (atK60 r22.1.1 0) (atK60 r22.1.1 1)).bind fun r24 =>
                                  if r24.1.1 = true then
                                   (commuteIndependent (⟨6, 3, 0, 0⟩ : AccV) (⟨1, 3, 0, 0⟩ : AccV)).bind fun r25 =>
                                   some (((!r25.1.1), ()), (()))
                                  else
                                  some ((false, ()), (()))
                                 else none
                                else none
                               else
                               some ((false, ()), (()))
                              else none
                             else none
                            else
                            some ((false, ()), (()))
                           else none
                          else
                          some ((false, ()), (()))
                         else
                         some ((false, ()), (()))
                        else
                        some ((false, ()), (()))
                       else none
                      else none
                     else none
                    else none
                   else
                   none
                  else none
                 else none
                else none
               else none
              else none
             else
             none
            else
            none
           else none
          else none
         else none
        else none
       else none
      else none
     else none
    else none
   else
   none
  else none
 else none
noncomputable abbrev worksteallaw33Awake_k : Con SR1 := ⟨39, [], [.sh .b], fun x => worksteallaw33Awake ⟩
noncomputable def worksteallaw33Awake_tb : List (Nat × Func) := [(89, Tryz.f89), (90, Tryz.f90)]
theorem worksteallaw33Awake_ok : CO Tryz.prog worksteallaw33Awake_k := co_fn mixed Tryz.func39 [kconfig_k, commutePerform_k, workstealref28Ints_k, commuteIndependent_k, pMod_k] ⟨kconfig_ok, commutePerform_ok, workstealref28Ints_ok, commuteIndependent_ok, pMod_ok, trivial⟩ worksteallaw33Awake_tb ⟨Tryz.func89, Tryz.func90, trivial⟩ (fun f => (get [(89, [(7, .spl 33 [2] 3), (11, .unroll 3), (20, .spl 84 [2] 3), (23, .spl 88 [2] 3)])] f).getD []) [] fun x => by kernel_rfl
noncomputable def workstealref33Independent (y0 : AccV) (y1 : AccV) : Option ((Bool × Unit) × (Unit)) :=
 if y0.kind = 0 then
  some ((true, ()), (()))
 else
 if y1.kind = 0 then
  some ((true, ()), (()))
 else
 if y0.cell ≠ y1.cell then
  some ((true, ()), (()))
 else
 if y0.kind = 1 then
  some ((decide (y1.kind = 1), ()), (()))
 else
 some ((false, ()), (()))
noncomputable abbrev workstealref33Independent_k : Con SR1 := ⟨41, [.val 60, .val 60], [.sh .b], fun x => workstealref33Independent x.1 x.2.1⟩
theorem workstealref33Independent_ok : CO Tryz.prog workstealref33Independent_k := co_fn mixed Tryz.func41 [] trivial [] trivial (fun _ => []) [] fun x => by kernel_rfl
noncomputable def worksteallaw33CommuteIndependent (y0 : AccV) (y1 : AccV) (y2 : Bool) : Option ((Bool × Unit) × (Unit)) :=
 if y2 = true then
  if y1.kind = y1.kind then
   (worksteallaw33Awake).bind fun r1 =>
   if r1.1.1 = true then
    (commuteIndependent ({ y0 with kind := (Int.tmod y0.kind 8), cell := (Int.tmod y0.cell 3) } : AccV) ({ y1 with kind := (Int.tmod y1.kind 8), cell := (Int.tmod y1.cell 3) } : AccV)).bind fun r2 =>
    if (Int.tmod y1.kind 8) = (Int.tmod y1.kind 8) then
     if (Int.tmod y1.cell 3) = (Int.tmod y1.cell 3) then
      if y1.old = y1.old then
       if y1.new = y1.new then
        if (Int.tmod y0.kind 8) = (Int.tmod y0.kind 8) then
         if (Int.tmod y0.cell 3) = (Int.tmod y0.cell 3) then
          if y0.old = y0.old then
           if y0.new = y0.new then
            (workstealref33Independent ({ y0 with kind := (Int.tmod y0.kind 8), cell := (Int.tmod y0.cell 3) } : AccV) ({ y1 with kind := (Int.tmod y1.kind 8), cell := (Int.tmod y1.cell 3) } : AccV)).bind fun r3 =>
            if r2.1.1 = r3.1.1 then
             (commuteIndependent ({ y0 with kind := (Int.tmod y0.kind 8), cell := (Int.tmod y0.cell 3) } : AccV) ({ y1 with kind := (Int.tmod y1.kind 8), cell := (Int.tmod y1.cell 3) } : AccV)).bind fun r4 =>
             if (Int.tmod y0.kind 8) = (Int.tmod y0.kind 8) then
              if (Int.tmod y0.cell 3) = (Int.tmod y0.cell 3) then
               if y0.old = y0.old then
                if y0.new = y0.new then
                 if (Int.tmod y1.kind 8) = (Int.tmod y1.kind 8) then
                  if (Int.tmod y1.cell 3) = (Int.tmod y1.cell 3) then
                   if y1.old = y1.old then
                    if y1.new = y1.new then
                     (commuteIndependent ({ y1 with kind := (Int.tmod y1.kind 8), cell := (Int.tmod y1.cell 3) } : AccV) ({ y0 with kind := (Int.tmod y0.kind 8), cell := (Int.tmod y0.cell 3) } : AccV)).bind fun r5 =>
                     some ((decide (r4.1.1 = r5.1.1), ()), (()))
                    else none
                   else none
                  else none
                 else none
                else none
               else none
              else none
             else none
            else
            some ((false, ()), (()))
           else none
          else none
         else none
        else none
       else none
      else none
     else none
    else none
   else
   some ((false, ()), (()))
  else none
 else
 (worksteallaw33Awake).bind fun r6 =>
 if r6.1.1 = true then
  (commuteIndependent y0 y1).bind fun r7 =>
  if y1.kind = y1.kind then
   if y1.cell = y1.cell then
    if y1.old = y1.old then
     if y1.new = y1.new then
      if y0.kind = y0.kind then
       if y0.cell = y0.cell then
        if y0.old = y0.old then
         if y0.new = y0.new then
          (workstealref33Independent y0 y1).bind fun r8 =>
          if r7.1.1 = r8.1.1 then
           (commuteIndependent y0 y1).bind fun r9 =>
           if y0.kind = y0.kind then
            if y0.cell = y0.cell then
             if y0.old = y0.old then
              if y0.new = y0.new then
               if y1.kind = y1.kind then
                if y1.cell = y1.cell then
                 if y1.old = y1.old then
                  if y1.new = y1.new then
                   (commuteIndependent y1 y0).bind fun r10 =>
                   some ((decide (r9.1.1 = r10.1.1), ()), (()))
                  else none
                 else none
                else none
               else none
              else none
             else none
            else none
           else none
          else
          some ((false, ()), (()))
         else none
        else none
       else none
      else none
     else none
    else none
   else none
  else none
 else
 some ((false, ()), (()))
noncomputable abbrev worksteallaw33CommuteIndependent_k : Con SR1 := ⟨7, [.val 60, .val 60, .sh .b], [.sh .b], fun x => worksteallaw33CommuteIndependent x.1 x.2.1 x.2.2.1⟩
theorem worksteallaw33CommuteIndependent_ok : CO Tryz.prog worksteallaw33CommuteIndependent_k := co_fn mixed Tryz.func7 [worksteallaw33Awake_k, commuteIndependent_k, workstealref33Independent_k] ⟨worksteallaw33Awake_ok, commuteIndependent_ok, workstealref33Independent_ok, trivial⟩ [] trivial (fun _ => []) [] fun x => by kernel_rfl
end
section
open Go Go.RowKit
set_option maxRecDepth 100000
theorem awake33 : worksteallaw33Awake = some ((true, ()), ()) := by kernel_rfl
def indB (a b : AccV) : Bool := decide (a.kind = 0 ∨ b.kind = 0 ∨ a.cell ≠ b.cell ∨ (a.kind = 1 ∧ b.kind = 1))
theorem ind_eq (a b : AccV) : commuteIndependent a b = some ((indB a b, ()), ()) := by
  unfold commuteIndependent indB
  by_cases h1 : a.kind = 0
  · rw [if_pos h1, decide_eq_true (.inl h1)]
  · rw [if_neg h1]
    by_cases h2 : b.kind = 0
    · rw [if_pos h2, decide_eq_true (.inr (.inl h2))]
    · rw [if_neg h2]
      by_cases h3 : a.cell ≠ b.cell
      · rw [if_pos h3, decide_eq_true (.inr (.inr (.inl h3)))]
      · rw [if_neg h3]
        by_cases h4 : a.kind = 1
        · rw [if_pos h4]
          by_cases h5 : b.kind = 1
          · rw [decide_eq_true h5, decide_eq_true (.inr (.inr (.inr ⟨h4, h5⟩)))]
          · rw [decide_eq_false h5, decide_eq_false]
            rintro (h | h | h | h)
            · exact h1 h
            · exact h2 h
            · exact h3 h
            · exact h5 h.2
        · rw [if_neg h4, decide_eq_false]
          rintro (h | h | h | h)
          · exact h1 h
          · exact h2 h
          · exact h3 h
          · exact h4 h.1
theorem ref_eq (a b : AccV) : workstealref33Independent a b = some ((indB a b, ()), ()) := ind_eq a b
theorem ind_comm (a b : AccV) : indB a b = indB b a := by
  unfold indB
  refine decide_eq_decide.2 ⟨?_, ?_⟩ <;> rintro (h | h | h | h)
  · exact .inr (.inl h)
  · exact .inl h
  · exact .inr (.inr (.inl fun e => h e.symm))
  · exact .inr (.inr (.inr ⟨h.2, h.1⟩))
  · exact .inr (.inl h)
  · exact .inl h
  · exact .inr (.inr (.inl fun e => h e.symm))
  · exact .inr (.inr (.inr ⟨h.2, h.1⟩))
theorem independent_true (a b : AccV) (near : Bool) : worksteallaw33CommuteIndependent a b near = some ((true, ()), ()) := by
  unfold worksteallaw33CommuteIndependent
  have hd : ∀ x : Bool, decide (x = x) = true := fun x => decide_eq_true rfl
  simp only [awake33, ind_eq, ref_eq, Option.bind_some, if_true, ind_comm, hd]
  split
  · simp [ind_comm]
  · simp [ind_comm]
end
end Go.Proofs.YtgiagoeoifgliaaGreat
