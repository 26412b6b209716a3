/- The engine made anew, in the evaluator's form. The laws on the bound, in the evaluator's form. What it means that an answer is there; numbers; loops. What is decoded is valid. The sanity check of the laws on the bound holds. The laws BoundFormula and BoundGrows answer true. The law BoundOf answers true. -/
import Derived.Test.YtnfblhckpmofcaaGreatQoah
import Derived.Test.YtnfblhckpmofcaaGreatQoai
set_option linter.all false
namespace Go.Proofs.YtnfblhckpmofcaaGreat
section
open Go Go.RowKit
set_option maxRecDepth 100000
noncomputable def pAt (i : Int) (n : Int) (a : Int) (w : Int) : Option ((Int × Unit) × (Unit)) :=
 if i < 0 then
  some (((-1), ()), (()))
 else
 if n ≤ i then
  some (((-1), ()), (()))
 else
 some ((wi (a + (wi (i * w))), ()), (()))
noncomputable abbrev pAt_k : Con SR1 := ⟨69, [.sh sI_, .sh sI_, .sh sI_, .sh sI_], [.sh sI_], fun x => pAt x.1 x.2.1 x.2.2.1 x.2.2.2.1⟩
theorem pAt_ok : CO Tryz.prog pAt_k := co_fn mixed Tryz.func69 [] trivial [] trivial (fun _ => []) [] fun x => by kernel_rfl
noncomputable def pTask (l : LayV) (t : Int) (f : Int) : Option ((Int × Unit) × (Unit)) :=
 (pAt t l.tasks (wi (l.table + f)) 5).bind fun r1 =>
 some ((r1.1.1, ()), (()))
noncomputable abbrev pTask_k : Con SR1 := ⟨63, [.val 24, .sh sI_, .sh sI_], [.sh sI_], fun x => pTask x.1 x.2.1 x.2.2.1⟩
theorem pTask_ok : CO Tryz.prog pTask_k := co_fn mixed Tryz.func63 [pAt_k] ⟨pAt_ok, trivial⟩ [] trivial (fun _ => []) [] fun x => by kernel_rfl
noncomputable def pNext (l : LayV) : Option ((Int × Unit) × (Unit)) :=
 some ((0, ()), (()))
noncomputable abbrev pNext_k : Con SR1 := ⟨46, [.val 24], [.sh sI_], fun x => pNext x.1⟩
theorem pNext_ok : CO Tryz.prog pNext_k := co_fn mixed Tryz.func46 [] trivial [] trivial (fun _ => []) [] fun x => by kernel_rfl
noncomputable def pState (l : LayV) (t : Int) : Option ((Int × Unit) × (Unit)) :=
 (pTask l t 0).bind fun r1 =>
 some ((r1.1.1, ()), (()))
noncomputable abbrev pState_k : Con SR1 := ⟨47, [.val 24, .sh sI_], [.sh sI_], fun x => pState x.1 x.2.1⟩
theorem pState_ok : CO Tryz.prog pState_k := co_fn mixed Tryz.func47 [pTask_k] ⟨pTask_ok, trivial⟩ [] trivial (fun _ => []) [] fun x => by kernel_rfl
noncomputable def pCells (l : LayV) : Option ((Int × Unit) × (Unit)) :=
 some ((wi (l.table + (wi (5 * l.tasks))), ()), (()))
noncomputable abbrev pCells_k : Con SR1 := ⟨58, [.val 24], [.sh sI_], fun x => pCells x.1⟩
theorem pCells_ok : CO Tryz.prog pCells_k := co_fn mixed Tryz.func58 [] trivial [] trivial (fun _ => []) [] fun x => by kernel_rfl
noncomputable def clientClientOver (y0 : (ClientV MV)) : Option ((Bool × Unit) × ((ClientV MV) × Unit)) :=
 some ((decide (((y0.subs.length : Nat) : Int) ≤ y0.i), ()), (y0, ()))
noncomputable abbrev clientClientOver_k : Con SR1 := ⟨61, [.ref 30], [.sh .b], fun x => clientClientOver x.1⟩
theorem clientClientOver_ok : CO Tryz.prog clientClientOver_k := co_fn mixed Tryz.func61 [] trivial [] trivial (fun _ => []) [] fun x => by kernel_rfl
noncomputable def pAsleep (m : MV) : Option ((Bool × Unit) × (MV × Unit)) := none
noncomputable abbrev pAsleep_k : Con SR1 := ⟨60, [.mch], [.sh .b], fun x => none⟩
theorem pAsleep_ok : CO Tryz.prog pAsleep_k := fun x out h => by cases h
noncomputable def configClone (y0 : Cfg) : Option ((Cfg × Unit) × (Unit)) :=
 (cloneRows y0.progs).bind fun r1 =>
 (lpF (σ := Int × (Int × Int × Int × Int × Int × Int × Int × Int × Int × List (List Ins) × List Sub × Unit) × Unit) (β := Int × (Int × Int × Int × Int × Int × Int × Int × Int × Int × List (List Ins) × List Sub × Unit) × Unit) (fun self4 x2 =>
  if x2.1 < ((r1.1.1.length : Nat) : Int) then
   if 0 ≤ x2.1 ∧ x2.1 < ((x2.2.1.2.2.2.2.2.2.2.2.2.1.length : Nat) : Int) then
    (cloneIns (atK18 x2.2.1.2.2.2.2.2.2.2.2.2.1 x2.1)).bind fun r5 =>
    if 0 ≤ x2.1 ∧ x2.1 < ((x2.2.1.2.2.2.2.2.2.2.2.2.1.length : Nat) : Int) then
     self4 (wi (x2.1 + 1), (x2.2.1.1, x2.2.1.2.1, x2.2.1.2.2.1, x2.2.1.2.2.2.1, x2.2.1.2.2.2.2.1, x2.2.1.2.2.2.2.2.1, x2.2.1.2.2.2.2.2.2.1, x2.2.1.2.2.2.2.2.2.2.1, x2.2.1.2.2.2.2.2.2.2.2.1, x2.2.1.2.2.2.2.2.2.2.2.2.1.set x2.1.toNat r5.1.1, x2.2.1.2.2.2.2.2.2.2.2.2.2.1, ()), ())
    else none
   else none
  else
  some (x2.1, (x2.2.1.1, x2.2.1.2.1, x2.2.1.2.2.1, x2.2.1.2.2.2.1, x2.2.1.2.2.2.2.1, x2.2.1.2.2.2.2.2.1, x2.2.1.2.2.2.2.2.2.1, x2.2.1.2.2.2.2.2.2.2.1, x2.2.1.2.2.2.2.2.2.2.2.1, x2.2.1.2.2.2.2.2.2.2.2.2.1, x2.2.1.2.2.2.2.2.2.2.2.2.2.1, ()), ())
 ) 18446744073709551616 (0, (y0.workers, y0.levels, y0.classes, y0.tasks, y0.deque, y0.heap, y0.batch, y0.age, y0.patience, r1.1.1, y0.subs, ()), ())).bind fun z3 =>
 (cloneSubs z3.2.1.2.2.2.2.2.2.2.2.2.2.1).bind fun r6 =>
 some (((⟨z3.2.1.1, z3.2.1.2.1, z3.2.1.2.2.1, z3.2.1.2.2.2.1, z3.2.1.2.2.2.2.1, z3.2.1.2.2.2.2.2.1, z3.2.1.2.2.2.2.2.2.1, z3.2.1.2.2.2.2.2.2.2.1, z3.2.1.2.2.2.2.2.2.2.2.1, z3.2.1.2.2.2.2.2.2.2.2.2.1, r6.1.1⟩ : Cfg), ()), (()))
noncomputable abbrev configClone_k : Con SR1 := ⟨59, [.val 13], [.val 13], fun x => configClone x.1⟩
theorem configClone_ok : CO Tryz.prog configClone_k := co_fn mixed Tryz.func59 [cloneRows_k, cloneIns_k, cloneSubs_k] ⟨cloneRows_ok, cloneIns_ok, cloneSubs_ok, trivial⟩ [] trivial (fun _ => []) [(3, .loop [.rg 11 sI_, .cs 11 [sI_, sI_, sI_, sI_, sI_, sI_, sI_, sI_, sI_, (.row 18), (.ro 4)]] 18446744073709551616 0)] fun x => by kernel_rfl
noncomputable def configIn (y0 : Int) (y1 : Int) (y2 : Int) : Option ((Bool × Unit) × (Unit)) :=
 if y1 ≤ y0 then
  some ((decide (y0 ≤ y2), ()), (()))
 else
 some ((false, ()), (()))
noncomputable abbrev configIn_k : Con SR1 := ⟨54, [.sh sI_, .sh sI_, .sh sI_], [.sh .b], fun x => configIn x.1 x.2.1 x.2.2.1⟩
theorem configIn_ok : CO Tryz.prog configIn_k := co_fn mixed Tryz.func54 [] trivial [] trivial (fun _ => []) [] fun x => by kernel_rfl
noncomputable def configNumbers (y0 : Cfg) : Option ((Bool × Unit) × (Unit)) :=
 (configIn y0.workers 1 16).bind fun r1 =>
 if r1.1.1 = true then
  (configIn y0.levels 1 64).bind fun r2 =>
  if r2.1.1 = true then
   (configIn y0.classes 1 (if y0.levels < 8 then y0.levels else 8)).bind fun r3 =>
   if r3.1.1 = true then
    (configIn y0.tasks 1 256).bind fun r4 =>
    if r4.1.1 = true then
     (configIn y0.deque 1 64).bind fun r5 =>
     if r5.1.1 = true then
      (configIn y0.heap 1 64).bind fun r6 =>
      if r6.1.1 = true then
       (configIn y0.batch 1 y0.deque).bind fun r7 =>
       if r7.1.1 = true then
        (configIn y0.age 0 65536).bind fun r8 =>
        if r8.1.1 = true then
         (configIn y0.patience 1 65536).bind fun r9 =>
         some ((r9.1.1, ()), (()))
        else
        some ((false, ()), (()))
       else
       some ((false, ()), (()))
      else
      some ((false, ()), (()))
     else
     some ((false, ()), (()))
    else
    some ((false, ()), (()))
   else
   some ((false, ()), (()))
  else
  some ((false, ()), (()))
 else
 some ((false, ()), (()))
noncomputable abbrev configNumbers_k : Con SR1 := ⟨29, [.val 13], [.sh .b], fun x => configNumbers x.1⟩
theorem configNumbers_ok : CO Tryz.prog configNumbers_k := co_fn mixed Tryz.func29 [configIn_k] ⟨configIn_ok, trivial⟩ [] trivial (fun _ => []) [] fun x => by kernel_rfl
noncomputable def configValid (y0 : Cfg) (y1 : Ins) : Option ((Bool × Unit) × (Unit)) :=
 if y1.op = 0 then
  (configIn y1.a 1 64).bind fun r1 =>
  if r1.1.1 = true then
   some ((decide (y1.b = 0), ()), (()))
  else
  some ((false, ()), (()))
 else
 if y1.op = 1 then
  (configIn y1.a 0 (wi (((y0.progs.length : Nat) : Int) - 1))).bind fun r2 =>
  if r2.1.1 = true then
   (configIn y1.b 0 (wi (y0.levels - 1))).bind fun r3 =>
   some ((r3.1.1, ()), (()))
  else
  some ((false, ()), (()))
 else
 if y1.op = 2 then
  (configIn y1.a 0 31).bind fun r4 =>
  if r4.1.1 = true then
   some ((decide (y1.b = 0), ()), (()))
  else
  some ((false, ()), (()))
 else
 some ((false, ()), (()))
noncomputable abbrev configValid_k : Con SR1 := ⟨55, [.val 13, .val 3], [.sh .b], fun x => configValid x.1 x.2.1⟩
theorem configValid_ok : CO Tryz.prog configValid_k := co_fn mixed Tryz.func55 [configIn_k] ⟨configIn_ok, trivial⟩ [] trivial (fun _ => []) [] fun x => by kernel_rfl
noncomputable def configPrograms (y0 : Cfg) : Option ((Int × Unit) × (Unit)) :=
 (configIn ((y0.progs.length : Nat) : Int) 1 32).bind fun r1 =>
 if (!r1.1.1) = true then
  some ((2, ()), (()))
 else
 (lpF (σ := Int × Unit) (β := (Int × Unit) ⊕ ((Int × Unit) × (Unit))) (fun self4 x2 =>
  if x2.1 < ((y0.progs.length : Nat) : Int) then
   if 0 ≤ x2.1 ∧ x2.1 < ((y0.progs.length : Nat) : Int) then
    if 32 < (((atL [] y0.progs x2.1).length : Nat) : Int) then
     Option.map Sum.inr (
      some ((2, ()), (()))
     )
    else
    (lpF (σ := Int × Unit) (β := (Int × Unit) ⊕ ((Int × Unit) ⊕ ((Int × Unit) × (Unit)))) (fun self7 x5 =>
     if x5.1 < (((atL [] y0.progs x2.1).length : Nat) : Int) then
      if 0 ≤ x5.1 ∧ x5.1 < (((atL [] y0.progs x2.1).length : Nat) : Int) then
       (configValid y0 (atK3 (atL [] y0.progs x2.1) x5.1)).bind fun r8 =>
       if (!r8.1.1) = true then
        Option.map Sum.inr (
         Option.map Sum.inr (
          some ((1, ()), (()))
         )
        )
       else
       self7 (wi (x5.1 + 1), ())
      else none
     else
     some (Sum.inl (x5.1, ()))
    ) 18446744073709551616 (0, ())).bind fun z6 => match z6 with
    | .inr o9 => some o9
    | .inl z6 =>
    self4 (wi (x2.1 + 1), ())
   else none
  else
  some (Sum.inl (x2.1, ()))
 ) 18446744073709551616 (0, ())).bind fun z3 => match z3 with
 | .inr o10 => some o10
 | .inl z3 =>
 some ((0, ()), (()))
noncomputable abbrev configPrograms_k : Con SR1 := ⟨30, [.val 13], [.sh sI_], fun x => configPrograms x.1⟩
theorem configPrograms_ok : CO Tryz.prog configPrograms_k := co_fn mixed Tryz.func30 [configIn_k, configValid_k] ⟨configIn_ok, configValid_ok, trivial⟩ [] trivial (fun _ => []) [(4, .loopR [.rg 15 sI_] 18446744073709551616 0), (9, .loopR [.rg 24 sI_] 18446744073709551616 2)] fun x => by kernel_rfl
noncomputable def configSubmissions (y0 : Cfg) : Option ((Int × Unit) × (Unit)) :=
 if 64 < ((y0.subs.length : Nat) : Int) then
  some ((2, ()), (()))
 else
 (lpF (σ := Int × Unit) (β := (Int × Unit) ⊕ ((Int × Unit) × (Unit))) (fun self3 x1 =>
  if x1.1 < ((y0.subs.length : Nat) : Int) then
   if 0 ≤ x1.1 ∧ x1.1 < ((y0.subs.length : Nat) : Int) then
    (configIn ((atK4 y0.subs x1.1).prog) 0 (wi (((y0.progs.length : Nat) : Int) - 1))).bind fun r4 =>
    if (!r4.1.1) = true then
     Option.map Sum.inr (
      some ((3, ()), (()))
     )
    else
    (configIn ((atK4 y0.subs x1.1).level) 0 (wi (y0.levels - 1))).bind fun r5 =>
    if (!r5.1.1) = true then
     Option.map Sum.inr (
      some ((1, ()), (()))
     )
    else
    (configIn ((atK4 y0.subs x1.1).deadline) 0 16777215).bind fun r6 =>
    if (!r6.1.1) = true then
     Option.map Sum.inr (
      some ((1, ()), (()))
     )
    else
    self3 (wi (x1.1 + 1), ())
   else none
  else
  some (Sum.inl (x1.1, ()))
 ) 18446744073709551616 (0, ())).bind fun z2 => match z2 with
 | .inr o7 => some o7
 | .inl z2 =>
 some ((0, ()), (()))
noncomputable abbrev configSubmissions_k : Con SR1 := ⟨31, [.val 13], [.sh sI_], fun x => configSubmissions x.1⟩
theorem configSubmissions_ok : CO Tryz.prog configSubmissions_k := co_fn mixed Tryz.func31 [configIn_k] ⟨configIn_ok, trivial⟩ [] trivial (fun _ => []) [(4, .loopR [.rg 12 sI_] 18446744073709551616 0)] fun x => by kernel_rfl
noncomputable def configCheck (y0 : Cfg) : Option ((Int × Unit) × (Unit)) :=
 (configNumbers y0).bind fun r1 =>
 if (!r1.1.1) = true then
  some ((1, ()), (()))
 else
 (configPrograms y0).bind fun r2 =>
 if r2.1.1 ≠ 0 then
  some ((r2.1.1, ()), (()))
 else
 (configSubmissions y0).bind fun r3 =>
 some ((r3.1.1, ()), (()))
noncomputable abbrev configCheck_k : Con SR1 := ⟨19, [.val 13], [.sh sI_], fun x => configCheck x.1⟩
theorem configCheck_ok : CO Tryz.prog configCheck_k := co_fn mixed Tryz.func19 [configNumbers_k, configPrograms_k, configSubmissions_k] ⟨configNumbers_ok, configPrograms_ok, configSubmissions_ok, trivial⟩ [] trivial (fun _ => []) [] fun x => by kernel_rfl
noncomputable def layoutNew (y0 : Cfg) : Option ((LayV × Int × Unit) × (Unit)) :=
 (configCheck y0).bind fun r1 =>
 if r1.1.1 ≠ 0 then
  some (((⟨0, 0, 0, 0, 0, 0, 0, 0, 0, 0, 0⟩ : LayV), r1.1.1, ()), (()))
 else
 some ((({ y0 with sleepers := wi (4 + y0.heap), epochs := wi ((wi (4 + y0.heap)) + y0.classes), bitmaps := wi ((wi ((wi (4 + y0.heap)) + y0.classes)) + y0.workers), queues := wi ((wi ((wi ((wi (4 + y0.heap)) + y0.classes)) + y0.workers)) + y0.workers), table := wi ((wi ((wi ((wi ((wi (4 + y0.heap)) + y0.classes)) + y0.workers)) + y0.workers)) + (wi ((wi (y0.workers * y0.levels)) * (wi (2 + y0.deque))))) } : LayV), 0, ()), (()))
noncomputable abbrev layoutNew_k : Con SR1 := ⟨56, [.val 13], [.val 24, .sh sI_], fun x => layoutNew x.1⟩
theorem layoutNew_ok : CO Tryz.prog layoutNew_k := co_fn mixed Tryz.func56 [configCheck_k] ⟨configCheck_ok, trivial⟩ [] trivial (fun _ => []) [] fun x => by kernel_rfl
noncomputable def memoryNew (y0 : Int) : Option ((MemV × Unit) × (Unit)) :=
 if (if 131072 < (if y0 < 0 then 0 else y0) then 131072 else (if y0 < 0 then 0 else y0)) = (if 131072 < (if y0 < 0 then 0 else y0) then 131072 else (if y0 < 0 then 0 else y0)) then
  if 0 ≤ (if 131072 < (if y0 < 0 then 0 else y0) then 131072 else (if y0 < 0 then 0 else y0)) ∧ (if 131072 < (if y0 < 0 then 0 else y0) then 131072 else (if y0 < 0 then 0 else y0)) ≤ 1099511627776 then
   some (((⟨List.replicate ((if 131072 < (if y0 < 0 then 0 else y0) then 131072 else (if y0 < 0 then 0 else y0)) : Int).toNat (0 : Int), ⟨0, 0, 0, 0⟩, 0⟩ : MemV), ()), (()))
  else none
 else none
noncomputable abbrev memoryNew_k : Con SR1 := ⟨64, [.sh sI_], [.sh (.own 9)], fun x => memoryNew x.1⟩
theorem memoryNew_ok : CO Tryz.prog memoryNew_k := co_fn mixed Tryz.func64 [] trivial [] trivial (fun _ => []) [] fun x => by kernel_rfl
noncomputable def clockNew  : Option ((ClkV × Unit) × (Unit)) :=
 some (((⟨0, 0⟩ : ClkV), ()), (()))
noncomputable abbrev clockNew_k : Con SR1 := ⟨65, [], [.sh (.own 25)], fun x => clockNew ⟩
theorem clockNew_ok : CO Tryz.prog clockNew_k := co_fn mixed Tryz.func65 [] trivial [] trivial (fun _ => []) [] fun x => by kernel_rfl
noncomputable def machineBare (y0 : Int) : Option ((EnvP × Unit) × (Unit)) :=
 (memoryNew y0).bind fun r1 =>
 (clockNew).bind fun r2 =>
 some (((⟨⟨0, 0, 0, 0, 0, 0, 0, 0, 0, [], []⟩, ⟨0, 0, 0, 0, 0, 0, 0, 0, 0, 0, 0⟩, r1.1.1, r2.1.1, [], []⟩ : EnvP), ()), (()))
noncomputable abbrev machineBare_k : Con SR1 := ⟨57, [.sh sI_], [.sh (.own 27)], fun x => machineBare x.1⟩
theorem machineBare_ok : CO Tryz.prog machineBare_k := co_fn mixed Tryz.func57 [memoryNew_k, clockNew_k] ⟨memoryNew_ok, clockNew_ok, trivial⟩ [] trivial (fun _ => []) [] fun x => by kernel_rfl
noncomputable def clientNew (y0 : Cfg) : Option (((ClientV MV) × Unit) × (Unit)) :=
 (configClone y0).bind fun r1 =>
 if y0.workers = y0.workers then
  some (((⟨r1.1.1.subs, y0.workers, 0, 1, MV.nil, true, 0, false⟩ : (ClientV MV)), ()), (()))
 else none
noncomputable abbrev clientNew_k : Con SR1 := ⟨38, [.val 13], [.sh (.own 30)], fun x => clientNew x.1⟩
theorem clientNew_ok : CO Tryz.prog clientNew_k := co_fn mixed Tryz.func38 [configClone_k] ⟨configClone_ok, trivial⟩ [] trivial (fun _ => []) [] fun x => by kernel_rfl
noncomputable def workerNew (y0 : Int) : Option (((WorkerV MV) × Unit) × (Unit)) :=
 some (((⟨y0, 0, 0, MV.nil, 0, 0, 0⟩ : (WorkerV MV)), ()), (()))
noncomputable abbrev workerNew_k : Con SR1 := ⟨39, [.sh sI_], [.sh (.own 31)], fun x => workerNew x.1⟩
theorem workerNew_ok : CO Tryz.prog workerNew_k := co_fn mixed Tryz.func39 [] trivial [] trivial (fun _ => []) [] fun x => by kernel_rfl
end
section
open Go Go.RowKit
set_option maxRecDepth 100000
noncomputable def engineEngineGather (y0 : EngP) : Option ((Unit) × (EngP × Unit)) :=
 (lpF (σ := Int × List (WorkerV MV) × (EnvP × (ClientV MV) × List Unit × Int × List Int × Int × Int × Int × Int × Unit) × Unit) (β := Int × List (WorkerV MV) × (EnvP × (ClientV MV) × List Unit × Int × List Int × Int × Int × Int × Int × Unit) × Unit) (fun self3 x1 =>
  if x1.1 < ((y0.ws.length : Nat) : Int) then
   if 0 ≤ x1.1 ∧ x1.1 < ((x1.2.1.length : Nat) : Int) then
    if (((x1.2.2.1.2.2.1.length + 1 : Nat)) : Int) < 1000000000000 then
     self3 (wi (x1.1 + 1), x1.2.1.set x1.1.toNat (atK56 x1.2.1 x1.1), (x1.2.2.1.1, x1.2.2.1.2.1, x1.2.2.1.2.2.1 ++ [()], x1.2.2.1.2.2.2.1, x1.2.2.1.2.2.2.2.1, x1.2.2.1.2.2.2.2.2.1, x1.2.2.1.2.2.2.2.2.2.1, x1.2.2.1.2.2.2.2.2.2.2.1, x1.2.2.1.2.2.2.2.2.2.2.2.1, ()), ())
    else none
   else none
  else
  some (x1.1, x1.2.1, (x1.2.2.1.1, x1.2.2.1.2.1, x1.2.2.1.2.2.1, x1.2.2.1.2.2.2.1, x1.2.2.1.2.2.2.2.1, x1.2.2.1.2.2.2.2.2.1, x1.2.2.1.2.2.2.2.2.2.1, x1.2.2.1.2.2.2.2.2.2.2.1, x1.2.2.1.2.2.2.2.2.2.2.2.1, ()), ())
 ) 18446744073709551616 (0, y0.ws, (y0.e, y0.cl, [], y0.n, y0.stamps, y0.last.kind, y0.last.cell, y0.last.old, y0.last.new, ()), ())).bind fun z2 =>
 if (((z2.2.2.1.2.2.1.length + 1 : Nat)) : Int) < 1000000000000 then
  some ((()), ((⟨z2.2.2.1.1, z2.2.1, z2.2.2.1.2.1, z2.2.2.1.2.2.1 ++ [()], z2.2.2.1.2.2.2.1, z2.2.2.1.2.2.2.2.1, ⟨z2.2.2.1.2.2.2.2.2.1, z2.2.2.1.2.2.2.2.2.2.1, z2.2.2.1.2.2.2.2.2.2.2.1, z2.2.2.1.2.2.2.2.2.2.2.2.1⟩⟩ : EngP), ()))
 else none
noncomputable abbrev engineEngineGather_k : Con SR1 := ⟨40, [.ref 58], [], fun x => engineEngineGather x.1⟩
theorem engineEngineGather_ok : CO Tryz.prog engineEngineGather_k := co_fn mixed Tryz.func40 [] trivial [] trivial (fun _ => []) [(2, .loop [.rg 12 sI_, .rw 1 56, .cx 0 [.inl (.own 27), .inr (.sl 1), .inl (.own 30), .inl (.row 57), .inl sI_, .inl (.row 1), .inl sI_, .inl sI_, .inl sU_, .inl sU_]] 18446744073709551616 0)] fun x => by kernel_rfl
noncomputable def clientClientStatus (y0 : (ClientV MV)) : Option ((Int × Unit) × ((ClientV MV) × Unit)) :=
 (clientClientOver y0).bind fun r1 =>
 if r1.1.1 = true then
  some ((4, ()), (r1.2.1, ()))
 else
 if r1.2.1.line = 1 then
  some ((0, ()), (r1.2.1, ()))
 else
 some ((2, ()), (r1.2.1, ()))
noncomputable abbrev clientClientStatus_k : Con SR1 := ⟨43, [.ref 30], [.sh sI_], fun x => clientClientStatus x.1⟩
theorem clientClientStatus_ok : CO Tryz.prog clientClientStatus_k := co_fn mixed Tryz.func43 [clientClientOver_k] ⟨clientClientOver_ok, trivial⟩ [] trivial (fun _ => []) [] fun x => by kernel_rfl
noncomputable def workerWorkerStatus (y0 : (WorkerV MV)) : Option ((Int × Unit) × ((WorkerV MV) × Unit)) :=
 if y0.line = 0 then
  some ((0, ()), (y0, ()))
 else
 if y0.line = 7 then
  some ((2, ()), (y0, ()))
 else
 if y0.line = 8 then
  (pAsleep y0.inside).bind fun r1 =>
  if r1.1.1 = true then
   some ((3, ()), (({ y0 with inside := r1.2.1 } : (WorkerV MV)), ()))
  else
  some ((1, ()), (({ y0 with inside := r1.2.1 } : (WorkerV MV)), ()))
 else
 some ((1, ()), (y0, ()))
noncomputable abbrev workerWorkerStatus_k : Con SR1 := ⟨42, [.ref 31], [.sh sI_], fun x => workerWorkerStatus x.1⟩
theorem workerWorkerStatus_ok : CO Tryz.prog workerWorkerStatus_k := co_fn mixed Tryz.func42 [pAsleep_k] ⟨pAsleep_ok, trivial⟩ [] trivial (fun _ => []) [] fun x => by kernel_rfl
noncomputable def engineEngineDone (y0 : EngP) : Option ((Bool × Unit) × (EngP × Unit)) :=
 ((
  (clientClientStatus y0.cl).bind fun r1 =>
  if r1.1.1 ≠ 4 then
   some (true, ({ y0 with cl := r1.2.1 } : EngP), ())
  else
  (lpF (σ := Int × List (WorkerV MV) × Unit) (β := (Int × List (WorkerV MV) × Unit) ⊕ (Bool × EngP × Unit)) (fun self4 x2 =>
   if x2.1 < ((y0.ws.length : Nat) : Int) then
    if 0 ≤ x2.1 ∧ x2.1 < ((x2.2.1.length : Nat) : Int) then
     (workerWorkerStatus (atK56 x2.2.1 x2.1)).bind fun r5 =>
     if r5.1.1 = 2 then
      Option.map Sum.inr (
       some (decide (0 ≤ x2.1), ({ y0 with ws := x2.2.1.set x2.1.toNat r5.2.1, cl := r1.2.1 } : EngP), ())
      )
     else
     self4 (wi (x2.1 + 1), x2.2.1.set x2.1.toNat r5.2.1, ())
    else none
   else
   some (Sum.inl (x2.1, x2.2.1, ()))
  ) 18446744073709551616 (0, y0.ws, ())).bind fun z3 => match z3 with
  | .inr o6 => some o6
  | .inl z3 =>
  some (false, ({ y0 with ws := z3.2.1, cl := r1.2.1 } : EngP), ())
 ) : Option (Bool × EngP × Unit)).bind fun z7 =>
 if z7.1 = true then
  some ((false, ()), (z7.2.1, ()))
 else
 if z7.2.1.e.l.workers = z7.2.1.e.l.workers then
  if z7.2.1.e.l.levels = z7.2.1.e.l.levels then
   if z7.2.1.e.l.classes = z7.2.1.e.l.classes then
    if z7.2.1.e.l.tasks = z7.2.1.e.l.tasks then
     if z7.2.1.e.l.deque = z7.2.1.e.l.deque then
      if z7.2.1.e.l.heap = z7.2.1.e.l.heap then
       if z7.2.1.e.l.sleepers = z7.2.1.e.l.sleepers then
        if z7.2.1.e.l.epochs = z7.2.1.e.l.epochs then
         if z7.2.1.e.l.bitmaps = z7.2.1.e.l.bitmaps then
          if z7.2.1.e.l.queues = z7.2.1.e.l.queues then
           if z7.2.1.e.l.table = z7.2.1.e.l.table then
            (lpF (σ := Int × MemV × Unit) (β := (Int × MemV × Unit) ⊕ ((Bool × Unit) × (EngP × Unit))) (fun self10 x8 =>
             if x8.1 < z7.2.1.e.c.tasks then
              (pNext z7.2.1.e.l).bind fun r11 =>
              if r11.1.1 < 0 then
               if (wu (x8.1)) < 0 then
                (pState z7.2.1.e.l x8.1).bind fun r12 =>
                if r12.1.1 < 0 then
                 Option.map Sum.inr (
                  some ((false, ()), (({ z7.2.1 with e := ({ z7.2.1.e with m := x8.2.1 } : EnvP) } : EngP), ()))
                 )
                else
                if ((x8.2.1.cells.length : Nat) : Int) ≤ r12.1.1 then
                 Option.map Sum.inr (
                  some ((false, ()), (({ z7.2.1 with e := ({ z7.2.1.e with m := x8.2.1 } : EnvP) } : EngP), ()))
                 )
                else
                if 0 ≤ r12.1.1 ∧ r12.1.1 < ((x8.2.1.cells.length : Nat) : Int) then
                 if (atK0 x8.2.1.cells r12.1.1) ≠ 4 then
                  Option.map Sum.inr (
                   some ((false, ()), (({ z7.2.1 with e := ({ z7.2.1.e with m := x8.2.1 } : EnvP) } : EngP), ()))
                  )
                 else
                 self10 (wi (x8.1 + 1), x8.2.1, ())
                else none
               else
               some (Sum.inl (x8.1, x8.2.1, ()))
              else
              if ((x8.2.1.cells.length : Nat) : Int) ≤ r11.1.1 then
               if (wu (x8.1)) < 0 then
                (pState z7.2.1.e.l x8.1).bind fun r13 =>
                if r13.1.1 < 0 then
                 Option.map Sum.inr (
                  some ((false, ()), (({ z7.2.1 with e := ({ z7.2.1.e with m := x8.2.1 } : EnvP) } : EngP), ()))
                 )
                else
                if ((x8.2.1.cells.length : Nat) : Int) ≤ r13.1.1 then
                 Option.map Sum.inr (
                  some ((false, ()), (({ z7.2.1 with e := ({ z7.2.1.e with m := x8.2.1 } : EnvP) } : EngP), ()))
                 )
                else
                if 0 ≤ r13.1.1 ∧ r13.1.1 < ((x8.2.1.cells.length : Nat) : Int) then
                 if (atK0 x8.2.1.cells r13.1.1) ≠ 4 then
                  Option.map Sum.inr (
                   some ((false, ()), (({ z7.2.1 with e := ({ z7.2.1.e with m := x8.2.1 } : EnvP) } : EngP), ()))
                  )
                 else
                 self10 (wi (x8.1 + 1), x8.2.1, ())
                else none
               else
               some (Sum.inl (x8.1, x8.2.1, ()))
              else
              if 0 ≤ r11.1.1 ∧ r11.1.1 < ((x8.2.1.cells.length : Nat) : Int) then
               if (wu (x8.1)) < (atK0 x8.2.1.cells r11.1.1) then
                (pState z7.2.1.e.l x8.1).bind fun r14 =>
                if r14.1.1 < 0 then
                 Option.map Sum.inr (
                  some ((false, ()), (({ z7.2.1 with e := ({ z7.2.1.e with m := x8.2.1 } : EnvP) } : EngP), ()))
                 )
                else
                if ((x8.2.1.cells.length : Nat) : Int) ≤ r14.1.1 then
                 Option.map Sum.inr (
                  some ((false, ()), (({ z7.2.1 with e := ({ z7.2.1.e with m := x8.2.1 } : EnvP) } : EngP), ()))
                 )
                else
                if 0 ≤ r14.1.1 ∧ r14.1.1 < ((x8.2.1.cells.length : Nat) : Int) then
                 if (atK0 x8.2.1.cells r14.1.1) ≠ 4 then
                  Option.map Sum.inr (
                   some ((false, ()), (({ z7.2.1 with e := ({ z7.2.1.e with m := x8.2.1 } : EnvP) } : EngP), ()))
                  )
                 else
                 self10 (wi (x8.1 + 1), x8.2.1, ())
                else none
               else
               some (Sum.inl (x8.1, x8.2.1, ()))
              else none
             else
             some (Sum.inl (x8.1, x8.2.1, ()))
            ) 18446744073709551616 (0, z7.2.1.e.m, ())).bind fun z9 => match z9 with
            | .inr o15 => some o15
            | .inl z9 =>
            some ((true, ()), (({ z7.2.1 with e := ({ z7.2.1.e with m := z9.2.1 } : EnvP) } : EngP), ()))
           else none
          else none
         else none
        else none
       else none
      else none
     else none
    else none
   else none
  else none
 else none
noncomputable abbrev engineEngineDone_k : Con SR1 := ⟨24, [.ref 58], [.sh .b], fun x => engineEngineDone x.1⟩
noncomputable def engineEngineDone_tb : List (Nat × Func) := [(44, Tryz.f44), (62, Tryz.f62), (41, Tryz.f41), (45, Tryz.f45)]
theorem engineEngineDone_ok : CO Tryz.prog engineEngineDone_k := co_fn mixed Tryz.func24 [clientClientStatus_k, workerWorkerStatus_k, pNext_k, pState_k] ⟨clientClientStatus_ok, workerWorkerStatus_ok, pNext_ok, pState_ok, trivial⟩ engineEngineDone_tb ⟨Tryz.func44, Tryz.func62, Tryz.func41, Tryz.func45, trivial⟩ (fun f => (get [(62, [(2, .loopR [.rg 8 sI_, .rw 3 56] 18446744073709551616 0)])] f).getD []) [(3, .cut [.rg 20 .b, .ob 0 58] []), (6, .loopR [.rg 6 sI_, .ob 34 9] 18446744073709551616 0)] fun x => by kernel_rfl
noncomputable def r5number (r : CodV) (k : Int) : Option ((Int × Unit) × (CodV × Unit)) :=
 if r.at_ < ((r.inn.length : Nat) : Int) then
  if 0 ≤ r.at_ ∧ r.at_ < ((r.inn.length : Nat) : Int) then
   if k ≠ 0 then
    some (((Int.tmod (wi (atK17 r.inn r.at_)) k), ()), (({ r with at_ := wi (r.at_ + 1) } : CodV), ()))
   else none
  else none
 else
 some ((0, ()), (({ r with at_ := wi (r.at_ + 1) } : CodV), ()))
noncomputable abbrev r5number_k : Con SR1 := ⟨28, [.ref 19, .sh sI_], [.sh sI_], fun x => r5number x.1 x.2.1⟩
theorem r5number_ok : CO Tryz.prog r5number_k := co_fn mixed Tryz.func28 [] trivial [] trivial (fun _ => []) [] fun x => by kernel_rfl
noncomputable def r5decode (b : List Int) : Option ((Cfg × Unit) × (Unit)) :=
 (r5number (⟨b, [], 0, false⟩ : CodV) 4).bind fun r1 =>
 (r5number r1.2.1 4).bind fun r2 =>
 (r5number r2.2.1 (if wi (1 + r2.1.1) < 3 then wi (1 + r2.1.1) else 3)).bind fun r3 =>
 (r5number r3.2.1 12).bind fun r4 =>
 (r5number r4.2.1 4).bind fun r5 =>
 (r5number r5.2.1 4).bind fun r6 =>
 (r5number r6.2.1 (wi (1 + r5.1.1))).bind fun r7 =>
 (r5number r7.2.1 6).bind fun r8 =>
 (r5number r8.2.1 8).bind fun r9 =>
 (r5number r9.2.1 4).bind fun r10 =>
 (lpF (σ := Int × CodV × Cfg × Unit) (β := Int × CodV × Cfg × Unit) (fun self13 x11 =>
  if x11.1 < (wi (1 + r10.1.1)) then
   (r5number x11.2.1 6).bind fun r14 =>
   (lpF (σ := List Ins × Int × CodV × Unit) (β := List Ins × Int × CodV × Unit) (fun self17 x15 =>
    if 0 < x15.2.1 then
     (r5number x15.2.2.1 3).bind fun r18 =>
     if r18.1.1 = 0 then
      (r5number r18.2.1 4).bind fun r19 =>
      if (((x15.1.length + ([(⟨r18.1.1, wi (1 + r19.1.1), 0⟩ : Ins)] : List Ins).length : Nat)) : Int) < 1000000000000 then
       self17 (x15.1 ++ ([(⟨r18.1.1, wi (1 + r19.1.1), 0⟩ : Ins)]), wi (x15.2.1 - 1), r19.2.1, ())
      else none
     else
     if r18.1.1 = 1 then
      (r5number r18.2.1 (wi (1 + r10.1.1))).bind fun r20 =>
      (r5number r20.2.1 x11.2.2.1.levels).bind fun r21 =>
      if (((x15.1.length + ([(⟨r18.1.1, r20.1.1, r21.1.1⟩ : Ins)] : List Ins).length : Nat)) : Int) < 1000000000000 then
       self17 (x15.1 ++ ([(⟨r18.1.1, r20.1.1, r21.1.1⟩ : Ins)]), wi (x15.2.1 - 1), r21.2.1, ())
      else none
     else
     (r5number r18.2.1 4).bind fun r22 =>
     if (((x15.1.length + ([(⟨r18.1.1, r22.1.1, 0⟩ : Ins)] : List Ins).length : Nat)) : Int) < 1000000000000 then
      self17 (x15.1 ++ ([(⟨r18.1.1, r22.1.1, 0⟩ : Ins)]), wi (x15.2.1 - 1), r22.2.1, ())
     else none
    else
    some (x15.1, x15.2.1, x15.2.2.1, ())
   ) 18446744073709551616 ([], r14.1.1, r14.2.1, ())).bind fun z16 =>
   if (((x11.2.2.1.progs.length + ([z16.1] : List (List Ins)).length : Nat)) : Int) < 100000000000 then
    self13 (wi (x11.1 + 1), z16.2.2.1, ({ x11.2.2.1 with progs := x11.2.2.1.progs ++ ([z16.1]) } : Cfg), ())
   else none
  else
  some (x11.1, x11.2.1, x11.2.2.1, ())
 ) 18446744073709551616 (0, r10.2.1, (⟨wi (1 + r1.1.1), wi (1 + r2.1.1), wi (1 + r3.1.1), wi (1 + r4.1.1), wi (1 + r5.1.1), wi (1 + r6.1.1), wi (1 + r7.1.1), r8.1.1, wi (1 + r9.1.1), [], []⟩ : Cfg), ())).bind fun z12 =>
 (r5number z12.2.1 6).bind fun r23 =>
 (lpF (σ := Int × CodV × Cfg × Unit) (β := Int × CodV × Cfg × Unit) (fun self26 x24 =>
  if 0 < x24.1 then
   (r5number x24.2.1 (wi (1 + r10.1.1))).bind fun r27 =>
   (r5number r27.2.1 x24.2.2.1.levels).bind fun r28 =>
   (r5number r28.2.1 16).bind fun r29 =>
   if (((x24.2.2.1.subs.length + ([(⟨r27.1.1, r28.1.1, r29.1.1⟩ : Sub)] : List Sub).length : Nat)) : Int) < 1000000000000 then
    self26 (wi (x24.1 - 1), r29.2.1, ({ x24.2.2.1 with subs := x24.2.2.1.subs ++ ([(⟨r27.1.1, r28.1.1, r29.1.1⟩ : Sub)]) } : Cfg), ())
   else none
  else
  some (x24.1, x24.2.1, x24.2.2.1, ())
 ) 18446744073709551616 (r23.1.1, r23.2.1, z12.2.2.1, ())).bind fun z25 =>
 some ((z25.2.2.1, ()), (()))
noncomputable abbrev r5decode_k : Con SR1 := ⟨18, [.sh (.ro 17)], [.val 13], fun x => r5decode x.1⟩
theorem r5decode_ok : CO Tryz.prog r5decode_k := co_fn mixed Tryz.func18 [r5number_k] ⟨r5number_ok, trivial⟩ [] trivial (fun _ => []) [(12, .loop [.rg 6 sI_, .rg 3 (.own 19), .rg 4 (.own 20)] 18446744073709551616 0), (16, .loop [.rg 7 (.row 3), .rg 8 sI_, .rg 3 (.own 19)] 18446744073709551616 2), (29, .loop [.rg 10 sI_, .rg 3 (.own 19), .rg 4 (.own 20)] 18446744073709551616 5)] fun x => by kernel_rfl
noncomputable def kconfig (b : List Int) : Option ((Cfg × Unit) × (Unit)) :=
 (r5decode b).bind fun r1 =>
 some ((r1.1.1, ()), (()))
noncomputable abbrev kconfig_k : Con SR1 := ⟨12, [.sh (.ro 17)], [.val 13], fun x => kconfig x.1⟩
theorem kconfig_ok : CO Tryz.prog kconfig_k := co_fn mixed Tryz.func12 [r5decode_k] ⟨r5decode_ok, trivial⟩ [] trivial (fun _ => []) [] fun x => by kernel_rfl
noncomputable def kshort (b : List Int) (l : List (List Int)) : Option ((Bool × Unit) × (Unit)) :=
 (lpF (σ := Int × Unit) (β := (Int × Unit) ⊕ ((Bool × Unit) × (Unit))) (fun self3 x1 =>
  if x1.1 < ((l.length : Nat) : Int) then
   if 0 ≤ x1.1 ∧ x1.1 < ((l.length : Nat) : Int) then
    if 400 < (((atL [] l x1.1).length : Nat) : Int) then
     Option.map Sum.inr (
      some ((false, ()), (()))
     )
    else
    self3 (wi (x1.1 + 1), ())
   else none
  else
  some (Sum.inl (x1.1, ()))
 ) 18446744073709551616 (0, ())).bind fun z2 => match z2 with
 | .inr o4 => some o4
 | .inl z2 =>
 some ((decide (((b.length : Nat) : Int) ≤ 400), ()), (()))
noncomputable abbrev kshort_k : Con SR1 := ⟨10, [.sh (.ro 17), .sh (.rr 1)], [.sh .b], fun x => kshort x.1 x.2.1⟩
theorem kshort_ok : CO Tryz.prog kshort_k := co_fn mixed Tryz.func10 [] trivial [] trivial (fun _ => []) [(2, .loopR [.rg 5 sI_] 18446744073709551616 0)] fun x => by kernel_rfl
noncomputable def eDo (x : EngP) (v : EntV) : Option (Unit × (EngP × Unit)) := none
noncomputable abbrev eDo_k : Con SR1 := ⟨25, [.ref 58, .val 5], [], fun x => none⟩
theorem eDo_ok : CO Tryz.prog eDo_k := fun x out h => by cases h
noncomputable def configMachines (y0 : Cfg) : Option ((Int × Unit) × (Unit)) :=
 some ((wi (y0.workers + 1), ()), (()))
noncomputable abbrev configMachines_k : Con SR1 := ⟨27, [.val 13], [.sh sI_], fun x => configMachines x.1⟩
theorem configMachines_ok : CO Tryz.prog configMachines_k := co_fn mixed Tryz.func27 [] trivial [] trivial (fun _ => []) [] fun x => by kernel_rfl
noncomputable def configWeight (y0 : List Ins) : Option ((Int × Unit) × (Unit)) :=
 (lpF (σ := Int × Int × Unit) (β := Int × Int × Unit) (fun self3 x1 =>
  if x1.2.1 < ((y0.length : Nat) : Int) then
   if 0 ≤ x1.2.1 ∧ x1.2.1 < ((y0.length : Nat) : Int) then
    if ((atK3 y0 x1.2.1).op) = 0 then
     if 0 < ((atK3 y0 x1.2.1).a) then
      self3 (wi (x1.1 + ((atK3 y0 x1.2.1).a)), wi (x1.2.1 + 1), ())
     else
     self3 (wi (x1.1 + 1), wi (x1.2.1 + 1), ())
    else
    self3 (wi (x1.1 + 1), wi (x1.2.1 + 1), ())
   else none
  else
  some (x1.1, x1.2.1, ())
 ) 18446744073709551616 (0, 0, ())).bind fun z2 =>
 some ((z2.1, ()), (()))
noncomputable abbrev configWeight_k : Con SR1 := ⟨32, [.sh (.ro 3)], [.sh sI_], fun x => configWeight x.1⟩
theorem configWeight_ok : CO Tryz.prog configWeight_k := co_fn mixed Tryz.func32 [] trivial [] trivial (fun _ => []) [(3, .loop [.rg 3 sI_, .rg 8 sI_] 18446744073709551616 0)] fun x => by kernel_rfl
noncomputable def workstealref05Weight (y0 : List Ins) : Option ((Int × Unit) × (Unit)) :=
 (lpF (σ := Int × Int × Unit) (β := Int × Int × Unit) (fun self3 x1 =>
  if x1.2.1 < ((y0.length : Nat) : Int) then
   if 0 ≤ x1.2.1 ∧ x1.2.1 < ((y0.length : Nat) : Int) then
    if ((atK3 y0 x1.2.1).op) = 0 then
     if 0 ≤ x1.2.1 ∧ x1.2.1 < ((y0.length : Nat) : Int) then
      if 0 < ((atK3 y0 x1.2.1).a) then
       if 0 ≤ x1.2.1 ∧ x1.2.1 < ((y0.length : Nat) : Int) then
        self3 (wi (x1.1 + ((atK3 y0 x1.2.1).a)), wi (x1.2.1 + 1), ())
       else none
      else
      self3 (wi (x1.1 + 1), wi (x1.2.1 + 1), ())
     else none
    else
    self3 (wi (x1.1 + 1), wi (x1.2.1 + 1), ())
   else none
  else
  some (x1.1, x1.2.1, ())
 ) 18446744073709551616 (0, 0, ())).bind fun z2 =>
 some ((z2.1, ()), (()))
noncomputable abbrev workstealref05Weight_k : Con SR1 := ⟨36, [.sh (.ro 3)], [.sh sI_], fun x => workstealref05Weight x.1⟩
theorem workstealref05Weight_ok : CO Tryz.prog workstealref05Weight_k := co_fn mixed Tryz.func36 [] trivial [] trivial (fun _ => []) [(3, .loop [.rg 3 sI_, .rg 4 sI_] 18446744073709551616 0)] fun x => by kernel_rfl
noncomputable def configHeaviest (y0 : Cfg) : Option ((Int × Unit) × (Unit)) :=
 (lpF (σ := Int × Int × Unit) (β := Int × Int × Unit) (fun self3 x1 =>
  if x1.2.1 < ((y0.progs.length : Nat) : Int) then
   if 0 ≤ x1.2.1 ∧ x1.2.1 < ((y0.progs.length : Nat) : Int) then
    (configWeight (atL [] y0.progs x1.2.1)).bind fun r4 =>
    if x1.2.1 = 0 then
     self3 (r4.1.1, wi (x1.2.1 + 1), ())
    else
    if x1.1 < r4.1.1 then
     self3 (r4.1.1, wi (x1.2.1 + 1), ())
    else
    self3 (x1.1, wi (x1.2.1 + 1), ())
   else none
  else
  some (x1.1, x1.2.1, ())
 ) 18446744073709551616 (0, 0, ())).bind fun z2 =>
 some ((z2.1, ()), (()))
noncomputable abbrev configHeaviest_k : Con SR1 := ⟨20, [.val 13], [.sh sI_], fun x => configHeaviest x.1⟩
theorem configHeaviest_ok : CO Tryz.prog configHeaviest_k := co_fn mixed Tryz.func20 [configWeight_k] ⟨configWeight_ok, trivial⟩ [] trivial (fun _ => []) [(3, .loop [.rg 3 sI_, .rg 10 sI_] 18446744073709551616 0)] fun x => by kernel_rfl
noncomputable def workstealref05Heaviest (y0 : Cfg) : Option ((Int × Unit) × (Unit)) :=
 (lpF (σ := Int × Int × Unit) (β := Int × Int × Unit) (fun self3 x1 =>
  if x1.2.1 < ((y0.progs.length : Nat) : Int) then
   if 0 ≤ x1.2.1 ∧ x1.2.1 < ((y0.progs.length : Nat) : Int) then
    (workstealref05Weight (atL [] y0.progs x1.2.1)).bind fun r4 =>
    self3 ((if x1.1 < r4.1.1 then r4.1.1 else x1.1), wi (x1.2.1 + 1), ())
   else none
  else
  some (x1.1, x1.2.1, ())
 ) 18446744073709551616 (0, 0, ())).bind fun z2 =>
 some ((z2.1, ()), (()))
noncomputable abbrev workstealref05Heaviest_k : Con SR1 := ⟨22, [.val 13], [.sh sI_], fun x => workstealref05Heaviest x.1⟩
theorem workstealref05Heaviest_ok : CO Tryz.prog workstealref05Heaviest_k := co_fn mixed Tryz.func22 [workstealref05Weight_k] ⟨workstealref05Weight_ok, trivial⟩ [] trivial (fun _ => []) [(3, .loop [.rg 3 sI_, .rg 4 sI_] 18446744073709551616 0)] fun x => by kernel_rfl
noncomputable def boundOf (y0 : Cfg) : Option ((Int × Unit) × (Unit)) :=
 (cfgCheck y0).bind fun r1 =>
 if r1.1.1 ≠ 0 then
  some ((0, ()), (()))
 else
 (configHeaviest y0).bind fun r2 =>
 if y0.tasks = y0.tasks then
  if y0.tasks = y0.tasks then
   if y0.patience = y0.patience then
    if y0.classes = y0.classes then
     if y0.levels = y0.levels then
      if y0.workers = y0.workers then
       (bndBound y0.workers y0.levels y0.classes y0.patience y0.tasks ((y0.subs.length : Nat) : Int) (wi (y0.tasks * r2.1.1))).bind fun r3 =>
       some ((r3.1.1, ()), (()))
      else none
     else none
    else none
   else none
  else none
 else none
noncomputable abbrev boundOf_k : Con SR1 := ⟨13, [.val 13], [.sh sI_], fun x => boundOf x.1⟩
theorem boundOf_ok : CO Tryz.prog boundOf_k := co_fn mixed Tryz.func13 [cfgCheck_k, configHeaviest_k, bndBound_k] ⟨cfgCheck_ok, configHeaviest_ok, bndBound_ok, trivial⟩ [] trivial (fun _ => []) [] fun x => by kernel_rfl
noncomputable def workstealref31Of (y0 : Cfg) : Option ((Int × Unit) × (Unit)) :=
 (refCheck y0).bind fun r1 =>
 if r1.1.1 ≠ 0 then
  some ((0, ()), (()))
 else
 (workstealref05Heaviest y0).bind fun r2 =>
 if y0.tasks = y0.tasks then
  if y0.tasks = y0.tasks then
   if y0.patience = y0.patience then
    if y0.classes = y0.classes then
     if y0.levels = y0.levels then
      if y0.workers = y0.workers then
       (refBound y0.workers y0.levels y0.classes y0.patience y0.tasks ((y0.subs.length : Nat) : Int) (wi (y0.tasks * r2.1.1))).bind fun r3 =>
       some ((r3.1.1, ()), (()))
      else none
     else none
    else none
   else none
  else none
 else none
noncomputable abbrev workstealref31Of_k : Con SR1 := ⟨14, [.val 13], [.sh sI_], fun x => workstealref31Of x.1⟩
theorem workstealref31Of_ok : CO Tryz.prog workstealref31Of_k := co_fn mixed Tryz.func14 [refCheck_k, workstealref05Heaviest_k, refBound_k] ⟨refCheck_ok, workstealref05Heaviest_ok, refBound_ok, trivial⟩ [] trivial (fun _ => []) [] fun x => by kernel_rfl
noncomputable def boundPlay (y0 : Cfg) (y1 : List EntV) : Option ((Int × Int × Bool × Unit) × (Unit)) :=
 (layoutNew y0).bind fun r1 =>
 if r1.1.2.1 ≠ 0 then
  if r1.1.2.1 ≠ 0 then
   if r1.1.2.1 ≠ 0 then
    some ((0, 0, false, ()), (()))
   else
   none
  else
  (clientNew y0).bind fun r2 =>
  none
 else
 (pCells r1.1.1).bind fun r3 =>
 (machineBare r3.1.1).bind fun r4 =>
 (configClone y0).bind fun r5 =>
 if r1.1.1.workers = r1.1.1.workers then
  if r1.1.1.levels = r1.1.1.levels then
   if r1.1.1.classes = r1.1.1.classes then
    if r1.1.1.tasks = r1.1.1.tasks then
     if r1.1.1.deque = r1.1.1.deque then
      if r1.1.1.heap = r1.1.1.heap then
       if r1.1.1.sleepers = r1.1.1.sleepers then
        if r1.1.1.epochs = r1.1.1.epochs then
         if r1.1.1.bitmaps = r1.1.1.bitmaps then
          if r1.1.1.queues = r1.1.1.queues then
           if r1.1.1.table = r1.1.1.table then
            if r1.1.1.workers = r1.1.1.workers then
             if r1.1.1.levels = r1.1.1.levels then
              if r1.1.1.classes = r1.1.1.classes then
               if r1.1.1.tasks = r1.1.1.tasks then
                if r1.1.1.deque = r1.1.1.deque then
                 if r1.1.1.heap = r1.1.1.heap then
                  if r1.1.1.sleepers = r1.1.1.sleepers then
                   if r1.1.1.epochs = r1.1.1.epochs then
                    if r1.1.1.bitmaps = r1.1.1.bitmaps then
                     if r1.1.1.queues = r1.1.1.queues then
                      if r1.1.1.table = r1.1.1.table then
                       (lpF (σ := Int × EnvP × Unit) (β := Int × EnvP × Unit) (fun self8 x6 =>
                        if x6.1 < y0.tasks then
                         if (((x6.2.1.recs.length + ([(⟨0, (-1), 0, 0, (-1), [], false⟩ : RecP)] : List RecP).length : Nat)) : Int) < 100000000000 then
                          self8 (wi (x6.1 + 1), ({ x6.2.1 with recs := x6.2.1.recs ++ ([(⟨0, (-1), 0, 0, (-1), [], false⟩ : RecP)]) } : EnvP), ())
                         else none
                        else
                        some (x6.1, x6.2.1, ())
                       ) 18446744073709551616 (0, ({ r4.1.1 with c := r5.1.1, l := r1.1.1 } : EnvP), ())).bind fun z7 =>
                       (clientNew y0).bind fun r9 =>
                       (lpF (σ := Int × EngP × Unit) (β := Int × EngP × Unit) (fun self12 x10 =>
                        if x10.1 < y0.workers then
                         (workerNew x10.1).bind fun r13 =>
                         if (((x10.2.1.ws.length + ([r13.1.1] : List (WorkerV MV)).length : Nat)) : Int) < 100000000000 then
                          self12 (wi (x10.1 + 1), ({ x10.2.1 with ws := x10.2.1.ws ++ ([r13.1.1]) } : EngP), ())
                         else none
                        else
                        some (x10.1, x10.2.1, ())
                       ) 18446744073709551616 (0, (⟨z7.2.1, [], r9.1.1, [], 0, [], ⟨0, 0, 0, 0⟩⟩ : EngP), ())).bind fun z11 =>
                       (engineEngineGather z11.2.1).bind fun r14 =>
                       (lpF (σ := Int × EngP × Unit) (β := Int × EngP × Unit) (fun self17 x15 =>
                        if x15.1 < ((y1.length : Nat) : Int) then
                         (engineEngineDone x15.2.1).bind fun r18 =>
                         if (!r18.1.1) = true then
                          if 0 ≤ x15.1 ∧ x15.1 < ((y1.length : Nat) : Int) then
                           (eDo r18.2.1 (atK5 y1 x15.1)).bind fun r19 =>
                           self17 (wi (x15.1 + 1), r19.2.1, ())
                          else none
                         else
                         some (x15.1, r18.2.1, ())
                        else
                        some (x15.1, x15.2.1, ())
                       ) 18446744073709551616 (0, r14.2.1, ())).bind fun z16 =>
                       agr (
                        if 0 ≤ z16.1 ∧ z16.1 ≤ ((y1.length : Nat) : Int) then
                         if y0.workers = y0.workers then
                          if y0.levels = y0.levels then
                           if y0.classes = y0.classes then
                            if y0.tasks = y0.tasks then
                             if y0.deque = y0.deque then
                              if y0.heap = y0.heap then
                               if y0.batch = y0.batch then
                                if y0.age = y0.age then
                                 if y0.patience = y0.patience then
                                  (configMachines y0).bind fun r23 =>
                                  (scRounds (y1.take (z16.1 : Int).toNat) r23.1.1).bind fun r24 =>
                                  (engineEngineDone z16.2.1).bind fun r25 =>
                                  some ((z16.1, r24.1.1, r25.1.1, ()), (()))
                                 else none
                                else none
                               else none
                              else none
                             else none
                            else none
                           else none
                          else none
                         else none
                        else none
                       ) (
                        (configMachines y0).bind fun r20 =>
                        if 0 ≤ z16.1 ∧ z16.1 ≤ ((y1.length : Nat) : Int) then
                         if y0.workers = y0.workers then
                          if y0.levels = y0.levels then
                           if y0.classes = y0.classes then
                            if y0.tasks = y0.tasks then
                             if y0.deque = y0.deque then
                              if y0.heap = y0.heap then
                               if y0.batch = y0.batch then
                                if y0.age = y0.age then
                                 if y0.patience = y0.patience then
                                  (scRounds (y1.take (z16.1 : Int).toNat) r20.1.1).bind fun r21 =>
                                  (engineEngineDone z16.2.1).bind fun r22 =>
                                  some ((z16.1, r21.1.1, r22.1.1, ()), (()))
                                 else none
                                else none
                               else none
                              else none
                             else none
                            else none
                           else none
                          else none
                         else none
                        else none
                       )
                      else none
                     else none
                    else none
                   else none
                  else none
                 else none
                else none
               else none
              else none
             else none
            else none
           else none
          else none
         else none
        else none
       else none
      else none
     else none
    else none
   else none
  else none
 else none
noncomputable abbrev boundPlay_k : Con SR1 := ⟨16, [.val 13, .sh (.ro 5)], [.sh sI_, .sh sI_, .sh .b], fun x => boundPlay x.1 x.2.1⟩
noncomputable def boundPlay_tb : List (Nat × Func) := [(23, Tryz.f23), (37, Tryz.f37)]
theorem boundPlay_ok : CO Tryz.prog boundPlay_k := co_fn mixed Tryz.func16 [layoutNew_k, clientNew_k, workerNew_k, pCells_k, machineBare_k, configClone_k, engineEngineGather_k, engineEngineDone_k, eDo_k, configMachines_k, scRounds_k] ⟨layoutNew_ok, clientNew_ok, workerNew_ok, pCells_ok, machineBare_ok, configClone_ok, engineEngineGather_ok, engineEngineDone_ok, eDo_ok, configMachines_ok, scRounds_ok, trivial⟩ boundPlay_tb ⟨Tryz.func23, Tryz.func37, trivial⟩ (fun f => (get [(23, [(6, .loop [.rg 23 sI_, .rg 6 (.own 58)] 18446744073709551616 0)]), (37, [(7, .loop [.rg 29 sI_, .rg 6 (.own 27)] 18446744073709551616 0)])] f).getD []) [(4, .loop [.rg 4 sI_, .ob 68 58] 18446744073709551616 0)] fun x => by kernel_rfl
noncomputable def worksteallaw31Awake  : Option ((Bool × Unit) × (Unit)) :=
 (kconfig ([])).bind fun r1 =>
 (boundPlay r1.1.1 ([])).bind fun r2 =>
 (bndBound 1 1 1 1 1 0 0).bind fun r3 =>
 if r3.1.1 = 14691 then
  if r2.1.1 = 0 then
   if r2.1.2.1 = 0 then
    some ((r2.1.2.2.1, ()), (()))
   else
   some ((false, ()), (()))
  else
  some ((false, ()), (()))
 else
 some ((false, ()), (()))
noncomputable abbrev worksteallaw31Awake_k : Con SR1 := ⟨7, [], [.sh .b], fun x => worksteallaw31Awake ⟩
theorem worksteallaw31Awake_ok : CO Tryz.prog worksteallaw31Awake_k := co_fn mixed Tryz.func7 [kconfig_k, boundPlay_k, bndBound_k] ⟨kconfig_ok, boundPlay_ok, bndBound_ok, trivial⟩ [] trivial (fun _ => []) [] fun x => by kernel_rfl
noncomputable def worksteallaw31BoundOf (y0 : Cfg) (y1 : List Int) : Option ((Bool × Unit) × (Unit)) :=
 (kshort y1 ([])).bind fun r1 =>
 if (!r1.1.1) = true then
  some ((true, ()), (()))
 else
 (refSmall y0).bind fun r2 =>
 if (!r2.1.1) = true then
  some ((true, ()), (()))
 else
 (kconfig y1).bind fun r3 =>
 (worksteallaw31Awake).bind fun r4 =>
 if r4.1.1 = true then
  (boundOf y0).bind fun r5 =>
  if y0.workers = y0.workers then
   if y0.levels = y0.levels then
    if y0.classes = y0.classes then
     if y0.tasks = y0.tasks then
      if y0.deque = y0.deque then
       if y0.heap = y0.heap then
        if y0.batch = y0.batch then
         if y0.age = y0.age then
          if y0.patience = y0.patience then
           (workstealref31Of y0).bind fun r6 =>
           if r5.1.1 = r6.1.1 then
            (boundOf r3.1.1).bind fun r7 =>
            if r3.1.1.workers = r3.1.1.workers then
             if r3.1.1.levels = r3.1.1.levels then
              if r3.1.1.classes = r3.1.1.classes then
               if r3.1.1.tasks = r3.1.1.tasks then
                if r3.1.1.deque = r3.1.1.deque then
                 if r3.1.1.heap = r3.1.1.heap then
                  if r3.1.1.batch = r3.1.1.batch then
                   if r3.1.1.age = r3.1.1.age then
                    if r3.1.1.patience = r3.1.1.patience then
                     (workstealref31Of r3.1.1).bind fun r8 =>
                     if r7.1.1 = r8.1.1 then
                      (boundOf r3.1.1).bind fun r9 =>
                      some ((decide (0 < r9.1.1), ()), (()))
                     else
                     some ((false, ()), (()))
                    else none
                   else none
                  else none
                 else none
                else none
               else none
              else none
             else none
            else none
           else
           some ((false, ()), (()))
          else none
         else none
        else none
       else none
      else none
     else none
    else none
   else none
  else none
 else
 some ((false, ()), (()))
noncomputable abbrev worksteallaw31BoundOf_k : Con SR1 := ⟨5, [.val 13, .sh (.ro 17)], [.sh .b], fun x => worksteallaw31BoundOf x.1 x.2.1⟩
theorem worksteallaw31BoundOf_ok : CO Tryz.prog worksteallaw31BoundOf_k := co_fn mixed Tryz.func5 [kshort_k, refSmall_k, kconfig_k, worksteallaw31Awake_k, boundOf_k, workstealref31Of_k] ⟨kshort_ok, refSmall_ok, kconfig_ok, worksteallaw31Awake_ok, boundOf_ok, workstealref31Of_ok, trivial⟩ [] trivial (fun _ => []) [] fun x => by kernel_rfl
end
section
open Go
def Good {α : Type} (o : Option α) (P : α → Prop) : Prop := ∃ x, o = some x ∧ P x
section
variable {α β : Type} {o : Option α} {P Q : α → Prop} {x : α}
theorem Good.some_ (h : P x) : Good (some x) P := ⟨x, rfl, h⟩
theorem Good.bind {f : α → Option β} {Q : β → Prop} (h : Good o P) (k : ∀ x, P x → Good (f x) Q) : Good (o.bind f) Q := by
  obtain ⟨x, rfl, hx⟩ := h
  exact k x hx
theorem Good.ite {c : Prop} [Decidable c] {a b : Option α} (h1 : c → Good a P) (h2 : ¬ c → Good b P) : Good (if c then a else b) P := by
  by_cases h : c
  · rw [if_pos h]; exact h1 h
  · rw [if_neg h]; exact h2 h
theorem Good.guard {c : Prop} [Decidable c] {a b : Option α} (h : c) (k : c → Good a P) : Good (if c then a else b) P := by rw [if_pos h]; exact k h
theorem Good.mono (h : Good o P) (k : ∀ x, P x → Q x) : Good o Q := by
  obtain ⟨x, e, hx⟩ := h
  exact ⟨x, e, k x hx⟩
end
/-- A number of 64 bits. -/
def Rg (x : Int) : Prop := -9223372036854775808 ≤ x ∧ x ≤ 9223372036854775807
theorem wi_id {x : Int} (h : Rg x) : wi x = x := w64 h.1 h.2
theorem rg_lit {x : Int} (h : -1000000000000 ≤ x ∧ x ≤ 1000000000000) : Rg x := by unfold Rg; omega
/-! ### Accesses -/
/-! ### The layout -/
/-! ### Numbers -/
theorem tmod_lt {a b : Int} (h1 : 1 ≤ b) (h2 : 0 ≤ a) : 0 ≤ Int.tmod a b ∧ Int.tmod a b < b := ⟨Int.tmod_nonneg b h2, Int.tmod_lt_of_pos a (by omega)⟩
theorem lp_good {σ β : Type} {F : (σ → Option β) → σ → Option β} (I : σ → Prop) (μ : σ → Nat) {P : β → Prop} (step : ∀ self x, I x → (∀ y, I y → μ y < μ x → Good (self y) P) → Good (F self x) P) : ∀ k x, I x → μ x < k → Good (lpF F k x) P
  | 0, x, _, h => by omega
  | k + 1, x, hx, h => step (lpF F k) x hx fun y hy hlt => lp_good I μ step k y hy (by omega)
theorem at_in {α : Type} {d : α} {xs : List α} {i : Int} (h : 0 ≤ i ∧ i < (xs.length : Int)) : atL d xs i ∈ xs := List.mem_of_getElem? (atL_get h)
end
section
open Go
theorem short_good (b : List Int) (l : List (List Int)) (hl : l.length ≤ 1000000) : Good (kshort b l) fun o => o.1.1 = true → b.length ≤ 400 ∧ ∀ x ∈ l, x.length ≤ 400 := by
  unfold kshort
  refine Good.bind (P := fun z => (∀ o, z = .inr o → o.1.1 = false) ∧ (∀ y, z = .inl y → ∀ x ∈ l, x.length ≤ 400)) (lp_good (fun x => 0 ≤ x.1 ∧ x.1 ≤ (l.length : Int) ∧ ∀ i : Nat, (i : Int) < x.1 → ∀ y, l[i]? = some y → y.length ≤ 400) (fun x => ((l.length : Int) - x.1).toNat) (fun self x ⟨q0, q1, q2⟩ ih => ?_) _ _ ⟨Int.le_refl 0, by show (0 : Int) ≤ (l.length : Int); omega, fun i hi => by omega⟩ (by show ((l.length : Int) - 0).toNat < _; omega)) fun z hz => ?_
  rotate_left
  · have e2 : wi (x.1 + 1) = x.1 + 1 := wi_id (rg_lit (by omega))
    rw [e2]
    refine Good.ite (fun hlt => .guard ⟨q0, hlt⟩ fun _ => Good.ite (fun _ => .some_ ⟨fun o e => (by cases e; rfl), fun y e => (by cases e)⟩) fun h4 => ih _ ⟨by show 0 ≤ x.1 + 1; omega, by show x.1 + 1 ≤ (l.length : Int); omega, fun i hi y hy => ?_⟩ (by show ((l.length : Int) - (x.1 + 1)).toNat < ((l.length : Int) - x.1).toNat; omega)) fun hlt => .some_ ⟨fun o e => (by cases e), fun y e x' hx' => ?_⟩
    · by_cases hi2 : (i : Int) < x.1
      · exact q2 i hi2 y hy
      · have hi3 : i = x.1.toNat := by have : (i : Int) < x.1 + 1 := hi; omega
        have h5 := atL_get (d := ([] : List Int)) (xs := l) (i := x.1) ⟨q0, hlt⟩
        rw [hi3, h5] at hy
        cases hy
        omega
    · obtain ⟨i, hi, rfl⟩ := List.getElem_of_mem hx'
      exact q2 i (by omega) _ (List.getElem?_eq_getElem hi)
  · rcases z with y | o
    · refine .some_ fun e => ⟨?_, hz.2 y rfl⟩
      have : ((b.length : Nat) : Int) ≤ 400 := of_decide_eq_true e
      omega
    · exact .some_ fun e => by rw [hz.1 o rfl] at e; cases e
structure DecOk (c : Cfg) : Prop where
  w : 1 ≤ c.workers ∧ c.workers ≤ 4
  l : 1 ≤ c.levels ∧ c.levels ≤ 4
  k : 1 ≤ c.classes ∧ c.classes ≤ 3 ∧ c.classes ≤ c.levels
  t : 1 ≤ c.tasks ∧ c.tasks ≤ 12
  q : 1 ≤ c.deque ∧ c.deque ≤ 4
  h : 1 ≤ c.heap ∧ c.heap ≤ 4
  b : 1 ≤ c.batch ∧ c.batch ≤ c.deque
  a : 0 ≤ c.age ∧ c.age ≤ 5
  p : 1 ≤ c.patience ∧ c.patience ≤ 8
  pn : 1 ≤ c.progs.length ∧ c.progs.length ≤ 4
  pl : ∀ x ∈ c.progs, x.length ≤ 5
  ps : ∀ x ∈ c.progs, ∀ i ∈ x, (i.op = 0 ∧ 1 ≤ i.a ∧ i.a ≤ 4 ∧ i.b = 0) ∨ (i.op = 1 ∧ 0 ≤ i.a ∧ i.a < (c.progs.length : Int) ∧ 0 ≤ i.b ∧ i.b < c.levels) ∨ (i.op = 2 ∧ 0 ≤ i.a ∧ i.a ≤ 3 ∧ i.b = 0)
  sn : c.subs.length ≤ 5
  ss : ∀ s ∈ c.subs, (0 ≤ s.prog ∧ s.prog < (c.progs.length : Int)) ∧ (0 ≤ s.level ∧ s.level < c.levels) ∧ 0 ≤ s.deadline ∧ s.deadline ≤ 15
/-- The bytes of a coder are bytes, its place is near. -/
structure CodOk (N : Int) (r : CodV) : Prop where
  by_ : ∀ x ∈ r.inn, 0 ≤ x ∧ x ≤ 255
  ln : r.inn.length ≤ 1000000
  at_ : 0 ≤ r.at_ ∧ r.at_ ≤ N
theorem num_good {N : Int} {r : CodV} {k : Int} (h : CodOk N r) (hN : N ≤ 1000000) (h1 : 1 ≤ k) (h2 : k ≤ 1000) : Good (r5number r k) fun o => (0 ≤ o.1.1 ∧ o.1.1 < k) ∧ CodOk (N + 1) o.2.1 := by
  have ha := h.at_
  have e1 : wi (r.at_ + 1) = r.at_ + 1 := wi_id (rg_lit (by omega))
  unfold r5number
  rw [e1]
  refine Good.ite (fun hlt => .guard ⟨ha.1, hlt⟩ fun _ => .guard (by omega) fun _ => .some_ ⟨?_, h.by_, h.ln, by show 0 ≤ r.at_ + 1; omega, by show r.at_ + 1 ≤ N + 1; omega⟩) fun _ => .some_ ⟨⟨Int.le_refl 0, by show (0 : Int) < k; omega⟩, h.by_, h.ln, by show 0 ≤ r.at_ + 1; omega, by show r.at_ + 1 ≤ N + 1; omega⟩
  have hb := h.by_ _ (at_in (d := dfR 17) (xs := r.inn) (i := r.at_) ⟨ha.1, hlt⟩)
  have e2 : wi (atK17 r.inn r.at_) = atK17 r.inn r.at_ := wi_id (rg_lit (x := atK17 r.inn r.at_) ⟨by have := hb.1; exact Int.le_trans (by decide) this, by have := hb.2; exact Int.le_trans this (by decide)⟩)
  rw [e2]
  exact tmod_lt h1 hb.1
theorem CodOk.up {N M : Int} {r : CodV} (h : CodOk N r) (hl : N ≤ M) : CodOk M r := ⟨h.by_, h.ln, h.at_.1, by have := h.at_; omega⟩
def InsOk (n lv : Int) (i : Ins) : Prop := (i.op = 0 ∧ 1 ≤ i.a ∧ i.a ≤ 4 ∧ i.b = 0) ∨ (i.op = 1 ∧ 0 ≤ i.a ∧ i.a < n ∧ 0 ≤ i.b ∧ i.b < lv) ∨ (i.op = 2 ∧ 0 ≤ i.a ∧ i.a ≤ 3 ∧ i.b = 0)
def SubOk (n lv : Int) (s : Sub) : Prop := (0 ≤ s.prog ∧ s.prog < n) ∧ (0 ≤ s.level ∧ s.level < lv) ∧ 0 ≤ s.deadline ∧ s.deadline ≤ 15
/-- The numbers of a configuration under construction. -/
structure NumOk (c : Cfg) : Prop where
  w : 1 ≤ c.workers ∧ c.workers ≤ 4
  l : 1 ≤ c.levels ∧ c.levels ≤ 4
  k : 1 ≤ c.classes ∧ c.classes ≤ 3 ∧ c.classes ≤ c.levels
  t : 1 ≤ c.tasks ∧ c.tasks ≤ 12
  q : 1 ≤ c.deque ∧ c.deque ≤ 4
  h : 1 ≤ c.heap ∧ c.heap ≤ 4
  b : 1 ≤ c.batch ∧ c.batch ≤ c.deque
  a : 0 ≤ c.age ∧ c.age ≤ 5
  p : 1 ≤ c.patience ∧ c.patience ≤ 8
theorem w1p {x : Int} (h : 0 ≤ x) (h2 : x ≤ 1000000) : wi (1 + x) = 1 + x := wi_id (rg_lit (by omega))
theorem decode_good {b : List Int} (hb : ∀ x ∈ b, 0 ≤ x ∧ x ≤ 255) (hl : b.length ≤ 1000000) : Good (r5decode b) fun o => DecOk o.1.1 := by
  unfold r5decode
  refine (num_good (N := 0) (k := 4) ⟨hb, hl, Int.le_refl 0, Int.le_refl 0⟩ (by decide) (by decide) (by decide)).bind fun r1 h1 => ?_
  refine (num_good (k := 4) h1.2 (by decide) (by decide) (by decide)).bind fun r2 h2 => ?_
  have w1 := w1p h1.1.1 (by omega)
  have w2 := w1p h2.1.1 (by omega)
  rw [w1, w2]
  refine (num_good h2.2 (by decide) (by split <;> omega) (by split <;> omega)).bind fun r3 h3 => ?_
  refine (num_good (k := 12) h3.2 (by decide) (by decide) (by decide)).bind fun r4 h4 => ?_
  refine (num_good (k := 4) h4.2 (by decide) (by decide) (by decide)).bind fun r5 h5 => ?_
  refine (num_good (k := 4) h5.2 (by decide) (by decide) (by decide)).bind fun r6 h6 => ?_
  have h3' : r3.1.1 < 3 ∧ r3.1.1 < 1 + r2.1.1 := by
    have := h3.1.2
    split at this <;> omega
  have w3 := w1p h3.1.1 (by omega)
  have w4 := w1p h4.1.1 (by omega)
  have w5 := w1p h5.1.1 (by omega)
  have w6 := w1p h6.1.1 (by omega)
  rw [w3, w4, w5, w6]
  refine (num_good h6.2 (by decide) (by omega) (by omega)).bind fun r7 h7 => ?_
  refine (num_good (k := 6) h7.2 (by decide) (by decide) (by decide)).bind fun r8 h8 => ?_
  refine (num_good (k := 8) h8.2 (by decide) (by decide) (by decide)).bind fun r9 h9 => ?_
  refine (num_good (k := 4) h9.2 (by decide) (by decide) (by decide)).bind fun r10 h10 => ?_
  have w7 := w1p h7.1.1 (by omega)
  have w9 := w1p h9.1.1 (by omega)
  have w10 := w1p h10.1.1 (by omega)
  rw [w7, w9, w10]
  refine Good.bind (P := fun z => CodOk 1000 z.2.1 ∧ NumOk z.2.2.1 ∧ z.2.2.1.levels = 1 + r2.1.1 ∧ (z.2.2.1.progs.length : Int) = 1 + r10.1.1 ∧ (∀ p ∈ z.2.2.1.progs, p.length ≤ 5 ∧ ∀ i ∈ p, InsOk (1 + r10.1.1) (1 + r2.1.1) i) ∧ z.2.2.1.subs = [])
    (lp_good (fun x => 0 ≤ x.1 ∧ x.1 ≤ 1 + r10.1.1 ∧ CodOk (10 + 30 * x.1) x.2.1 ∧ NumOk x.2.2.1 ∧ x.2.2.1.levels = 1 + r2.1.1 ∧ (x.2.2.1.progs.length : Int) = x.1 ∧ (∀ p ∈ x.2.2.1.progs, p.length ≤ 5 ∧ ∀ i ∈ p, InsOk (1 + r10.1.1) (1 + r2.1.1) i) ∧ x.2.2.1.subs = [])
      (fun x => (1 + r10.1.1 - x.1).toNat) (fun self x ⟨q0, q1, q2, q3, q4, q5, q6, q7⟩ ih => ?step) _ _ ⟨Int.le_refl 0, by show (0 : Int) ≤ 1 + r10.1.1; omega, h10.2, ?num, rfl, rfl, fun p hp => (by cases hp), rfl⟩ (by show (1 + r10.1.1 - 0).toNat < _; omega)) fun z hz => ?cont
  case step =>
    have f1 : wi (x.1 + 1) = x.1 + 1 := wi_id (rg_lit (by omega))
    refine Good.ite (fun hlt => ?_) fun hlt => .some_ ⟨q2.up (by omega), q3, q4, by show (x.2.2.1.progs.length : Int) = _; omega, q6, q7⟩
    have hlen : (x.2.2.1.progs.length : Int) < 10 := by omega
    rw [f1]
    refine (num_good (k := 6) q2 (by omega) (by decide) (by decide)).bind fun r14 h14 => ?_
    refine Good.bind (P := fun z => z.1.length ≤ 5 ∧ (∀ i ∈ z.1, InsOk (1 + r10.1.1) (1 + r2.1.1) i) ∧ CodOk (10 + 30 * x.1 + 26) z.2.2.1)
      (lp_good (fun y => 0 ≤ y.2.1 ∧ (y.1.length : Int) + y.2.1 = r14.1.1 ∧ CodOk (10 + 30 * x.1 + 1 + 5 * (r14.1.1 - y.2.1)) y.2.2.1 ∧ ∀ i ∈ y.1, InsOk (1 + r10.1.1) (1 + r2.1.1) i)
        (fun y => y.2.1.toNat) (fun self y ⟨p0, p1, p2, p3⟩ ih => ?_) _ _ ⟨h14.1.1, by show ((0 : Nat) : Int) + r14.1.1 = _; omega, h14.2.up (by show 10 + 30 * x.1 + 1 ≤ 10 + 30 * x.1 + 1 + 5 * (r14.1.1 - r14.1.1); omega), fun i hi => (by cases hi)⟩ (by show r14.1.1.toNat < _; omega)) fun z hz => ?_
    · refine .guard (by show (((x.2.2.1.progs.length + 1 : Nat)) : Int) < _; omega) fun _ => ih _ ⟨by show 0 ≤ x.1 + 1; omega, by show x.1 + 1 ≤ _; omega, hz.2.2.up (by show 10 + 30 * x.1 + 26 ≤ 10 + 30 * (x.1 + 1); omega), ⟨q3.w, q3.l, q3.k, q3.t, q3.q, q3.h, q3.b, q3.a, q3.p⟩, q4, ?_, ?_, q7⟩ ?_
      · show (((x.2.2.1.progs ++ [z.1]).length : Nat) : Int) = x.1 + 1
        rw [List.length_append, List.length_singleton]; omega
      · intro p hp
        rcases List.mem_append.1 hp with hp | hp
        · exact q6 p hp
        · rw [List.mem_singleton] at hp; subst hp; exact ⟨hz.1, hz.2.1⟩
      · show (1 + r10.1.1 - (x.1 + 1)).toNat < (1 + r10.1.1 - x.1).toNat
        omega
    · have f2 : wi (y.2.1 - 1) = y.2.1 - 1 := wi_id (rg_lit (by omega))
      have hyl : y.1.length ≤ 5 := by omega
      refine Good.ite (fun hlt2 => ?_) fun hlt2 => .some_ ⟨hyl, p3, p2.up (by omega)⟩
      rw [f2, q4]
      have nx : ∀ (u : Ins) (r : CodV), InsOk (1 + r10.1.1) (1 + r2.1.1) u → CodOk (10 + 30 * x.1 + 1 + 5 * (r14.1.1 - (y.2.1 - 1))) r → Good (if (((y.1.length + ([u] : List Ins).length : Nat)) : Int) < 1000000000000 then self (y.1 ++ [u], y.2.1 - 1, r, ()) else none) fun z => z.1.length ≤ 5 ∧ (∀ i ∈ z.1, InsOk (1 + r10.1.1) (1 + r2.1.1) i) ∧ CodOk (10 + 30 * x.1 + 26) z.2.2.1 := fun u r hu hr =>
        .guard (by show (((y.1.length + 1 : Nat)) : Int) < _; omega) fun _ => ih _ ⟨by show 0 ≤ y.2.1 - 1; omega, by
          show (((y.1 ++ [u]).length : Nat) : Int) + (y.2.1 - 1) = _
          rw [List.length_append, List.length_singleton]; omega, hr, fun i hi => by
          rcases List.mem_append.1 hi with hi | hi
          · exact p3 i hi
          · rw [List.mem_singleton] at hi; subst hi; exact hu⟩ (by show (y.2.1 - 1).toNat < y.2.1.toNat; omega)
      refine (num_good (k := 3) p2 (by omega) (by decide) (by decide)).bind fun r18 h18 => ?_
      refine Good.ite (fun e0 => ?_) fun e0 => Good.ite (fun e1 => ?_) fun e1 => ?_
      · refine (num_good (k := 4) h18.2 (by omega) (by decide) (by decide)).bind fun r19 h19 => ?_
        rw [w1p h19.1.1 (by omega)]
        exact nx _ _ (.inl ⟨e0, by show 1 ≤ 1 + r19.1.1; omega, by show 1 + r19.1.1 ≤ 4; omega, rfl⟩) (h19.2.up (by omega))
      · refine (num_good (k := 1 + r10.1.1) h18.2 (by omega) (by omega) (by omega)).bind fun r20 h20 => ?_
        refine (num_good (k := 1 + r2.1.1) h20.2 (by omega) (by omega) (by omega)).bind fun r21 h21 => ?_
        exact nx _ _ (.inr (.inl ⟨e1, h20.1.1, h20.1.2, h21.1.1, h21.1.2⟩)) (h21.2.up (by omega))
      · refine (num_good (k := 4) h18.2 (by omega) (by decide) (by decide)).bind fun r22 h22 => ?_
        exact nx _ _ (.inr (.inr ⟨by show r18.1.1 = 2; omega, h22.1.1, by show r22.1.1 ≤ 3; omega, rfl⟩)) (h22.2.up (by omega))
  case num =>
    refine ⟨?_, ?_, ?_, ?_, ?_, ?_, ?_, ?_, ?_⟩
    · exact ⟨by show 1 ≤ 1 + r1.1.1; omega, by show 1 + r1.1.1 ≤ 4; omega⟩
    · exact ⟨by show 1 ≤ 1 + r2.1.1; omega, by show 1 + r2.1.1 ≤ 4; omega⟩
    · exact ⟨by show 1 ≤ 1 + r3.1.1; omega, by show 1 + r3.1.1 ≤ 3; omega, by show 1 + r3.1.1 ≤ 1 + r2.1.1; omega⟩
    · exact ⟨by show 1 ≤ 1 + r4.1.1; omega, by show 1 + r4.1.1 ≤ 12; omega⟩
    · exact ⟨by show 1 ≤ 1 + r5.1.1; omega, by show 1 + r5.1.1 ≤ 4; omega⟩
    · exact ⟨by show 1 ≤ 1 + r6.1.1; omega, by show 1 + r6.1.1 ≤ 4; omega⟩
    · exact ⟨by show 1 ≤ 1 + r7.1.1; omega, by show 1 + r7.1.1 ≤ 1 + r5.1.1; omega⟩
    · exact ⟨h8.1.1, by show r8.1.1 ≤ 5; omega⟩
    · exact ⟨by show 1 ≤ 1 + r9.1.1; omega, by show 1 + r9.1.1 ≤ 8; omega⟩
  case cont =>
    obtain ⟨g1, g2, g3, g4, g5, g6⟩ := hz
    refine (num_good (k := 6) g1 (by decide) (by decide) (by decide)).bind fun r23 h23 => ?_
    refine Good.bind (P := fun y => DecOk y.2.2.1)
      (lp_good (fun y => 0 ≤ y.1 ∧ (y.2.2.1.subs.length : Int) + y.1 = r23.1.1 ∧ CodOk (1001 + 5 * (r23.1.1 - y.1)) y.2.1 ∧ NumOk y.2.2.1 ∧ y.2.2.1.levels = 1 + r2.1.1 ∧ (y.2.2.1.progs.length : Int) = 1 + r10.1.1 ∧ (∀ p ∈ y.2.2.1.progs, p.length ≤ 5 ∧ ∀ i ∈ p, InsOk (1 + r10.1.1) (1 + r2.1.1) i) ∧ ∀ s ∈ y.2.2.1.subs, SubOk (1 + r10.1.1) (1 + r2.1.1) s)
        (fun y => y.1.toNat) (fun self y ⟨p0, p1, p2, p3, p4, p5, p6, p7⟩ ih => ?_) _ _ ⟨h23.1.1, by show ((z.2.2.1.subs.length : Nat) : Int) + r23.1.1 = r23.1.1; rw [g6]; show ((0 : Nat) : Int) + r23.1.1 = r23.1.1; omega, h23.2.up (by show (1001 : Int) ≤ 1001 + 5 * (r23.1.1 - r23.1.1); omega), g2, g3, g4, g5, fun s hs => by
          have hs2 : s ∈ z.2.2.1.subs := hs
          rw [g6] at hs2; cases hs2⟩ (by show r23.1.1.toNat < _; omega)) fun y hy => .some_ hy
    have f2 : wi (y.1 - 1) = y.1 - 1 := wi_id (rg_lit (by omega))
    have hyl : y.2.2.1.subs.length ≤ 5 := by omega
    refine Good.ite (fun hlt => ?_) fun hlt => .some_ ⟨p3.w, p3.l, p3.k, p3.t, p3.q, p3.h, p3.b, p3.a, p3.p, by show 1 ≤ y.2.2.1.progs.length ∧ y.2.2.1.progs.length ≤ 4; omega, fun x hx => (p6 x hx).1, fun x hx i hi => by
      have := (p6 x hx).2 i hi
      rw [p5, p4]; exact this, hyl, fun s hs => by
      have := p7 s hs
      rw [p5, p4]; exact this⟩
    rw [f2, p4]
    refine (num_good (k := 1 + r10.1.1) p2 (by omega) (by omega) (by omega)).bind fun r27 h27 => ?_
    refine (num_good (k := 1 + r2.1.1) h27.2 (by omega) (by omega) (by omega)).bind fun r28 h28 => ?_
    refine (num_good (k := 16) h28.2 (by omega) (by omega) (by omega)).bind fun r29 h29 => ?_
    refine .guard (by show (((y.2.2.1.subs.length + 1 : Nat)) : Int) < _; omega) fun _ => ih _ ⟨by show 0 ≤ y.1 - 1; omega, ?_, h29.2.up (by show 1001 + 5 * (r23.1.1 - y.1) + 1 + 1 + 1 ≤ 1001 + 5 * (r23.1.1 - (y.1 - 1)); omega), ⟨p3.w, p3.l, p3.k, p3.t, p3.q, p3.h, p3.b, p3.a, p3.p⟩, p4, p5, p6, ?_⟩ (by show (y.1 - 1).toNat < y.1.toNat; omega)
    · show (((y.2.2.1.subs ++ [_]).length : Nat) : Int) + (y.1 - 1) = _
      rw [List.length_append, List.length_singleton]; omega
    · intro s hs
      rcases List.mem_append.1 hs with hs | hs
      · exact p7 s hs
      · rw [List.mem_singleton] at hs; subst hs
        exact ⟨h27.1, h28.1, h29.1.1, by show r29.1.1 ≤ 15; omega⟩
end
section
open Go Go.RowKit
set_option maxRecDepth 100000
theorem bind_guard {α β : Type} {G : Prop} [d : Decidable G] (A : Option α) (f : α → Option β) : (A.bind fun r => if G then f r else none) = if G then A.bind f else none := by
  by_cases h : G
  · simp only [if_pos h]
  · simp only [if_neg h]; cases A <;> rfl
theorem awake_cfg : kconfig [] = some ((⟨1, 1, 1, 1, 1, 1, 1, 0, 1, [[]], []⟩, ()), ()) := by kernel_rfl
theorem play_nil : boundPlay ⟨1, 1, 1, 1, 1, 1, 1, 0, 1, [[]], []⟩ [] = some ((0, 0, true, ()), ()) := by
  unfold boundPlay
  simp only [bind_guard, agr_self]
  kernel_rfl
theorem awake_true : worksteallaw31Awake = some ((true, ()), ()) := by
  unfold worksteallaw31Awake
  rw [awake_cfg, Option.bind_some, play_nil]
  kernel_rfl
end
section
open Go Go.RowKit
set_option maxRecDepth 100000
theorem boundV_mono {w l c p t s g w' l' c' p' t' s' g' : Int} (h : InRange w l c p t s g) (h' : InRange w' l' c' p' t' s' g') (hw : w ≤ w') (hl : l ≤ l') (hc : c ≤ c') (hp : p ≤ p') (ht : t ≤ t') (hs : s ≤ s') (hg : g ≤ g') :
    0 < boundV w l c p t s g ∧ boundV w l c p t s g ≤ boundV w' l' c' p' t' s' g' := by
  unfold boundV
  rw [if_pos h, if_pos h']
  obtain ⟨⟨w0, _⟩, ⟨l0, _⟩, ⟨c0, _⟩, ⟨p0, _⟩, ⟨t0, _⟩, ⟨s0, _⟩, ⟨g0, _⟩⟩ := h
  have m1 : 0 ≤ 4 * t * l ∧ 4 * t * l ≤ 4 * t' * l' := mul_le_mul_of (by omega) (by omega) l0 hl
  have m2 : 0 ≤ 8 * t * l ∧ 8 * t * l ≤ 8 * t' * l' := mul_le_mul_of (by omega) (by omega) l0 hl
  have m3 : 0 ≤ (g + 2 * t + 1) * (64 + 2 * c + 16 * t) ∧ (g + 2 * t + 1) * (64 + 2 * c + 16 * t) ≤ (g' + 2 * t' + 1) * (64 + 2 * c' + 16 * t') := mul_le_mul_of (by omega) (by omega) (by omega) (by omega)
  have m4 : 0 ≤ 4 * t * l * (w + 1) ∧ 4 * t * l * (w + 1) ≤ 4 * t' * l' * (w' + 1) := mul_le_mul_of m1.1 m1.2 (by omega) (by omega)
  have m5 : 4 ≤ progV l t s g ∧ progV l t s g ≤ progV l' t' s' g' := by
    unfold progV; omega
  have m6 : 512 ≤ seekV w l c p ∧ seekV w l c p ≤ seekV w' l' c' p' := by
    unfold seekV; omega
  have m7 : 0 ≤ (progV l t s g + 2) * seekV w l c p ∧ (progV l t s g + 2) * seekV w l c p ≤ (progV l' t' s' g' + 2) * seekV w' l' c' p' := mul_le_mul_of (by omega) (by omega) (by omega) m6.2
  have m8 : 6 * 512 ≤ (progV l t s g + 2) * seekV w l c p := (mul_le_mul_of (by omega) (by omega) (by omega) m6.1).2
  unfold runV
  omega
end
section
open Go Go.RowKit
set_option maxRecDepth 100000
/-- A program that is short, and its instructions light. -/
def Light (p : List Ins) : Prop := p.length ≤ 32 ∧ ∀ x ∈ p, x.op = 0 → x.a ≤ 64
theorem weight_eq (p : List Ins) : workstealref05Weight p = configWeight p := by
  unfold workstealref05Weight configWeight
  congr 2
  funext self x
  by_cases h : x.2.1 < ((p.length : Nat) : Int)
  · rw [if_pos h, if_pos h]
    by_cases g : 0 ≤ x.2.1 ∧ x.2.1 < ((p.length : Nat) : Int)
    · simp only [if_pos g]
    · simp only [if_neg g]
  · rw [if_neg h, if_neg h]
theorem weight_good {p : List Ins} (hp : Light p) : Good (configWeight p) fun o => 0 ≤ o.1.1 ∧ o.1.1 ≤ 2048 := by
  unfold configWeight
  have hl := hp.1
  refine Good.bind (P := fun z => 0 ≤ z.1 ∧ z.1 ≤ 2048) (lp_good (fun x => (0 ≤ x.2.1 ∧ x.2.1 ≤ (p.length : Int)) ∧ 0 ≤ x.1 ∧ x.1 ≤ 64 * x.2.1) (fun x => ((p.length : Int) - x.2.1).toNat) (fun self x ⟨⟨q0, q1⟩, q2, q3⟩ ih => ?_) _ _ ⟨⟨by decide, by show (0 : Int) ≤ _; omega⟩, by decide, by decide⟩ (by show ((p.length : Int) - 0).toNat < _; omega)) fun z hz => .some_ hz
  refine Good.ite (fun hlt => .guard ⟨q0, hlt⟩ fun hg => ?_) fun h => .some_ ⟨q2, by omega⟩
  have e1 : wi (x.2.1 + 1) = x.2.1 + 1 := wi_id (rg_lit (by omega))
  have e2 : wi (x.1 + 1) = x.1 + 1 := wi_id (rg_lit (by omega))
  rw [e1, e2]
  have ha := hp.2 _ (at_in (d := dfR 3) hg)
  have fin : ∀ s : Int, 0 ≤ s → s ≤ x.1 + 64 → Good (self (s, x.2.1 + 1, ())) fun z => 0 ≤ z.1 ∧ z.1 ≤ 2048 := fun s h1 h2 => ih _ ⟨⟨by show 0 ≤ x.2.1 + 1; omega, by show x.2.1 + 1 ≤ _; omega⟩, h1, by show s ≤ 64 * (x.2.1 + 1); omega⟩ (by show ((p.length : Int) - (x.2.1 + 1)).toNat < ((p.length : Int) - x.2.1).toNat; omega)
  refine Good.ite (fun h0 => Good.ite (fun h1 => ?_) fun _ => fin _ (by omega) (by omega)) fun _ => fin _ (by omega) (by omega)
  have ha' := ha h0
  have e3 : wi (x.1 + (atK3 p x.2.1).a) = x.1 + (atK3 p x.2.1).a := wi_id (rg_lit ⟨by omega, by have : (atK3 p x.2.1).a ≤ 64 := ha'; omega⟩)
  rw [e3]
  exact fin _ (by omega) (by have : (atK3 p x.2.1).a ≤ 64 := ha'; omega)
noncomputable def hv1 (y0 : Cfg) (self3 : Int × Int × Unit → Option (Int × Int × Unit)) (x1 : Int × Int × Unit) : Option (Int × Int × Unit) :=
  if x1.2.1 < ((y0.progs.length : Nat) : Int) then
   if 0 ≤ x1.2.1 ∧ x1.2.1 < ((y0.progs.length : Nat) : Int) then
    (configWeight (atL [] y0.progs x1.2.1)).bind fun r4 =>
    if x1.2.1 = 0 then
     self3 (r4.1.1, wi (x1.2.1 + 1), ())
    else
    if x1.1 < r4.1.1 then
     self3 (r4.1.1, wi (x1.2.1 + 1), ())
    else
    self3 (x1.1, wi (x1.2.1 + 1), ())
   else none
  else
  some (x1.1, x1.2.1, ())
noncomputable def hv2 (y0 : Cfg) (self3 : Int × Int × Unit → Option (Int × Int × Unit)) (x1 : Int × Int × Unit) : Option (Int × Int × Unit) :=
  if x1.2.1 < ((y0.progs.length : Nat) : Int) then
   if 0 ≤ x1.2.1 ∧ x1.2.1 < ((y0.progs.length : Nat) : Int) then
    (workstealref05Weight (atL [] y0.progs x1.2.1)).bind fun r4 =>
    self3 ((if x1.1 < r4.1.1 then r4.1.1 else x1.1), wi (x1.2.1 + 1), ())
   else none
  else
  some (x1.1, x1.2.1, ())
theorem hv1_unf (c : Cfg) : configHeaviest c = (lpF (hv1 c) 18446744073709551616 (0, 0, ())).bind fun z => some ((z.1, ()), ()) := rfl
theorem hv2_unf (c : Cfg) : workstealref05Heaviest c = (lpF (hv2 c) 18446744073709551616 (0, 0, ())).bind fun z => some ((z.1, ()), ()) := rfl
theorem heav_aux (c : Cfg) (hp : ∀ p ∈ c.progs, Light p) (hl : c.progs.length ≤ 1000) : ∀ (k : Nat) (h i : Int), (0 ≤ h ∧ h ≤ 2048) → (0 ≤ i ∧ i ≤ (c.progs.length : Int)) → (i = 0 → h = 0) → ((c.progs.length : Int) - i).toNat < k →
    ∃ r, lpF (hv1 c) k (h, i, ()) = some r ∧ lpF (hv2 c) k (h, i, ()) = some r ∧ 0 ≤ r.1 ∧ r.1 ≤ 2048
  | 0, h, i, _, _, _, hk => by omega
  | k + 1, h, i, hh, hi, h0, hk => by
    show ∃ r, hv1 c (lpF (hv1 c) k) (h, i, ()) = some r ∧ hv2 c (lpF (hv2 c) k) (h, i, ()) = some r ∧ _
    unfold hv1 hv2
    simp only
    by_cases hlt : i < ((c.progs.length : Nat) : Int)
    · have hg : 0 ≤ i ∧ i < ((c.progs.length : Nat) : Int) := ⟨hi.1, hlt⟩
      simp only [if_pos hlt, if_pos hg]
      obtain ⟨o, ho, hw⟩ := weight_good (hp _ (at_in (d := []) hg))
      have e1 : wi (i + 1) = i + 1 := wi_id (rg_lit (by omega))
      rw [weight_eq, ho, e1]
      simp only [Option.bind_some]
      have next : ∀ s : Int, (0 ≤ s ∧ s ≤ 2048) → ∃ r, lpF (hv1 c) k (s, i + 1, ()) = some r ∧ lpF (hv2 c) k (s, i + 1, ()) = some r ∧ 0 ≤ r.1 ∧ r.1 ≤ 2048 := fun s hs => heav_aux c hp hl k s (i + 1) hs ⟨by omega, by omega⟩ (fun e => by omega) (by omega)
      by_cases hz : i = 0
      · rw [if_pos hz]
        have := h0 hz
        subst this
        by_cases hq : 0 < o.1.1
        · rw [if_pos hq]; exact next _ hw
        · rw [if_neg hq]
          have e : o.1.1 = 0 := by omega
          rw [e]; exact next _ hh
      · rw [if_neg hz]
        by_cases hq : h < o.1.1
        · rw [if_pos hq, if_pos hq]; exact next _ hw
        · rw [if_neg hq, if_neg hq]; exact next _ hh
    · simp only [if_neg hlt]
      exact ⟨_, rfl, rfl, hh⟩
theorem heav {c : Cfg} (hp : ∀ p ∈ c.progs, Light p) (hl : c.progs.length ≤ 1000) : ∃ h, configHeaviest c = some ((h, ()), ()) ∧ workstealref05Heaviest c = some ((h, ()), ()) ∧ 0 ≤ h ∧ h ≤ 2048 := by
  obtain ⟨r, h1, h2, h3⟩ := heav_aux c hp hl 18446744073709551616 0 0 ⟨by omega, by omega⟩ ⟨by omega, by omega⟩ (fun _ => rfl) (by omega)
  exact ⟨r.1, by rw [hv1_unf, h1]; rfl, by rw [hv2_unf, h2]; rfl, h3⟩
theorem progs_light {lv np : Int} : ∀ {ps : List (List Ins)}, progsErr lv np ps = 0 → ∀ p ∈ ps, Light p
  | [], _, p, h => by cases h
  | q :: ps, h, p, hm => by
    unfold progsErr at h
    split at h
    · omega
    · rename_i hl
      split at h
      · rename_i hq
        rcases List.mem_cons.1 hm with e | e
        · subst e
          refine ⟨by omega, fun x hx h0 => ?_⟩
          have := List.all_eq_true.1 hq x hx
          unfold insOk at this
          rw [if_pos h0] at this
          simp only [inB, Bool.and_eq_true, decide_eq_true_eq] at this
          omega
        · exact progs_light h p e
      · omega
theorem valid_light {c : Cfg} (h : cfgErr c = 0) : (∀ p ∈ c.progs, Light p) ∧ c.progs.length ≤ 1000 ∧ numsOk c = true ∧ c.subs.length ≤ 64 := by
  unfold cfgErr at h
  split at h
  · omega
  · rename_i hn
    split at h
    · omega
    · rename_i hp
      have hp0 : progsAll c = 0 := by omega
      unfold progsAll at hp0
      split at hp0
      · omega
      · rename_i hl
        simp only [inB, Bool.not_eq_true', Bool.and_eq_false_iff, decide_eq_false_iff_not, not_or, Classical.not_not, Bool.not_eq_false, Bool.and_eq_true, decide_eq_true_eq] at hl
        refine ⟨progs_light hp0, by omega, by simpa using hn, ?_⟩
        unfold subsAll at h
        split at h
        · omega
        · omega
theorem of_eq (c : Cfg) : ∃ n, boundOf c = some ((n, ()), ()) ∧ workstealref31Of c = some ((n, ()), ()) ∧ (cfgErr c = 0 → 0 < n) := by
  unfold boundOf workstealref31Of cfgCheck refCheck
  simp only [Option.bind_some]
  by_cases h : cfgErr c = 0
  · obtain ⟨h1, h2, h3, h4⟩ := valid_light h
    obtain ⟨v, e1, e2, e3⟩ := heav h1 h2
    have hn : ¬ cfgErr c ≠ 0 := by omega
    have hs := numsOk_spec h3
    have hm : 0 ≤ c.tasks * v ∧ c.tasks * v ≤ 256 * 2048 := mul_le_mul_of (by omega) (by omega) (by omega) (by omega)
    have ew : wi (c.tasks * v) = c.tasks * v := w64 (by omega) (by omega)
    have hg : Rg64 (c.tasks * v) := ⟨by omega, by omega⟩
    have hr : InRange c.workers c.levels c.classes c.patience c.tasks ((c.subs.length : Nat) : Int) (c.tasks * v) := ⟨by omega, by omega, by omega, by omega, by omega, by omega, by omega⟩
    simp only [if_neg hn, e1, e2, Option.bind_some, if_true, ew, bndBound, refBound, if_pos hg]
    exact ⟨_, rfl, rfl, fun _ => (boundV_mono hr hr (Int.le_refl _) (Int.le_refl _) (Int.le_refl _) (Int.le_refl _) (Int.le_refl _) (Int.le_refl _) (Int.le_refl _)).1⟩
  · have hn : cfgErr c ≠ 0 := h
    simp only [if_pos hn]
    exact ⟨0, rfl, rfl, fun e => absurd e h⟩
theorem dec_valid {c : Cfg} (h : DecOk c) : cfgErr c = 0 := by
  have hp : ∀ ps : List (List Ins), (∀ x ∈ ps, x ∈ c.progs) → progsErr c.levels c.progs.length ps = 0 := fun ps => by
    induction ps with
    | nil => intro _; rfl
    | cons p ps ih =>
      intro hm
      have h1 := h.pl p (hm p (List.mem_cons_self ..))
      unfold progsErr
      rw [if_neg (by omega), if_pos]
      · exact ih fun x hx => hm x (List.mem_cons_of_mem _ hx)
      · refine List.all_eq_true.2 fun i hi => ?_
        have h2 := h.ps p (hm p (List.mem_cons_self ..)) i hi
        unfold insOk
        rcases h2 with ⟨a, b, d, e⟩ | ⟨a, b, d, e, f⟩ | ⟨a, b, d, e⟩
        · rw [if_pos a]; simp only [inB, e, Bool.and_eq_true, decide_eq_true_eq, beq_self_eq_true, and_true]; omega
        · rw [if_neg (by omega), if_pos a]; simp only [inB, Bool.and_eq_true, decide_eq_true_eq]; omega
        · rw [if_neg (by omega), if_neg (by omega), if_pos a]; simp only [inB, e, Bool.and_eq_true, decide_eq_true_eq, beq_self_eq_true, and_true]; omega
  have hs : ∀ ss : List Sub, (∀ x ∈ ss, x ∈ c.subs) → subsErr c.levels c.progs.length ss = 0 := fun ss => by
    induction ss with
    | nil => intro _; rfl
    | cons s ss ih =>
      intro hm
      have h1 := h.ss s (hm s (List.mem_cons_self ..))
      have e : subErr c.levels c.progs.length s = 0 := by
        unfold subErr
        have e1 : inB s.prog 0 ((c.progs.length : Int) - 1) = true := by simp only [inB, Bool.and_eq_true, decide_eq_true_eq]; omega
        have e2 : inB s.level 0 (c.levels - 1) = true := by simp only [inB, Bool.and_eq_true, decide_eq_true_eq]; omega
        have e3 : inB s.deadline 0 16777215 = true := by simp only [inB, Bool.and_eq_true, decide_eq_true_eq]; omega
        rw [e1, e2, e3]; rfl
      unfold subsErr
      rw [if_pos e]
      exact ih fun x hx => hm x (List.mem_cons_of_mem _ hx)
  have hn : numsOk c = true := by
    have := h.w; have := h.l; have := h.k; have := h.t; have := h.q; have := h.h; have := h.b; have := h.a; have := h.p
    simp only [numsOk, inB, Bool.and_eq_true, decide_eq_true_eq]
    have e : (if c.levels < 8 then c.levels else 8) = c.levels := if_pos (by omega)
    rw [e]
    omega
  have hpa : progsAll c = 0 := by
    have := h.pn
    unfold progsAll
    have e : inB (c.progs.length : Int) 1 32 = true := by simp only [inB, Bool.and_eq_true, decide_eq_true_eq]; omega
    rw [e]
    exact hp c.progs fun _ hx => hx
  have hsa : subsAll c = 0 := by
    have := h.sn
    unfold subsAll
    rw [if_neg (by omega)]
    exact hs c.subs fun _ hx => hx
  unfold cfgErr
  rw [hn, hpa]
  exact hsa
theorem config_good {b : List Int} (hb : ∀ x ∈ b, 0 ≤ x ∧ x ≤ 255) (hl : b.length ≤ 1000000) : Good (kconfig b) fun o => DecOk o.1.1 := by
  have := decode_good hb hl
  unfold kconfig
  refine this.bind fun o ho => .some_ ?_
  exact ho
theorem boundOf_true (c : Cfg) (b : List Int) (hb : ∀ x ∈ b, 0 ≤ x ∧ x ≤ 255) : worksteallaw31BoundOf c b = some ((true, ()), ()) := by
  unfold worksteallaw31BoundOf
  obtain ⟨s, e1, hs⟩ := short_good b [] (by decide)
  rw [e1, Option.bind_some]
  by_cases h1 : (!s.1.1) = true
  · rw [if_pos h1]
  · rw [if_neg h1]
    have hl := (hs (by simpa using h1)).1
    unfold refSmall
    rw [Option.bind_some]
    by_cases h2 : (!smallB c) = true
    · rw [if_pos h2]
    · rw [if_neg h2]
      obtain ⟨d, e2, hd⟩ := config_good hb (by omega)
      obtain ⟨n, n1, n2, _⟩ := of_eq c
      obtain ⟨m, m1, m2, m3⟩ := of_eq d.1.1
      have hm := m3 (dec_valid hd)
      simp only [e2, Option.bind_some, awake_true, if_true, n1, n2, m1, m2, hm, decide_true]
end
end Go.Proofs.YtnfblhckpmofcaaGreat
