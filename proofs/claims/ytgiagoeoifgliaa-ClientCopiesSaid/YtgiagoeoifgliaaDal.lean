/- ClientCopies in the evaluator's form. The program's environment made anew, at a valid configuration. The client alone: cells and addresses. The client alone: its inner machines, one step each. The client alone: the invariant, and one step. -/
import Derived.Test.YtgiagoeoifgliaaDak
set_option linter.all false
namespace Go.Proofs.Ytgiagoeoifgliaa
section
open Go Go.RowKit
set_option maxRecDepth 100000
noncomputable def clientClientStep (y0 : (ClientV MV)) (y1 : EnvP) : Option ((Bool × Unit) × ((ClientV MV) × EnvP × Unit)) :=
 (clientClientOver y0).bind fun r1 =>
 if r1.1.1 = true then
  some ((true, ()), (r1.2.1, y1, ()))
 else
 if r1.2.1.fresh = true then
  (clientClientMachines r1.2.1).bind fun r2 =>
  if (SR1.spl r2.1.1).isNone = true then
   (clientClientAccess ({ r2.2.1 with inside := r2.1.1, fresh := false } : (ClientV MV)) y1).bind fun r3 =>
   some ((r3.1.1, ()), (r3.2.1, r3.2.2.1, ()))
  else
  (stepD3 r2.1.1 y1).bind fun r4 =>
  if (!r4.1.1) = true then
   some ((false, ()), (({ r2.2.1 with inside := r4.2.1, fresh := false } : (ClientV MV)), r4.2.2.1, ()))
  else
  (resultD3 r4.2.1).bind fun r5 =>
  (clientClientAfter ({ r2.2.1 with inside := r5.2.1, fresh := false } : (ClientV MV)) r4.2.2.1 r5.1.1 r5.1.2.1).bind fun r6 =>
  some ((r6.1.1, ()), (r6.2.1, r6.2.2.1, ()))
 else
 if (SR1.spl r1.2.1.inside).isNone = true then
  (clientClientAccess r1.2.1 y1).bind fun r7 =>
  some ((r7.1.1, ()), (r7.2.1, r7.2.2.1, ()))
 else
 (stepD3 r1.2.1.inside y1).bind fun r8 =>
 if (!r8.1.1) = true then
  some ((false, ()), (({ r1.2.1 with inside := r8.2.1 } : (ClientV MV)), r8.2.2.1, ()))
 else
 (resultD3 r8.2.1).bind fun r9 =>
 (clientClientAfter ({ r1.2.1 with inside := r9.2.1 } : (ClientV MV)) r8.2.2.1 r9.1.1 r9.1.2.1).bind fun r10 =>
 some ((r10.1.1, ()), (r10.2.1, r10.2.2.1, ()))
noncomputable abbrev clientClientStep_k : Con SR1 := ⟨12, [.ref 30, .ref 27], [.sh .b], fun x => clientClientStep x.1 x.2.1⟩
theorem clientClientStep_ok : CO Try.prog clientClientStep_k := co_fn mixed Try.func12 [clientClientOver_k, clientClientMachines_k, clientClientAccess_k, stepD3_k, resultD3_k, clientClientAfter_k] ⟨clientClientOver_ok, clientClientMachines_ok, clientClientAccess_ok, stepD3_ok, resultD3_ok, clientClientAfter_ok, trivial⟩ [] trivial (fun _ => []) [] fun x => by kernel_rfl
noncomputable def configClone (y0 : Cfg) : Option ((Cfg × Unit) × (Unit)) :=
 (cloneRows y0.progs).bind fun r1 =>
 (lpF (σ := Int × (Int × Int × Int × Int × Int × Int × Int × Int × Int × List (List Ins) × List Sub × Unit) × Unit) (β := Int × (Int × Int × Int × Int × Int × Int × Int × Int × Int × List (List Ins) × List Sub × Unit) × Unit) (fun self4 x2 =>
  if x2.1 < ((r1.1.1.length : Nat) : Int) then
   if 0 ≤ x2.1 ∧ x2.1 < ((x2.2.1.2.2.2.2.2.2.2.2.2.1.length : Nat) : Int) then
    (cloneIns (atK18 x2.2.1.2.2.2.2.2.2.2.2.2.1 x2.1)).bind fun r5 =>
    if 0 ≤ x2.1 ∧ x2.1 < ((x2.2.1.2.2.2.2.2.2.2.2.2.1.length : Nat) : Int) then
     self4 (wi (x2.1 + 1), (x2.2.1.1, x2.2.1.2.1, x2.2.1.2.2.1, x2.2.1.2.2.2.1, x2.2.1.2.2.2.2.1, x2.2.1.2.2.2.2.2.1, x2.2.1.2.2.2.2.2.2.1, x2.2.1.2.2.2.2.2.2.2.1, x2.2.1.2.2.2.2.2.2.2.2.1, x2.2.1.2.2.2.2.2.2.2.2.2.1.set x2.1.toNat r5.1.1, x2.2.1.2.2.2.2.2.2.2.2.2.2.1, ()), ())
    else none
   else none
  else
  some (x2.1, (x2.2.1.1, x2.2.1.2.1, x2.2.1.2.2.1, x2.2.1.2.2.2.1, x2.2.1.2.2.2.2.1, x2.2.1.2.2.2.2.2.1, x2.2.1.2.2.2.2.2.2.1, x2.2.1.2.2.2.2.2.2.2.1, x2.2.1.2.2.2.2.2.2.2.2.1, x2.2.1.2.2.2.2.2.2.2.2.2.1, x2.2.1.2.2.2.2.2.2.2.2.2.2.1, ()), ())
 ) 18446744073709551616 (0, (y0.workers, y0.levels, y0.classes, y0.tasks, y0.deque, y0.heap, y0.batch, y0.age, y0.patience, r1.1.1, y0.subs, ()), ())).bind fun z3 =>
 (cloneSubs z3.2.1.2.2.2.2.2.2.2.2.2.2.1).bind fun r6 =>
 some (((⟨z3.2.1.1, z3.2.1.2.1, z3.2.1.2.2.1, z3.2.1.2.2.2.1, z3.2.1.2.2.2.2.1, z3.2.1.2.2.2.2.2.1, z3.2.1.2.2.2.2.2.2.1, z3.2.1.2.2.2.2.2.2.2.1, z3.2.1.2.2.2.2.2.2.2.2.1, z3.2.1.2.2.2.2.2.2.2.2.2.1, r6.1.1⟩ : Cfg), ()), (()))
noncomputable abbrev configClone_k : Con SR1 := ⟨25, [.val 13], [.val 13], fun x => configClone x.1⟩
theorem configClone_ok : CO Try.prog configClone_k := co_fn mixed Try.func25 [cloneRows_k, cloneIns_k, cloneSubs_k] ⟨cloneRows_ok, cloneIns_ok, cloneSubs_ok, trivial⟩ [] trivial (fun _ => []) [(3, .loop [.rg 11 sI_, .cs 11 [sI_, sI_, sI_, sI_, sI_, sI_, sI_, sI_, sI_, (.row 18), (.ro 4)]] 18446744073709551616 0)] fun x => by kernel_rfl
noncomputable def layoutNew (y0 : Cfg) : Option ((LayV × Int × Unit) × (Unit)) :=
 (cfgCheck y0).bind fun r1 =>
 if r1.1.1 ≠ 0 then
  some (((⟨0, 0, 0, 0, 0, 0, 0, 0, 0, 0, 0⟩ : LayV), r1.1.1, ()), (()))
 else
 some ((({ y0 with sleepers := wi (4 + y0.heap), epochs := wi ((wi (4 + y0.heap)) + y0.classes), bitmaps := wi ((wi ((wi (4 + y0.heap)) + y0.classes)) + y0.workers), queues := wi ((wi ((wi ((wi (4 + y0.heap)) + y0.classes)) + y0.workers)) + y0.workers), table := wi ((wi ((wi ((wi ((wi (4 + y0.heap)) + y0.classes)) + y0.workers)) + y0.workers)) + (wi ((wi (y0.workers * y0.levels)) * (wi (2 + y0.deque))))) } : LayV), 0, ()), (()))
noncomputable abbrev layoutNew_k : Con SR1 := ⟨22, [.val 13], [.val 24, .sh sI_], fun x => layoutNew x.1⟩
theorem layoutNew_ok : CO Try.prog layoutNew_k := co_fn mixed Try.func22 [cfgCheck_k] ⟨cfgCheck_ok, trivial⟩ [] trivial (fun _ => []) [] fun x => by kernel_rfl
noncomputable def memoryNew (y0 : Int) : Option ((MemV × Unit) × (Unit)) :=
 if (if 131072 < (if y0 < 0 then 0 else y0) then 131072 else (if y0 < 0 then 0 else y0)) = (if 131072 < (if y0 < 0 then 0 else y0) then 131072 else (if y0 < 0 then 0 else y0)) then
  if 0 ≤ (if 131072 < (if y0 < 0 then 0 else y0) then 131072 else (if y0 < 0 then 0 else y0)) ∧ (if 131072 < (if y0 < 0 then 0 else y0) then 131072 else (if y0 < 0 then 0 else y0)) ≤ 1099511627776 then
   some (((⟨List.replicate ((if 131072 < (if y0 < 0 then 0 else y0) then 131072 else (if y0 < 0 then 0 else y0)) : Int).toNat (0 : Int), ⟨0, 0, 0, 0⟩, 0⟩ : MemV), ()), (()))
  else none
 else none
noncomputable abbrev memoryNew_k : Con SR1 := ⟨42, [.sh sI_], [.sh (.own 9)], fun x => memoryNew x.1⟩
theorem memoryNew_ok : CO Try.prog memoryNew_k := co_fn mixed Try.func42 [] trivial [] trivial (fun _ => []) [] fun x => by kernel_rfl
noncomputable def clockNew  : Option ((ClkV × Unit) × (Unit)) :=
 some (((⟨0, 0⟩ : ClkV), ()), (()))
noncomputable abbrev clockNew_k : Con SR1 := ⟨43, [], [.sh (.own 25)], fun x => clockNew ⟩
theorem clockNew_ok : CO Try.prog clockNew_k := co_fn mixed Try.func43 [] trivial [] trivial (fun _ => []) [] fun x => by kernel_rfl
noncomputable def machineBare (y0 : Int) : Option ((EnvP × Unit) × (Unit)) :=
 (memoryNew y0).bind fun r1 =>
 (clockNew).bind fun r2 =>
 some (((⟨⟨0, 0, 0, 0, 0, 0, 0, 0, 0, [], []⟩, ⟨0, 0, 0, 0, 0, 0, 0, 0, 0, 0, 0⟩, r1.1.1, r2.1.1, [], []⟩ : EnvP), ()), (()))
noncomputable abbrev machineBare_k : Con SR1 := ⟨23, [.sh sI_], [.sh (.own 27)], fun x => machineBare x.1⟩
theorem machineBare_ok : CO Try.prog machineBare_k := co_fn mixed Try.func23 [memoryNew_k, clockNew_k] ⟨memoryNew_ok, clockNew_ok, trivial⟩ [] trivial (fun _ => []) [] fun x => by kernel_rfl
noncomputable def clientNew (y0 : Cfg) : Option (((ClientV MV) × Unit) × (Unit)) :=
 (configClone y0).bind fun r1 =>
 if y0.workers = y0.workers then
  some (((⟨r1.1.1.subs, y0.workers, 0, 1, MV.nil, true, 0, false⟩ : (ClientV MV)), ()), (()))
 else none
noncomputable abbrev clientNew_k : Con SR1 := ⟨9, [.val 13], [.sh (.own 30)], fun x => clientNew x.1⟩
theorem clientNew_ok : CO Try.prog clientNew_k := co_fn mixed Try.func9 [configClone_k] ⟨configClone_ok, trivial⟩ [] trivial (fun _ => []) [] fun x => by kernel_rfl
noncomputable def clientClientStatus (y0 : (ClientV MV)) : Option ((Int × Unit) × ((ClientV MV) × Unit)) :=
 (clientClientOver y0).bind fun r1 =>
 if r1.1.1 = true then
  some ((4, ()), (r1.2.1, ()))
 else
 if r1.2.1.line = 1 then
  some ((0, ()), (r1.2.1, ()))
 else
 some ((2, ()), (r1.2.1, ()))
noncomputable abbrev clientClientStatus_k : Con SR1 := ⟨15, [.ref 30], [.sh sI_], fun x => clientClientStatus x.1⟩
theorem clientClientStatus_ok : CO Try.prog clientClientStatus_k := co_fn mixed Try.func15 [clientClientOver_k] ⟨clientClientOver_ok, trivial⟩ [] trivial (fun _ => []) [] fun x => by kernel_rfl
noncomputable def r5number (r : CodV) (k : Int) : Option ((Int × Unit) × (CodV × Unit)) :=
 if r.at_ < ((r.inn.length : Nat) : Int) then
  if 0 ≤ r.at_ ∧ r.at_ < ((r.inn.length : Nat) : Int) then
   if k ≠ 0 then
    some (((Int.tmod (wi (atK17 r.inn r.at_)) k), ()), (({ r with at_ := wi (r.at_ + 1) } : CodV), ()))
   else none
  else none
 else
 some ((0, ()), (({ r with at_ := wi (r.at_ + 1) } : CodV), ()))
noncomputable abbrev r5number_k : Con SR1 := ⟨40, [.ref 19, .sh sI_], [.sh sI_], fun x => r5number x.1 x.2.1⟩
theorem r5number_ok : CO Try.prog r5number_k := co_fn mixed Try.func40 [] trivial [] trivial (fun _ => []) [] fun x => by kernel_rfl
noncomputable def r5decode (b : List Int) : Option ((Cfg × Unit) × (Unit)) :=
 (r5number (⟨b, [], 0, false⟩ : CodV) 4).bind fun r1 =>
 (r5number r1.2.1 4).bind fun r2 =>
 (r5number r2.2.1 (if wi (1 + r2.1.1) < 3 then wi (1 + r2.1.1) else 3)).bind fun r3 =>
 (r5number r3.2.1 12).bind fun r4 =>
 (r5number r4.2.1 4).bind fun r5 =>
 (r5number r5.2.1 4).bind fun r6 =>
 (r5number r6.2.1 (wi (1 + r5.1.1))).bind fun r7 =>
 (r5number r7.2.1 6).bind fun r8 =>
 (r5number r8.2.1 8).bind fun r9 =>
 (r5number r9.2.1 4).bind fun r10 =>
 (lpF (σ := Int × CodV × Cfg × Unit) (β := Int × CodV × Cfg × Unit) (fun self13 x11 =>
  if x11.1 < (wi (1 + r10.1.1)) then
   (r5number x11.2.1 6).bind fun r14 =>
   (lpF (σ := List Ins × Int × CodV × Unit) (β := List Ins × Int × CodV × Unit) (fun self17 x15 =>
    if 0 < x15.2.1 then
     (r5number x15.2.2.1 3).bind fun r18 =>
     if r18.1.1 = 0 then
      (r5number r18.2.1 4).bind fun r19 =>
      if (((x15.1.length + ([(⟨r18.1.1, wi (1 + r19.1.1), 0⟩ : Ins)] : List Ins).length : Nat)) : Int) < 1000000000000 then
       self17 (x15.1 ++ ([(⟨r18.1.1, wi (1 + r19.1.1), 0⟩ : Ins)]), wi (x15.2.1 - 1), r19.2.1, ())
      else none
     else
     if r18.1.1 = 1 then
      (r5number r18.2.1 (wi (1 + r10.1.1))).bind fun r20 =>
      (r5number r20.2.1 x11.2.2.1.levels).bind fun r21 =>
      if (((x15.1.length + ([(⟨r18.1.1, r20.1.1, r21.1.1⟩ : Ins)] : List Ins).length : Nat)) : Int) < 1000000000000 then
       self17 (x15.1 ++ ([(⟨r18.1.1, r20.1.1, r21.1.1⟩ : Ins)]), wi (x15.2.1 - 1), r21.2.1, ())
      else none
     else
     (r5number r18.2.1 4).bind fun r22 =>
     if (((x15.1.length + ([(⟨r18.1.1, r22.1.1, 0⟩ : Ins)] : List Ins).length : Nat)) : Int) < 1000000000000 then
      self17 (x15.1 ++ ([(⟨r18.1.1, r22.1.1, 0⟩ : Ins)]), wi (x15.2.1 - 1), r22.2.1, ())
     else none
    else
    some (x15.1, x15.2.1, x15.2.2.1, ())
   ) 18446744073709551616 ([], r14.1.1, r14.2.1, ())).bind fun z16 =>
   if (((x11.2.2.1.progs.length + ([z16.1] : List (List Ins)).length : Nat)) : Int) < 100000000000 then
    self13 (wi (x11.1 + 1), z16.2.2.1, ({ x11.2.2.1 with progs := x11.2.2.1.progs ++ ([z16.1]) } : Cfg), ())
   else none
  else
  some (x11.1, x11.2.1, x11.2.2.1, ())
 ) 18446744073709551616 (0, r10.2.1, (⟨wi (1 + r1.1.1), wi (1 + r2.1.1), wi (1 + r3.1.1), wi (1 + r4.1.1), wi (1 + r5.1.1), wi (1 + r6.1.1), wi (1 + r7.1.1), r8.1.1, wi (1 + r9.1.1), [], []⟩ : Cfg), ())).bind fun z12 =>
 (r5number z12.2.1 6).bind fun r23 =>
 (lpF (σ := Int × CodV × Cfg × Unit) (β := Int × CodV × Cfg × Unit) (fun self26 x24 =>
  if 0 < x24.1 then
   (r5number x24.2.1 (wi (1 + r10.1.1))).bind fun r27 =>
   (r5number r27.2.1 x24.2.2.1.levels).bind fun r28 =>
   (r5number r28.2.1 16).bind fun r29 =>
   if (((x24.2.2.1.subs.length + ([(⟨r27.1.1, r28.1.1, r29.1.1⟩ : Sub)] : List Sub).length : Nat)) : Int) < 1000000000000 then
    self26 (wi (x24.1 - 1), r29.2.1, ({ x24.2.2.1 with subs := x24.2.2.1.subs ++ ([(⟨r27.1.1, r28.1.1, r29.1.1⟩ : Sub)]) } : Cfg), ())
   else none
  else
  some (x24.1, x24.2.1, x24.2.2.1, ())
 ) 18446744073709551616 (r23.1.1, r23.2.1, z12.2.2.1, ())).bind fun z25 =>
 some ((z25.2.2.1, ()), (()))
noncomputable abbrev r5decode_k : Con SR1 := ⟨21, [.sh (.ro 17)], [.val 13], fun x => r5decode x.1⟩
theorem r5decode_ok : CO Try.prog r5decode_k := co_fn mixed Try.func21 [r5number_k] ⟨r5number_ok, trivial⟩ [] trivial (fun _ => []) [(12, .loop [.rg 6 sI_, .rg 3 (.own 19), .rg 4 (.own 20)] 18446744073709551616 0), (16, .loop [.rg 7 (.row 3), .rg 8 sI_, .rg 3 (.own 19)] 18446744073709551616 2), (29, .loop [.rg 10 sI_, .rg 3 (.own 19), .rg 4 (.own 20)] 18446744073709551616 5)] fun x => by kernel_rfl
noncomputable def kconfig (b : List Int) : Option ((Cfg × Unit) × (Unit)) :=
 (r5decode b).bind fun r1 =>
 some ((r1.1.1, ()), (()))
noncomputable abbrev kconfig_k : Con SR1 := ⟨7, [.sh (.ro 17)], [.val 13], fun x => kconfig x.1⟩
theorem kconfig_ok : CO Try.prog kconfig_k := co_fn mixed Try.func7 [r5decode_k] ⟨r5decode_ok, trivial⟩ [] trivial (fun _ => []) [] fun x => by kernel_rfl
noncomputable def kshort (b : List Int) (l : List (List Int)) : Option ((Bool × Unit) × (Unit)) :=
 (lpF (σ := Int × Unit) (β := (Int × Unit) ⊕ ((Bool × Unit) × (Unit))) (fun self3 x1 =>
  if x1.1 < ((l.length : Nat) : Int) then
   if 0 ≤ x1.1 ∧ x1.1 < ((l.length : Nat) : Int) then
    if 400 < (((atL [] l x1.1).length : Nat) : Int) then
     Option.map Sum.inr (
      some ((false, ()), (()))
     )
    else
    self3 (wi (x1.1 + 1), ())
   else none
  else
  some (Sum.inl (x1.1, ()))
 ) 18446744073709551616 (0, ())).bind fun z2 => match z2 with
 | .inr o4 => some o4
 | .inl z2 =>
 some ((decide (((b.length : Nat) : Int) ≤ 400), ()), (()))
noncomputable abbrev kshort_k : Con SR1 := ⟨6, [.sh (.ro 17), .sh (.rr 1)], [.sh .b], fun x => kshort x.1 x.2.1⟩
theorem kshort_ok : CO Try.prog kshort_k := co_fn mixed Try.func6 [] trivial [] trivial (fun _ => []) [(2, .loopR [.rg 5 sI_] 18446744073709551616 0)] fun x => by kernel_rfl
noncomputable def memoryMemoryCells (y0 : MemV) : Option ((List Int × Unit) × (MemV × Unit)) :=
 (cloneU64 y0.cells).bind fun r1 =>
 some ((r1.1.1, ()), (({ y0 with cells := r1.2.1 } : MemV), ()))
noncomputable abbrev memoryMemoryCells_k : Con SR1 := ⟨64, [.ref 9], [.sh (.row 0)], fun x => memoryMemoryCells x.1⟩
theorem memoryMemoryCells_ok : CO Try.prog memoryMemoryCells_k := co_fn mixed Try.func64 [cloneU64_k] ⟨cloneU64_ok, trivial⟩ [] trivial (fun _ => []) [] fun x => by kernel_rfl
noncomputable def memoryMemoryCopy (y0 : MemV) : Option ((MemV × Unit) × (MemV × Unit)) :=
 (memoryMemoryCells y0).bind fun r1 =>
 some ((({ y0 with cells := r1.1.1 } : MemV), ()), (r1.2.1, ()))
noncomputable abbrev memoryMemoryCopy_k : Con SR1 := ⟨35, [.ref 9], [.sh (.own 9)], fun x => memoryMemoryCopy x.1⟩
theorem memoryMemoryCopy_ok : CO Try.prog memoryMemoryCopy_k := co_fn mixed Try.func35 [memoryMemoryCells_k] ⟨memoryMemoryCells_ok, trivial⟩ [] trivial (fun _ => []) [] fun x => by kernel_rfl
noncomputable def clockClockCopy (y0 : ClkV) : Option ((ClkV × Unit) × (ClkV × Unit)) :=
 some ((y0, ()), (y0, ()))
noncomputable abbrev clockClockCopy_k : Con SR1 := ⟨36, [.ref 25], [.sh (.own 25)], fun x => clockClockCopy x.1⟩
theorem clockClockCopy_ok : CO Try.prog clockClockCopy_k := co_fn mixed Try.func36 [] trivial [] trivial (fun _ => []) [] fun x => by kernel_rfl
noncomputable def machineEnvCopy (y0 : EnvP) : Option ((EnvP × Unit) × (EnvP × Unit)) :=
 (configClone y0.c).bind fun r1 =>
 if y0.l.workers = y0.l.workers then
  if y0.l.levels = y0.l.levels then
   if y0.l.classes = y0.l.classes then
    if y0.l.tasks = y0.l.tasks then
     if y0.l.deque = y0.l.deque then
      if y0.l.heap = y0.l.heap then
       if y0.l.sleepers = y0.l.sleepers then
        if y0.l.epochs = y0.l.epochs then
         if y0.l.bitmaps = y0.l.bitmaps then
          if y0.l.queues = y0.l.queues then
           if y0.l.table = y0.l.table then
            (memoryMemoryCopy y0.m).bind fun r2 =>
            if y0.l.workers = y0.l.workers then
             if y0.l.levels = y0.l.levels then
              if y0.l.classes = y0.l.classes then
               if y0.l.tasks = y0.l.tasks then
                if y0.l.deque = y0.l.deque then
                 if y0.l.heap = y0.l.heap then
                  if y0.l.sleepers = y0.l.sleepers then
                   if y0.l.epochs = y0.l.epochs then
                    if y0.l.bitmaps = y0.l.bitmaps then
                     if y0.l.queues = y0.l.queues then
                      if y0.l.table = y0.l.table then
                       (clockClockCopy y0.k).bind fun r3 =>
                       if y0.l.workers = y0.l.workers then
                        if y0.l.levels = y0.l.levels then
                         if y0.l.classes = y0.l.classes then
                          if y0.l.tasks = y0.l.tasks then
                           if y0.l.deque = y0.l.deque then
                            if y0.l.heap = y0.l.heap then
                             if y0.l.sleepers = y0.l.sleepers then
                              if y0.l.epochs = y0.l.epochs then
                               if y0.l.bitmaps = y0.l.bitmaps then
                                if y0.l.queues = y0.l.queues then
                                 if y0.l.table = y0.l.table then
                                  (cloneRecs y0.recs).bind fun r4 =>
                                  if y0.l.workers = y0.l.workers then
                                   if y0.l.levels = y0.l.levels then
                                    if y0.l.classes = y0.l.classes then
                                     if y0.l.tasks = y0.l.tasks then
                                      if y0.l.deque = y0.l.deque then
                                       if y0.l.heap = y0.l.heap then
                                        if y0.l.sleepers = y0.l.sleepers then
                                         if y0.l.epochs = y0.l.epochs then
                                          if y0.l.bitmaps = y0.l.bitmaps then
                                           if y0.l.queues = y0.l.queues then
                                            if y0.l.table = y0.l.table then
                                             (cloneEvs y0.evs).bind fun r5 =>
                                             if y0.l.workers = y0.l.workers then
                                              if y0.l.levels = y0.l.levels then
                                               if y0.l.classes = y0.l.classes then
                                                if y0.l.tasks = y0.l.tasks then
                                                 if y0.l.deque = y0.l.deque then
                                                  if y0.l.heap = y0.l.heap then
                                                   if y0.l.sleepers = y0.l.sleepers then
                                                    if y0.l.epochs = y0.l.epochs then
                                                     if y0.l.bitmaps = y0.l.bitmaps then
                                                      if y0.l.queues = y0.l.queues then
                                                       if y0.l.table = y0.l.table then
                                                        (lpF (σ := Int × EnvP × Unit) (β := Int × EnvP × Unit) (fun self8 x6 =>
                                                         if x6.1 < ((r4.1.1.length : Nat) : Int) then
                                                          if 0 ≤ x6.1 ∧ x6.1 < ((x6.2.1.recs.length : Nat) : Int) then
                                                           (cloneInts ((atK26 x6.2.1.recs x6.1).kids)).bind fun r9 =>
                                                           if 0 ≤ x6.1 ∧ x6.1 < ((x6.2.1.recs.length : Nat) : Int) then
                                                            self8 (wi (x6.1 + 1), ({ x6.2.1 with recs := x6.2.1.recs.set x6.1.toNat ({ atK26 x6.2.1.recs x6.1 with kids := r9.1.1 } : RecP) } : EnvP), ())
                                                           else none
                                                          else none
                                                         else
                                                         some (x6.1, x6.2.1, ())
                                                        ) 18446744073709551616 (0, (⟨r1.1.1, y0.l, r2.1.1, r3.1.1, r4.1.1, r5.1.1⟩ : EnvP), ())).bind fun z7 =>
                                                        some ((z7.2.1, ()), (({ y0 with m := r2.2.1, k := r3.2.1, recs := r4.2.1, evs := r5.2.1 } : EnvP), ()))
                                                       else none
                                                      else none
                                                     else none
                                                    else none
                                                   else none
                                                  else none
                                                 else none
                                                else none
                                               else none
                                              else none
                                             else none
                                            else none
                                           else none
                                          else none
                                         else none
                                        else none
                                       else none
                                      else none
                                     else none
                                    else none
                                   else none
                                  else none
                                 else none
                                else none
                               else none
                              else none
                             else none
                            else none
                           else none
                          else none
                         else none
                        else none
                       else none
                      else none
                     else none
                    else none
                   else none
                  else none
                 else none
                else none
               else none
              else none
             else none
            else none
           else none
          else none
         else none
        else none
       else none
      else none
     else none
    else none
   else none
  else none
 else none
noncomputable abbrev machineEnvCopy_k : Con SR1 := ⟨20, [.ref 27], [.sh (.own 27)], fun x => machineEnvCopy x.1⟩
theorem machineEnvCopy_ok : CO Try.prog machineEnvCopy_k := co_fn mixed Try.func20 [configClone_k, memoryMemoryCopy_k, clockClockCopy_k, cloneRecs_k, cloneEvs_k, cloneInts_k] ⟨configClone_ok, memoryMemoryCopy_ok, clockClockCopy_ok, cloneRecs_ok, cloneEvs_ok, cloneInts_ok, trivial⟩ [] trivial (fun _ => []) [(3, .loop [.rg 41 sI_, .rg 3 (.own 27)] 18446744073709551616 0)] fun x => by kernel_rfl
noncomputable def lockAttemptCopy (y0 : AttemptV) : Option ((MV × Unit) × (AttemptV × Unit)) :=
 some ((MV.attempt y0, ()), (y0, ()))
noncomputable abbrev lockAttemptCopy_k : Con SR1 := ⟨93, [.ref 31], [.sh .mach], fun x => lockAttemptCopy x.1⟩
theorem lockAttemptCopy_ok : CO Try.prog lockAttemptCopy_k := co_fn mixed Try.func93 [] trivial [] trivial (fun _ => []) [] fun x => by kernel_rfl
noncomputable def tableAllocateCopy (y0 : AllocV) : Option ((MV × Unit) × (AllocV × Unit)) :=
 some ((MV.alloc y0, ()), (y0, ()))
noncomputable abbrev tableAllocateCopy_k : Con SR1 := ⟨101, [.ref 32], [.sh .mach], fun x => tableAllocateCopy x.1⟩
theorem tableAllocateCopy_ok : CO Try.prog tableAllocateCopy_k := co_fn mixed Try.func101 [] trivial [] trivial (fun _ => []) [] fun x => by kernel_rfl
noncomputable def injectorInsertCopy (y0 : InsertV) : Option ((MV × Unit) × (InsertV × Unit)) :=
 some ((MV.insert y0, ()), (y0, ()))
noncomputable abbrev injectorInsertCopy_k : Con SR1 := ⟨107, [.ref 33], [.sh .mach], fun x => injectorInsertCopy x.1⟩
theorem injectorInsertCopy_ok : CO Try.prog injectorInsertCopy_k := co_fn mixed Try.func107 [] trivial [] trivial (fun _ => []) [] fun x => by kernel_rfl
noncomputable def lockReleaseCopy (y0 : ReleaseV) : Option ((MV × Unit) × (ReleaseV × Unit)) :=
 some ((MV.release y0, ()), (y0, ()))
noncomputable abbrev lockReleaseCopy_k : Con SR1 := ⟨112, [.ref 34], [.sh .mach], fun x => lockReleaseCopy x.1⟩
theorem lockReleaseCopy_ok : CO Try.prog lockReleaseCopy_k := co_fn mixed Try.func112 [] trivial [] trivial (fun _ => []) [] fun x => by kernel_rfl
noncomputable def parkWakeCopy (y0 : WakeV) : Option ((MV × Unit) × (WakeV × Unit)) :=
 some ((MV.wake y0, ()), (y0, ()))
noncomputable abbrev parkWakeCopy_k : Con SR1 := ⟨114, [.ref 35], [.sh .mach], fun x => parkWakeCopy x.1⟩
theorem parkWakeCopy_ok : CO Try.prog parkWakeCopy_k := co_fn mixed Try.func114 [] trivial [] trivial (fun _ => []) [] fun x => by kernel_rfl
noncomputable def copyCl (m : MV) : Option ((MV × Unit) × (MV × Unit)) :=
 match m with
 | .attempt x => (lockAttemptCopy x).bind fun o => some (o.1, (MV.attempt o.2.1, o.2.2))
 | .alloc x => (tableAllocateCopy x).bind fun o => some (o.1, (MV.alloc o.2.1, o.2.2))
 | .insert x => (injectorInsertCopy x).bind fun o => some (o.1, (MV.insert o.2.1, o.2.2))
 | .release x => (lockReleaseCopy x).bind fun o => some (o.1, (MV.release o.2.1, o.2.2))
 | .wake x => (parkWakeCopy x).bind fun o => some (o.1, (MV.wake o.2.1, o.2.2))
 | _ => none
noncomputable abbrev copyCl_k : Con SR1 := ⟨1000000002, [.mch], [.sh .mach], fun x => copyCl x.1⟩
theorem copyCl_ok : CO Try.prog copyCl_k := co_meth (S := SR1) (i := 2) (ps := []) (rs := [.sh .mach]) (spec := fun m _ => copyCl m) fun m xs out h => by
  cases m with
  | attempt x => exact via_ok (S := SR1) (ps := []) (rs := [.sh .mach]) (c := 31) (mk := MV.attempt) (fun _ => rfl) rfl (fun _ _ _ _ => by kernel_rfl) lockAttemptCopy_ok h
  | alloc x => exact via_ok (S := SR1) (ps := []) (rs := [.sh .mach]) (c := 32) (mk := MV.alloc) (fun _ => rfl) rfl (fun _ _ _ _ => by kernel_rfl) tableAllocateCopy_ok h
  | insert x => exact via_ok (S := SR1) (ps := []) (rs := [.sh .mach]) (c := 33) (mk := MV.insert) (fun _ => rfl) rfl (fun _ _ _ _ => by kernel_rfl) injectorInsertCopy_ok h
  | release x => exact via_ok (S := SR1) (ps := []) (rs := [.sh .mach]) (c := 34) (mk := MV.release) (fun _ => rfl) rfl (fun _ _ _ _ => by kernel_rfl) lockReleaseCopy_ok h
  | wake x => exact via_ok (S := SR1) (ps := []) (rs := [.sh .mach]) (c := 35) (mk := MV.wake) (fun _ => rfl) rfl (fun _ _ _ _ => by kernel_rfl) parkWakeCopy_ok h
  | _ => cases h
noncomputable def coreCopy (y0 : MV) : Option ((MV × Unit) × (MV × Unit)) :=
 if (SR1.spl y0).isNone = true then
  some ((MV.nil, ()), (y0, ()))
 else
 (copyCl y0).bind fun r1 =>
 some ((r1.1.1, ()), (r1.2.1, ()))
noncomputable abbrev coreCopy_k : Con SR1 := ⟨34, [.mch], [.sh .mach], fun x => coreCopy x.1⟩
theorem coreCopy_ok : CO Try.prog coreCopy_k := co_fn mixed Try.func34 [copyCl_k] ⟨copyCl_ok, trivial⟩ [] trivial (fun _ => []) [] fun x => by kernel_rfl
noncomputable def machineNew (y0 : Cfg) : Option ((EnvP × Int × Unit) × (Unit)) :=
 (layoutNew y0).bind fun r1 =>
 if r1.1.2.1 ≠ 0 then
  none
 else
 (pCells r1.1.1).bind fun r2 =>
 (machineBare r2.1.1).bind fun r3 =>
 (configClone y0).bind fun r4 =>
 if r1.1.1.workers = r1.1.1.workers then
  if r1.1.1.levels = r1.1.1.levels then
   if r1.1.1.classes = r1.1.1.classes then
    if r1.1.1.tasks = r1.1.1.tasks then
     if r1.1.1.deque = r1.1.1.deque then
      if r1.1.1.heap = r1.1.1.heap then
       if r1.1.1.sleepers = r1.1.1.sleepers then
        if r1.1.1.epochs = r1.1.1.epochs then
         if r1.1.1.bitmaps = r1.1.1.bitmaps then
          if r1.1.1.queues = r1.1.1.queues then
           if r1.1.1.table = r1.1.1.table then
            if r1.1.1.workers = r1.1.1.workers then
             if r1.1.1.levels = r1.1.1.levels then
              if r1.1.1.classes = r1.1.1.classes then
               if r1.1.1.tasks = r1.1.1.tasks then
                if r1.1.1.deque = r1.1.1.deque then
                 if r1.1.1.heap = r1.1.1.heap then
                  if r1.1.1.sleepers = r1.1.1.sleepers then
                   if r1.1.1.epochs = r1.1.1.epochs then
                    if r1.1.1.bitmaps = r1.1.1.bitmaps then
                     if r1.1.1.queues = r1.1.1.queues then
                      if r1.1.1.table = r1.1.1.table then
                       (lpF (σ := Int × EnvP × Unit) (β := Int × EnvP × Unit) (fun self7 x5 =>
                        if x5.1 < y0.tasks then
                         if (((x5.2.1.recs.length + ([(⟨0, (-1), 0, 0, (-1), [], false⟩ : RecP)] : List RecP).length : Nat)) : Int) < 100000000000 then
                          self7 (wi (x5.1 + 1), ({ x5.2.1 with recs := x5.2.1.recs ++ ([(⟨0, (-1), 0, 0, (-1), [], false⟩ : RecP)]) } : EnvP), ())
                         else none
                        else
                        some (x5.1, x5.2.1, ())
                       ) 18446744073709551616 (0, ({ r3.1.1 with c := r4.1.1, l := r1.1.1 } : EnvP), ())).bind fun z6 =>
                       some ((z6.2.1, 0, ()), (()))
                      else none
                     else none
                    else none
                   else none
                  else none
                 else none
                else none
               else none
              else none
             else none
            else none
           else none
          else none
         else none
        else none
       else none
      else none
     else none
    else none
   else none
  else none
 else none
noncomputable abbrev machineNew_k : Con SR1 := ⟨8, [.val 13], [.sh (.own 27), .sh sI_], fun x => machineNew x.1⟩
theorem machineNew_ok : CO Try.prog machineNew_k := co_fn mixed Try.func8 [layoutNew_k, pCells_k, machineBare_k, configClone_k] ⟨layoutNew_ok, pCells_ok, machineBare_ok, configClone_ok, trivial⟩ [] trivial (fun _ => []) [(7, .loop [.rg 29 sI_, .rg 6 (.own 27)] 18446744073709551616 0)] fun x => by kernel_rfl
noncomputable def worksteallaw27One (y0 : List Sub) : Option ((Cfg × Unit) × (Unit)) :=
 (kconfig ([])).bind fun r1 =>
 some ((({ r1.1.1 with subs := y0 } : Cfg), ()), (()))
noncomputable abbrev worksteallaw27One_k : Con SR1 := ⟨26, [.sh (.ro 4)], [.val 13], fun x => worksteallaw27One x.1⟩
theorem worksteallaw27One_ok : CO Try.prog worksteallaw27One_k := co_fn mixed Try.func26 [kconfig_k] ⟨kconfig_ok, trivial⟩ [] trivial (fun _ => []) [] fun x => by kernel_rfl
noncomputable def clientClientResult (y0 : (ClientV MV)) : Option ((Int × Int × Unit) × ((ClientV MV) × Unit)) :=
 some ((0, 0, ()), (y0, ()))
noncomputable abbrev clientClientResult_k : Con SR1 := ⟨89, [.ref 30], [.sh sI_, .sh sI_], fun x => clientClientResult x.1⟩
theorem clientClientResult_ok : CO Try.prog clientClientResult_k := co_fn mixed Try.func89 [] trivial [] trivial (fun _ => []) [] fun x => by kernel_rfl
noncomputable def clientClientSubmission (y0 : (ClientV MV)) : Option ((Int × Unit) × ((ClientV MV) × Unit)) :=
 some ((y0.i, ()), (y0, ()))
noncomputable abbrev clientClientSubmission_k : Con SR1 := ⟨13, [.ref 30], [.sh sI_], fun x => clientClientSubmission x.1⟩
theorem clientClientSubmission_ok : CO Try.prog clientClientSubmission_k := co_fn mixed Try.func13 [] trivial [] trivial (fun _ => []) [] fun x => by kernel_rfl
noncomputable def worksteallaw27Awake  : Option ((Bool × Unit) × (Unit)) :=
 (worksteallaw27One ([(⟨0, 0, 5⟩ : Sub)])).bind fun r1 =>
 (machineNew r1.1.1).bind fun r2 =>
 (clientNew r1.1.1).bind fun r3 =>
 if r2.1.2.1 ≠ 0 then
  some ((false, ()), (()))
 else
 (clientClientStatus r3.1.1).bind fun r4 =>
 if r4.1.1 ≠ 0 then
  some ((false, ()), (()))
 else
 (lpF (σ := Int × EnvP × (ClientV MV) × Unit) (β := (Int × EnvP × (ClientV MV) × Unit) ⊕ ((Bool × Unit) × (Unit))) (fun self7 x5 =>
  if x5.1 < 50 then
   (clientClientStep x5.2.2.1 x5.2.1).bind fun r8 =>
   if r8.1.1 = true then
    (clientClientResult r8.2.1).bind fun r9 =>
    Option.map Sum.inr (
     if r9.1.1 = 0 then
      if (wi (x5.1 + 1)) = 12 then
       (clientClientStatus r9.2.1).bind fun r10 =>
       if r10.1.1 = 4 then
        (clientClientSubmission r10.2.1).bind fun r11 =>
        if r11.1.1 = 1 then
         if ((r8.2.2.1.evs.length : Nat) : Int) = 1 then
          if 0 ≤ (0 : Int) ∧ (0 : Int) < ((r8.2.2.1.evs.length : Nat) : Int) then
           some ((decide (((atK2 r8.2.2.1.evs 0).kind) = 1 ∧ ((atK2 r8.2.2.1.evs 0).worker) = 1 ∧ ((atK2 r8.2.2.1.evs 0).task) = 0 ∧ ((atK2 r8.2.2.1.evs 0).other) = 0 ∧ ((atK2 r8.2.2.1.evs 0).level) = 0 ∧ True), ()), (()))
          else none
         else
         some ((false, ()), (()))
        else
        some ((false, ()), (()))
       else
       some ((false, ()), (()))
      else
      some ((false, ()), (()))
     else
     some ((false, ()), (()))
    )
   else
   self7 (wi (x5.1 + 1), r8.2.2.1, r8.2.1, ())
  else
  some (Sum.inl (x5.1, x5.2.1, x5.2.2.1, ()))
 ) 18446744073709551616 (0, r2.1.1, r4.2.1, ())).bind fun z6 => match z6 with
 | .inr o12 => some o12
 | .inl z6 =>
 some ((false, ()), (()))
noncomputable abbrev worksteallaw27Awake_k : Con SR1 := ⟨10, [], [.sh .b], fun x => worksteallaw27Awake ⟩
noncomputable def worksteallaw27Awake_tb : List (Nat × Func) := [(14, Try.f14)]
theorem worksteallaw27Awake_ok : CO Try.prog worksteallaw27Awake_k := co_fn mixed Try.func10 [worksteallaw27One_k, machineNew_k, clientNew_k, clientClientStatus_k, clientClientStep_k, clientClientResult_k, clientClientSubmission_k] ⟨worksteallaw27One_ok, machineNew_ok, clientNew_ok, clientClientStatus_ok, clientClientStep_ok, clientClientResult_ok, clientClientSubmission_ok, trivial⟩ worksteallaw27Awake_tb ⟨Try.func14, trivial⟩ (fun f => (get [(14, [(3, .loopR [.rg 8 sI_, .ob 1000000 27, .ob 1000001 30] 18446744073709551616 0)])] f).getD []) [] fun x => by kernel_rfl
noncomputable def worksteallaw27ClientCopies (y0 : List Int) (y1 : Int) : Option ((Bool × Unit) × (Unit)) :=
 (kshort y0 ([])).bind fun r1 =>
 if (!r1.1.1) = true then
  some ((true, ()), (()))
 else
 (kconfig y0).bind fun r2 =>
 (machineNew r2.1.1).bind fun r3 =>
 (clientNew r2.1.1).bind fun r4 =>
 (worksteallaw27Awake).bind fun r5 =>
 if (!r5.1.1) = true then
  some ((false, ()), (()))
 else
 if r3.1.2.1 ≠ 0 then
  some ((false, ()), (()))
 else
 (lpF (σ := Int × EnvP × (ClientV MV) × Unit) (β := Int × EnvP × (ClientV MV) × Unit) (fun self8 x6 =>
  if x6.1 < (wi (y1)) then
   (clientClientStep x6.2.2.1 x6.2.1).bind fun r9 =>
   self8 (wi (x6.1 + 1), r9.2.2.1, r9.2.1, ())
  else
  some (x6.1, x6.2.1, x6.2.2.1, ())
 ) 18446744073709551616 (0, r3.1.1, r4.1.1, ())).bind fun z7 =>
 (coreCopy z7.2.2.1.inside).bind fun r10 =>
 (machineEnvCopy z7.2.1).bind fun r11 =>
 ((
  (lpF (σ := Int × EnvP × (ClientV MV) × Unit) (β := (Int × EnvP × (ClientV MV) × Unit) ⊕ (EnvP × Unit)) (fun self14 x12 =>
   if x12.1 < 400 then
    (clientClientStep x12.2.2.1 x12.2.1).bind fun r15 =>
    if r15.1.1 = true then
     (clientClientResult r15.2.1).bind fun r16 =>
     Option.map Sum.inr (
      some (r15.2.2.1, ())
     )
    else
    self14 (wi (x12.1 + 1), r15.2.2.1, r15.2.1, ())
   else
   some (Sum.inl (x12.1, x12.2.1, x12.2.2.1, ()))
  ) 18446744073709551616 (0, r11.1.1, ({ z7.2.2.1 with inside := r10.1.1 } : (ClientV MV)), ())).bind fun z13 => match z13 with
  | .inr o17 => some o17
  | .inl z13 =>
  some (z13.2.1, ())
 ) : Option (EnvP × Unit)).bind fun z18 =>
 ((
  (clientClientStatus ({ z7.2.2.1 with inside := r10.2.1 } : (ClientV MV))).bind fun r19 =>
  if r19.1.1 ≠ 4 then
   some (decide (((z18.1.evs.length : Nat) : Int) ≠ ((r2.1.1.subs.length : Nat) : Int)), r19.2.1, z18.1, ())
  else
  some (false, r19.2.1, z18.1, ())
 ) : Option (Bool × (ClientV MV) × EnvP × Unit)).bind fun z20 =>
 if z20.1 = true then
  some ((false, ()), (()))
 else
 ((
  (lpF (σ := Int × EnvP × (ClientV MV) × Unit) (β := (Int × EnvP × (ClientV MV) × Unit) ⊕ (EnvP × Unit)) (fun self23 x21 =>
   if x21.1 < 400 then
    (clientClientStep x21.2.2.1 x21.2.1).bind fun r24 =>
    if r24.1.1 = true then
     (clientClientResult r24.2.1).bind fun r25 =>
     Option.map Sum.inr (
      some (r24.2.2.1, ())
     )
    else
    self23 (wi (x21.1 + 1), r24.2.2.1, r24.2.1, ())
   else
   some (Sum.inl (x21.1, x21.2.1, x21.2.2.1, ()))
  ) 18446744073709551616 (0, r11.2.1, z20.2.1, ())).bind fun z22 => match z22 with
  | .inr o26 => some o26
  | .inl z22 =>
  some (z22.2.1, ())
 ) : Option (EnvP × Unit)).bind fun z27 =>
 ((
  if ((z27.1.evs.length : Nat) : Int) ≠ ((z20.2.2.1.evs.length : Nat) : Int) then
   some (true, z27.1, z20.2.2.1, ())
  else
  some (decide (((z27.1.evs.length : Nat) : Int) ≠ ((r2.1.1.subs.length : Nat) : Int)), z27.1, z20.2.2.1, ())
 ) : Option (Bool × EnvP × EnvP × Unit)).bind fun z28 =>
 if z28.1 = true then
  some ((false, ()), (()))
 else
 (lpF (σ := Int × EnvP × EnvP × Unit) (β := (Int × EnvP × EnvP × Unit) ⊕ ((Bool × Unit) × (Unit))) (fun self31 x29 =>
  if x29.1 < ((x29.2.1.evs.length : Nat) : Int) then
   if 0 ≤ x29.1 ∧ x29.1 < ((x29.2.1.evs.length : Nat) : Int) then
    if 0 ≤ x29.1 ∧ x29.1 < ((x29.2.2.1.evs.length : Nat) : Int) then
     if ¬ (((atK2 x29.2.1.evs x29.1).kind) = ((atK2 x29.2.2.1.evs x29.1).kind) ∧ ((atK2 x29.2.1.evs x29.1).worker) = ((atK2 x29.2.2.1.evs x29.1).worker) ∧ ((atK2 x29.2.1.evs x29.1).task) = ((atK2 x29.2.2.1.evs x29.1).task) ∧ ((atK2 x29.2.1.evs x29.1).other) = ((atK2 x29.2.2.1.evs x29.1).other) ∧ ((atK2 x29.2.1.evs x29.1).level) = ((atK2 x29.2.2.1.evs x29.1).level) ∧ True) then
      Option.map Sum.inr (
       some ((false, ()), (()))
      )
     else
     self31 (wi (x29.1 + 1), x29.2.1, x29.2.2.1, ())
    else none
   else none
  else
  some (Sum.inl (x29.1, x29.2.1, x29.2.2.1, ()))
 ) 18446744073709551616 (0, z28.2.1, z28.2.2.1, ())).bind fun z30 => match z30 with
 | .inr o32 => some o32
 | .inl z30 =>
 some ((true, ()), (()))
noncomputable abbrev worksteallaw27ClientCopies_k : Con SR1 := ⟨5, [.sh (.ro 17), .sh (.i .u8)], [.sh .b], fun x => worksteallaw27ClientCopies x.1 x.2.1⟩
noncomputable def worksteallaw27ClientCopies_tb : List (Nat × Func) := [(19, Try.f19), (14, Try.f14)]
theorem worksteallaw27ClientCopies_ok : CO Try.prog worksteallaw27ClientCopies_k := co_fn mixed Try.func5 [kshort_k, kconfig_k, machineNew_k, clientNew_k, worksteallaw27Awake_k, clientClientStep_k, coreCopy_k, machineEnvCopy_k, clientClientResult_k, clientClientStatus_k] ⟨kshort_ok, kconfig_ok, machineNew_ok, clientNew_ok, worksteallaw27Awake_ok, clientClientStep_ok, coreCopy_ok, machineEnvCopy_ok, clientClientResult_ok, clientClientStatus_ok, trivial⟩ worksteallaw27ClientCopies_tb ⟨Try.func19, Try.func14, trivial⟩ (fun f => (get [(14, [(3, .loopR [.rg 8 sI_, .ob 1000000 27, .ob 1000001 30] 18446744073709551616 0)])] f).getD []) [(22, .loopR [.rg 12 sI_, .ob 1000006 27, .ob 1000011 27] 18446744073709551616 2), (17, .cut [.rg 88 .b, .ob 22 30, .ob 33 27] [0, 12, 13, 14, 21]), (20, .cut [.rg 114 .b, .ob 21 27, .ob 33 27] [0, 12, 13, 14]), (16, .cut [.ob 33 27] [0, 12, 13, 14, 21, 22, 23, 27]), (19, .cut [.ob 21 27] [0, 12, 13, 14, 33]), (9, .loop [.rg 9 sI_, .rg 6 (.own 27), .rg 8 (.own 30)] 18446744073709551616 0)] fun x => by kernel_rfl
end
section
open Go Go.RowKit
set_option maxRecDepth 100000
theorem obind {α β : Type} (a : α) (f : α → Option β) : (some a).bind f = f a := rfl
/-- The lengths of a configuration's lists are plain. -/
structure LenOk (c : Cfg) : Prop where
  ps : c.progs.length ≤ 1000000
  pl : ∀ p ∈ c.progs, p.length ≤ 1000000
  ss : c.subs.length ≤ 1000000
theorem progs_len {lv np : Int} : ∀ {ps : List (List Ins)}, progsErr lv np ps = 0 → ∀ p ∈ ps, p.length ≤ 32
  | [], _, p, h => by cases h
  | q :: ps, h, p, hm => by
    unfold progsErr at h
    split at h
    · omega
    · split at h
      · rcases List.mem_cons.1 hm with e | e
        · subst e; omega
        · exact progs_len h p e
      · omega
theorem valid_len {c : Cfg} (h : cfgErr c = 0) : numsOk c = true ∧ c.progs.length ≤ 32 ∧ (∀ p ∈ c.progs, p.length ≤ 32) ∧ c.subs.length ≤ 64 := by
  unfold cfgErr at h
  split at h
  · omega
  · rename_i hn
    split at h
    · omega
    · rename_i hp
      have hp0 : progsAll c = 0 := by omega
      unfold progsAll at hp0
      split at hp0
      · omega
      · rename_i hl
        simp only [inB, Bool.not_eq_true', Bool.and_eq_false_iff, decide_eq_false_iff_not, not_or, Classical.not_not, Bool.not_eq_false, Bool.and_eq_true, decide_eq_true_eq] at hl
        refine ⟨by simpa using hn, by omega, progs_len hp0, ?_⟩
        unfold subsAll at h
        split at h
        · omega
        · omega
theorem LenOk.of {c : Cfg} (h : cfgErr c = 0) : LenOk c := by
  obtain ⟨_, h1, h2, h3⟩ := valid_len h
  exact ⟨by omega, fun p hp => by have := h2 p hp; omega, by omega⟩
abbrev ClS := Int × Int × Int × Int × Int × Int × Int × Int × Int × List (List Ins) × List Sub × Unit
def clS (c : Cfg) : ClS := (c.workers, c.levels, c.classes, c.tasks, c.deque, c.heap, c.batch, c.age, c.patience, c.progs, c.subs, ())
theorem set_sameP {α : Type} {xs : List α} {i : Nat} {x : α} (h : xs[i]? = some x) : xs.set i x = xs := by
  obtain ⟨hlt, rfl⟩ := List.getElem?_eq_some_iff.1 h
  simp
theorem clone_eq {c : Cfg} (h : LenOk c) : configClone c = some ((c, ()), ()) := by
  have hg : Good (configClone c) fun o => o.1.1 = c := by
    unfold configClone
    have e0 : cloneRows c.progs = some ((c.progs, ()), ()) := by unfold cloneRows; rw [if_pos h.ps]
    rw [e0, obind]
    refine Good.bind (P := fun z => z.2.1 = clS c) (lp_good (fun x => x.2.1 = clS c ∧ 0 ≤ x.1 ∧ x.1 ≤ (c.progs.length : Int)) (fun x => ((c.progs.length : Int) - x.1).toNat) (fun self x ⟨q0, q1, q2⟩ ih => ?_) _ _ ⟨rfl, Int.le_refl 0, by show (0 : Int) ≤ _; omega⟩ (by show ((c.progs.length : Int) - 0).toNat < _; have := h.ps; omega)) fun z hz => ?_
    rotate_left
    · obtain ⟨i, s, u⟩ := x
      simp only at q0 q1 q2
      subst q0
      refine Good.ite (fun hlt => ?_) fun _ => .some_ rfl
      have hin : 0 ≤ i ∧ i < ((c.progs.length : Nat) : Int) := ⟨q1, hlt⟩
      refine Good.guard (show 0 ≤ i ∧ i < (((clS c).2.2.2.2.2.2.2.2.2.1.length : Nat) : Int) from hin) fun _ => ?_
      have hm := h.pl _ (at_in (d := (dfR 18 : List Ins)) hin)
      have e1 : cloneIns (atK18 (clS c).2.2.2.2.2.2.2.2.2.1 i) = some ((atK18 c.progs i, ()), ()) := by
        unfold cloneIns; exact if_pos hm
      rw [e1, obind]
      refine Good.guard (show 0 ≤ i ∧ i < (((clS c).2.2.2.2.2.2.2.2.2.1.length : Nat) : Int) from hin) fun _ => ?_
      have e2 : wi (i + 1) = i + 1 := wi_id (rg_lit (by have := h.ps; omega))
      have e3 : c.progs.set i.toNat (atK18 c.progs i) = c.progs := set_sameP (atL_get hin)
      rw [e2]
      refine ih _ ⟨?_, by show 0 ≤ i + 1; omega, by show i + 1 ≤ _; omega⟩ (by show ((c.progs.length : Int) - (i + 1)).toNat < ((c.progs.length : Int) - i).toNat; omega)
      show (c.workers, c.levels, c.classes, c.tasks, c.deque, c.heap, c.batch, c.age, c.patience, c.progs.set i.toNat (atK18 c.progs i), c.subs, ()) = clS c
      rw [e3]; rfl
    · rw [hz]
      have e4 : cloneSubs (clS c).2.2.2.2.2.2.2.2.2.2.1 = some ((c.subs, ()), ()) := by unfold cloneSubs; exact if_pos h.ss
      rw [e4, obind]
      exact .some_ rfl
  obtain ⟨o, e, ho⟩ := hg
  rw [e]
  obtain ⟨⟨o1, ⟨⟩⟩, ⟨⟩⟩ := o
  simp only at ho
  rw [ho]
/-- The layout of a configuration. -/
def layV (c : Cfg) : LayV := { workers := c.workers, levels := c.levels, classes := c.classes, tasks := c.tasks, deque := c.deque, heap := c.heap, sleepers := 4 + c.heap, epochs := 4 + c.heap + c.classes, bitmaps := 4 + c.heap + c.classes + c.workers, queues := 4 + c.heap + c.classes + c.workers + c.workers, table := 4 + c.heap + c.classes + c.workers + c.workers + c.workers * c.levels * (2 + c.deque) }
def cellsN (c : Cfg) : Int := (layV c).table + 5 * c.tasks
theorem mulb {a b A B : Int} (ha : 0 ≤ a) (hA : a ≤ A) (hb : 0 ≤ b) (hB : b ≤ B) : 0 ≤ a * b ∧ a * b ≤ A * B :=
  ⟨Int.mul_nonneg ha hb, Int.le_trans (Int.mul_le_mul_of_nonneg_right hA hb) (Int.mul_le_mul_of_nonneg_left hB (Int.le_trans ha hA))⟩
theorem table_rg {c : Cfg} (h : numsOk c = true) : (0 ≤ c.workers * c.levels ∧ c.workers * c.levels ≤ 1024) ∧ (0 ≤ c.workers * c.levels * (2 + c.deque) ∧ c.workers * c.levels * (2 + c.deque) ≤ 67584) := by
  have hs := numsOk_spec h
  have h1 := mulb (a := c.workers) (b := c.levels) (A := 16) (B := 64) (by omega) (by omega) (by omega) (by omega)
  have h2 := mulb (a := c.workers * c.levels) (b := 2 + c.deque) (A := 1024) (B := 66) h1.1 (by omega) (by omega) (by omega)
  omega
theorem layout_eq {c : Cfg} (h : cfgErr c = 0) : layoutNew c = some ((layV c, 0, ()), ()) := by
  have hn := (valid_len h).1
  have hs := numsOk_spec hn
  have ht := table_rg hn
  unfold layoutNew cfgCheck
  rw [obind]
  have e0 : ¬ cfgErr c ≠ 0 := by omega
  simp only [if_neg e0]
  have e1 : wi (4 + c.heap) = 4 + c.heap := wi_id (rg_lit (by omega))
  have e2 : wi (4 + c.heap + c.classes) = 4 + c.heap + c.classes := wi_id (rg_lit (by omega))
  have e3 : wi (4 + c.heap + c.classes + c.workers) = 4 + c.heap + c.classes + c.workers := wi_id (rg_lit (by omega))
  have e4 : wi (4 + c.heap + c.classes + c.workers + c.workers) = 4 + c.heap + c.classes + c.workers + c.workers := wi_id (rg_lit (by omega))
  have e5 : wi (c.workers * c.levels) = c.workers * c.levels := wi_id (rg_lit (by omega))
  have e6 : wi (2 + c.deque) = 2 + c.deque := wi_id (rg_lit (by omega))
  have e7 : wi (c.workers * c.levels * (2 + c.deque)) = c.workers * c.levels * (2 + c.deque) := wi_id (rg_lit (by omega))
  have e8 : wi (4 + c.heap + c.classes + c.workers + c.workers + c.workers * c.levels * (2 + c.deque)) = 4 + c.heap + c.classes + c.workers + c.workers + c.workers * c.levels * (2 + c.deque) := wi_id (rg_lit (by omega))
  simp only [e1, e2, e3, e4, e5, e6, e7, e8]
  rfl
def rec0 : RecP := ⟨0, -1, 0, 0, -1, [], false⟩
/-- The environment behind New. -/
def envV (c : Cfg) : EnvP := ⟨c, layV c, ⟨List.replicate (cellsN c).toNat 0, ⟨0, 0, 0, 0⟩, 0⟩, ⟨0, 0⟩, List.replicate c.tasks.toNat rec0, []⟩
theorem new_eq {c : Cfg} (h : cfgErr c = 0) : machineNew c = some ((envV c, 0, ()), ()) := by
  have hn := (valid_len h).1
  have hs := numsOk_spec hn
  have ht := table_rg hn
  have hg : Good (machineNew c) fun o => o.1.1 = envV c ∧ o.1.2.1 = 0 := by
    unfold machineNew
    rw [layout_eq h, obind]
    refine Good.ite (fun e => absurd rfl e) fun _ => ?_
    have c1 : wi (5 * c.tasks) = 5 * c.tasks := wi_id (rg_lit (by omega))
    have c2 : wi ((layV c).table + 5 * c.tasks) = cellsN c := wi_id (rg_lit (by unfold layV; simp only; omega))
    have e1 : pCells (layV c) = some ((cellsN c, ()), ()) := by
      unfold pCells
      have : wi (5 * (layV c).tasks) = 5 * c.tasks := c1
      rw [this, c2]
    rw [e1, obind]
    have hc : 0 ≤ cellsN c ∧ cellsN c ≤ 131072 := by unfold cellsN layV; simp only; omega
    have e2 : machineBare (cellsN c) = some ((⟨⟨0, 0, 0, 0, 0, 0, 0, 0, 0, [], []⟩, ⟨0, 0, 0, 0, 0, 0, 0, 0, 0, 0, 0⟩, ⟨List.replicate (cellsN c).toNat 0, ⟨0, 0, 0, 0⟩, 0⟩, ⟨0, 0⟩, [], []⟩, ()), ()) := by
      unfold machineBare memoryNew clockNew
      have i1 : (if cellsN c < 0 then (0 : Int) else cellsN c) = cellsN c := if_neg (by omega)
      have i2 : (if 131072 < cellsN c then (131072 : Int) else cellsN c) = cellsN c := if_neg (by omega)
      have i3 : 0 ≤ cellsN c ∧ cellsN c ≤ 1099511627776 := by omega
      simp only [i1, i2, if_true, if_pos i3, obind]
    rw [e2, obind, clone_eq (.of h), obind]
    simp only [if_true]
    refine Good.bind (P := fun z => z.2.1 = envV c) (lp_good (fun x => 0 ≤ x.1 ∧ x.1 ≤ c.tasks ∧ x.2.1 = { envV c with recs := List.replicate x.1.toNat rec0 }) (fun x => (c.tasks - x.1).toNat) (fun self x ⟨q0, q1, q2⟩ ih => ?_) _ _ ⟨Int.le_refl 0, by show (0 : Int) ≤ _; omega, rfl⟩ (by show (c.tasks - 0).toNat < _; omega)) fun z hz => .some_ ⟨hz, rfl⟩
    obtain ⟨i, e, u⟩ := x
    simp only at q0 q1 q2
    subst q2
    refine Good.ite (fun hlt => ?_) fun hge => .some_ ?_
    · have hl : (List.replicate i.toNat rec0).length = i.toNat := List.length_replicate
      refine Good.guard ?_ fun _ => ?_
      · show (((List.replicate i.toNat rec0).length + 1 : Nat) : Int) < 100000000000
        rw [hl]
        have hlt' : i < c.tasks := hlt
        omega
      · have hlt' : i < c.tasks := hlt
        have e2 : wi (i + 1) = i + 1 := wi_id (rg_lit (by omega))
        rw [e2]
        refine ih _ ⟨by show 0 ≤ i + 1; omega, by show i + 1 ≤ _; omega, ?_⟩ (by show (c.tasks - (i + 1)).toNat < (c.tasks - i).toNat; omega)
        show ({ envV c with recs := List.replicate i.toNat rec0 ++ [rec0] } : EnvP) = { envV c with recs := List.replicate (i + 1).toNat rec0 }
        have e3 : (i + 1).toNat = i.toNat + 1 := by omega
        rw [e3, List.replicate_succ']
    · show ({ envV c with recs := List.replicate i.toNat rec0 } : EnvP) = envV c
      have : i = c.tasks := by have hge' : ¬ i < c.tasks := hge; omega
      rw [this]; rfl
  obtain ⟨o, e, ho1, ho2⟩ := hg
  rw [e]
  obtain ⟨⟨o1, o2, ⟨⟩⟩, ⟨⟩⟩ := o
  simp only at ho1 ho2
  rw [ho1, ho2]
end
section
open Go Go.RowKit
set_option maxRecDepth 100000
theorem wu_id {x : Int} (h : 0 ≤ x ∧ x ≤ 1000000000000) : wu x = x := by
  show IntKind.u64.wrap x = x
  simp only [IntKind.wrap, IntKind.bits, IntKind.signed]; simp; omega
/-- A cell. -/
abbrev cel (m : MemV) (a : Int) : Int := atK0 m.cells a
theorem cel_set {xs : List Int} {a b v : Int} (ha : 0 ≤ a) (hb : 0 ≤ b ∧ b < (xs.length : Int)) : atK0 (xs.set a.toNat v) b = if a = b then v else atK0 xs b := by
  show ((xs.set a.toNat v)[b.toNat]?).getD _ = if a = b then v else (xs[b.toNat]?).getD _
  rw [List.getElem?_set]
  by_cases h : a = b
  · subst h
    rw [if_pos rfl, if_pos rfl, if_pos (by omega)]; rfl
  · rw [if_neg (by omega), if_neg h]
theorem load_eq {m : MemV} {a : Int} (h : 0 ≤ a ∧ a < (m.cells.length : Int)) : Good (pLoad m a) fun o => o.1.1 = cel m a ∧ o.2.1.cells = m.cells := by
  unfold pLoad
  refine Good.ite (fun k => absurd k (by omega)) fun _ => Good.ite (fun k => absurd k (by omega)) fun _ => Good.guard h fun _ => Good.guard h fun _ => Good.guard ?_ fun _ => .some_ ⟨rfl, ?_⟩
  · rw [List.length_set]; exact h
  · exact set_sameP (atL_get h)
theorem store_eq {m : MemV} {a v : Int} (h : 0 ≤ a ∧ a < (m.cells.length : Int)) : Good (pStore m a v) fun o => o.2.1.cells = m.cells.set a.toNat v := by
  unfold pStore
  refine Good.ite (fun k => absurd k (by omega)) fun _ => Good.ite (fun k => absurd k (by omega)) fun _ => Good.guard h fun _ => Good.guard h fun _ => Good.guard ?_ fun _ => .some_ rfl
  rw [List.length_set]; exact h
theorem add_eq {m : MemV} {a v : Int} (h : 0 ≤ a ∧ a < (m.cells.length : Int)) : Good (pAdd m a v) fun o => o.1.1 = cel m a ∧ o.2.1.cells = m.cells.set a.toNat (wu (cel m a + v)) := by
  unfold pAdd
  refine Good.ite (fun k => absurd k (by omega)) fun _ => Good.ite (fun k => absurd k (by omega)) fun _ => Good.guard h fun _ => Good.guard h fun _ => Good.guard ?_ fun _ => .some_ ⟨rfl, rfl⟩
  rw [List.length_set]; exact h
theorem cas_eq {m : MemV} {a old v : Int} (h : 0 ≤ a ∧ a < (m.cells.length : Int)) (he : cel m a = old) : Good (pCAS m a old v) fun o => o.1.1 = true ∧ o.2.1.cells = m.cells.set a.toNat v := by
  unfold pCAS
  refine Good.ite (fun k => absurd k (by omega)) fun _ => Good.ite (fun k => absurd k (by omega)) fun _ => Good.guard h fun _ => Good.guard he fun _ => Good.guard h fun _ => Good.guard ?_ fun _ => .some_ ⟨decide_eq_true he, rfl⟩
  rw [List.length_set]; exact h
/-- What is asked of the configuration. -/
structure CfOk (c : Cfg) : Prop where
  v : cfgErr c = 0
  w : 1 ≤ c.workers ∧ c.workers ≤ 4
  l : 1 ≤ c.levels ∧ c.levels ≤ 4
  k : 1 ≤ c.classes ∧ c.classes ≤ 3
  t : 1 ≤ c.tasks ∧ c.tasks ≤ 12
  q : 1 ≤ c.deque ∧ c.deque ≤ 4
  h : 1 ≤ c.heap ∧ c.heap ≤ 8
  sn : c.subs.length ≤ 5
  ss : ∀ s ∈ c.subs, (0 ≤ s.level ∧ s.level < c.levels) ∧ 0 ≤ s.deadline ∧ s.deadline ≤ 15
def tab (c : Cfg) : Int := (layV c).table
theorem tab_rg {c : Cfg} (h : CfOk c) : 4 + c.heap + c.classes ≤ tab c ∧ tab c ≤ 100000 ∧ cellsN c = tab c + 5 * c.tasks := by
  have ht := table_rg (valid_len h.v).1
  have := h.w; have := h.k; have := h.h
  have e1 : tab c = 4 + c.heap + c.classes + c.workers + c.workers + c.workers * c.levels * (2 + c.deque) := rfl
  have e2 : cellsN c = tab c + 5 * c.tasks := rfl
  rw [e2, e1]
  generalize c.workers * c.levels * (2 + c.deque) = z at *
  omega
theorem task_ad {c : Cfg} (h : CfOk c) {t f : Int} (ht : 0 ≤ t ∧ t < c.tasks) (hf : 0 ≤ f ∧ f ≤ 4) : pTask (layV c) t f = some ((tab c + f + t * 5, ()), ()) := by
  have hr := tab_rg h
  have h1 := h.t
  have h2 := h.h
  have h3 := h.k
  have e1 : wi ((layV c).table + f) = tab c + f := wi_id (rg_lit (by show -1000000000000 ≤ tab c + f ∧ tab c + f ≤ _; omega))
  have e2 : wi (t * 5) = t * 5 := wi_id (rg_lit (by omega))
  have e3 : wi (tab c + f + t * 5) = tab c + f + t * 5 := wi_id (rg_lit (by omega))
  unfold pTask pAt
  rw [e1, e2, e3, if_neg (by omega), if_neg (show ¬ (layV c).tasks ≤ t by show ¬ c.tasks ≤ t; omega)]
  rfl
theorem slot_ad {c : Cfg} (h : CfOk c) {p : Int} (hp : 0 ≤ p ∧ p < c.heap) : pSlot (layV c) p = some ((4 + p, ()), ()) := by
  have h2 := h.h
  have e2 : wi (p * 1) = p := by rw [Int.mul_one]; exact wi_id (rg_lit (by omega))
  have e3 : wi (4 + p) = 4 + p := wi_id (rg_lit (by omega))
  unfold pSlot pAt
  rw [e2, e3, if_neg (by omega), if_neg (show ¬ (layV c).heap ≤ p by show ¬ c.heap ≤ p; omega)]
  rfl
theorem sleep_ad {c : Cfg} (h : CfOk c) {p : Int} (hp : 0 ≤ p ∧ p < c.classes) : pSleepers (layV c) p = some ((4 + c.heap + p, ()), ()) := by
  have h2 := h.h
  have h3 := h.k
  have e2 : wi (p * 1) = p := by rw [Int.mul_one]; exact wi_id (rg_lit (by omega))
  have e3 : wi ((layV c).sleepers + p) = 4 + c.heap + p := wi_id (rg_lit (by show -1000000000000 ≤ 4 + c.heap + p ∧ 4 + c.heap + p ≤ _; omega))
  unfold pSleepers pAt
  rw [e2, e3, if_neg (by omega), if_neg (show ¬ (layV c).classes ≤ p by show ¬ c.classes ≤ p; omega)]
  rfl
/-- How many are accepted. -/
def cap (c : Cfg) : Int := if c.heap ≤ c.tasks then c.heap else c.tasks
def acc (c : Cfg) (i : Int) : Int := if i ≤ cap c then i else cap c
theorem acc_sp (c : Cfg) (i : Int) : (acc c i ≤ i ∧ acc c i ≤ c.heap ∧ acc c i ≤ c.tasks) ∧ (acc c i < c.heap → acc c i < c.tasks → acc c i = i ∧ acc c (i + 1) = acc c i + 1) ∧ ((acc c i = c.heap ∨ acc c i = c.tasks) → acc c (i + 1) = acc c i) := by
  unfold acc cap
  split <;> split <;> split <;> omega
def evOf (c : Cfg) (i : Int) : Ev := if acc c i = c.heap then ⟨2, c.workers, 0, i, 1⟩ else if acc c i = c.tasks then ⟨2, c.workers, 0, i, 2⟩ else ⟨1, c.workers, acc c i, i, (atK4 c.subs i).level⟩
def evsOf (c : Cfg) (k : Nat) : List Ev := (List.range k).map fun (i : Nat) => evOf c (i : Int)
theorem evsOf_len (c : Cfg) (k : Nat) : (evsOf c k).length = k := by unfold evsOf; rw [List.length_map, List.length_range]
theorem evsOf_succ (c : Cfg) (k : Nat) : evsOf c (k + 1) = evsOf c k ++ [evOf c (k : Int)] := by unfold evsOf; rw [List.range_succ, List.map_append]; rfl
/-- What lies in the environment. -/
structure EOk (c : Cfg) (e : EnvP) : Prop where
  ec : e.c = c
  el : e.l = layV c
  en : (e.m.cells.length : Int) = cellsN c
  er : (e.recs.length : Int) = c.tasks
  es : ∀ s, 0 ≤ s ∧ s < c.classes → cel e.m (4 + c.heap + s) = 0
  kd : ∀ r ∈ e.recs, r.kids = []
def recOf (s : Sub) : RecP := ⟨s.prog, -1, 0, 0, -1, [], false⟩
structure TOk (c : Cfg) (e : EnvP) (t : Int) : Prop where
  st : cel e.m (tab c + 0 + t * 5) = 1
  lv : cel e.m (tab c + 1 + t * 5) = (atK4 c.subs t).level
  rc : atK26 e.recs t = recOf (atK4 c.subs t)
structure EB (c : Cfg) (e : EnvP) (k : Nat) (n : Int) : Prop where
  o : EOk c e
  ev : e.evs = evsOf c k
  ts : ∀ t, 0 ≤ t ∧ t < n → TOk c e t
/-- Another memory, that differs low (below the sleepers). -/
theorem EB.low {c : Cfg} {e : EnvP} {k : Nat} {n : Int} (hc : CfOk c) (h : EB c e k n) (hn : n ≤ c.tasks) {m : MemV} {a v : Int} (ha : 0 ≤ a ∧ a < 4 + c.heap) (hm : m.cells = e.m.cells.set a.toNat v) : EB c { e with m := m } k n := by
  have hr := tab_rg hc
  have := hc.k
  have := hc.t
  have := hc.h
  have hl := h.o.en
  have key : ∀ b, 4 + c.heap ≤ b ∧ b < cellsN c → cel m b = cel e.m b := fun b hb => by
    show atK0 m.cells b = _
    rw [hm, cel_set ha.1 (by omega), if_neg (by omega)]
  refine ⟨⟨h.o.ec, h.o.el, ?_, h.o.er, fun s hs => ?_, h.o.kd⟩, h.ev, fun t ht => ⟨?_, ?_, (h.ts t ht).rc⟩⟩
  · show (m.cells.length : Int) = _; rw [hm, List.length_set]; exact hl
  · exact (key _ (by omega)).trans (h.o.es s hs)
  · exact (key _ (by omega)).trans (h.ts t ht).st
  · exact (key _ (by omega)).trans (h.ts t ht).lv
/-- The same cells. -/
theorem EB.same {c : Cfg} {e : EnvP} {k : Nat} {n : Int} (h : EB c e k n) {m : MemV} (hm : m.cells = e.m.cells) : EB c { e with m := m } k n := by
  have key : ∀ b, cel m b = cel e.m b := fun b => by show atK0 m.cells b = _; rw [hm]
  exact ⟨⟨h.o.ec, h.o.el, by show (m.cells.length : Int) = _; rw [hm]; exact h.o.en, h.o.er, fun s hs => (key _).trans (h.o.es s hs), h.o.kd⟩, h.ev, fun t ht => ⟨(key _).trans (h.ts t ht).st, (key _).trans (h.ts t ht).lv, (h.ts t ht).rc⟩⟩
/-- A cell of a task that is not among the first n. -/
theorem EB.high {c : Cfg} {e : EnvP} {k : Nat} {n : Int} (hc : CfOk c) (h : EB c e k n) {m : MemV} {t f v : Int} (ht : n ≤ t ∧ t < c.tasks) (h0 : 0 ≤ n) (hf : 0 ≤ f ∧ f ≤ 4) (hm : m.cells = e.m.cells.set (tab c + f + t * 5).toNat v) : EB c { e with m := m } k n := by
  have hr := tab_rg hc
  have := hc.k
  have := hc.h
  have hl := h.o.en
  have key : ∀ b, 0 ≤ b ∧ b < cellsN c → b ≠ tab c + f + t * 5 → cel m b = cel e.m b := fun b hb hne => by
    show atK0 m.cells b = _
    rw [hm, cel_set (by omega) (by omega), if_neg (by omega)]
  refine ⟨⟨h.o.ec, h.o.el, ?_, h.o.er, fun s hs => ?_, h.o.kd⟩, h.ev, fun u hu => ⟨?_, ?_, (h.ts u hu).rc⟩⟩
  · show (m.cells.length : Int) = _; rw [hm, List.length_set]; exact hl
  · exact (key _ (by omega) (by omega)).trans (h.o.es s hs)
  · exact (key _ (by omega) (by omega)).trans (h.ts u hu).st
  · exact (key _ (by omega) (by omega)).trans (h.ts u hu).lv
end
section
open Go Go.RowKit
set_option maxRecDepth 100000
abbrev o0 : OutV := ⟨false, 0, 0⟩
def Mem (e : EnvP) (P : MemV → Prop) (f : EnvP) : Prop := ∃ m, f = { e with m := m } ∧ P m
theorem low_in {c : Cfg} {e : EnvP} (hc : CfOk c) (h : EOk c e) {a : Int} (ha : 0 ≤ a ∧ a < 4 + c.heap + c.classes) : 0 ≤ a ∧ a < (e.m.cells.length : Int) := by
  have := tab_rg hc; have := h.en; have := hc.t; omega
theorem task_in {c : Cfg} {e : EnvP} (hc : CfOk c) (h : EOk c e) {t f : Int} (ht : 0 ≤ t ∧ t < c.tasks) (hf : 0 ≤ f ∧ f ≤ 4) : 0 ≤ tab c + f + t * 5 ∧ tab c + f + t * 5 < (e.m.cells.length : Int) := by
  have := tab_rg hc; have := h.en; have := hc.h; have := hc.k; omega
theorem attempt_ok {c : Cfg} {e : EnvP} (hc : CfOk c) (h : EOk c e) {w : Int} (h0 : cel e.m 1 = 0) : Good (stepD3 (.attempt ⟨o0, w, false⟩) e) fun o => o.1.1 = true ∧ o.2.1 = .attempt ⟨⟨true, 1, 0⟩, w, false⟩ ∧ Mem e (fun m => m.cells = e.m.cells.set 1 (wu (wi (w + 1)))) o.2.2.1 := by
  have hg : Good (lockAttemptStep ⟨o0, w, false⟩ e) fun o => o.1.1 = true ∧ o.2.1 = ⟨⟨true, 1, 0⟩, w, false⟩ ∧ Mem e (fun m => m.cells = e.m.cells.set 1 (wu (wi (w + 1)))) o.2.2.1 := by
    unfold lockAttemptStep pEnded pLock
    simp only [obind, if_true]
    refine Good.ite (fun k => absurd k (by decide)) fun _ => (cas_eq (low_in hc h (by have := hc.h; have := hc.k; omega)) h0).bind fun r ⟨r1, r2⟩ => Good.guard r1 fun _ => ?_
    exact .some_ ⟨rfl, rfl, _, rfl, r2⟩
  exact hg.bind fun o ⟨h1, h2, h3⟩ => .some_ ⟨h1, congrArg MV.attempt h2, h3⟩
theorem release_ok {c : Cfg} {e : EnvP} (hc : CfOk c) (h : EOk c e) : Good (stepD3 (.release ⟨o0⟩) e) fun o => o.1.1 = true ∧ o.2.1 = .release ⟨⟨true, 0, 0⟩⟩ ∧ Mem e (fun m => m.cells = e.m.cells.set 1 0) o.2.2.1 := by
  have hg : Good (lockReleaseStep ⟨o0⟩ e) fun o => o.1.1 = true ∧ o.2.1 = ⟨⟨true, 0, 0⟩⟩ ∧ Mem e (fun m => m.cells = e.m.cells.set 1 0) o.2.2.1 := by
    unfold lockReleaseStep pEnded pLock
    simp only [obind]
    refine Good.ite (fun k => absurd k (by decide)) fun _ => (store_eq (low_in hc h (by have := hc.h; have := hc.k; omega))).bind fun r r2 => ?_
    exact .some_ ⟨rfl, rfl, _, rfl, r2⟩
  exact hg.bind fun o ⟨h1, h2, h3⟩ => .some_ ⟨h1, congrArg MV.release h2, h3⟩
theorem alloc_ok {c : Cfg} {e : EnvP} (hc : CfOk c) (h : EOk c e) {nx : Int} (h0 : cel e.m 0 = nx) (hn : 0 ≤ nx ∧ nx ≤ 1000) : Good (stepD3 (.alloc ⟨o0⟩) e) fun o => o.1.1 = true ∧ o.2.1 = .alloc ⟨if nx < c.tasks then ⟨true, 1, nx⟩ else ⟨true, 3, 0⟩⟩ ∧ Mem e (fun m => m.cells = e.m.cells.set 0 (nx + 1)) o.2.2.1 := by
  obtain ⟨ec, el, m0, k0, r0, v0⟩ := e
  obtain rfl : ec = c := h.ec
  obtain rfl : el = layV ec := h.el
  have hg : Good (tableAllocateStep ⟨o0⟩ ⟨ec, layV ec, m0, k0, r0, v0⟩) fun o => o.1.1 = true ∧ o.2.1 = ⟨if nx < ec.tasks then ⟨true, 1, nx⟩ else ⟨true, 3, 0⟩⟩ ∧ Mem ⟨ec, layV ec, m0, k0, r0, v0⟩ (fun m => m.cells = m0.cells.set 0 (nx + 1)) o.2.2.1 := by
    unfold tableAllocateStep pEnded pNext
    simp only [obind]
    refine Good.ite (fun k => absurd k (by decide)) fun _ => (add_eq (low_in hc h (by have := hc.h; have := hc.k; omega))).bind fun r ⟨r1, r2⟩ => ?_
    have e1 : wi r.1.1 = nx := by rw [r1, h0]; exact wi_id (rg_lit (by omega))
    have e2 : wu (cel m0 0 + 1) = nx + 1 := by rw [h0]; exact wu_id (by omega)
    rw [e2] at r2
    unfold tableIsTask
    rw [e1, if_pos hn.1, obind]
    by_cases ht : nx < ec.tasks
    · refine Good.ite (fun k => ?_) fun _ => ?_
      · rw [decide_eq_true ht] at k; cases k
      · rw [if_pos ht]; exact .some_ ⟨rfl, rfl, _, rfl, r2⟩
    · refine Good.guard ?_ fun _ => ?_
      · rw [decide_eq_false ht]; rfl
      · rw [if_neg ht]; exact .some_ ⟨rfl, rfl, _, rfl, r2⟩
  exact hg.bind fun o ⟨h1, h2, h3⟩ => .some_ ⟨h1, congrArg MV.alloc h2, h3⟩
/-- The wake machine finds no sleeper. -/
theorem wake_step {c : Cfg} {e : EnvP} (hc : CfOk c) (h : EOk c e) {w lv j : Int} (hj : 0 ≤ j ∧ j < c.classes) :
    Good (stepD3 (.wake ⟨o0, w, lv, 1, j, 0⟩) e) fun o => (if j + 1 < c.classes then o.1.1 = false ∧ o.2.1 = .wake ⟨o0, w, lv, 1, j + 1, 0⟩ else o.1.1 = true ∧ o.2.1 = .wake ⟨⟨true, 2, 0⟩, w, lv, 1, j + 1, 0⟩) ∧ Mem e (fun m => m.cells = e.m.cells) o.2.2.1 := by
  obtain ⟨ec, el, m0, k0, r0, v0⟩ := e
  obtain rfl : ec = c := h.ec
  obtain rfl : el = layV ec := h.el
  have hk := hc.k
  have hg : Good (parkWakeStep ⟨o0, w, lv, 1, j, 0⟩ ⟨ec, layV ec, m0, k0, r0, v0⟩) fun o => (if j + 1 < ec.classes then o.1.1 = false ∧ o.2.1 = ⟨o0, w, lv, 1, j + 1, 0⟩ else o.1.1 = true ∧ o.2.1 = ⟨⟨true, 2, 0⟩, w, lv, 1, j + 1, 0⟩) ∧ Mem ⟨ec, layV ec, m0, k0, r0, v0⟩ (fun m => m.cells = m0.cells) o.2.2.1 := by
    unfold parkWakeStep pEnded
    simp only [obind, if_true]
    refine Good.ite (fun k => absurd k (by decide)) fun _ => ?_
    refine Good.bind (P := fun z => z.1 = 0 ∧ ∃ m, z.2.1 = ⟨ec, layV ec, m, k0, r0, v0⟩ ∧ m.cells = m0.cells) ?_ fun z hz => ?_
    · refine Good.ite (fun k => absurd k (by omega)) fun _ => ?_
      refine Good.bind (P := fun _ => True) ?_ fun r3 _ => ?_
      · unfold pClass
        refine Good.ite (fun _ => .some_ trivial) fun _ => Good.ite (fun _ => .some_ trivial) fun _ => Good.ite (fun _ => .some_ trivial) fun _ => Good.ite (fun _ => .some_ trivial) fun _ => Good.ite (fun _ => .some_ trivial) fun _ => Good.ite (fun _ => .some_ trivial) fun _ => Good.guard (show ec.levels ≠ 0 by have := hc.l; omega) fun _ => .some_ trivial
      refine Good.bind (P := fun r => 0 ≤ r.1.1 ∧ r.1.1 < ec.classes) ?_ fun r4 h4 => ?_
      · unfold pMod
        refine Good.ite (fun k => absurd k (by omega)) fun _ => Good.guard (by omega) fun _ => ?_
        have hm1 : Int.tmod (wi (r3.1.1 + j)) ec.classes < ec.classes := Int.tmod_lt_of_pos _ (by omega)
        have hm2 : -ec.classes < Int.tmod (wi (r3.1.1 + j)) ec.classes := by
          have := Int.lt_tmod_of_pos (wi (r3.1.1 + j)) (show 0 < ec.classes by omega)
          exact this
        refine Good.ite (fun k => .some_ ?_) fun k => .some_ ⟨Int.not_lt.1 k, hm1⟩
        show 0 ≤ wi (_ + ec.classes) ∧ wi (_ + ec.classes) < ec.classes
        rw [wi_id (rg_lit (by omega))]; omega
      · rw [sleep_ad hc h4, obind]
        dsimp only
        obtain ⟨h41, h42⟩ := h4
        refine (load_eq (low_in hc h (by have := hc.h; omega))).bind fun r ⟨r1, r2⟩ => .some_ ⟨?_, _, rfl, r2⟩
        exact r1.trans (h.es _ ⟨h41, h42⟩)
    · obtain ⟨v, e', u⟩ := z
      obtain ⟨hz1, m, hz2, hz3⟩ := hz
      simp only at hz1 hz2
      subst hz1; subst hz2
      have e1 : wi (j + 1) = j + 1 := wi_id (rg_lit (by omega))
      refine Good.ite (fun k => absurd rfl k) fun _ => ?_
      simp only [e1]
      by_cases hlt : j + 1 < ec.classes
      · refine Good.ite (fun k => absurd k (by omega)) fun _ => .some_ ⟨?_, m, rfl, hz3⟩
        rw [if_pos hlt]; exact ⟨rfl, rfl⟩
      · refine Good.guard (by omega) fun _ => ?_
        refine .some_ ⟨?_, m, rfl, hz3⟩
        rw [if_neg hlt]; exact ⟨rfl, rfl⟩
  refine hg.bind fun o ⟨h1, h3⟩ => .some_ ⟨?_, h3⟩
  by_cases hlt : j + 1 < ec.classes
  · rw [if_pos hlt] at h1 ⊢; exact ⟨h1.1, congrArg MV.wake h1.2⟩
  · rw [if_neg hlt] at h1 ⊢; exact ⟨h1.1, congrArg MV.wake h1.2⟩
/-- The insertion's lines. -/
abbrev IV (d t L n p k x : Int) : MV := .insert ⟨o0, d, t, L, n, p, k, x⟩
def InsP (d t : Int) (e : EnvP) (n : Int) (L p k x : Int) (P : MemV → Prop) (o : (Bool × Unit) × (MV × EnvP × Unit)) : Prop := o.1.1 = false ∧ o.2.1 = IV d t L n p k x ∧ Mem e P o.2.2.1
theorem ins1 {c : Cfg} {e : EnvP} (hc : CfOk c) (h : EOk c e) {d t : Int} {n : Int} (h0 : cel e.m 2 = n) (hn : 0 ≤ n ∧ n < c.heap) : Good (stepD3 (IV d t 1 0 0 0 0) e) (InsP d t e n 2 0 0 0 fun m => m.cells = e.m.cells) := by
  obtain ⟨ec, el, m0, k0, r0, v0⟩ := e
  obtain rfl : ec = c := h.ec
  obtain rfl : el = layV ec := h.el
  have hh := hc.h
  have hg : Good (injectorInsertStep ⟨o0, d, t, 1, 0, 0, 0, 0⟩ ⟨ec, layV ec, m0, k0, r0, v0⟩) fun o => o.1.1 = false ∧ o.2.1 = ⟨o0, d, t, 2, n, 0, 0, 0⟩ ∧ Mem ⟨ec, layV ec, m0, k0, r0, v0⟩ (fun m => m.cells = m0.cells) o.2.2.1 := by
    unfold injectorInsertStep pEnded pLSize
    simp only [obind, if_true]
    refine Good.ite (fun k => absurd k (by decide)) fun _ => ?_
    refine (load_eq (low_in hc h (by have := hc.k; omega))).bind fun r ⟨r1, r2⟩ => ?_
    have e1 : wi r.1.1 = n := by rw [r1, h0]; exact wi_id (rg_lit (by omega))
    rw [e1]
    exact Good.ite (fun k => absurd k (by omega)) fun _ => .some_ ⟨rfl, rfl, _, rfl, r2⟩
  exact hg.bind fun o ⟨h1, h2, h3⟩ => .some_ ⟨h1, congrArg MV.insert h2, h3⟩
theorem ins2 {c : Cfg} {e : EnvP} (hc : CfOk c) (h : EOk c e) {d t : Int} {n ar : Int} (h0 : cel e.m 3 = ar) (hn : 0 ≤ n ∧ n < c.heap) (ha : 0 ≤ ar ∧ ar ≤ 1000) (hd : 0 ≤ d ∧ d ≤ 1000) (ht : 0 ≤ t ∧ t ≤ 1000) : Good (stepD3 (IV d t 2 n 0 0 0) e) fun o => ∃ k, InsP d t e n (if 0 < n then 3 else 5) n k 0 (fun m => m.cells = e.m.cells.set 3 (ar + 1)) o := by
  obtain ⟨ec, el, m0, k0, r0, v0⟩ := e
  obtain rfl : ec = c := h.ec
  obtain rfl : el = layV ec := h.el
  have hh := hc.h
  have hg : Good (injectorInsertStep ⟨o0, d, t, 2, n, 0, 0, 0⟩ ⟨ec, layV ec, m0, k0, r0, v0⟩) fun o => ∃ k, o.1.1 = false ∧ o.2.1 = ⟨o0, d, t, if 0 < n then 3 else 5, n, n, k, 0⟩ ∧ Mem ⟨ec, layV ec, m0, k0, r0, v0⟩ (fun m => m.cells = m0.cells.set 3 (ar + 1)) o.2.2.1 := by
    unfold injectorInsertStep pEnded pArrival
    simp only [obind, if_true]
    refine Good.ite (fun k => absurd k (by decide)) fun _ => Good.ite (fun k => absurd k (by decide)) fun _ => ?_
    refine (add_eq (low_in hc h (by have := hc.k; omega))).bind fun r ⟨r1, r2⟩ => ?_
    have e1 : wi r.1.1 = ar := by rw [r1, h0]; exact wi_id (rg_lit (by omega))
    have e2 : wu (cel m0 3 + 1) = ar + 1 := by rw [h0]; exact wu_id (by omega)
    rw [e2] at r2
    rw [e1]
    refine Good.bind (P := fun o => o.1.2.1 = true) ?_ fun q hq => ?_
    · unfold pPack
      exact Good.ite (fun k => absurd k (by omega)) fun _ => Good.ite (fun k => absurd k (by omega)) fun _ => Good.ite (fun k => absurd k (by omega)) fun _ => Good.ite (fun k => absurd k (by omega)) fun _ => Good.ite (fun k => absurd k (by omega)) fun _ => Good.ite (fun k => absurd k (by omega)) fun _ => .some_ rfl
    · refine Good.ite (fun k => by rw [hq] at k; cases k) fun _ => ?_
      unfold injectorInsertPlace
      by_cases hp : 0 < n
      · refine Good.bind (P := fun r => r = ((3, ()), (⟨o0, d, t, 2, n, n, q.1.1, 0⟩, ()))) ⟨_, if_pos hp, rfl⟩ fun r hr => ?_
        subst hr
        refine .some_ ⟨q.1.1, rfl, ?_, _, rfl, r2⟩
        rw [if_pos hp]
      · refine Good.bind (P := fun r => r = ((5, ()), (⟨o0, d, t, 2, n, n, q.1.1, 0⟩, ()))) ⟨_, if_neg hp, rfl⟩ fun r hr => ?_
        subst hr
        refine .some_ ⟨q.1.1, rfl, ?_, _, rfl, r2⟩
        rw [if_neg hp]
  exact hg.bind fun o ⟨k, h1, h2, h3⟩ => .some_ ⟨k, h1, congrArg MV.insert h2, h3⟩
theorem par_id {p : Int} (h : 0 < p ∧ p ≤ 8) : wi (Int.tdiv (wi (p - 1)) 2) = (p - 1) / 2 := by
  rw [wi_id (rg_lit (x := p - 1) (by omega)), Int.tdiv_eq_ediv_of_nonneg (by omega)]
  exact wi_id (rg_lit (by omega))
theorem ins3 {c : Cfg} {e : EnvP} (hc : CfOk c) (h : EOk c e) {d t n p k x : Int} (hp : 0 < p ∧ p < c.heap) : Good (stepD3 (IV d t 3 n p k x) e) fun o => ∃ L y, (L = 4 ∨ L = 5) ∧ InsP d t e n L p k y (fun m => m.cells = e.m.cells) o := by
  obtain ⟨ec, el, m0, k0, r0, v0⟩ := e
  obtain rfl : ec = c := h.ec
  obtain rfl : el = layV ec := h.el
  have hh := hc.h
  have hg : Good (injectorInsertStep ⟨o0, d, t, 3, n, p, k, x⟩ ⟨ec, layV ec, m0, k0, r0, v0⟩) fun o => ∃ L y, (L = 4 ∨ L = 5) ∧ o.1.1 = false ∧ o.2.1 = ⟨o0, d, t, L, n, p, k, y⟩ ∧ Mem ⟨ec, layV ec, m0, k0, r0, v0⟩ (fun m => m.cells = m0.cells) o.2.2.1 := by
    unfold injectorInsertStep pEnded
    simp only [obind, if_true]
    refine Good.ite (fun k => absurd k (by decide)) fun _ => Good.ite (fun k => absurd k (by decide)) fun _ => Good.ite (fun k => absurd k (by decide)) fun _ => ?_
    rw [par_id (by omega), slot_ad hc (by omega), obind]
    dsimp only
    refine (load_eq (low_in hc h (by have := hc.k; omega))).bind fun r ⟨r1, r2⟩ => ?_
    exact Good.ite (fun _ => .some_ ⟨4, _, .inl rfl, rfl, rfl, _, rfl, r2⟩) fun _ => .some_ ⟨5, _, .inr rfl, rfl, rfl, _, rfl, r2⟩
  exact hg.bind fun o ⟨L, y, h0, h1, h2, h3⟩ => .some_ ⟨L, y, h0, h1, congrArg MV.insert h2, h3⟩
theorem ins4 {c : Cfg} {e : EnvP} (hc : CfOk c) (h : EOk c e) {d t n p k x : Int} (hp : 0 < p ∧ p < c.heap) : Good (stepD3 (IV d t 4 n p k x) e) (InsP d t e n (if 0 < (p - 1) / 2 then 3 else 5) ((p - 1) / 2) k x fun m => m.cells = e.m.cells.set (4 + p).toNat x) := by
  obtain ⟨ec, el, m0, k0, r0, v0⟩ := e
  obtain rfl : ec = c := h.ec
  obtain rfl : el = layV ec := h.el
  have hh := hc.h
  have hg : Good (injectorInsertStep ⟨o0, d, t, 4, n, p, k, x⟩ ⟨ec, layV ec, m0, k0, r0, v0⟩) fun o => o.1.1 = false ∧ o.2.1 = ⟨o0, d, t, if 0 < (p - 1) / 2 then 3 else 5, n, (p - 1) / 2, k, x⟩ ∧ Mem ⟨ec, layV ec, m0, k0, r0, v0⟩ (fun m => m.cells = m0.cells.set (4 + p).toNat x) o.2.2.1 := by
    unfold injectorInsertStep pEnded
    simp only [obind, if_true]
    refine Good.ite (fun k => absurd k (by decide)) fun _ => Good.ite (fun k => absurd k (by decide)) fun _ => Good.ite (fun k => absurd k (by decide)) fun _ => Good.ite (fun k => absurd k (by decide)) fun _ => ?_
    rw [slot_ad hc (by omega), obind]
    dsimp only
    refine (store_eq (low_in hc h (by have := hc.k; omega))).bind fun r r2 => ?_
    rw [par_id (by omega)]
    unfold injectorInsertPlace
    by_cases hq : 0 < (p - 1) / 2
    · refine Good.bind (P := fun r => r = ((3, ()), (⟨o0, d, t, 4, n, (p - 1) / 2, k, x⟩, ()))) ⟨_, if_pos hq, rfl⟩ fun r hr => ?_
      subst hr
      refine .some_ ⟨rfl, ?_, _, rfl, r2⟩
      rw [if_pos hq]
    · refine Good.bind (P := fun r => r = ((5, ()), (⟨o0, d, t, 4, n, (p - 1) / 2, k, x⟩, ()))) ⟨_, if_neg hq, rfl⟩ fun r hr => ?_
      subst hr
      refine .some_ ⟨rfl, ?_, _, rfl, r2⟩
      rw [if_neg hq]
  exact hg.bind fun o ⟨h1, h2, h3⟩ => .some_ ⟨h1, congrArg MV.insert h2, h3⟩
theorem ins5 {c : Cfg} {e : EnvP} (hc : CfOk c) (h : EOk c e) {d t n p k x : Int} (hp : 0 ≤ p ∧ p < c.heap) : Good (stepD3 (IV d t 5 n p k x) e) (InsP d t e n 6 p k x fun m => m.cells = e.m.cells.set (4 + p).toNat k) := by
  obtain ⟨ec, el, m0, k0, r0, v0⟩ := e
  obtain rfl : ec = c := h.ec
  obtain rfl : el = layV ec := h.el
  have hh := hc.h
  have hg : Good (injectorInsertStep ⟨o0, d, t, 5, n, p, k, x⟩ ⟨ec, layV ec, m0, k0, r0, v0⟩) fun o => o.1.1 = false ∧ o.2.1 = ⟨o0, d, t, 6, n, p, k, x⟩ ∧ Mem ⟨ec, layV ec, m0, k0, r0, v0⟩ (fun m => m.cells = m0.cells.set (4 + p).toNat k) o.2.2.1 := by
    unfold injectorInsertStep pEnded
    simp only [obind, if_true]
    refine Good.ite (fun k => absurd k (by decide)) fun _ => Good.ite (fun k => absurd k (by decide)) fun _ => Good.ite (fun k => absurd k (by decide)) fun _ => Good.ite (fun k => absurd k (by decide)) fun _ => Good.ite (fun k => absurd k (by decide)) fun _ => ?_
    rw [slot_ad hc (by omega), obind]
    dsimp only
    exact (store_eq (low_in hc h (by have := hc.k; omega))).bind fun r r2 => .some_ ⟨rfl, rfl, _, rfl, r2⟩
  exact hg.bind fun o ⟨h1, h2, h3⟩ => .some_ ⟨h1, congrArg MV.insert h2, h3⟩
theorem ins6 {c : Cfg} {e : EnvP} (hc : CfOk c) (h : EOk c e) {d t n p k x : Int} (hn : 0 ≤ n ∧ n < c.heap) : Good (stepD3 (IV d t 6 n p k x) e) fun o => o.1.1 = true ∧ o.2.1 = .insert ⟨⟨true, 0, 0⟩, d, t, 6, n, p, k, x⟩ ∧ Mem e (fun m => m.cells = e.m.cells.set 2 (n + 1)) o.2.2.1 := by
  obtain ⟨ec, el, m0, k0, r0, v0⟩ := e
  obtain rfl : ec = c := h.ec
  obtain rfl : el = layV ec := h.el
  have hh := hc.h
  have hg : Good (injectorInsertStep ⟨o0, d, t, 6, n, p, k, x⟩ ⟨ec, layV ec, m0, k0, r0, v0⟩) fun o => o.1.1 = true ∧ o.2.1 = ⟨⟨true, 0, 0⟩, d, t, 6, n, p, k, x⟩ ∧ Mem ⟨ec, layV ec, m0, k0, r0, v0⟩ (fun m => m.cells = m0.cells.set 2 (n + 1)) o.2.2.1 := by
    unfold injectorInsertStep pEnded pLSize
    simp only [obind, if_true]
    refine Good.ite (fun k => absurd k (by decide)) fun _ => Good.ite (fun k => absurd k (by decide)) fun _ => Good.ite (fun k => absurd k (by decide)) fun _ => Good.ite (fun k => absurd k (by decide)) fun _ => Good.ite (fun k => absurd k (by decide)) fun _ => Good.ite (fun k => absurd k (by decide)) fun _ => ?_
    have e1 : wu (wi (n + 1)) = n + 1 := by rw [wi_id (rg_lit (by omega))]; exact wu_id (by omega)
    rw [e1]
    exact (store_eq (low_in hc h (by have := hc.k; omega))).bind fun r r2 => .some_ ⟨rfl, rfl, _, rfl, r2⟩
  exact hg.bind fun o ⟨h1, h2, h3⟩ => .some_ ⟨h1, congrArg MV.insert h2, h3⟩
end
section
open Go Go.RowKit
set_option maxRecDepth 100000
abbrev C5 (c : Cfg) (k : Nat) (L : Int) (m : MV) (f : Bool) (id : Int) (a : Bool) : ClientV MV := ⟨c.subs, c.workers, (k : Int), L, m, f, id, a⟩
theorem k_in {c : Cfg} {k : Nat} (hk : k < c.subs.length) : 0 ≤ (k : Int) ∧ (k : Int) < ((c.subs.length : Nat) : Int) := by omega
abbrev machL (c : Cfg) (k : Nat) (id : Int) : List MV := [.attempt ⟨o0, c.workers, false⟩, .nil, .alloc ⟨o0⟩, .nil, .nil, .insert ⟨o0, (atK4 c.subs (k : Int)).deadline, id, 1, 0, 0, 0, 0⟩, .nil, .release ⟨o0⟩, .wake ⟨o0, c.workers, (atK4 c.subs (k : Int)).level, 1, 0, 0⟩]
theorem mach_gen {c : Cfg} {k : Nat} {L id : Int} {mm : MV} {f a : Bool} (hk : k < c.subs.length) : clientClientMachines (C5 c k L mm f id a) = if 0 ≤ wi (L - 1) ∧ wi (L - 1) < 9 then some ((atK28 (machL c k id) (wi (L - 1)), ()), (C5 c k L mm f id a, ())) else none := by
  have hi := k_in hk
  unfold clientClientMachines lockAcquire tableAllocate injectorInsert lockRelease parkWake
  simp only [if_true, obind, if_pos hi]
  rfl
theorem over_no {c : Cfg} {k : Nat} {L id : Int} {mm : MV} {f a : Bool} (hk : k < c.subs.length) : clientClientOver (C5 c k L mm f id a) = some ((false, ()), (C5 c k L mm f id a, ())) := by
  unfold clientClientOver
  rw [decide_eq_false (show ¬ ((c.subs.length : Nat) : Int) ≤ (k : Int) by omega)]
section
variable {c : Cfg} {k : Nat} {L id : Int} {a : Bool} {e : EnvP} {m : MV} {Q : Bool → ClientV MV → EnvP → Prop}
theorem step_acc (hk : k < c.subs.length) (hm : clientClientMachines (C5 c k L .nil true id a) = some ((.nil, ()), (C5 c k L .nil true id a, ()))) (h : Good (clientClientAccess (C5 c k L .nil false id a) e) fun o => Q o.1.1 o.2.1 o.2.2.1) : Good (clientClientStep (C5 c k L .nil true id a) e) fun o => Q o.1.1 o.2.1 o.2.2.1 := by
  unfold clientClientStep
  rw [over_no hk, obind]
  refine Good.ite (fun h => by cases h) fun _ => Good.guard rfl fun _ => ?_
  refine Good.bind (P := fun r => r = ((.nil, ()), (C5 c k L .nil true id a, ()))) ⟨_, hm, rfl⟩ fun r hr => ?_
  subst hr
  exact Good.guard rfl fun _ => h.bind fun o ho => .some_ ho
theorem step_mach (hk : k < c.subs.length) (hm : clientClientMachines (C5 c k L .nil true id a) = some ((m, ()), (C5 c k L .nil true id a, ()))) (hn : (SR1.spl m).isNone = false)
    (h : Good (stepD3 m e) fun o => (o.1.1 = false → Q false (C5 c k L o.2.1 false id a) o.2.2.1) ∧ (o.1.1 = true → Good (resultD3 o.2.1) fun r => Good (clientClientAfter (C5 c k L r.2.1 false id a) o.2.2.1 r.1.1 r.1.2.1) fun z => Q z.1.1 z.2.1 z.2.2.1)) :
    Good (clientClientStep (C5 c k L .nil true id a) e) fun o => Q o.1.1 o.2.1 o.2.2.1 := by
  unfold clientClientStep
  rw [over_no hk, obind]
  refine Good.ite (fun h => by cases h) fun _ => Good.guard rfl fun _ => ?_
  refine Good.bind (P := fun r => r = ((m, ()), (C5 c k L .nil true id a, ()))) ⟨_, hm, rfl⟩ fun r hr => ?_
  subst hr
  refine Good.ite (fun h => by rw [hn] at h; cases h) fun _ => h.bind fun o ⟨h1, h2⟩ => ?_
  refine Good.ite (fun hf => .some_ (h1 (by simpa using hf))) fun hf => ?_
  exact (h2 (by simpa using hf)).bind fun r hr => hr.bind fun z hz => .some_ hz
theorem step_in (hk : k < c.subs.length) (hn : (SR1.spl m).isNone = false)
    (h : Good (stepD3 m e) fun o => (o.1.1 = false → Q false (C5 c k L o.2.1 false id a) o.2.2.1) ∧ (o.1.1 = true → Good (resultD3 o.2.1) fun r => Good (clientClientAfter (C5 c k L r.2.1 false id a) o.2.2.1 r.1.1 r.1.2.1) fun z => Q z.1.1 z.2.1 z.2.2.1)) :
    Good (clientClientStep (C5 c k L m false id a) e) fun o => Q o.1.1 o.2.1 o.2.2.1 := by
  unfold clientClientStep
  rw [over_no hk, obind]
  refine Good.ite (fun h => by cases h) fun _ => Good.ite (fun h => by cases h) fun _ => ?_
  refine Good.ite (fun h => by rw [hn] at h; cases h) fun _ => h.bind fun o ⟨h1, h2⟩ => ?_
  refine Good.ite (fun hf => .some_ (h1 (by simpa using hf))) fun hf => ?_
  exact (h2 (by simpa using hf)).bind fun r hr => hr.bind fun z hz => .some_ hz
theorem after_go {y2 y3 : Int} {P : (Bool × Unit) × (ClientV MV × EnvP × Unit) → Prop} (hk : k < c.subs.length) (h1 : L ≠ 3) (h6 : L ≠ 6) (h8 : L ≠ 8) (h9 : L ≠ 9) (hp : P ((false, ()), (C5 c k (wi (L + 1)) .nil true id a, e, ()))) : Good (clientClientAfter (C5 c k L m false id a) e y2 y3) P := by
  unfold clientClientAfter
  refine Good.guard (k_in hk) fun _ => Good.guard rfl fun _ => Good.guard rfl fun _ => Good.guard rfl fun _ => Good.guard rfl fun _ => ?_
  refine Good.ite (fun h => absurd h h1) fun _ => Good.ite (fun h => absurd h h6) fun _ => Good.ite (fun h => absurd h h8) fun _ => Good.ite (fun h => absurd h h9) fun _ => ?_
  exact ⟨_, rfl, hp⟩
end
structure Nm (e : EnvP) (sz ar nx : Int) : Prop where
  sz : cel e.m 2 = sz
  ar : cel e.m 3 = ar
  nx : cel e.m 0 = nx
def NxOk (c : Cfg) (k nx : Int) : Prop := acc c k ≤ nx ∧ nx ≤ k ∧ (nx = acc c k ∨ acc c k = c.tasks)
def Fin (c : Cfg) (x : ClientV MV) (e : EnvP) : Prop := (x.subs = c.subs ∧ x.i = ((c.subs.length : Nat) : Int)) ∧ EB c e c.subs.length (acc c ((c.subs.length : Nat) : Int)) ∧ cel e.m 2 = acc c ((c.subs.length : Nat) : Int) ∧ cel e.m 1 = 0 ∧ x.inside = .nil
structure Ac (c : Cfg) (k : Nat) : Prop where
  s : k < c.subs.length
  h : (k : Int) < c.heap
  t : (k : Int) < c.tasks
def dp (p : Int) : Nat := if p ≤ 0 then 0 else if p ≤ 2 then 2 else if p ≤ 6 then 4 else 6
def rem (c : Cfg) (k r : Nat) : Nat := (c.subs.length - 1 - k) * 20 + r
inductive Inv (c : Cfg) : ClientV MV → EnvP → Nat → Prop
  | over {x : ClientV MV} {e : EnvP} (h : Fin c x e) : Inv c x e 1
  | l1 {k : Nat} {e : EnvP} {id nx : Int} (hk : k < c.subs.length) (hb : EB c e k (acc c k)) (hn : Nm e (acc c k) (acc c k) nx) (hx : NxOk c k nx) (h0 : cel e.m 1 = 0) : Inv c (C5 c k 1 .nil true id false) e (rem c k 20)
  | l1b {k : Nat} {e : EnvP} {id nx : Int} (hk : k < c.subs.length) (hb : EB c e k (acc c k)) (hn : Nm e (acc c k) (acc c k) nx) (hx : NxOk c k nx) (h0 : cel e.m 1 = 0) : Inv c (C5 c k 1 (.attempt ⟨o0, c.workers, false⟩) false id false) e (rem c k 20)
  | l2 {k : Nat} {e : EnvP} {id nx : Int} (hk : k < c.subs.length) (hb : EB c e k (acc c k)) (hn : Nm e (acc c k) (acc c k) nx) (hx : NxOk c k nx) : Inv c (C5 c k 2 .nil true id false) e (rem c k 19)
  | l3 {k : Nat} {e : EnvP} {id nx : Int} (hk : k < c.subs.length) (hh : acc c k < c.heap) (hb : EB c e k (acc c k)) (hn : Nm e (acc c k) (acc c k) nx) (hx : NxOk c k nx) : Inv c (C5 c k 3 .nil true id false) e (rem c k 18)
  | l4 {k : Nat} {e : EnvP} (ha : Ac c k) (hb : EB c e k k) (hn : Nm e k k (k + 1)) (hr : atK26 e.recs k = recOf (atK4 c.subs k)) : Inv c (C5 c k 4 .nil true k false) e (rem c k 17)
  | l5 {k : Nat} {e : EnvP} (ha : Ac c k) (hb : EB c e k k) (hn : Nm e k k (k + 1)) (hr : atK26 e.recs k = recOf (atK4 c.subs k)) (hl : cel e.m (tab c + 1 + k * 5) = (atK4 c.subs k).level) : Inv c (C5 c k 5 .nil true k false) e (rem c k 16)
  | l6 {k : Nat} {e : EnvP} (ha : Ac c k) (hb : EB c e k k) (hn : Nm e k k (k + 1)) (hr : atK26 e.recs k = recOf (atK4 c.subs k)) (hl : cel e.m (tab c + 1 + k * 5) = (atK4 c.subs k).level) : Inv c (C5 c k 6 .nil true k false) e (rem c k 15)
  | i2 {k : Nat} {e : EnvP} (ha : Ac c k) (hb : EB c e k k) (hn : Nm e k k (k + 1)) (hr : atK26 e.recs k = recOf (atK4 c.subs k)) (hl : cel e.m (tab c + 1 + k * 5) = (atK4 c.subs k).level) : Inv c (C5 c k 6 (IV (atK4 c.subs k).deadline k 2 k 0 0 0) false k false) e (rem c k 14)
  | i3 {k : Nat} {e : EnvP} {p y x : Int} (hp : 0 < p ∧ p ≤ k) (ha : Ac c k) (hb : EB c e k k) (hn : Nm e k (k + 1) (k + 1)) (hr : atK26 e.recs k = recOf (atK4 c.subs k)) (hl : cel e.m (tab c + 1 + k * 5) = (atK4 c.subs k).level) : Inv c (C5 c k 6 (IV (atK4 c.subs k).deadline k 3 k p y x) false k false) e (rem c k (7 + dp p))
  | i4 {k : Nat} {e : EnvP} {p y x : Int} (hp : 0 < p ∧ p ≤ k) (ha : Ac c k) (hb : EB c e k k) (hn : Nm e k (k + 1) (k + 1)) (hr : atK26 e.recs k = recOf (atK4 c.subs k)) (hl : cel e.m (tab c + 1 + k * 5) = (atK4 c.subs k).level) : Inv c (C5 c k 6 (IV (atK4 c.subs k).deadline k 4 k p y x) false k false) e (rem c k (6 + dp p))
  | i5 {k : Nat} {e : EnvP} {p y x : Int} (hp : 0 ≤ p ∧ p ≤ k) (ha : Ac c k) (hb : EB c e k k) (hn : Nm e k (k + 1) (k + 1)) (hr : atK26 e.recs k = recOf (atK4 c.subs k)) (hl : cel e.m (tab c + 1 + k * 5) = (atK4 c.subs k).level) : Inv c (C5 c k 6 (IV (atK4 c.subs k).deadline k 5 k p y x) false k false) e (rem c k 7)
  | i6 {k : Nat} {e : EnvP} {p y x : Int} (ha : Ac c k) (hb : EB c e k k) (hn : Nm e k (k + 1) (k + 1)) (hr : atK26 e.recs k = recOf (atK4 c.subs k)) (hl : cel e.m (tab c + 1 + k * 5) = (atK4 c.subs k).level) : Inv c (C5 c k 6 (IV (atK4 c.subs k).deadline k 6 k p y x) false k false) e (rem c k 6)
  | l7 {k : Nat} {e : EnvP} (ha : Ac c k) (hb : EB c e (k + 1) k) (hn : Nm e (k + 1) (k + 1) (k + 1)) (hr : atK26 e.recs k = recOf (atK4 c.subs k)) (hl : cel e.m (tab c + 1 + k * 5) = (atK4 c.subs k).level) : Inv c (C5 c k 7 .nil true k true) e (rem c k 5)
  | l8a {k : Nat} {e : EnvP} (ha : Ac c k) (hb : EB c e (k + 1) (k + 1)) (hn : Nm e (k + 1) (k + 1) (k + 1)) : Inv c (C5 c k 8 .nil true k true) e (rem c k 4)
  | l8r {k : Nat} {e : EnvP} {id nx : Int} (hk : k < c.subs.length) (hq : acc c (k + 1) = acc c k) (hb : EB c e (k + 1) (acc c k)) (hn : Nm e (acc c k) (acc c k) nx) (hx : NxOk c (k + 1) nx) : Inv c (C5 c k 8 .nil true id false) e (rem c k 4)
  | l9 {k : Nat} {e : EnvP} (ha : Ac c k) (hb : EB c e (k + 1) (k + 1)) (hn : Nm e (k + 1) (k + 1) (k + 1)) (h0 : cel e.m 1 = 0) : Inv c (C5 c k 9 .nil true k true) e (rem c k 3)
  | l9w {k : Nat} {e : EnvP} {j : Int} (hj : 1 ≤ j ∧ j < c.classes) (ha : Ac c k) (hb : EB c e (k + 1) (k + 1)) (hn : Nm e (k + 1) (k + 1) (k + 1)) (h0 : cel e.m 1 = 0) : Inv c (C5 c k 9 (.wake ⟨o0, c.workers, (atK4 c.subs k).level, 1, j, 0⟩) false k true) e (rem c k (3 - j.toNat))
def Out (c : Cfg) (μ : Nat) (d : Bool) (x : ClientV MV) (e : EnvP) : Prop := (d = true → Fin c x e) ∧ (d = false → ∃ μ', μ' < μ ∧ Inv c x e μ')
theorem Out.go {c : Cfg} {k r r' : Nat} {x : ClientV MV} {e : EnvP} (h : Inv c x e (rem c k r')) (hr : r' < r) : Out c (rem c k r) false x e := ⟨fun h => (by cases h), fun _ => ⟨_, by unfold rem; omega, h⟩⟩
theorem next_out {c : Cfg} {k : Nat} {L id : Int} {m : MV} {f a : Bool} {e : EnvP} {r : Nat} {nx : Int} (hk : k < c.subs.length) (hl : c.subs.length ≤ 5) (hr : 1 ≤ r) (hb : EB c e (k + 1) (acc c (k + 1))) (hn : Nm e (acc c (k + 1)) (acc c (k + 1)) nx) (hx : NxOk c (k + 1) nx) (h0 : cel e.m 1 = 0) :
    Good (clientClientNext (C5 c k L m f id a)) fun o => Out c (rem c k r) o.1.1 o.2.1 e := by
  have e1 : wi ((k : Int) + 1) = ((k + 1 : Nat) : Int) := by rw [wi_id (rg_lit (by omega))]; omega
  unfold clientClientNext clientClientTo clientClientOver
  simp only [obind, e1]
  refine .some_ ⟨fun hd => ?_, fun hd => ?_⟩
  · have hd' : ((c.subs.length : Nat) : Int) ≤ ((k + 1 : Nat) : Int) := of_decide_eq_true hd
    have hq : c.subs.length = k + 1 := by omega
    unfold Fin
    rw [hq]
    exact ⟨⟨rfl, rfl⟩, hb, hn.sz, h0, rfl⟩
  · have hd' : ¬ ((c.subs.length : Nat) : Int) ≤ ((k + 1 : Nat) : Int) := of_decide_eq_false hd
    exact ⟨_, by unfold rem; omega, Inv.l1 (k := k + 1) (by omega) hb hn hx h0⟩
theorem acc_ac {c : Cfg} {k : Nat} (h : Ac c k) : acc c k = k ∧ acc c ((k : Int) + 1) = (k : Int) + 1 := by
  have h1 := h.h; have h2 := h.t
  unfold acc cap
  split <;> split <;> split <;> omega
theorem Nm.upd {c : Cfg} {e : EnvP} (hc : CfOk c) (h : EOk c e) {m : MemV} {a v sz ar nx : Int} (hn : Nm e sz ar nx) (ha : 0 ≤ a) (hm : m.cells = e.m.cells.set a.toNat v) : Nm { e with m := m } (if a = 2 then v else sz) (if a = 3 then v else ar) (if a = 0 then v else nx) := by
  have key : ∀ b, 0 ≤ b ∧ b < 4 → cel m b = if a = b then v else cel e.m b := fun b hb => by
    show atK0 m.cells b = _
    rw [hm, cel_set ha (low_in hc h (by have := hc.h; have := hc.k; omega))]
  exact ⟨by rw [← hn.sz]; exact key 2 (by omega), by rw [← hn.ar]; exact key 3 (by omega), by rw [← hn.nx]; exact key 0 (by omega)⟩
theorem Nm.same {e : EnvP} {m : MemV} {sz ar nx : Int} (hn : Nm e sz ar nx) (hm : m.cells = e.m.cells) : Nm { e with m := m } sz ar nx := by
  have key : ∀ b, cel m b = cel e.m b := fun b => by show atK0 m.cells b = _; rw [hm]
  exact ⟨(key 2).trans hn.sz, (key 3).trans hn.ar, (key 0).trans hn.nx⟩
theorem cel_upd {c : Cfg} {e : EnvP} (h : EOk c e) {m : MemV} {a b v : Int} (ha : 0 ≤ a) (hb : 0 ≤ b ∧ b < cellsN c) (hm : m.cells = e.m.cells.set a.toNat v) : cel m b = if a = b then v else cel e.m b := by
  have := h.en
  show atK0 m.cells b = _
  rw [hm, cel_set ha (by omega)]
theorem cel_same {e : EnvP} {m : MemV} {b : Int} (hm : m.cells = e.m.cells) : cel m b = cel e.m b := by show atK0 m.cells b = _; rw [hm]
end
end Go.Proofs.Ytgiagoeoifgliaa
