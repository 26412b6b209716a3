/- ClientWaits, ClientAdmits in the evaluator's form. The program's environment made anew, at a valid configuration. The client alone: cells and addresses. The client alone: its inner machines, one step each. -/
import Derived.Test.YtgiagoeoifgliaaQxai
set_option linter.all false
namespace Go.Proofs.Ytgiagoeoifgliaa
section
open Go Go.RowKit
set_option maxRecDepth 100000
noncomputable def clientClientStep (y0 : (ClientV MV)) (y1 : EnvP) : Option ((Bool × Unit) × ((ClientV MV) × EnvP × Unit)) :=
 (clientClientOver y0).bind fun r1 =>
 if r1.1.1 = true then
  some ((true, ()), (r1.2.1, y1, ()))
 else
 if r1.2.1.fresh = true then
  (clientClientMachines r1.2.1).bind fun r2 =>
  if (SR1.spl r2.1.1).isNone = true then
   (clientClientAccess ({ r2.2.1 with inside := r2.1.1, fresh := false } : (ClientV MV)) y1).bind fun r3 =>
   some ((r3.1.1, ()), (r3.2.1, r3.2.2.1, ()))
  else
  (stepD3 r2.1.1 y1).bind fun r4 =>
  if (!r4.1.1) = true then
   some ((false, ()), (({ r2.2.1 with inside := r4.2.1, fresh := false } : (ClientV MV)), r4.2.2.1, ()))
  else
  (resultD3 r4.2.1).bind fun r5 =>
  (clientClientAfter ({ r2.2.1 with inside := r5.2.1, fresh := false } : (ClientV MV)) r4.2.2.1 r5.1.1 r5.1.2.1).bind fun r6 =>
  some ((r6.1.1, ()), (r6.2.1, r6.2.2.1, ()))
 else
 if (SR1.spl r1.2.1.inside).isNone = true then
  (clientClientAccess r1.2.1 y1).bind fun r7 =>
  some ((r7.1.1, ()), (r7.2.1, r7.2.2.1, ()))
 else
 (stepD3 r1.2.1.inside y1).bind fun r8 =>
 if (!r8.1.1) = true then
  some ((false, ()), (({ r1.2.1 with inside := r8.2.1 } : (ClientV MV)), r8.2.2.1, ()))
 else
 (resultD3 r8.2.1).bind fun r9 =>
 (clientClientAfter ({ r1.2.1 with inside := r9.2.1 } : (ClientV MV)) r8.2.2.1 r9.1.1 r9.1.2.1).bind fun r10 =>
 some ((r10.1.1, ()), (r10.2.1, r10.2.2.1, ()))
noncomputable abbrev clientClientStep_k : Con SR1 := ⟨12, [.ref 30, .ref 27], [.sh .b], fun x => clientClientStep x.1 x.2.1⟩
theorem clientClientStep_ok : CO Try.prog clientClientStep_k := co_fn mixed Try.func12 [clientClientOver_k, clientClientMachines_k, clientClientAccess_k, stepD3_k, resultD3_k, clientClientAfter_k] ⟨clientClientOver_ok, clientClientMachines_ok, clientClientAccess_ok, stepD3_ok, resultD3_ok, clientClientAfter_ok, trivial⟩ [] trivial (fun _ => []) [] fun x => by kernel_rfl
noncomputable def configClone (y0 : Cfg) : Option ((Cfg × Unit) × (Unit)) :=
 (cloneRows y0.progs).bind fun r1 =>
 (lpF (σ := Int × (Int × Int × Int × Int × Int × Int × Int × Int × Int × List (List Ins) × List Sub × Unit) × Unit) (β := Int × (Int × Int × Int × Int × Int × Int × Int × Int × Int × List (List Ins) × List Sub × Unit) × Unit) (fun self4 x2 =>
  if x2.1 < ((r1.1.1.length : Nat) : Int) then
   if 0 ≤ x2.1 ∧ x2.1 < ((x2.2.1.2.2.2.2.2.2.2.2.2.1.length : Nat) : Int) then
    (cloneIns (atK18 x2.2.1.2.2.2.2.2.2.2.2.2.1 x2.1)).bind fun r5 =>
    if 0 ≤ x2.1 ∧ x2.1 < ((x2.2.1.2.2.2.2.2.2.2.2.2.1.length : Nat) : Int) then
     self4 (wi (x2.1 + 1), (x2.2.1.1, x2.2.1.2.1, x2.2.1.2.2.1, x2.2.1.2.2.2.1, x2.2.1.2.2.2.2.1, x2.2.1.2.2.2.2.2.1, x2.2.1.2.2.2.2.2.2.1, x2.2.1.2.2.2.2.2.2.2.1, x2.2.1.2.2.2.2.2.2.2.2.1, x2.2.1.2.2.2.2.2.2.2.2.2.1.set x2.1.toNat r5.1.1, x2.2.1.2.2.2.2.2.2.2.2.2.2.1, ()), ())
    else none
   else none
  else
  some (x2.1, (x2.2.1.1, x2.2.1.2.1, x2.2.1.2.2.1, x2.2.1.2.2.2.1, x2.2.1.2.2.2.2.1, x2.2.1.2.2.2.2.2.1, x2.2.1.2.2.2.2.2.2.1, x2.2.1.2.2.2.2.2.2.2.1, x2.2.1.2.2.2.2.2.2.2.2.1, x2.2.1.2.2.2.2.2.2.2.2.2.1, x2.2.1.2.2.2.2.2.2.2.2.2.2.1, ()), ())
 ) 18446744073709551616 (0, (y0.workers, y0.levels, y0.classes, y0.tasks, y0.deque, y0.heap, y0.batch, y0.age, y0.patience, r1.1.1, y0.subs, ()), ())).bind fun z3 =>
 (cloneSubs z3.2.1.2.2.2.2.2.2.2.2.2.2.1).bind fun r6 =>
 some (((⟨z3.2.1.1, z3.2.1.2.1, z3.2.1.2.2.1, z3.2.1.2.2.2.1, z3.2.1.2.2.2.2.1, z3.2.1.2.2.2.2.2.1, z3.2.1.2.2.2.2.2.2.1, z3.2.1.2.2.2.2.2.2.2.1, z3.2.1.2.2.2.2.2.2.2.2.1, z3.2.1.2.2.2.2.2.2.2.2.2.1, r6.1.1⟩ : Cfg), ()), (()))
noncomputable abbrev configClone_k : Con SR1 := ⟨25, [.val 13], [.val 13], fun x => configClone x.1⟩
theorem configClone_ok : CO Try.prog configClone_k := co_fn mixed Try.func25 [cloneRows_k, cloneIns_k, cloneSubs_k] ⟨cloneRows_ok, cloneIns_ok, cloneSubs_ok, trivial⟩ [] trivial (fun _ => []) [(3, .loop [.rg 11 sI_, .cs 11 [sI_, sI_, sI_, sI_, sI_, sI_, sI_, sI_, sI_, (.row 18), (.ro 4)]] 18446744073709551616 0)] fun x => by kernel_rfl
noncomputable def layoutNew (y0 : Cfg) : Option ((LayV × Int × Unit) × (Unit)) :=
 (cfgCheck y0).bind fun r1 =>
 if r1.1.1 ≠ 0 then
  some (((⟨0, 0, 0, 0, 0, 0, 0, 0, 0, 0, 0⟩ : LayV), r1.1.1, ()), (()))
 else
 some ((({ y0 with sleepers := wi (4 + y0.heap), epochs := wi ((wi (4 + y0.heap)) + y0.classes), bitmaps := wi ((wi ((wi (4 + y0.heap)) + y0.classes)) + y0.workers), queues := wi ((wi ((wi ((wi (4 + y0.heap)) + y0.classes)) + y0.workers)) + y0.workers), table := wi ((wi ((wi ((wi ((wi (4 + y0.heap)) + y0.classes)) + y0.workers)) + y0.workers)) + (wi ((wi (y0.workers * y0.levels)) * (wi (2 + y0.deque))))) } : LayV), 0, ()), (()))
noncomputable abbrev layoutNew_k : Con SR1 := ⟨22, [.val 13], [.val 24, .sh sI_], fun x => layoutNew x.1⟩
theorem layoutNew_ok : CO Try.prog layoutNew_k := co_fn mixed Try.func22 [cfgCheck_k] ⟨cfgCheck_ok, trivial⟩ [] trivial (fun _ => []) [] fun x => by kernel_rfl
noncomputable def memoryNew (y0 : Int) : Option ((MemV × Unit) × (Unit)) :=
 if (if 131072 < (if y0 < 0 then 0 else y0) then 131072 else (if y0 < 0 then 0 else y0)) = (if 131072 < (if y0 < 0 then 0 else y0) then 131072 else (if y0 < 0 then 0 else y0)) then
  if 0 ≤ (if 131072 < (if y0 < 0 then 0 else y0) then 131072 else (if y0 < 0 then 0 else y0)) ∧ (if 131072 < (if y0 < 0 then 0 else y0) then 131072 else (if y0 < 0 then 0 else y0)) ≤ 1099511627776 then
   some (((⟨List.replicate ((if 131072 < (if y0 < 0 then 0 else y0) then 131072 else (if y0 < 0 then 0 else y0)) : Int).toNat (0 : Int), ⟨0, 0, 0, 0⟩, 0⟩ : MemV), ()), (()))
  else none
 else none
noncomputable abbrev memoryNew_k : Con SR1 := ⟨42, [.sh sI_], [.sh (.own 9)], fun x => memoryNew x.1⟩
theorem memoryNew_ok : CO Try.prog memoryNew_k := co_fn mixed Try.func42 [] trivial [] trivial (fun _ => []) [] fun x => by kernel_rfl
noncomputable def clockNew  : Option ((ClkV × Unit) × (Unit)) :=
 some (((⟨0, 0⟩ : ClkV), ()), (()))
noncomputable abbrev clockNew_k : Con SR1 := ⟨43, [], [.sh (.own 25)], fun x => clockNew ⟩
theorem clockNew_ok : CO Try.prog clockNew_k := co_fn mixed Try.func43 [] trivial [] trivial (fun _ => []) [] fun x => by kernel_rfl
noncomputable def machineBare (y0 : Int) : Option ((EnvP × Unit) × (Unit)) :=
 (memoryNew y0).bind fun r1 =>
 (clockNew).bind fun r2 =>
 some (((⟨⟨0, 0, 0, 0, 0, 0, 0, 0, 0, [], []⟩, ⟨0, 0, 0, 0, 0, 0, 0, 0, 0, 0, 0⟩, r1.1.1, r2.1.1, [], []⟩ : EnvP), ()), (()))
noncomputable abbrev machineBare_k : Con SR1 := ⟨23, [.sh sI_], [.sh (.own 27)], fun x => machineBare x.1⟩
theorem machineBare_ok : CO Try.prog machineBare_k := co_fn mixed Try.func23 [memoryNew_k, clockNew_k] ⟨memoryNew_ok, clockNew_ok, trivial⟩ [] trivial (fun _ => []) [] fun x => by kernel_rfl
noncomputable def clientNew (y0 : Cfg) : Option (((ClientV MV) × Unit) × (Unit)) :=
 (configClone y0).bind fun r1 =>
 if y0.workers = y0.workers then
  some (((⟨r1.1.1.subs, y0.workers, 0, 1, MV.nil, true, 0, false⟩ : (ClientV MV)), ()), (()))
 else none
noncomputable abbrev clientNew_k : Con SR1 := ⟨9, [.val 13], [.sh (.own 30)], fun x => clientNew x.1⟩
theorem clientNew_ok : CO Try.prog clientNew_k := co_fn mixed Try.func9 [configClone_k] ⟨configClone_ok, trivial⟩ [] trivial (fun _ => []) [] fun x => by kernel_rfl
noncomputable def clientClientStatus (y0 : (ClientV MV)) : Option ((Int × Unit) × ((ClientV MV) × Unit)) :=
 (clientClientOver y0).bind fun r1 =>
 if r1.1.1 = true then
  some ((4, ()), (r1.2.1, ()))
 else
 if r1.2.1.line = 1 then
  some ((0, ()), (r1.2.1, ()))
 else
 some ((2, ()), (r1.2.1, ()))
noncomputable abbrev clientClientStatus_k : Con SR1 := ⟨15, [.ref 30], [.sh sI_], fun x => clientClientStatus x.1⟩
theorem clientClientStatus_ok : CO Try.prog clientClientStatus_k := co_fn mixed Try.func15 [clientClientOver_k] ⟨clientClientOver_ok, trivial⟩ [] trivial (fun _ => []) [] fun x => by kernel_rfl
noncomputable def r5number (r : CodV) (k : Int) : Option ((Int × Unit) × (CodV × Unit)) :=
 if r.at_ < ((r.inn.length : Nat) : Int) then
  if 0 ≤ r.at_ ∧ r.at_ < ((r.inn.length : Nat) : Int) then
   if k ≠ 0 then
    some (((Int.tmod (wi (atK17 r.inn r.at_)) k), ()), (({ r with at_ := wi (r.at_ + 1) } : CodV), ()))
   else none
  else none
 else
 some ((0, ()), (({ r with at_ := wi (r.at_ + 1) } : CodV), ()))
noncomputable abbrev r5number_k : Con SR1 := ⟨40, [.ref 19, .sh sI_], [.sh sI_], fun x => r5number x.1 x.2.1⟩
theorem r5number_ok : CO Try.prog r5number_k := co_fn mixed Try.func40 [] trivial [] trivial (fun _ => []) [] fun x => by kernel_rfl
noncomputable def r5decode (b : List Int) : Option ((Cfg × Unit) × (Unit)) :=
 (r5number (⟨b, [], 0, false⟩ : CodV) 4).bind fun r1 =>
 (r5number r1.2.1 4).bind fun r2 =>
 (r5number r2.2.1 (if wi (1 + r2.1.1) < 3 then wi (1 + r2.1.1) else 3)).bind fun r3 =>
 (r5number r3.2.1 12).bind fun r4 =>
 (r5number r4.2.1 4).bind fun r5 =>
 (r5number r5.2.1 4).bind fun r6 =>
 (r5number r6.2.1 (wi (1 + r5.1.1))).bind fun r7 =>
 (r5number r7.2.1 6).bind fun r8 =>
 (r5number r8.2.1 8).bind fun r9 =>
 (r5number r9.2.1 4).bind fun r10 =>
 (lpF (σ := Int × CodV × Cfg × Unit) (β := Int × CodV × Cfg × Unit) (fun self13 x11 =>
  if x11.1 < (wi (1 + r10.1.1)) then
   (r5number x11.2.1 6).bind fun r14 =>
   (lpF (σ := List Ins × Int × CodV × Unit) (β := List Ins × Int × CodV × Unit) (fun self17 x15 =>
    if 0 < x15.2.1 then
     (r5number x15.2.2.1 3).bind fun r18 =>
     if r18.1.1 = 0 then
      (r5number r18.2.1 4).bind fun r19 =>
      if (((x15.1.length + ([(⟨r18.1.1, wi (1 + r19.1.1), 0⟩ : Ins)] : List Ins).length : Nat)) : Int) < 1000000000000 then
       self17 (x15.1 ++ ([(⟨r18.1.1, wi (1 + r19.1.1), 0⟩ : Ins)]), wi (x15.2.1 - 1), r19.2.1, ())
      else none
     else
     if r18.1.1 = 1 then
      (r5number r18.2.1 (wi (1 + r10.1.1))).bind fun r20 =>
      (r5number r20.2.1 x11.2.2.1.levels).bind fun r21 =>
      if (((x15.1.length + ([(⟨r18.1.1, r20.1.1, r21.1.1⟩ : Ins)] : List Ins).length : Nat)) : Int) < 1000000000000 then
       self17 (x15.1 ++ ([(⟨r18.1.1, r20.1.1, r21.1.1⟩ : Ins)]), wi (x15.2.1 - 1), r21.2.1, ())
      else none
     else
     (r5number r18.2.1 4).bind fun r22 =>
     if (((x15.1.length + ([(⟨r18.1.1, r22.1.1, 0⟩ : Ins)] : List Ins).length : Nat)) : Int) < 1000000000000 then
      self17 (x15.1 ++ ([(⟨r18.1.1, r22.1.1, 0⟩ : Ins)]), wi (x15.2.1 - 1), r22.2.1, ())
     else none
    else
    some (x15.1, x15.2.1, x15.2.2.1, ())
   ) 18446744073709551616 ([], r14.1.1, r14.2.1, ())).bind fun z16 =>
   if (((x11.2.2.1.progs.length + ([z16.1] : List (List Ins)).length : Nat)) : Int) < 100000000000 then
    self13 (wi (x11.1 + 1), z16.2.2.1, ({ x11.2.2.1 with progs := x11.2.2.1.progs ++ ([z16.1]) } : Cfg), ())
   else none
  else
  some (x11.1, x11.2.1, x11.2.2.1, ())
 ) 18446744073709551616 (0, r10.2.1, (⟨wi (1 + r1.1.1), wi (1 + r2.1.1), wi (1 + r3.1.1), wi (1 + r4.1.1), wi (1 + r5.1.1), wi (1 + r6.1.1), wi (1 + r7.1.1), r8.1.1, wi (1 + r9.1.1), [], []⟩ : Cfg), ())).bind fun z12 =>
 (r5number z12.2.1 6).bind fun r23 =>
 (lpF (σ := Int × CodV × Cfg × Unit) (β := Int × CodV × Cfg × Unit) (fun self26 x24 =>
  if 0 < x24.1 then
   (r5number x24.2.1 (wi (1 + r10.1.1))).bind fun r27 =>
   (r5number r27.2.1 x24.2.2.1.levels).bind fun r28 =>
   (r5number r28.2.1 16).bind fun r29 =>
   if (((x24.2.2.1.subs.length + ([(⟨r27.1.1, r28.1.1, r29.1.1⟩ : Sub)] : List Sub).length : Nat)) : Int) < 1000000000000 then
    self26 (wi (x24.1 - 1), r29.2.1, ({ x24.2.2.1 with subs := x24.2.2.1.subs ++ ([(⟨r27.1.1, r28.1.1, r29.1.1⟩ : Sub)]) } : Cfg), ())
   else none
  else
  some (x24.1, x24.2.1, x24.2.2.1, ())
 ) 18446744073709551616 (r23.1.1, r23.2.1, z12.2.2.1, ())).bind fun z25 =>
 some ((z25.2.2.1, ()), (()))
noncomputable abbrev r5decode_k : Con SR1 := ⟨21, [.sh (.ro 17)], [.val 13], fun x => r5decode x.1⟩
theorem r5decode_ok : CO Try.prog r5decode_k := co_fn mixed Try.func21 [r5number_k] ⟨r5number_ok, trivial⟩ [] trivial (fun _ => []) [(12, .loop [.rg 6 sI_, .rg 3 (.own 19), .rg 4 (.own 20)] 18446744073709551616 0), (16, .loop [.rg 7 (.row 3), .rg 8 sI_, .rg 3 (.own 19)] 18446744073709551616 2), (29, .loop [.rg 10 sI_, .rg 3 (.own 19), .rg 4 (.own 20)] 18446744073709551616 5)] fun x => by kernel_rfl
noncomputable def kconfig (b : List Int) : Option ((Cfg × Unit) × (Unit)) :=
 (r5decode b).bind fun r1 =>
 some ((r1.1.1, ()), (()))
noncomputable abbrev kconfig_k : Con SR1 := ⟨7, [.sh (.ro 17)], [.val 13], fun x => kconfig x.1⟩
theorem kconfig_ok : CO Try.prog kconfig_k := co_fn mixed Try.func7 [r5decode_k] ⟨r5decode_ok, trivial⟩ [] trivial (fun _ => []) [] fun x => by kernel_rfl
noncomputable def kshort (b : List Int) (l : List (List Int)) : Option ((Bool × Unit) × (Unit)) :=
 (lpF (σ := Int × Unit) (β := (Int × Unit) ⊕ ((Bool × Unit) × (Unit))) (fun self3 x1 =>
  if x1.1 < ((l.length : Nat) : Int) then
   if 0 ≤ x1.1 ∧ x1.1 < ((l.length : Nat) : Int) then
    if 400 < (((atL [] l x1.1).length : Nat) : Int) then
     Option.map Sum.inr (
      some ((false, ()), (()))
     )
    else
    self3 (wi (x1.1 + 1), ())
   else none
  else
  some (Sum.inl (x1.1, ()))
 ) 18446744073709551616 (0, ())).bind fun z2 => match z2 with
 | .inr o4 => some o4
 | .inl z2 =>
 some ((decide (((b.length : Nat) : Int) ≤ 400), ()), (()))
noncomputable abbrev kshort_k : Con SR1 := ⟨6, [.sh (.ro 17), .sh (.rr 1)], [.sh .b], fun x => kshort x.1 x.2.1⟩
theorem kshort_ok : CO Try.prog kshort_k := co_fn mixed Try.func6 [] trivial [] trivial (fun _ => []) [(2, .loopR [.rg 5 sI_] 18446744073709551616 0)] fun x => by kernel_rfl
noncomputable def machineNew (y0 : Cfg) : Option ((EnvP × Int × Unit) × (Unit)) :=
 (layoutNew y0).bind fun r1 =>
 if r1.1.2.1 ≠ 0 then
  none
 else
 (pCells r1.1.1).bind fun r2 =>
 (machineBare r2.1.1).bind fun r3 =>
 (configClone y0).bind fun r4 =>
 if r1.1.1.workers = r1.1.1.workers then
  if r1.1.1.levels = r1.1.1.levels then
   if r1.1.1.classes = r1.1.1.classes then
    if r1.1.1.tasks = r1.1.1.tasks then
     if r1.1.1.deque = r1.1.1.deque then
      if r1.1.1.heap = r1.1.1.heap then
       if r1.1.1.sleepers = r1.1.1.sleepers then
        if r1.1.1.epochs = r1.1.1.epochs then
         if r1.1.1.bitmaps = r1.1.1.bitmaps then
          if r1.1.1.queues = r1.1.1.queues then
           if r1.1.1.table = r1.1.1.table then
            if r1.1.1.workers = r1.1.1.workers then
             if r1.1.1.levels = r1.1.1.levels then
              if r1.1.1.classes = r1.1.1.classes then
               if r1.1.1.tasks = r1.1.1.tasks then
                if r1.1.1.deque = r1.1.1.deque then
                 if r1.1.1.heap = r1.1.1.heap then
                  if r1.1.1.sleepers = r1.1.1.sleepers then
                   if r1.1.1.epochs = r1.1.1.epochs then
                    if r1.1.1.bitmaps = r1.1.1.bitmaps then
                     if r1.1.1.queues = r1.1.1.queues then
                      if r1.1.1.table = r1.1.1.table then
                       (lpF (σ := Int × EnvP × Unit) (β := Int × EnvP × Unit) (fun self7 x5 =>
                        if x5.1 < y0.tasks then
                         if (((x5.2.1.recs.length + ([(⟨0, (-1), 0, 0, (-1), [], false⟩ : RecP)] : List RecP).length : Nat)) : Int) < 100000000000 then
                          self7 (wi (x5.1 + 1), ({ x5.2.1 with recs := x5.2.1.recs ++ ([(⟨0, (-1), 0, 0, (-1), [], false⟩ : RecP)]) } : EnvP), ())
                         else none
                        else
                        some (x5.1, x5.2.1, ())
                       ) 18446744073709551616 (0, ({ r3.1.1 with c := r4.1.1, l := r1.1.1 } : EnvP), ())).bind fun z6 =>
                       some ((z6.2.1, 0, ()), (()))
                      else none
                     else none
                    else none
                   else none
                  else none
                 else none
                else none
               else none
              else none
             else none
            else none
           else none
          else none
         else none
        else none
       else none
      else none
     else none
    else none
   else none
  else none
 else none
noncomputable abbrev machineNew_k : Con SR1 := ⟨8, [.val 13], [.sh (.own 27), .sh sI_], fun x => machineNew x.1⟩
theorem machineNew_ok : CO Try.prog machineNew_k := co_fn mixed Try.func8 [layoutNew_k, pCells_k, machineBare_k, configClone_k] ⟨layoutNew_ok, pCells_ok, machineBare_ok, configClone_ok, trivial⟩ [] trivial (fun _ => []) [(7, .loop [.rg 29 sI_, .rg 6 (.own 27)] 18446744073709551616 0)] fun x => by kernel_rfl
noncomputable def worksteallaw27One (y0 : List Sub) : Option ((Cfg × Unit) × (Unit)) :=
 (kconfig ([])).bind fun r1 =>
 some ((({ r1.1.1 with subs := y0 } : Cfg), ()), (()))
noncomputable abbrev worksteallaw27One_k : Con SR1 := ⟨26, [.sh (.ro 4)], [.val 13], fun x => worksteallaw27One x.1⟩
theorem worksteallaw27One_ok : CO Try.prog worksteallaw27One_k := co_fn mixed Try.func26 [kconfig_k] ⟨kconfig_ok, trivial⟩ [] trivial (fun _ => []) [] fun x => by kernel_rfl
noncomputable def clientClientResult (y0 : (ClientV MV)) : Option ((Int × Int × Unit) × ((ClientV MV) × Unit)) :=
 some ((0, 0, ()), (y0, ()))
noncomputable abbrev clientClientResult_k : Con SR1 := ⟨89, [.ref 30], [.sh sI_, .sh sI_], fun x => clientClientResult x.1⟩
theorem clientClientResult_ok : CO Try.prog clientClientResult_k := co_fn mixed Try.func89 [] trivial [] trivial (fun _ => []) [] fun x => by kernel_rfl
noncomputable def clientClientSubmission (y0 : (ClientV MV)) : Option ((Int × Unit) × ((ClientV MV) × Unit)) :=
 some ((y0.i, ()), (y0, ()))
noncomputable abbrev clientClientSubmission_k : Con SR1 := ⟨13, [.ref 30], [.sh sI_], fun x => clientClientSubmission x.1⟩
theorem clientClientSubmission_ok : CO Try.prog clientClientSubmission_k := co_fn mixed Try.func13 [] trivial [] trivial (fun _ => []) [] fun x => by kernel_rfl
noncomputable def worksteallaw27Awake  : Option ((Bool × Unit) × (Unit)) :=
 (worksteallaw27One ([(⟨0, 0, 5⟩ : Sub)])).bind fun r1 =>
 (machineNew r1.1.1).bind fun r2 =>
 (clientNew r1.1.1).bind fun r3 =>
 if r2.1.2.1 ≠ 0 then
  some ((false, ()), (()))
 else
 (clientClientStatus r3.1.1).bind fun r4 =>
 if r4.1.1 ≠ 0 then
  some ((false, ()), (()))
 else
 (lpF (σ := Int × EnvP × (ClientV MV) × Unit) (β := (Int × EnvP × (ClientV MV) × Unit) ⊕ ((Bool × Unit) × (Unit))) (fun self7 x5 =>
  if x5.1 < 50 then
   (clientClientStep x5.2.2.1 x5.2.1).bind fun r8 =>
   if r8.1.1 = true then
    (clientClientResult r8.2.1).bind fun r9 =>
    Option.map Sum.inr (
     if r9.1.1 = 0 then
      if (wi (x5.1 + 1)) = 12 then
       (clientClientStatus r9.2.1).bind fun r10 =>
       if r10.1.1 = 4 then
        (clientClientSubmission r10.2.1).bind fun r11 =>
        if r11.1.1 = 1 then
         if ((r8.2.2.1.evs.length : Nat) : Int) = 1 then
          if 0 ≤ (0 : Int) ∧ (0 : Int) < ((r8.2.2.1.evs.length : Nat) : Int) then
           some ((decide (((atK2 r8.2.2.1.evs 0).kind) = 1 ∧ ((atK2 r8.2.2.1.evs 0).worker) = 1 ∧ ((atK2 r8.2.2.1.evs 0).task) = 0 ∧ ((atK2 r8.2.2.1.evs 0).other) = 0 ∧ ((atK2 r8.2.2.1.evs 0).level) = 0 ∧ True), ()), (()))
          else none
         else
         some ((false, ()), (()))
        else
        some ((false, ()), (()))
       else
       some ((false, ()), (()))
      else
      some ((false, ()), (()))
     else
     some ((false, ()), (()))
    )
   else
   self7 (wi (x5.1 + 1), r8.2.2.1, r8.2.1, ())
  else
  some (Sum.inl (x5.1, x5.2.1, x5.2.2.1, ()))
 ) 18446744073709551616 (0, r2.1.1, r4.2.1, ())).bind fun z6 => match z6 with
 | .inr o12 => some o12
 | .inl z6 =>
 some ((false, ()), (()))
noncomputable abbrev worksteallaw27Awake_k : Con SR1 := ⟨10, [], [.sh .b], fun x => worksteallaw27Awake ⟩
noncomputable def worksteallaw27Awake_tb : List (Nat × Func) := [(14, Try.f14)]
theorem worksteallaw27Awake_ok : CO Try.prog worksteallaw27Awake_k := co_fn mixed Try.func10 [worksteallaw27One_k, machineNew_k, clientNew_k, clientClientStatus_k, clientClientStep_k, clientClientResult_k, clientClientSubmission_k] ⟨worksteallaw27One_ok, machineNew_ok, clientNew_ok, clientClientStatus_ok, clientClientStep_ok, clientClientResult_ok, clientClientSubmission_ok, trivial⟩ worksteallaw27Awake_tb ⟨Try.func14, trivial⟩ (fun f => (get [(14, [(3, .loopR [.rg 8 sI_, .ob 13 27, .ob 15 30] 18446744073709551616 0)])] f).getD []) [] fun x => by kernel_rfl
noncomputable def workstealref06Deques (y0 : Cfg) : Option ((Int × Unit) × (Unit)) :=
 some ((wi ((wi ((wi (4 + y0.heap)) + y0.classes)) + (wi (2 * y0.workers))), ()), (()))
noncomputable abbrev workstealref06Deques_k : Con SR1 := ⟨63, [.val 13], [.sh sI_], fun x => workstealref06Deques x.1⟩
theorem workstealref06Deques_ok : CO Try.prog workstealref06Deques_k := co_fn mixed Try.func63 [] trivial [] trivial (fun _ => []) [] fun x => by kernel_rfl
noncomputable def workstealref06Index (y0 : Int) (y1 : Int) (y2 : Int) (y3 : Int) : Option ((Int × Unit) × (Unit)) :=
 if y1 < 0 then
  some (((-1), ()), (()))
 else
 if y2 ≤ y1 then
  some (((-1), ()), (()))
 else
 some ((wi (y0 + (wi (y1 * y3))), ()), (()))
noncomputable abbrev workstealref06Index_k : Con SR1 := ⟨62, [.sh sI_, .sh sI_, .sh sI_, .sh sI_], [.sh sI_], fun x => workstealref06Index x.1 x.2.1 x.2.2.1 x.2.2.2.1⟩
theorem workstealref06Index_ok : CO Try.prog workstealref06Index_k := co_fn mixed Try.func62 [] trivial [] trivial (fun _ => []) [] fun x => by kernel_rfl
noncomputable def workstealref06Task (y0 : Cfg) (y1 : Int) (y2 : Int) : Option ((Int × Unit) × (Unit)) :=
 (workstealref06Deques y0).bind fun r1 =>
 if y0.tasks = y0.tasks then
  if y0.deque = y0.deque then
   if y0.levels = y0.levels then
    if y0.workers = y0.workers then
     (workstealref06Index (wi (r1.1.1 + (wi ((wi (y0.workers * y0.levels)) * (wi (2 + y0.deque)))))) y1 y0.tasks 5).bind fun r2 =>
     if r2.1.1 < 0 then
      some (((-1), ()), (()))
     else
     some ((wi (r2.1.1 + y2), ()), (()))
    else none
   else none
  else none
 else none
noncomputable abbrev workstealref06Task_k : Con SR1 := ⟨33, [.val 13, .sh sI_, .sh sI_], [.sh sI_], fun x => workstealref06Task x.1 x.2.1 x.2.2.1⟩
theorem workstealref06Task_ok : CO Try.prog workstealref06Task_k := co_fn mixed Try.func33 [workstealref06Deques_k, workstealref06Index_k] ⟨workstealref06Deques_ok, workstealref06Index_ok, trivial⟩ [] trivial (fun _ => []) [] fun x => by kernel_rfl
noncomputable def workstealref06State (y0 : Cfg) (y1 : Int) : Option ((Int × Unit) × (Unit)) :=
 (workstealref06Task y0 y1 0).bind fun r1 =>
 some ((r1.1.1, ()), (()))
noncomputable abbrev workstealref06State_k : Con SR1 := ⟨17, [.val 13, .sh sI_], [.sh sI_], fun x => workstealref06State x.1 x.2.1⟩
theorem workstealref06State_ok : CO Try.prog workstealref06State_k := co_fn mixed Try.func17 [workstealref06Task_k] ⟨workstealref06Task_ok, trivial⟩ [] trivial (fun _ => []) [] fun x => by kernel_rfl
noncomputable def workstealref06Level (y0 : Cfg) (y1 : Int) : Option ((Int × Unit) × (Unit)) :=
 (workstealref06Task y0 y1 1).bind fun r1 =>
 some ((r1.1.1, ()), (()))
noncomputable abbrev workstealref06Level_k : Con SR1 := ⟨18, [.val 13, .sh sI_], [.sh sI_], fun x => workstealref06Level x.1 x.2.1⟩
theorem workstealref06Level_ok : CO Try.prog workstealref06Level_k := co_fn mixed Try.func18 [workstealref06Task_k] ⟨workstealref06Task_ok, trivial⟩ [] trivial (fun _ => []) [] fun x => by kernel_rfl
noncomputable def worksteallaw27ClientAdmits (y0 : List Int) (y1 : Int) (y2 : Int) : Option ((Bool × Unit) × (Unit)) :=
 (kshort y0 ([])).bind fun r1 =>
 if (!r1.1.1) = true then
  some ((true, ()), (()))
 else
 (kconfig y0).bind fun r2 =>
 (machineNew ({ r2.1.1 with tasks := wi (1 + (wi ((Int.tmod y2 8)))), heap := wi (1 + (wi ((Int.tmod y1 8)))) } : Cfg)).bind fun r3 =>
 (clientNew ({ r2.1.1 with tasks := wi (1 + (wi ((Int.tmod y2 8)))), heap := wi (1 + (wi ((Int.tmod y1 8)))) } : Cfg)).bind fun r4 =>
 (worksteallaw27Awake).bind fun r5 =>
 if (!r5.1.1) = true then
  some ((false, ()), (()))
 else
 if r3.1.2.1 ≠ 0 then
  some ((false, ()), (()))
 else
 (lpF (σ := Int × EnvP × (ClientV MV) × Unit) (β := (Int × EnvP × (ClientV MV) × Unit) ⊕ ((Bool × Unit) × (Unit))) (fun self8 x6 =>
  if x6.1 < 400 then
   (clientClientStep x6.2.2.1 x6.2.1).bind fun r9 =>
   if r9.1.1 = true then
    (clientClientResult r9.2.1).bind fun r10 =>
    Option.map Sum.inr (
     ((
      (clientClientStatus r10.2.1).bind fun r11 =>
      if r11.1.1 ≠ 4 then
       some (true, r9.2.2.1, r11.2.1, ())
      else
      (clientClientSubmission r11.2.1).bind fun r12 =>
      if r12.1.1 ≠ ((r2.1.1.subs.length : Nat) : Int) then
       some (true, r9.2.2.1, r12.2.1, ())
      else
      if ((r9.2.2.1.evs.length : Nat) : Int) ≠ ((r2.1.1.subs.length : Nat) : Int) then
       some (true, r9.2.2.1, r12.2.1, ())
      else
      if ((r9.2.2.1.m.cells.length : Nat) : Int) ≤ 1 then
       some (false, r9.2.2.1, r12.2.1, ())
      else
      if 0 ≤ (1 : Int) ∧ (1 : Int) < ((r9.2.2.1.m.cells.length : Nat) : Int) then
       some (decide ((atK0 r9.2.2.1.m.cells 1) ≠ 0), r9.2.2.1, r12.2.1, ())
      else none
     ) : Option (Bool × EnvP × (ClientV MV) × Unit)).bind fun z13 =>
     if z13.1 = true then
      some ((false, ()), (()))
     else
     (lpF (σ := Int × Int × EnvP × Unit) (β := (Int × Int × EnvP × Unit) ⊕ ((Bool × Unit) × (Unit))) (fun self16 x14 =>
      if x14.2.1 < ((r2.1.1.subs.length : Nat) : Int) then
       if 0 ≤ x14.2.1 ∧ x14.2.1 < ((r2.1.1.subs.length : Nat) : Int) then
        if ((atK4 r2.1.1.subs x14.2.1).level) = ((atK4 r2.1.1.subs x14.2.1).level) then
         if r2.1.1.workers = r2.1.1.workers then
          if x14.1 = (wi (1 + (wi ((Int.tmod y1 8))))) then
           if 0 ≤ x14.2.1 ∧ x14.2.1 < ((x14.2.2.1.evs.length : Nat) : Int) then
            if ¬ (((atK2 x14.2.2.1.evs x14.2.1).kind) = 2 ∧ ((atK2 x14.2.2.1.evs x14.2.1).worker) = r2.1.1.workers ∧ ((atK2 x14.2.2.1.evs x14.2.1).task) = 0 ∧ ((atK2 x14.2.2.1.evs x14.2.1).other) = x14.2.1 ∧ ((atK2 x14.2.2.1.evs x14.2.1).level) = 1 ∧ True) then
             Option.map Sum.inr (
              some ((false, ()), (()))
             )
            else
            self16 (x14.1, wi (x14.2.1 + 1), x14.2.2.1, ())
           else none
          else
          if x14.1 = (wi (1 + (wi ((Int.tmod y2 8))))) then
           if 0 ≤ x14.2.1 ∧ x14.2.1 < ((x14.2.2.1.evs.length : Nat) : Int) then
            if ¬ (((atK2 x14.2.2.1.evs x14.2.1).kind) = 2 ∧ ((atK2 x14.2.2.1.evs x14.2.1).worker) = r2.1.1.workers ∧ ((atK2 x14.2.2.1.evs x14.2.1).task) = 0 ∧ ((atK2 x14.2.2.1.evs x14.2.1).other) = x14.2.1 ∧ ((atK2 x14.2.2.1.evs x14.2.1).level) = 2 ∧ True) then
             Option.map Sum.inr (
              some ((false, ()), (()))
             )
            else
            self16 (x14.1, wi (x14.2.1 + 1), x14.2.2.1, ())
           else none
          else
          if 0 ≤ x14.1 ∧ x14.1 < ((x14.2.2.1.recs.length : Nat) : Int) then
           (workstealref06State ({ r2.1.1 with tasks := wi (1 + (wi ((Int.tmod y2 8)))), heap := wi (1 + (wi ((Int.tmod y1 8)))) } : Cfg) x14.1).bind fun r17 =>
           if r17.1.1 < 0 then
            Option.map Sum.inr (
             some ((false, ()), (()))
            )
           else
           if ((x14.2.2.1.m.cells.length : Nat) : Int) ≤ r17.1.1 then
            Option.map Sum.inr (
             some ((false, ()), (()))
            )
           else
           if 0 ≤ r17.1.1 ∧ r17.1.1 < ((x14.2.2.1.m.cells.length : Nat) : Int) then
            if (atK0 x14.2.2.1.m.cells r17.1.1) ≠ 1 then
             Option.map Sum.inr (
              some ((false, ()), (()))
             )
            else
            if 0 ≤ x14.2.1 ∧ x14.2.1 < ((r2.1.1.subs.length : Nat) : Int) then
             (workstealref06Level ({ r2.1.1 with tasks := wi (1 + (wi ((Int.tmod y2 8)))), heap := wi (1 + (wi ((Int.tmod y1 8)))) } : Cfg) x14.1).bind fun r18 =>
             if ((atK4 r2.1.1.subs x14.2.1).level) = ((atK4 r2.1.1.subs x14.2.1).level) then
              if r18.1.1 < 0 then
               if ((atK4 r2.1.1.subs x14.2.1).level) = ((atK4 r2.1.1.subs x14.2.1).level) then
                if 0 ≠ (wu ((atK4 r2.1.1.subs x14.2.1).level)) then
                 Option.map Sum.inr (
                  some ((false, ()), (()))
                 )
                else
                if 0 ≤ x14.2.1 ∧ x14.2.1 < ((r2.1.1.subs.length : Nat) : Int) then
                 if ((atK26 x14.2.2.1.recs x14.1).prog) ≠ ((atK4 r2.1.1.subs x14.2.1).prog) then
                  Option.map Sum.inr (
                   some ((false, ()), (()))
                  )
                 else
                 if ((atK26 x14.2.2.1.recs x14.1).parent) ≠ (-1) then
                  Option.map Sum.inr (
                   some ((false, ()), (()))
                  )
                 else
                 if ((atK26 x14.2.2.1.recs x14.1).waiting) ≠ (-1) then
                  Option.map Sum.inr (
                   some ((false, ()), (()))
                  )
                 else
                 if (atK26 x14.2.2.1.recs x14.1).started = true then
                  Option.map Sum.inr (
                   some ((false, ()), (()))
                  )
                 else
                 if 0 ≤ x14.2.1 ∧ x14.2.1 < ((x14.2.2.1.evs.length : Nat) : Int) then
                  if ¬ (((atK2 x14.2.2.1.evs x14.2.1).kind) = 1 ∧ ((atK2 x14.2.2.1.evs x14.2.1).worker) = r2.1.1.workers ∧ ((atK2 x14.2.2.1.evs x14.2.1).task) = x14.1 ∧ ((atK2 x14.2.2.1.evs x14.2.1).other) = x14.2.1 ∧ ((atK2 x14.2.2.1.evs x14.2.1).level) = ((atK4 r2.1.1.subs x14.2.1).level) ∧ True) then
                   Option.map Sum.inr (
                    some ((false, ()), (()))
                   )
                  else
                  self16 (wi (x14.1 + 1), wi (x14.2.1 + 1), ({ x14.2.2.1 with recs := x14.2.2.1.recs.set x14.1.toNat (atK26 x14.2.2.1.recs x14.1) } : EnvP), ())
                 else none
                else none
               else none
              else
              if ((x14.2.2.1.m.cells.length : Nat) : Int) ≤ r18.1.1 then
               if ((atK4 r2.1.1.subs x14.2.1).level) = ((atK4 r2.1.1.subs x14.2.1).level) then
                if 0 ≠ (wu ((atK4 r2.1.1.subs x14.2.1).level)) then
                 Option.map Sum.inr (
                  some ((false, ()), (()))
                 )
                else
                if 0 ≤ x14.2.1 ∧ x14.2.1 < ((r2.1.1.subs.length : Nat) : Int) then
                 if ((atK26 x14.2.2.1.recs x14.1).prog) ≠ ((atK4 r2.1.1.subs x14.2.1).prog) then
                  Option.map Sum.inr (
                   some ((false, ()), (()))
                  )
                 else
                 if ((atK26 x14.2.2.1.recs x14.1).parent) ≠ (-1) then
                  Option.map Sum.inr (
                   some ((false, ()), (()))
                  )
                 else
                 if ((atK26 x14.2.2.1.recs x14.1).waiting) ≠ (-1) then
                  Option.map Sum.inr (
                   some ((false, ()), (()))
                  )
                 else
                 if (atK26 x14.2.2.1.recs x14.1).started = true then
                  Option.map Sum.inr (
                   some ((false, ()), (()))
                  )
                 else
                 if 0 ≤ x14.2.1 ∧ x14.2.1 < ((x14.2.2.1.evs.length : Nat) : Int) then
                  if ¬ (((atK2 x14.2.2.1.evs x14.2.1).kind) = 1 ∧ ((atK2 x14.2.2.1.evs x14.2.1).worker) = r2.1.1.workers ∧ ((atK2 x14.2.2.1.evs x14.2.1).task) = x14.1 ∧ ((atK2 x14.2.2.1.evs x14.2.1).other) = x14.2.1 ∧ ((atK2 x14.2.2.1.evs x14.2.1).level) = ((atK4 r2.1.1.subs x14.2.1).level) ∧ True) then
                   Option.map Sum.inr (
                    some ((false, ()), (()))
                   )
                  else
                  self16 (wi (x14.1 + 1), wi (x14.2.1 + 1), ({ x14.2.2.1 with recs := x14.2.2.1.recs.set x14.1.toNat (atK26 x14.2.2.1.recs x14.1) } : EnvP), ())
                 else none
                else none
               else none
              else
              if 0 ≤ r18.1.1 ∧ r18.1.1 < ((x14.2.2.1.m.cells.length : Nat) : Int) then
               if ((atK4 r2.1.1.subs x14.2.1).level) = ((atK4 r2.1.1.subs x14.2.1).level) then
                if (atK0 x14.2.2.1.m.cells r18.1.1) ≠ (wu ((atK4 r2.1.1.subs x14.2.1).level)) then
                 Option.map Sum.inr (
                  some ((false, ()), (()))
                 )
                else
                if 0 ≤ x14.2.1 ∧ x14.2.1 < ((r2.1.1.subs.length : Nat) : Int) then
                 if ((atK26 x14.2.2.1.recs x14.1).prog) ≠ ((atK4 r2.1.1.subs x14.2.1).prog) then
                  Option.map Sum.inr (
                   some ((false, ()), (()))
                  )
                 else
                 if ((atK26 x14.2.2.1.recs x14.1).parent) ≠ (-1) then
                  Option.map Sum.inr (
                   some ((false, ()), (()))
                  )
                 else
                 if ((atK26 x14.2.2.1.recs x14.1).waiting) ≠ (-1) then
                  Option.map Sum.inr (
                   some ((false, ()), (()))
                  )
                 else
                 if (atK26 x14.2.2.1.recs x14.1).started = true then
                  Option.map Sum.inr (
                   some ((false, ()), (()))
                  )
                 else
                 if 0 ≤ x14.2.1 ∧ x14.2.1 < ((x14.2.2.1.evs.length : Nat) : Int) then
                  if ¬ (((atK2 x14.2.2.1.evs x14.2.1).kind) = 1 ∧ ((atK2 x14.2.2.1.evs x14.2.1).worker) = r2.1.1.workers ∧ ((atK2 x14.2.2.1.evs x14.2.1).task) = x14.1 ∧ ((atK2 x14.2.2.1.evs x14.2.1).other) = x14.2.1 ∧ ((atK2 x14.2.2.1.evs x14.2.1).level) = ((atK4 r2.1.1.subs x14.2.1).level) ∧ True) then
                   Option.map Sum.inr (
                    some ((false, ()), (()))
                   )
                  else
                  self16 (wi (x14.1 + 1), wi (x14.2.1 + 1), ({ x14.2.2.1 with recs := x14.2.2.1.recs.set x14.1.toNat (atK26 x14.2.2.1.recs x14.1) } : EnvP), ())
                 else none
                else none
               else none
              else none
             else none
            else none
           else none
          else none
         else none
        else none
       else none
      else
      some (Sum.inl (x14.1, x14.2.1, x14.2.2.1, ()))
     ) 18446744073709551616 (0, 0, z13.2.1, ())).bind fun z15 => match z15 with
     | .inr o19 => some o19
     | .inl z15 =>
     if ((z15.2.2.1.m.cells.length : Nat) : Int) ≤ 2 then
      some ((decide (0 = (wu (z15.1))), ()), (()))
     else
     if 0 ≤ (2 : Int) ∧ (2 : Int) < ((z15.2.2.1.m.cells.length : Nat) : Int) then
      some ((decide ((atK0 z15.2.2.1.m.cells 2) = (wu (z15.1))), ()), (()))
     else none
    )
   else
   self8 (wi (x6.1 + 1), r9.2.2.1, r9.2.1, ())
  else
  some (Sum.inl (x6.1, x6.2.1, x6.2.2.1, ()))
 ) 18446744073709551616 (0, r3.1.1, r4.1.1, ())).bind fun z7 => match z7 with
 | .inr o20 => some o20
 | .inl z7 =>
 ((
  (clientClientStatus z7.2.2.1).bind fun r21 =>
  if r21.1.1 ≠ 4 then
   some (true, z7.2.1, r21.2.1, ())
  else
  (clientClientSubmission r21.2.1).bind fun r22 =>
  if r22.1.1 ≠ ((r2.1.1.subs.length : Nat) : Int) then
   some (true, z7.2.1, r22.2.1, ())
  else
  if ((z7.2.1.evs.length : Nat) : Int) ≠ ((r2.1.1.subs.length : Nat) : Int) then
   some (true, z7.2.1, r22.2.1, ())
  else
  if ((z7.2.1.m.cells.length : Nat) : Int) ≤ 1 then
   some (false, z7.2.1, r22.2.1, ())
  else
  if 0 ≤ (1 : Int) ∧ (1 : Int) < ((z7.2.1.m.cells.length : Nat) : Int) then
   some (decide ((atK0 z7.2.1.m.cells 1) ≠ 0), z7.2.1, r22.2.1, ())
  else none
 ) : Option (Bool × EnvP × (ClientV MV) × Unit)).bind fun z23 =>
 if z23.1 = true then
  some ((false, ()), (()))
 else
 (lpF (σ := Int × Int × EnvP × Unit) (β := (Int × Int × EnvP × Unit) ⊕ ((Bool × Unit) × (Unit))) (fun self26 x24 =>
  if x24.2.1 < ((r2.1.1.subs.length : Nat) : Int) then
   if 0 ≤ x24.2.1 ∧ x24.2.1 < ((r2.1.1.subs.length : Nat) : Int) then
    if ((atK4 r2.1.1.subs x24.2.1).level) = ((atK4 r2.1.1.subs x24.2.1).level) then
     if r2.1.1.workers = r2.1.1.workers then
      if x24.1 = (wi (1 + (wi ((Int.tmod y1 8))))) then
       if 0 ≤ x24.2.1 ∧ x24.2.1 < ((x24.2.2.1.evs.length : Nat) : Int) then
        if ¬ (((atK2 x24.2.2.1.evs x24.2.1).kind) = 2 ∧ ((atK2 x24.2.2.1.evs x24.2.1).worker) = r2.1.1.workers ∧ ((atK2 x24.2.2.1.evs x24.2.1).task) = 0 ∧ ((atK2 x24.2.2.1.evs x24.2.1).other) = x24.2.1 ∧ ((atK2 x24.2.2.1.evs x24.2.1).level) = 1 ∧ True) then
         Option.map Sum.inr (
          some ((false, ()), (()))
         )
        else
        self26 (x24.1, wi (x24.2.1 + 1), x24.2.2.1, ())
       else none
      else
      if x24.1 = (wi (1 + (wi ((Int.tmod y2 8))))) then
       if 0 ≤ x24.2.1 ∧ x24.2.1 < ((x24.2.2.1.evs.length : Nat) : Int) then
        if ¬ (((atK2 x24.2.2.1.evs x24.2.1).kind) = 2 ∧ ((atK2 x24.2.2.1.evs x24.2.1).worker) = r2.1.1.workers ∧ ((atK2 x24.2.2.1.evs x24.2.1).task) = 0 ∧ ((atK2 x24.2.2.1.evs x24.2.1).other) = x24.2.1 ∧ ((atK2 x24.2.2.1.evs x24.2.1).level) = 2 ∧ True) then
         Option.map Sum.inr (
          some ((false, ()), (()))
         )
        else
        self26 (x24.1, wi (x24.2.1 + 1), x24.2.2.1, ())
       else none
      else
      if 0 ≤ x24.1 ∧ x24.1 < ((x24.2.2.1.recs.length : Nat) : Int) then
       (workstealref06State ({ r2.1.1 with tasks := wi (1 + (wi ((Int.tmod y2 8)))), heap := wi (1 + (wi ((Int.tmod y1 8)))) } : Cfg) x24.1).bind fun r27 =>
       if r27.1.1 < 0 then
        Option.map Sum.inr (
         some ((false, ()), (()))
        )
       else
       if ((x24.2.2.1.m.cells.length : Nat) : Int) ≤ r27.1.1 then
        Option.map Sum.inr (
         some ((false, ()), (()))
        )
       else
       if 0 ≤ r27.1.1 ∧ r27.1.1 < ((x24.2.2.1.m.cells.length : Nat) : Int) then
        if (atK0 x24.2.2.1.m.cells r27.1.1) ≠ 1 then
         Option.map Sum.inr (
          some ((false, ()), (()))
         )
        else
        if 0 ≤ x24.2.1 ∧ x24.2.1 < ((r2.1.1.subs.length : Nat) : Int) then
         (workstealref06Level ({ r2.1.1 with tasks := wi (1 + (wi ((Int.tmod y2 8)))), heap := wi (1 + (wi ((Int.tmod y1 8)))) } : Cfg) x24.1).bind fun r28 =>
         if ((atK4 r2.1.1.subs x24.2.1).level) = ((atK4 r2.1.1.subs x24.2.1).level) then
          if r28.1.1 < 0 then
           if ((atK4 r2.1.1.subs x24.2.1).level) = ((atK4 r2.1.1.subs x24.2.1).level) then
            if 0 ≠ (wu ((atK4 r2.1.1.subs x24.2.1).level)) then
             Option.map Sum.inr (
              some ((false, ()), (()))
             )
            else
            if 0 ≤ x24.2.1 ∧ x24.2.1 < ((r2.1.1.subs.length : Nat) : Int) then
             if ((atK26 x24.2.2.1.recs x24.1).prog) ≠ ((atK4 r2.1.1.subs x24.2.1).prog) then
              Option.map Sum.inr (
               some ((false, ()), (()))
              )
             else
             if ((atK26 x24.2.2.1.recs x24.1).parent) ≠ (-1) then
              Option.map Sum.inr (
               some ((false, ()), (()))
              )
             else
             if ((atK26 x24.2.2.1.recs x24.1).waiting) ≠ (-1) then
              Option.map Sum.inr (
               some ((false, ()), (()))
              )
             else
             if (atK26 x24.2.2.1.recs x24.1).started = true then
              Option.map Sum.inr (
               some ((false, ()), (()))
              )
             else
             if 0 ≤ x24.2.1 ∧ x24.2.1 < ((x24.2.2.1.evs.length : Nat) : Int) then
              if ¬ (((atK2 x24.2.2.1.evs x24.2.1).kind) = 1 ∧ ((atK2 x24.2.2.1.evs x24.2.1).worker) = r2.1.1.workers ∧ ((atK2 x24.2.2.1.evs x24.2.1).task) = x24.1 ∧ ((atK2 x24.2.2.1.evs x24.2.1).other) = x24.2.1 ∧ ((atK2 x24.2.2.1.evs x24.2.1).level) = ((atK4 r2.1.1.subs x24.2.1).level) ∧ True) then
               Option.map Sum.inr (
                some ((false, ()), (()))
               )
              else
              self26 (wi (x24.1 + 1), wi (x24.2.1 + 1), ({ x24.2.2.1 with recs := x24.2.2.1.recs.set x24.1.toNat (atK26 x24.2.2.1.recs x24.1) } : EnvP), ())
             else none
            else none
           else none
          else
          if ((x24.2.2.1.m.cells.length : Nat) : Int) ≤ r28.1.1 then
           if ((atK4 r2.1.1.subs x24.2.1).level) = ((atK4 r2.1.1.subs x24.2.1).level) then
            if 0 ≠ (wu ((atK4 r2.1.1.subs x24.2.1).level)) then
             Option.map Sum.inr (
              some ((false, ()), (()))
             )
            else
            if 0 ≤ x24.2.1 ∧ x24.2.1 < ((r2.1.1.subs.length : Nat) : Int) then
             if ((atK26 x24.2.2.1.recs x24.1).prog) ≠ ((atK4 r2.1.1.subs x24.2.1).prog) then
              Option.map Sum.inr (
               some ((false, ()), (()))
              )
             else
             if ((atK26 x24.2.2.1.recs x24.1).parent) ≠ (-1) then
              Option.map Sum.inr (
               some ((false, ()), (()))
              )
             else
             if ((atK26 x24.2.2.1.recs x24.1).waiting) ≠ (-1) then
              Option.map Sum.inr (
               some ((false, ()), (()))
              )
             else
             if (atK26 x24.2.2.1.recs x24.1).started = true then
              Option.map Sum.inr (
               some ((false, ()), (()))
              )
             else
             if 0 ≤ x24.2.1 ∧ x24.2.1 < ((x24.2.2.1.evs.length : Nat) : Int) then
              if ¬ (((atK2 x24.2.2.1.evs x24.2.1).kind) = 1 ∧ ((atK2 x24.2.2.1.evs x24.2.1).worker) = r2.1.1.workers ∧ ((atK2 x24.2.2.1.evs x24.2.1).task) = x24.1 ∧ ((atK2 x24.2.2.1.evs x24.2.1).other) = x24.2.1 ∧ ((atK2 x24.2.2.1.evs x24.2.1).level) = ((atK4 r2.1.1.subs x24.2.1).level) ∧ True) then
               Option.map Sum.inr (
                some ((false, ()), (()))
               )
              else
              self26 (wi (x24.1 + 1), wi (x24.2.1 + 1), ({ x24.2.2.1 with recs := x24.2.2.1.recs.set x24.1.toNat (atK26 x24.2.2.1.recs x24.1) } : EnvP), ())
             else none
            else none
           else none
          else
          if 0 ≤ r28.1.1 ∧ r28.1.1 < ((x24.2.2.1.m.cells.length : Nat) : Int) then
           if ((atK4 r2.1.1.subs x24.2.1).level) = ((atK4 r2.1.1.subs x24.2.1).level) then
            if (atK0 x24.2.2.1.m.cells r28.1.1) ≠ (wu ((atK4 r2.1.1.subs x24.2.1).level)) then
             Option.map Sum.inr (
              some ((false, ()), (()))
             )
            else
            if 0 ≤ x24.2.1 ∧ x24.2.1 < ((r2.1.1.subs.length : Nat) : Int) then
             if ((atK26 x24.2.2.1.recs x24.1).prog) ≠ ((atK4 r2.1.1.subs x24.2.1).prog) then
              Option.map Sum.inr (
               some ((false, ()), (()))
              )
             else
             if ((atK26 x24.2.2.1.recs x24.1).parent) ≠ (-1) then
              Option.map Sum.inr (
               some ((false, ()), (()))
              )
             else
             if ((atK26 x24.2.2.1.recs x24.1).waiting) ≠ (-1) then
              Option.map Sum.inr (
               some ((false, ()), (()))
              )
             else
             if (atK26 x24.2.2.1.recs x24.1).started = true then
              Option.map Sum.inr (
               some ((false, ()), (()))
              )
             else
             if 0 ≤ x24.2.1 ∧ x24.2.1 < ((x24.2.2.1.evs.length : Nat) : Int) then
              if ¬ (((atK2 x24.2.2.1.evs x24.2.1).kind) = 1 ∧ ((atK2 x24.2.2.1.evs x24.2.1).worker) = r2.1.1.workers ∧ ((atK2 x24.2.2.1.evs x24.2.1).task) = x24.1 ∧ ((atK2 x24.2.2.1.evs x24.2.1).other) = x24.2.1 ∧ ((atK2 x24.2.2.1.evs x24.2.1).level) = ((atK4 r2.1.1.subs x24.2.1).level) ∧ True) then
               Option.map Sum.inr (
                some ((false, ()), (()))
               )
              else
              self26 (wi (x24.1 + 1), wi (x24.2.1 + 1), ({ x24.2.2.1 with recs := x24.2.2.1.recs.set x24.1.toNat (atK26 x24.2.2.1.recs x24.1) } : EnvP), ())
             else none
            else none
           else none
          else none
         else none
        else none
       else none
      else none
     else none
    else none
   else none
  else
  some (Sum.inl (x24.1, x24.2.1, x24.2.2.1, ()))
 ) 18446744073709551616 (0, 0, z23.2.1, ())).bind fun z25 => match z25 with
 | .inr o29 => some o29
 | .inl z25 =>
 if ((z25.2.2.1.m.cells.length : Nat) : Int) ≤ 2 then
  some ((decide (0 = (wu (z25.1))), ()), (()))
 else
 if 0 ≤ (2 : Int) ∧ (2 : Int) < ((z25.2.2.1.m.cells.length : Nat) : Int) then
  some ((decide ((atK0 z25.2.2.1.m.cells 2) = (wu (z25.1))), ()), (()))
 else none
noncomputable abbrev worksteallaw27ClientAdmits_k : Con SR1 := ⟨4, [.sh (.ro 17), .sh (.i .u8), .sh (.i .u8)], [.sh .b], fun x => worksteallaw27ClientAdmits x.1 x.2.1 x.2.2.1⟩
noncomputable def worksteallaw27ClientAdmits_tb : List (Nat × Func) := [(14, Try.f14), (16, Try.f16)]
theorem worksteallaw27ClientAdmits_ok : CO Try.prog worksteallaw27ClientAdmits_k := co_fn mixed Try.func4 [kshort_k, kconfig_k, machineNew_k, clientNew_k, worksteallaw27Awake_k, clientClientStep_k, clientClientResult_k, clientClientStatus_k, clientClientSubmission_k, workstealref06State_k, workstealref06Level_k] ⟨kshort_ok, kconfig_ok, machineNew_ok, clientNew_ok, worksteallaw27Awake_ok, clientClientStep_ok, clientClientResult_ok, clientClientStatus_ok, clientClientSubmission_ok, workstealref06State_ok, workstealref06Level_ok, trivial⟩ worksteallaw27ClientAdmits_tb ⟨Try.func14, Try.func16, trivial⟩ (fun f => (get [(14, [(3, .loopR [.rg 8 sI_, .ob 16 27, .ob 18 30] 18446744073709551616 0)])] f).getD []) [(11, .cut [.rg 91 .b, .ob 16 27, .ob 18 30] [0, 13, 14, 15]), (14, .loopR [.rg 11 sI_, .rg 12 sI_, .rg 8 (.own 27)] 18446744073709551616 0)] fun x => by kernel_rfl
end
section
open Go Go.RowKit
set_option maxRecDepth 100000
theorem obind {α β : Type} (a : α) (f : α → Option β) : (some a).bind f = f a := rfl
/-- The lengths of a configuration's lists are plain. -/
structure LenOk (c : Cfg) : Prop where
  ps : c.progs.length ≤ 1000000
  pl : ∀ p ∈ c.progs, p.length ≤ 1000000
  ss : c.subs.length ≤ 1000000
theorem progs_len {lv np : Int} : ∀ {ps : List (List Ins)}, progsErr lv np ps = 0 → ∀ p ∈ ps, p.length ≤ 32
  | [], _, p, h => by cases h
  | q :: ps, h, p, hm => by
    unfold progsErr at h
    split at h
    · omega
    · split at h
      · rcases List.mem_cons.1 hm with e | e
        · subst e; omega
        · exact progs_len h p e
      · omega
theorem valid_len {c : Cfg} (h : cfgErr c = 0) : numsOk c = true ∧ c.progs.length ≤ 32 ∧ (∀ p ∈ c.progs, p.length ≤ 32) ∧ c.subs.length ≤ 64 := by
  unfold cfgErr at h
  split at h
  · omega
  · rename_i hn
    split at h
    · omega
    · rename_i hp
      have hp0 : progsAll c = 0 := by omega
      unfold progsAll at hp0
      split at hp0
      · omega
      · rename_i hl
        simp only [inB, Bool.not_eq_true', Bool.and_eq_false_iff, decide_eq_false_iff_not, not_or, Classical.not_not, Bool.not_eq_false, Bool.and_eq_true, decide_eq_true_eq] at hl
        refine ⟨by simpa using hn, by omega, progs_len hp0, ?_⟩
        unfold subsAll at h
        split at h
        · omega
        · omega
theorem LenOk.of {c : Cfg} (h : cfgErr c = 0) : LenOk c := by
  obtain ⟨_, h1, h2, h3⟩ := valid_len h
  exact ⟨by omega, fun p hp => by have := h2 p hp; omega, by omega⟩
abbrev ClS := Int × Int × Int × Int × Int × Int × Int × Int × Int × List (List Ins) × List Sub × Unit
def clS (c : Cfg) : ClS := (c.workers, c.levels, c.classes, c.tasks, c.deque, c.heap, c.batch, c.age, c.patience, c.progs, c.subs, ())
theorem set_sameP {α : Type} {xs : List α} {i : Nat} {x : α} (h : xs[i]? = some x) : xs.set i x = xs := by
  obtain ⟨hlt, rfl⟩ := List.getElem?_eq_some_iff.1 h
  simp
theorem clone_eq {c : Cfg} (h : LenOk c) : configClone c = some ((c, ()), ()) := by
  have hg : Good (configClone c) fun o => o.1.1 = c := by
    unfold configClone
    have e0 : cloneRows c.progs = some ((c.progs, ()), ()) := by unfold cloneRows; rw [if_pos h.ps]
    rw [e0, obind]
    refine Good.bind (P := fun z => z.2.1 = clS c) (lp_good (fun x => x.2.1 = clS c ∧ 0 ≤ x.1 ∧ x.1 ≤ (c.progs.length : Int)) (fun x => ((c.progs.length : Int) - x.1).toNat) (fun self x ⟨q0, q1, q2⟩ ih => ?_) _ _ ⟨rfl, Int.le_refl 0, by show (0 : Int) ≤ _; omega⟩ (by show ((c.progs.length : Int) - 0).toNat < _; have := h.ps; omega)) fun z hz => ?_
    rotate_left
    · obtain ⟨i, s, u⟩ := x
      simp only at q0 q1 q2
      subst q0
      refine Good.ite (fun hlt => ?_) fun _ => .some_ rfl
      have hin : 0 ≤ i ∧ i < ((c.progs.length : Nat) : Int) := ⟨q1, hlt⟩
      refine Good.guard (show 0 ≤ i ∧ i < (((clS c).2.2.2.2.2.2.2.2.2.1.length : Nat) : Int) from hin) fun _ => ?_
      have hm := h.pl _ (at_in (d := (dfR 18 : List Ins)) hin)
      have e1 : cloneIns (atK18 (clS c).2.2.2.2.2.2.2.2.2.1 i) = some ((atK18 c.progs i, ()), ()) := by
        unfold cloneIns; exact if_pos hm
      rw [e1, obind]
      refine Good.guard (show 0 ≤ i ∧ i < (((clS c).2.2.2.2.2.2.2.2.2.1.length : Nat) : Int) from hin) fun _ => ?_
      have e2 : wi (i + 1) = i + 1 := wi_id (rg_lit (by have := h.ps; omega))
      have e3 : c.progs.set i.toNat (atK18 c.progs i) = c.progs := set_sameP (atL_get hin)
      rw [e2]
      refine ih _ ⟨?_, by show 0 ≤ i + 1; omega, by show i + 1 ≤ _; omega⟩ (by show ((c.progs.length : Int) - (i + 1)).toNat < ((c.progs.length : Int) - i).toNat; omega)
      show (c.workers, c.levels, c.classes, c.tasks, c.deque, c.heap, c.batch, c.age, c.patience, c.progs.set i.toNat (atK18 c.progs i), c.subs, ()) = clS c
      rw [e3]; rfl
    · rw [hz]
      have e4 : cloneSubs (clS c).2.2.2.2.2.2.2.2.2.2.1 = some ((c.subs, ()), ()) := by unfold cloneSubs; exact if_pos h.ss
      rw [e4, obind]
      exact .some_ rfl
  obtain ⟨o, e, ho⟩ := hg
  rw [e]
  obtain ⟨⟨o1, ⟨⟩⟩, ⟨⟩⟩ := o
  simp only at ho
  rw [ho]
/-- The layout of a configuration. -/
def layV (c : Cfg) : LayV := { workers := c.workers, levels := c.levels, classes := c.classes, tasks := c.tasks, deque := c.deque, heap := c.heap, sleepers := 4 + c.heap, epochs := 4 + c.heap + c.classes, bitmaps := 4 + c.heap + c.classes + c.workers, queues := 4 + c.heap + c.classes + c.workers + c.workers, table := 4 + c.heap + c.classes + c.workers + c.workers + c.workers * c.levels * (2 + c.deque) }
def cellsN (c : Cfg) : Int := (layV c).table + 5 * c.tasks
theorem mulb {a b A B : Int} (ha : 0 ≤ a) (hA : a ≤ A) (hb : 0 ≤ b) (hB : b ≤ B) : 0 ≤ a * b ∧ a * b ≤ A * B :=
  ⟨Int.mul_nonneg ha hb, Int.le_trans (Int.mul_le_mul_of_nonneg_right hA hb) (Int.mul_le_mul_of_nonneg_left hB (Int.le_trans ha hA))⟩
theorem table_rg {c : Cfg} (h : numsOk c = true) : (0 ≤ c.workers * c.levels ∧ c.workers * c.levels ≤ 1024) ∧ (0 ≤ c.workers * c.levels * (2 + c.deque) ∧ c.workers * c.levels * (2 + c.deque) ≤ 67584) := by
  have hs := numsOk_spec h
  have h1 := mulb (a := c.workers) (b := c.levels) (A := 16) (B := 64) (by omega) (by omega) (by omega) (by omega)
  have h2 := mulb (a := c.workers * c.levels) (b := 2 + c.deque) (A := 1024) (B := 66) h1.1 (by omega) (by omega) (by omega)
  omega
theorem layout_eq {c : Cfg} (h : cfgErr c = 0) : layoutNew c = some ((layV c, 0, ()), ()) := by
  have hn := (valid_len h).1
  have hs := numsOk_spec hn
  have ht := table_rg hn
  unfold layoutNew cfgCheck
  rw [obind]
  have e0 : ¬ cfgErr c ≠ 0 := by omega
  simp only [if_neg e0]
  have e1 : wi (4 + c.heap) = 4 + c.heap := wi_id (rg_lit (by omega))
  have e2 : wi (4 + c.heap + c.classes) = 4 + c.heap + c.classes := wi_id (rg_lit (by omega))
  have e3 : wi (4 + c.heap + c.classes + c.workers) = 4 + c.heap + c.classes + c.workers := wi_id (rg_lit (by omega))
  have e4 : wi (4 + c.heap + c.classes + c.workers + c.workers) = 4 + c.heap + c.classes + c.workers + c.workers := wi_id (rg_lit (by omega))
  have e5 : wi (c.workers * c.levels) = c.workers * c.levels := wi_id (rg_lit (by omega))
  have e6 : wi (2 + c.deque) = 2 + c.deque := wi_id (rg_lit (by omega))
  have e7 : wi (c.workers * c.levels * (2 + c.deque)) = c.workers * c.levels * (2 + c.deque) := wi_id (rg_lit (by omega))
  have e8 : wi (4 + c.heap + c.classes + c.workers + c.workers + c.workers * c.levels * (2 + c.deque)) = 4 + c.heap + c.classes + c.workers + c.workers + c.workers * c.levels * (2 + c.deque) := wi_id (rg_lit (by omega))
  simp only [e1, e2, e3, e4, e5, e6, e7, e8]
  rfl
def rec0 : RecP := ⟨0, -1, 0, 0, -1, [], false⟩
/-- The environment behind New. -/
def envV (c : Cfg) : EnvP := ⟨c, layV c, ⟨List.replicate (cellsN c).toNat 0, ⟨0, 0, 0, 0⟩, 0⟩, ⟨0, 0⟩, List.replicate c.tasks.toNat rec0, []⟩
theorem new_eq {c : Cfg} (h : cfgErr c = 0) : machineNew c = some ((envV c, 0, ()), ()) := by
  have hn := (valid_len h).1
  have hs := numsOk_spec hn
  have ht := table_rg hn
  have hg : Good (machineNew c) fun o => o.1.1 = envV c ∧ o.1.2.1 = 0 := by
    unfold machineNew
    rw [layout_eq h, obind]
    refine Good.ite (fun e => absurd rfl e) fun _ => ?_
    have c1 : wi (5 * c.tasks) = 5 * c.tasks := wi_id (rg_lit (by omega))
    have c2 : wi ((layV c).table + 5 * c.tasks) = cellsN c := wi_id (rg_lit (by unfold layV; simp only; omega))
    have e1 : pCells (layV c) = some ((cellsN c, ()), ()) := by
      unfold pCells
      have : wi (5 * (layV c).tasks) = 5 * c.tasks := c1
      rw [this, c2]
    rw [e1, obind]
    have hc : 0 ≤ cellsN c ∧ cellsN c ≤ 131072 := by unfold cellsN layV; simp only; omega
    have e2 : machineBare (cellsN c) = some ((⟨⟨0, 0, 0, 0, 0, 0, 0, 0, 0, [], []⟩, ⟨0, 0, 0, 0, 0, 0, 0, 0, 0, 0, 0⟩, ⟨List.replicate (cellsN c).toNat 0, ⟨0, 0, 0, 0⟩, 0⟩, ⟨0, 0⟩, [], []⟩, ()), ()) := by
      unfold machineBare memoryNew clockNew
      have i1 : (if cellsN c < 0 then (0 : Int) else cellsN c) = cellsN c := if_neg (by omega)
      have i2 : (if 131072 < cellsN c then (131072 : Int) else cellsN c) = cellsN c := if_neg (by omega)
      have i3 : 0 ≤ cellsN c ∧ cellsN c ≤ 1099511627776 := by omega
      simp only [i1, i2, if_true, if_pos i3, obind]
    rw [e2, obind, clone_eq (.of h), obind]
    simp only [if_true]
    refine Good.bind (P := fun z => z.2.1 = envV c) (lp_good (fun x => 0 ≤ x.1 ∧ x.1 ≤ c.tasks ∧ x.2.1 = { envV c with recs := List.replicate x.1.toNat rec0 }) (fun x => (c.tasks - x.1).toNat) (fun self x ⟨q0, q1, q2⟩ ih => ?_) _ _ ⟨Int.le_refl 0, by show (0 : Int) ≤ _; omega, rfl⟩ (by show (c.tasks - 0).toNat < _; omega)) fun z hz => .some_ ⟨hz, rfl⟩
    obtain ⟨i, e, u⟩ := x
    simp only at q0 q1 q2
    subst q2
    refine Good.ite (fun hlt => ?_) fun hge => .some_ ?_
    · have hl : (List.replicate i.toNat rec0).length = i.toNat := List.length_replicate
      refine Good.guard ?_ fun _ => ?_
      · show (((List.replicate i.toNat rec0).length + 1 : Nat) : Int) < 100000000000
        rw [hl]
        have hlt' : i < c.tasks := hlt
        omega
      · have hlt' : i < c.tasks := hlt
        have e2 : wi (i + 1) = i + 1 := wi_id (rg_lit (by omega))
        rw [e2]
        refine ih _ ⟨by show 0 ≤ i + 1; omega, by show i + 1 ≤ _; omega, ?_⟩ (by show (c.tasks - (i + 1)).toNat < (c.tasks - i).toNat; omega)
        show ({ envV c with recs := List.replicate i.toNat rec0 ++ [rec0] } : EnvP) = { envV c with recs := List.replicate (i + 1).toNat rec0 }
        have e3 : (i + 1).toNat = i.toNat + 1 := by omega
        rw [e3, List.replicate_succ']
    · show ({ envV c with recs := List.replicate i.toNat rec0 } : EnvP) = envV c
      have : i = c.tasks := by have hge' : ¬ i < c.tasks := hge; omega
      rw [this]; rfl
  obtain ⟨o, e, ho1, ho2⟩ := hg
  rw [e]
  obtain ⟨⟨o1, o2, ⟨⟩⟩, ⟨⟩⟩ := o
  simp only at ho1 ho2
  rw [ho1, ho2]
end
section
open Go Go.RowKit
set_option maxRecDepth 100000
theorem wu_id {x : Int} (h : 0 ≤ x ∧ x ≤ 1000000000000) : wu x = x := by
  show IntKind.u64.wrap x = x
  simp only [IntKind.wrap, IntKind.bits, IntKind.signed]; simp; omega
/-- A cell. -/
abbrev cel (m : MemV) (a : Int) : Int := atK0 m.cells a
theorem cel_set {xs : List Int} {a b v : Int} (ha : 0 ≤ a) (hb : 0 ≤ b ∧ b < (xs.length : Int)) : atK0 (xs.set a.toNat v) b = if a = b then v else atK0 xs b := by
  show ((xs.set a.toNat v)[b.toNat]?).getD _ = if a = b then v else (xs[b.toNat]?).getD _
  rw [List.getElem?_set]
  by_cases h : a = b
  · subst h
    rw [if_pos rfl, if_pos rfl, if_pos (by omega)]; rfl
  · rw [if_neg (by omega), if_neg h]
theorem load_eq {m : MemV} {a : Int} (h : 0 ≤ a ∧ a < (m.cells.length : Int)) : Good (pLoad m a) fun o => o.1.1 = cel m a ∧ o.2.1.cells = m.cells := by
  unfold pLoad
  refine Good.ite (fun k => absurd k (by omega)) fun _ => Good.ite (fun k => absurd k (by omega)) fun _ => Good.guard h fun _ => Good.guard h fun _ => Good.guard ?_ fun _ => .some_ ⟨rfl, ?_⟩
  · rw [List.length_set]; exact h
  · exact set_sameP (atL_get h)
theorem store_eq {m : MemV} {a v : Int} (h : 0 ≤ a ∧ a < (m.cells.length : Int)) : Good (pStore m a v) fun o => o.2.1.cells = m.cells.set a.toNat v := by
  unfold pStore
  refine Good.ite (fun k => absurd k (by omega)) fun _ => Good.ite (fun k => absurd k (by omega)) fun _ => Good.guard h fun _ => Good.guard h fun _ => Good.guard ?_ fun _ => .some_ rfl
  rw [List.length_set]; exact h
theorem add_eq {m : MemV} {a v : Int} (h : 0 ≤ a ∧ a < (m.cells.length : Int)) : Good (pAdd m a v) fun o => o.1.1 = cel m a ∧ o.2.1.cells = m.cells.set a.toNat (wu (cel m a + v)) := by
  unfold pAdd
  refine Good.ite (fun k => absurd k (by omega)) fun _ => Good.ite (fun k => absurd k (by omega)) fun _ => Good.guard h fun _ => Good.guard h fun _ => Good.guard ?_ fun _ => .some_ ⟨rfl, rfl⟩
  rw [List.length_set]; exact h
theorem cas_eq {m : MemV} {a old v : Int} (h : 0 ≤ a ∧ a < (m.cells.length : Int)) (he : cel m a = old) : Good (pCAS m a old v) fun o => o.1.1 = true ∧ o.2.1.cells = m.cells.set a.toNat v := by
  unfold pCAS
  refine Good.ite (fun k => absurd k (by omega)) fun _ => Good.ite (fun k => absurd k (by omega)) fun _ => Good.guard h fun _ => Good.guard he fun _ => Good.guard h fun _ => Good.guard ?_ fun _ => .some_ ⟨decide_eq_true he, rfl⟩
  rw [List.length_set]; exact h
/-- What is asked of the configuration. -/
structure CfOk (c : Cfg) : Prop where
  v : cfgErr c = 0
  w : 1 ≤ c.workers ∧ c.workers ≤ 4
  l : 1 ≤ c.levels ∧ c.levels ≤ 4
  k : 1 ≤ c.classes ∧ c.classes ≤ 3
  t : 1 ≤ c.tasks ∧ c.tasks ≤ 12
  q : 1 ≤ c.deque ∧ c.deque ≤ 4
  h : 1 ≤ c.heap ∧ c.heap ≤ 8
  sn : c.subs.length ≤ 5
  ss : ∀ s ∈ c.subs, (0 ≤ s.level ∧ s.level < c.levels) ∧ 0 ≤ s.deadline ∧ s.deadline ≤ 15
def tab (c : Cfg) : Int := (layV c).table
theorem tab_rg {c : Cfg} (h : CfOk c) : 4 + c.heap + c.classes ≤ tab c ∧ tab c ≤ 100000 ∧ cellsN c = tab c + 5 * c.tasks := by
  have ht := table_rg (valid_len h.v).1
  have := h.w; have := h.k; have := h.h
  have e1 : tab c = 4 + c.heap + c.classes + c.workers + c.workers + c.workers * c.levels * (2 + c.deque) := rfl
  have e2 : cellsN c = tab c + 5 * c.tasks := rfl
  rw [e2, e1]
  generalize c.workers * c.levels * (2 + c.deque) = z at *
  omega
theorem task_ad {c : Cfg} (h : CfOk c) {t f : Int} (ht : 0 ≤ t ∧ t < c.tasks) (hf : 0 ≤ f ∧ f ≤ 4) : pTask (layV c) t f = some ((tab c + f + t * 5, ()), ()) := by
  have hr := tab_rg h
  have h1 := h.t
  have h2 := h.h
  have h3 := h.k
  have e1 : wi ((layV c).table + f) = tab c + f := wi_id (rg_lit (by show -1000000000000 ≤ tab c + f ∧ tab c + f ≤ _; omega))
  have e2 : wi (t * 5) = t * 5 := wi_id (rg_lit (by omega))
  have e3 : wi (tab c + f + t * 5) = tab c + f + t * 5 := wi_id (rg_lit (by omega))
  unfold pTask pAt
  rw [e1, e2, e3, if_neg (by omega), if_neg (show ¬ (layV c).tasks ≤ t by show ¬ c.tasks ≤ t; omega)]
  rfl
theorem slot_ad {c : Cfg} (h : CfOk c) {p : Int} (hp : 0 ≤ p ∧ p < c.heap) : pSlot (layV c) p = some ((4 + p, ()), ()) := by
  have h2 := h.h
  have e2 : wi (p * 1) = p := by rw [Int.mul_one]; exact wi_id (rg_lit (by omega))
  have e3 : wi (4 + p) = 4 + p := wi_id (rg_lit (by omega))
  unfold pSlot pAt
  rw [e2, e3, if_neg (by omega), if_neg (show ¬ (layV c).heap ≤ p by show ¬ c.heap ≤ p; omega)]
  rfl
theorem sleep_ad {c : Cfg} (h : CfOk c) {p : Int} (hp : 0 ≤ p ∧ p < c.classes) : pSleepers (layV c) p = some ((4 + c.heap + p, ()), ()) := by
  have h2 := h.h
  have h3 := h.k
  have e2 : wi (p * 1) = p := by rw [Int.mul_one]; exact wi_id (rg_lit (by omega))
  have e3 : wi ((layV c).sleepers + p) = 4 + c.heap + p := wi_id (rg_lit (by show -1000000000000 ≤ 4 + c.heap + p ∧ 4 + c.heap + p ≤ _; omega))
  unfold pSleepers pAt
  rw [e2, e3, if_neg (by omega), if_neg (show ¬ (layV c).classes ≤ p by show ¬ c.classes ≤ p; omega)]
  rfl
/-- How many are accepted. -/
def cap (c : Cfg) : Int := if c.heap ≤ c.tasks then c.heap else c.tasks
def acc (c : Cfg) (i : Int) : Int := if i ≤ cap c then i else cap c
theorem acc_sp (c : Cfg) (i : Int) : (acc c i ≤ i ∧ acc c i ≤ c.heap ∧ acc c i ≤ c.tasks) ∧ (acc c i < c.heap → acc c i < c.tasks → acc c i = i ∧ acc c (i + 1) = acc c i + 1) ∧ ((acc c i = c.heap ∨ acc c i = c.tasks) → acc c (i + 1) = acc c i) := by
  unfold acc cap
  split <;> split <;> split <;> omega
def evOf (c : Cfg) (i : Int) : Ev := if acc c i = c.heap then ⟨2, c.workers, 0, i, 1⟩ else if acc c i = c.tasks then ⟨2, c.workers, 0, i, 2⟩ else ⟨1, c.workers, acc c i, i, (atK4 c.subs i).level⟩
def evsOf (c : Cfg) (k : Nat) : List Ev := (List.range k).map fun (i : Nat) => evOf c (i : Int)
theorem evsOf_len (c : Cfg) (k : Nat) : (evsOf c k).length = k := by unfold evsOf; rw [List.length_map, List.length_range]
theorem evsOf_succ (c : Cfg) (k : Nat) : evsOf c (k + 1) = evsOf c k ++ [evOf c (k : Int)] := by unfold evsOf; rw [List.range_succ, List.map_append]; rfl
/-- What lies in the environment. -/
structure EOk (c : Cfg) (e : EnvP) : Prop where
  ec : e.c = c
  el : e.l = layV c
  en : (e.m.cells.length : Int) = cellsN c
  er : (e.recs.length : Int) = c.tasks
  es : ∀ s, 0 ≤ s ∧ s < c.classes → cel e.m (4 + c.heap + s) = 0
def recOf (s : Sub) : RecP := ⟨s.prog, -1, 0, 0, -1, [], false⟩
structure TOk (c : Cfg) (e : EnvP) (t : Int) : Prop where
  st : cel e.m (tab c + 0 + t * 5) = 1
  lv : cel e.m (tab c + 1 + t * 5) = (atK4 c.subs t).level
  rc : atK26 e.recs t = recOf (atK4 c.subs t)
structure EB (c : Cfg) (e : EnvP) (k : Nat) (n : Int) : Prop where
  o : EOk c e
  ev : e.evs = evsOf c k
  ts : ∀ t, 0 ≤ t ∧ t < n → TOk c e t
/-- Another memory, that differs low (below the sleepers). -/
theorem EB.low {c : Cfg} {e : EnvP} {k : Nat} {n : Int} (hc : CfOk c) (h : EB c e k n) (hn : n ≤ c.tasks) {m : MemV} {a v : Int} (ha : 0 ≤ a ∧ a < 4 + c.heap) (hm : m.cells = e.m.cells.set a.toNat v) : EB c { e with m := m } k n := by
  have hr := tab_rg hc
  have := hc.k
  have := hc.t
  have := hc.h
  have hl := h.o.en
  have key : ∀ b, 4 + c.heap ≤ b ∧ b < cellsN c → cel m b = cel e.m b := fun b hb => by
    show atK0 m.cells b = _
    rw [hm, cel_set ha.1 (by omega), if_neg (by omega)]
  refine ⟨⟨h.o.ec, h.o.el, ?_, h.o.er, fun s hs => ?_⟩, h.ev, fun t ht => ⟨?_, ?_, (h.ts t ht).rc⟩⟩
  · show (m.cells.length : Int) = _; rw [hm, List.length_set]; exact hl
  · exact (key _ (by omega)).trans (h.o.es s hs)
  · exact (key _ (by omega)).trans (h.ts t ht).st
  · exact (key _ (by omega)).trans (h.ts t ht).lv
/-- The same cells. -/
theorem EB.same {c : Cfg} {e : EnvP} {k : Nat} {n : Int} (h : EB c e k n) {m : MemV} (hm : m.cells = e.m.cells) : EB c { e with m := m } k n := by
  have key : ∀ b, cel m b = cel e.m b := fun b => by show atK0 m.cells b = _; rw [hm]
  exact ⟨⟨h.o.ec, h.o.el, by show (m.cells.length : Int) = _; rw [hm]; exact h.o.en, h.o.er, fun s hs => (key _).trans (h.o.es s hs)⟩, h.ev, fun t ht => ⟨(key _).trans (h.ts t ht).st, (key _).trans (h.ts t ht).lv, (h.ts t ht).rc⟩⟩
/-- A cell of a task that is not among the first n. -/
theorem EB.high {c : Cfg} {e : EnvP} {k : Nat} {n : Int} (hc : CfOk c) (h : EB c e k n) {m : MemV} {t f v : Int} (ht : n ≤ t ∧ t < c.tasks) (h0 : 0 ≤ n) (hf : 0 ≤ f ∧ f ≤ 4) (hm : m.cells = e.m.cells.set (tab c + f + t * 5).toNat v) : EB c { e with m := m } k n := by
  have hr := tab_rg hc
  have := hc.k
  have := hc.h
  have hl := h.o.en
  have key : ∀ b, 0 ≤ b ∧ b < cellsN c → b ≠ tab c + f + t * 5 → cel m b = cel e.m b := fun b hb hne => by
    show atK0 m.cells b = _
    rw [hm, cel_set (by omega) (by omega), if_neg (by omega)]
  refine ⟨⟨h.o.ec, h.o.el, ?_, h.o.er, fun s hs => ?_⟩, h.ev, fun u hu => ⟨?_, ?_, (h.ts u hu).rc⟩⟩
  · show (m.cells.length : Int) = _; rw [hm, List.length_set]; exact hl
  · exact (key _ (by omega) (by omega)).trans (h.o.es s hs)
  · exact (key _ (by omega) (by omega)).trans (h.ts u hu).st
  · exact (key _ (by omega) (by omega)).trans (h.ts u hu).lv
end
section
open Go Go.RowKit
set_option maxRecDepth 100000
abbrev o0 : OutV := ⟨false, 0, 0⟩
def Mem (e : EnvP) (P : MemV → Prop) (f : EnvP) : Prop := ∃ m, f = { e with m := m } ∧ P m
theorem low_in {c : Cfg} {e : EnvP} (hc : CfOk c) (h : EOk c e) {a : Int} (ha : 0 ≤ a ∧ a < 4 + c.heap + c.classes) : 0 ≤ a ∧ a < (e.m.cells.length : Int) := by
  have := tab_rg hc; have := h.en; have := hc.t; omega
theorem task_in {c : Cfg} {e : EnvP} (hc : CfOk c) (h : EOk c e) {t f : Int} (ht : 0 ≤ t ∧ t < c.tasks) (hf : 0 ≤ f ∧ f ≤ 4) : 0 ≤ tab c + f + t * 5 ∧ tab c + f + t * 5 < (e.m.cells.length : Int) := by
  have := tab_rg hc; have := h.en; have := hc.h; have := hc.k; omega
theorem attempt_ok {c : Cfg} {e : EnvP} (hc : CfOk c) (h : EOk c e) {w : Int} (h0 : cel e.m 1 = 0) : Good (stepD3 (.attempt ⟨o0, w, false⟩) e) fun o => o.1.1 = true ∧ o.2.1 = .attempt ⟨⟨true, 1, 0⟩, w, false⟩ ∧ Mem e (fun m => m.cells = e.m.cells.set 1 (wu (wi (w + 1)))) o.2.2.1 := by
  have hg : Good (lockAttemptStep ⟨o0, w, false⟩ e) fun o => o.1.1 = true ∧ o.2.1 = ⟨⟨true, 1, 0⟩, w, false⟩ ∧ Mem e (fun m => m.cells = e.m.cells.set 1 (wu (wi (w + 1)))) o.2.2.1 := by
    unfold lockAttemptStep pEnded pLock
    simp only [obind, if_true]
    refine Good.ite (fun k => absurd k (by decide)) fun _ => (cas_eq (low_in hc h (by have := hc.h; have := hc.k; omega)) h0).bind fun r ⟨r1, r2⟩ => Good.guard r1 fun _ => ?_
    exact .some_ ⟨rfl, rfl, _, rfl, r2⟩
  exact hg.bind fun o ⟨h1, h2, h3⟩ => .some_ ⟨h1, congrArg MV.attempt h2, h3⟩
theorem release_ok {c : Cfg} {e : EnvP} (hc : CfOk c) (h : EOk c e) : Good (stepD3 (.release ⟨o0⟩) e) fun o => o.1.1 = true ∧ o.2.1 = .release ⟨⟨true, 0, 0⟩⟩ ∧ Mem e (fun m => m.cells = e.m.cells.set 1 0) o.2.2.1 := by
  have hg : Good (lockReleaseStep ⟨o0⟩ e) fun o => o.1.1 = true ∧ o.2.1 = ⟨⟨true, 0, 0⟩⟩ ∧ Mem e (fun m => m.cells = e.m.cells.set 1 0) o.2.2.1 := by
    unfold lockReleaseStep pEnded pLock
    simp only [obind]
    refine Good.ite (fun k => absurd k (by decide)) fun _ => (store_eq (low_in hc h (by have := hc.h; have := hc.k; omega))).bind fun r r2 => ?_
    exact .some_ ⟨rfl, rfl, _, rfl, r2⟩
  exact hg.bind fun o ⟨h1, h2, h3⟩ => .some_ ⟨h1, congrArg MV.release h2, h3⟩
theorem alloc_ok {c : Cfg} {e : EnvP} (hc : CfOk c) (h : EOk c e) {nx : Int} (h0 : cel e.m 0 = nx) (hn : 0 ≤ nx ∧ nx ≤ 1000) : Good (stepD3 (.alloc ⟨o0⟩) e) fun o => o.1.1 = true ∧ o.2.1 = .alloc ⟨if nx < c.tasks then ⟨true, 1, nx⟩ else ⟨true, 3, 0⟩⟩ ∧ Mem e (fun m => m.cells = e.m.cells.set 0 (nx + 1)) o.2.2.1 := by
  obtain ⟨ec, el, m0, k0, r0, v0⟩ := e
  obtain rfl : ec = c := h.ec
  obtain rfl : el = layV ec := h.el
  have hg : Good (tableAllocateStep ⟨o0⟩ ⟨ec, layV ec, m0, k0, r0, v0⟩) fun o => o.1.1 = true ∧ o.2.1 = ⟨if nx < ec.tasks then ⟨true, 1, nx⟩ else ⟨true, 3, 0⟩⟩ ∧ Mem ⟨ec, layV ec, m0, k0, r0, v0⟩ (fun m => m.cells = m0.cells.set 0 (nx + 1)) o.2.2.1 := by
    unfold tableAllocateStep pEnded pNext
    simp only [obind]
    refine Good.ite (fun k => absurd k (by decide)) fun _ => (add_eq (low_in hc h (by have := hc.h; have := hc.k; omega))).bind fun r ⟨r1, r2⟩ => ?_
    have e1 : wi r.1.1 = nx := by rw [r1, h0]; exact wi_id (rg_lit (by omega))
    have e2 : wu (cel m0 0 + 1) = nx + 1 := by rw [h0]; exact wu_id (by omega)
    rw [e2] at r2
    unfold tableIsTask
    rw [e1, if_pos hn.1, obind]
    by_cases ht : nx < ec.tasks
    · refine Good.ite (fun k => ?_) fun _ => ?_
      · rw [decide_eq_true ht] at k; cases k
      · rw [if_pos ht]; exact .some_ ⟨rfl, rfl, _, rfl, r2⟩
    · refine Good.guard ?_ fun _ => ?_
      · rw [decide_eq_false ht]; rfl
      · rw [if_neg ht]; exact .some_ ⟨rfl, rfl, _, rfl, r2⟩
  exact hg.bind fun o ⟨h1, h2, h3⟩ => .some_ ⟨h1, congrArg MV.alloc h2, h3⟩
/-- The wake machine finds no sleeper. -/
theorem wake_step {c : Cfg} {e : EnvP} (hc : CfOk c) (h : EOk c e) {w lv j : Int} (hj : 0 ≤ j ∧ j < c.classes) :
    Good (stepD3 (.wake ⟨o0, w, lv, 1, j, 0⟩) e) fun o => (if j + 1 < c.classes then o.1.1 = false ∧ o.2.1 = .wake ⟨o0, w, lv, 1, j + 1, 0⟩ else o.1.1 = true ∧ o.2.1 = .wake ⟨⟨true, 2, 0⟩, w, lv, 1, j + 1, 0⟩) ∧ Mem e (fun m => m.cells = e.m.cells) o.2.2.1 := by
  obtain ⟨ec, el, m0, k0, r0, v0⟩ := e
  obtain rfl : ec = c := h.ec
  obtain rfl : el = layV ec := h.el
  have hk := hc.k
  have hg : Good (parkWakeStep ⟨o0, w, lv, 1, j, 0⟩ ⟨ec, layV ec, m0, k0, r0, v0⟩) fun o => (if j + 1 < ec.classes then o.1.1 = false ∧ o.2.1 = ⟨o0, w, lv, 1, j + 1, 0⟩ else o.1.1 = true ∧ o.2.1 = ⟨⟨true, 2, 0⟩, w, lv, 1, j + 1, 0⟩) ∧ Mem ⟨ec, layV ec, m0, k0, r0, v0⟩ (fun m => m.cells = m0.cells) o.2.2.1 := by
    unfold parkWakeStep pEnded
    simp only [obind, if_true]
    refine Good.ite (fun k => absurd k (by decide)) fun _ => ?_
    refine Good.bind (P := fun z => z.1 = 0 ∧ ∃ m, z.2.1 = ⟨ec, layV ec, m, k0, r0, v0⟩ ∧ m.cells = m0.cells) ?_ fun z hz => ?_
    · refine Good.ite (fun k => absurd k (by omega)) fun _ => ?_
      refine Good.bind (P := fun _ => True) ?_ fun r3 _ => ?_
      · unfold pClass
        refine Good.ite (fun _ => .some_ trivial) fun _ => Good.ite (fun _ => .some_ trivial) fun _ => Good.ite (fun _ => .some_ trivial) fun _ => Good.ite (fun _ => .some_ trivial) fun _ => Good.ite (fun _ => .some_ trivial) fun _ => Good.ite (fun _ => .some_ trivial) fun _ => Good.guard (show ec.levels ≠ 0 by have := hc.l; omega) fun _ => .some_ trivial
      refine Good.bind (P := fun r => 0 ≤ r.1.1 ∧ r.1.1 < ec.classes) ?_ fun r4 h4 => ?_
      · unfold pMod
        refine Good.ite (fun k => absurd k (by omega)) fun _ => Good.guard (by omega) fun _ => ?_
        have hm1 : Int.tmod (wi (r3.1.1 + j)) ec.classes < ec.classes := Int.tmod_lt_of_pos _ (by omega)
        have hm2 : -ec.classes < Int.tmod (wi (r3.1.1 + j)) ec.classes := by
          have := Int.lt_tmod_of_pos (wi (r3.1.1 + j)) (show 0 < ec.classes by omega)
          exact this
        refine Good.ite (fun k => .some_ ?_) fun k => .some_ ⟨Int.not_lt.1 k, hm1⟩
        show 0 ≤ wi (_ + ec.classes) ∧ wi (_ + ec.classes) < ec.classes
        rw [wi_id (rg_lit (by omega))]; omega
      · rw [sleep_ad hc h4, obind]
        dsimp only
        obtain ⟨h41, h42⟩ := h4
        refine (load_eq (low_in hc h (by have := hc.h; omega))).bind fun r ⟨r1, r2⟩ => .some_ ⟨?_, _, rfl, r2⟩
        exact r1.trans (h.es _ ⟨h41, h42⟩)
    · obtain ⟨v, e', u⟩ := z
      obtain ⟨hz1, m, hz2, hz3⟩ := hz
      simp only at hz1 hz2
      subst hz1; subst hz2
      have e1 : wi (j + 1) = j + 1 := wi_id (rg_lit (by omega))
      refine Good.ite (fun k => absurd rfl k) fun _ => ?_
      simp only [e1]
      by_cases hlt : j + 1 < ec.classes
      · refine Good.ite (fun k => absurd k (by omega)) fun _ => .some_ ⟨?_, m, rfl, hz3⟩
        rw [if_pos hlt]; exact ⟨rfl, rfl⟩
      · refine Good.guard (by omega) fun _ => ?_
        refine .some_ ⟨?_, m, rfl, hz3⟩
        rw [if_neg hlt]; exact ⟨rfl, rfl⟩
  refine hg.bind fun o ⟨h1, h3⟩ => .some_ ⟨?_, h3⟩
  by_cases hlt : j + 1 < ec.classes
  · rw [if_pos hlt] at h1 ⊢; exact ⟨h1.1, congrArg MV.wake h1.2⟩
  · rw [if_neg hlt] at h1 ⊢; exact ⟨h1.1, congrArg MV.wake h1.2⟩
/-- The insertion's lines. -/
abbrev IV (d t L n p k x : Int) : MV := .insert ⟨o0, d, t, L, n, p, k, x⟩
def InsP (d t : Int) (e : EnvP) (n : Int) (L p k x : Int) (P : MemV → Prop) (o : (Bool × Unit) × (MV × EnvP × Unit)) : Prop := o.1.1 = false ∧ o.2.1 = IV d t L n p k x ∧ Mem e P o.2.2.1
theorem ins1 {c : Cfg} {e : EnvP} (hc : CfOk c) (h : EOk c e) {d t : Int} {n : Int} (h0 : cel e.m 2 = n) (hn : 0 ≤ n ∧ n < c.heap) : Good (stepD3 (IV d t 1 0 0 0 0) e) (InsP d t e n 2 0 0 0 fun m => m.cells = e.m.cells) := by
  obtain ⟨ec, el, m0, k0, r0, v0⟩ := e
  obtain rfl : ec = c := h.ec
  obtain rfl : el = layV ec := h.el
  have hh := hc.h
  have hg : Good (injectorInsertStep ⟨o0, d, t, 1, 0, 0, 0, 0⟩ ⟨ec, layV ec, m0, k0, r0, v0⟩) fun o => o.1.1 = false ∧ o.2.1 = ⟨o0, d, t, 2, n, 0, 0, 0⟩ ∧ Mem ⟨ec, layV ec, m0, k0, r0, v0⟩ (fun m => m.cells = m0.cells) o.2.2.1 := by
    unfold injectorInsertStep pEnded pLSize
    simp only [obind, if_true]
    refine Good.ite (fun k => absurd k (by decide)) fun _ => ?_
    refine (load_eq (low_in hc h (by have := hc.k; omega))).bind fun r ⟨r1, r2⟩ => ?_
    have e1 : wi r.1.1 = n := by rw [r1, h0]; exact wi_id (rg_lit (by omega))
    rw [e1]
    exact Good.ite (fun k => absurd k (by omega)) fun _ => .some_ ⟨rfl, rfl, _, rfl, r2⟩
  exact hg.bind fun o ⟨h1, h2, h3⟩ => .some_ ⟨h1, congrArg MV.insert h2, h3⟩
theorem ins2 {c : Cfg} {e : EnvP} (hc : CfOk c) (h : EOk c e) {d t : Int} {n ar : Int} (h0 : cel e.m 3 = ar) (hn : 0 ≤ n ∧ n < c.heap) (ha : 0 ≤ ar ∧ ar ≤ 1000) (hd : 0 ≤ d ∧ d ≤ 1000) (ht : 0 ≤ t ∧ t ≤ 1000) : Good (stepD3 (IV d t 2 n 0 0 0) e) fun o => ∃ k, InsP d t e n (if 0 < n then 3 else 5) n k 0 (fun m => m.cells = e.m.cells.set 3 (ar + 1)) o := by
  obtain ⟨ec, el, m0, k0, r0, v0⟩ := e
  obtain rfl : ec = c := h.ec
  obtain rfl : el = layV ec := h.el
  have hh := hc.h
  have hg : Good (injectorInsertStep ⟨o0, d, t, 2, n, 0, 0, 0⟩ ⟨ec, layV ec, m0, k0, r0, v0⟩) fun o => ∃ k, o.1.1 = false ∧ o.2.1 = ⟨o0, d, t, if 0 < n then 3 else 5, n, n, k, 0⟩ ∧ Mem ⟨ec, layV ec, m0, k0, r0, v0⟩ (fun m => m.cells = m0.cells.set 3 (ar + 1)) o.2.2.1 := by
    unfold injectorInsertStep pEnded pArrival
    simp only [obind, if_true]
    refine Good.ite (fun k => absurd k (by decide)) fun _ => Good.ite (fun k => absurd k (by decide)) fun _ => ?_
    refine (add_eq (low_in hc h (by have := hc.k; omega))).bind fun r ⟨r1, r2⟩ => ?_
    have e1 : wi r.1.1 = ar := by rw [r1, h0]; exact wi_id (rg_lit (by omega))
    have e2 : wu (cel m0 3 + 1) = ar + 1 := by rw [h0]; exact wu_id (by omega)
    rw [e2] at r2
    rw [e1]
    refine Good.bind (P := fun o => o.1.2.1 = true) ?_ fun q hq => ?_
    · unfold pPack
      exact Good.ite (fun k => absurd k (by omega)) fun _ => Good.ite (fun k => absurd k (by omega)) fun _ => Good.ite (fun k => absurd k (by omega)) fun _ => Good.ite (fun k => absurd k (by omega)) fun _ => Good.ite (fun k => absurd k (by omega)) fun _ => Good.ite (fun k => absurd k (by omega)) fun _ => .some_ rfl
    · refine Good.ite (fun k => by rw [hq] at k; cases k) fun _ => ?_
      unfold injectorInsertPlace
      by_cases hp : 0 < n
      · refine Good.bind (P := fun r => r = ((3, ()), (⟨o0, d, t, 2, n, n, q.1.1, 0⟩, ()))) ⟨_, if_pos hp, rfl⟩ fun r hr => ?_
        subst hr
        refine .some_ ⟨q.1.1, rfl, ?_, _, rfl, r2⟩
        rw [if_pos hp]
      · refine Good.bind (P := fun r => r = ((5, ()), (⟨o0, d, t, 2, n, n, q.1.1, 0⟩, ()))) ⟨_, if_neg hp, rfl⟩ fun r hr => ?_
        subst hr
        refine .some_ ⟨q.1.1, rfl, ?_, _, rfl, r2⟩
        rw [if_neg hp]
  exact hg.bind fun o ⟨k, h1, h2, h3⟩ => .some_ ⟨k, h1, congrArg MV.insert h2, h3⟩
theorem par_id {p : Int} (h : 0 < p ∧ p ≤ 8) : wi (Int.tdiv (wi (p - 1)) 2) = (p - 1) / 2 := by
  rw [wi_id (rg_lit (x := p - 1) (by omega)), Int.tdiv_eq_ediv_of_nonneg (by omega)]
  exact wi_id (rg_lit (by omega))
theorem ins3 {c : Cfg} {e : EnvP} (hc : CfOk c) (h : EOk c e) {d t n p k x : Int} (hp : 0 < p ∧ p < c.heap) : Good (stepD3 (IV d t 3 n p k x) e) fun o => ∃ L y, (L = 4 ∨ L = 5) ∧ InsP d t e n L p k y (fun m => m.cells = e.m.cells) o := by
  obtain ⟨ec, el, m0, k0, r0, v0⟩ := e
  obtain rfl : ec = c := h.ec
  obtain rfl : el = layV ec := h.el
  have hh := hc.h
  have hg : Good (injectorInsertStep ⟨o0, d, t, 3, n, p, k, x⟩ ⟨ec, layV ec, m0, k0, r0, v0⟩) fun o => ∃ L y, (L = 4 ∨ L = 5) ∧ o.1.1 = false ∧ o.2.1 = ⟨o0, d, t, L, n, p, k, y⟩ ∧ Mem ⟨ec, layV ec, m0, k0, r0, v0⟩ (fun m => m.cells = m0.cells) o.2.2.1 := by
    unfold injectorInsertStep pEnded
    simp only [obind, if_true]
    refine Good.ite (fun k => absurd k (by decide)) fun _ => Good.ite (fun k => absurd k (by decide)) fun _ => Good.ite (fun k => absurd k (by decide)) fun _ => ?_
    rw [par_id (by omega), slot_ad hc (by omega), obind]
    dsimp only
    refine (load_eq (low_in hc h (by have := hc.k; omega))).bind fun r ⟨r1, r2⟩ => ?_
    exact Good.ite (fun _ => .some_ ⟨4, _, .inl rfl, rfl, rfl, _, rfl, r2⟩) fun _ => .some_ ⟨5, _, .inr rfl, rfl, rfl, _, rfl, r2⟩
  exact hg.bind fun o ⟨L, y, h0, h1, h2, h3⟩ => .some_ ⟨L, y, h0, h1, congrArg MV.insert h2, h3⟩
theorem ins4 {c : Cfg} {e : EnvP} (hc : CfOk c) (h : EOk c e) {d t n p k x : Int} (hp : 0 < p ∧ p < c.heap) : Good (stepD3 (IV d t 4 n p k x) e) (InsP d t e n (if 0 < (p - 1) / 2 then 3 else 5) ((p - 1) / 2) k x fun m => m.cells = e.m.cells.set (4 + p).toNat x) := by
  obtain ⟨ec, el, m0, k0, r0, v0⟩ := e
  obtain rfl : ec = c := h.ec
  obtain rfl : el = layV ec := h.el
  have hh := hc.h
  have hg : Good (injectorInsertStep ⟨o0, d, t, 4, n, p, k, x⟩ ⟨ec, layV ec, m0, k0, r0, v0⟩) fun o => o.1.1 = false ∧ o.2.1 = ⟨o0, d, t, if 0 < (p - 1) / 2 then 3 else 5, n, (p - 1) / 2, k, x⟩ ∧ Mem ⟨ec, layV ec, m0, k0, r0, v0⟩ (fun m => m.cells = m0.cells.set (4 + p).toNat x) o.2.2.1 := by
    unfold injectorInsertStep pEnded
    simp only [obind, if_true]
    refine Good.ite (fun k => absurd k (by decide)) fun _ => Good.ite (fun k => absurd k (by decide)) fun _ => Good.ite (fun k => absurd k (by decide)) fun _ => Good.ite (fun k => absurd k (by decide)) fun _ => ?_
    rw [slot_ad hc (by omega), obind]
    dsimp only
    refine (store_eq (low_in hc h (by have := hc.k; omega))).bind fun r r2 => ?_
    rw [par_id (by omega)]
    unfold injectorInsertPlace
    by_cases hq : 0 < (p - 1) / 2
    · refine Good.bind (P := fun r => r = ((3, ()), (⟨o0, d, t, 4, n, (p - 1) / 2, k, x⟩, ()))) ⟨_, if_pos hq, rfl⟩ fun r hr => ?_
      subst hr
      refine .some_ ⟨rfl, ?_, _, rfl, r2⟩
      rw [if_pos hq]
    · refine Good.bind (P := fun r => r = ((5, ()), (⟨o0, d, t, 4, n, (p - 1) / 2, k, x⟩, ()))) ⟨_, if_neg hq, rfl⟩ fun r hr => ?_
      subst hr
      refine .some_ ⟨rfl, ?_, _, rfl, r2⟩
      rw [if_neg hq]
  exact hg.bind fun o ⟨h1, h2, h3⟩ => .some_ ⟨h1, congrArg MV.insert h2, h3⟩
theorem ins5 {c : Cfg} {e : EnvP} (hc : CfOk c) (h : EOk c e) {d t n p k x : Int} (hp : 0 ≤ p ∧ p < c.heap) : Good (stepD3 (IV d t 5 n p k x) e) (InsP d t e n 6 p k x fun m => m.cells = e.m.cells.set (4 + p).toNat k) := by
  obtain ⟨ec, el, m0, k0, r0, v0⟩ := e
  obtain rfl : ec = c := h.ec
  obtain rfl : el = layV ec := h.el
  have hh := hc.h
  have hg : Good (injectorInsertStep ⟨o0, d, t, 5, n, p, k, x⟩ ⟨ec, layV ec, m0, k0, r0, v0⟩) fun o => o.1.1 = false ∧ o.2.1 = ⟨o0, d, t, 6, n, p, k, x⟩ ∧ Mem ⟨ec, layV ec, m0, k0, r0, v0⟩ (fun m => m.cells = m0.cells.set (4 + p).toNat k) o.2.2.1 := by
    unfold injectorInsertStep pEnded
    simp only [obind, if_true]
    refine Good.ite (fun k => absurd k (by decide)) fun _ => Good.ite (fun k => absurd k (by decide)) fun _ => Good.ite (fun k => absurd k (by decide)) fun _ => Good.ite (fun k => absurd k (by decide)) fun _ => Good.ite (fun k => absurd k (by decide)) fun _ => ?_
    rw [slot_ad hc (by omega), obind]
    dsimp only
    exact (store_eq (low_in hc h (by have := hc.k; omega))).bind fun r r2 => .some_ ⟨rfl, rfl, _, rfl, r2⟩
  exact hg.bind fun o ⟨h1, h2, h3⟩ => .some_ ⟨h1, congrArg MV.insert h2, h3⟩
theorem ins6 {c : Cfg} {e : EnvP} (hc : CfOk c) (h : EOk c e) {d t n p k x : Int} (hn : 0 ≤ n ∧ n < c.heap) : Good (stepD3 (IV d t 6 n p k x) e) fun o => o.1.1 = true ∧ o.2.1 = .insert ⟨⟨true, 0, 0⟩, d, t, 6, n, p, k, x⟩ ∧ Mem e (fun m => m.cells = e.m.cells.set 2 (n + 1)) o.2.2.1 := by
  obtain ⟨ec, el, m0, k0, r0, v0⟩ := e
  obtain rfl : ec = c := h.ec
  obtain rfl : el = layV ec := h.el
  have hh := hc.h
  have hg : Good (injectorInsertStep ⟨o0, d, t, 6, n, p, k, x⟩ ⟨ec, layV ec, m0, k0, r0, v0⟩) fun o => o.1.1 = true ∧ o.2.1 = ⟨⟨true, 0, 0⟩, d, t, 6, n, p, k, x⟩ ∧ Mem ⟨ec, layV ec, m0, k0, r0, v0⟩ (fun m => m.cells = m0.cells.set 2 (n + 1)) o.2.2.1 := by
    unfold injectorInsertStep pEnded pLSize
    simp only [obind, if_true]
    refine Good.ite (fun k => absurd k (by decide)) fun _ => Good.ite (fun k => absurd k (by decide)) fun _ => Good.ite (fun k => absurd k (by decide)) fun _ => Good.ite (fun k => absurd k (by decide)) fun _ => Good.ite (fun k => absurd k (by decide)) fun _ => Good.ite (fun k => absurd k (by decide)) fun _ => ?_
    have e1 : wu (wi (n + 1)) = n + 1 := by rw [wi_id (rg_lit (by omega))]; exact wu_id (by omega)
    rw [e1]
    exact (store_eq (low_in hc h (by have := hc.k; omega))).bind fun r r2 => .some_ ⟨rfl, rfl, _, rfl, r2⟩
  exact hg.bind fun o ⟨h1, h2, h3⟩ => .some_ ⟨h1, congrArg MV.insert h2, h3⟩
end
end Go.Proofs.Ytgiagoeoifgliaa
