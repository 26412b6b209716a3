/- The laws on the bound, in the evaluator's form. The sanity check of the laws on the bound holds. The laws BoundFormula and BoundGrows answer true. From the readings of the arguments to our words: truth values, arrays of seven numbers. -/
import Derived.Test.YtnfblhckpmofcaaGreatQgai
import Derived.Test.YtnfblhckpmofcaaGreatQgah
set_option linter.all false
namespace Go.Proofs.YtnfblhckpmofcaaGreat
section
open Go Go.RowKit
set_option maxRecDepth 100000
noncomputable def engineEngineGather (y0 : EngP) : Option ((Unit) × (EngP × Unit)) :=
 (lpF (σ := Int × List (WorkerV MV) × (EnvP × (ClientV MV) × List Unit × Int × List Int × Int × Int × Int × Int × Unit) × Unit) (β := Int × List (WorkerV MV) × (EnvP × (ClientV MV) × List Unit × Int × List Int × Int × Int × Int × Int × Unit) × Unit) (fun self3 x1 =>
  if x1.1 < ((y0.ws.length : Nat) : Int) then
   if 0 ≤ x1.1 ∧ x1.1 < ((x1.2.1.length : Nat) : Int) then
    if (((x1.2.2.1.2.2.1.length + 1 : Nat)) : Int) < 1000000000000 then
     self3 (wi (x1.1 + 1), x1.2.1.set x1.1.toNat (atK56 x1.2.1 x1.1), (x1.2.2.1.1, x1.2.2.1.2.1, x1.2.2.1.2.2.1 ++ [()], x1.2.2.1.2.2.2.1, x1.2.2.1.2.2.2.2.1, x1.2.2.1.2.2.2.2.2.1, x1.2.2.1.2.2.2.2.2.2.1, x1.2.2.1.2.2.2.2.2.2.2.1, x1.2.2.1.2.2.2.2.2.2.2.2.1, ()), ())
    else none
   else none
  else
  some (x1.1, x1.2.1, (x1.2.2.1.1, x1.2.2.1.2.1, x1.2.2.1.2.2.1, x1.2.2.1.2.2.2.1, x1.2.2.1.2.2.2.2.1, x1.2.2.1.2.2.2.2.2.1, x1.2.2.1.2.2.2.2.2.2.1, x1.2.2.1.2.2.2.2.2.2.2.1, x1.2.2.1.2.2.2.2.2.2.2.2.1, ()), ())
 ) 18446744073709551616 (0, y0.ws, (y0.e, y0.cl, [], y0.n, y0.stamps, y0.last.kind, y0.last.cell, y0.last.old, y0.last.new, ()), ())).bind fun z2 =>
 if (((z2.2.2.1.2.2.1.length + 1 : Nat)) : Int) < 1000000000000 then
  some ((()), ((⟨z2.2.2.1.1, z2.2.1, z2.2.2.1.2.1, z2.2.2.1.2.2.1 ++ [()], z2.2.2.1.2.2.2.1, z2.2.2.1.2.2.2.2.1, ⟨z2.2.2.1.2.2.2.2.2.1, z2.2.2.1.2.2.2.2.2.2.1, z2.2.2.1.2.2.2.2.2.2.2.1, z2.2.2.1.2.2.2.2.2.2.2.2.1⟩⟩ : EngP), ()))
 else none
noncomputable abbrev engineEngineGather_k : Con SR1 := ⟨40, [.ref 58], [], fun x => engineEngineGather x.1⟩
theorem engineEngineGather_ok : CO Tryz.prog engineEngineGather_k := co_fn mixed Tryz.func40 [] trivial [] trivial (fun _ => []) [(2, .loop [.rg 12 sI_, .rw 1 56, .cx 0 [.inl (.own 27), .inr (.sl 1), .inl (.own 30), .inl (.row 57), .inl sI_, .inl (.row 1), .inl sI_, .inl sI_, .inl sU_, .inl sU_]] 18446744073709551616 0)] fun x => by kernel_rfl
noncomputable def clientClientStatus (y0 : (ClientV MV)) : Option ((Int × Unit) × ((ClientV MV) × Unit)) :=
 (clientClientOver y0).bind fun r1 =>
 if r1.1.1 = true then
  some ((4, ()), (r1.2.1, ()))
 else
 if r1.2.1.line = 1 then
  some ((0, ()), (r1.2.1, ()))
 else
 some ((2, ()), (r1.2.1, ()))
noncomputable abbrev clientClientStatus_k : Con SR1 := ⟨43, [.ref 30], [.sh sI_], fun x => clientClientStatus x.1⟩
theorem clientClientStatus_ok : CO Tryz.prog clientClientStatus_k := co_fn mixed Tryz.func43 [clientClientOver_k] ⟨clientClientOver_ok, trivial⟩ [] trivial (fun _ => []) [] fun x => by kernel_rfl
noncomputable def workerWorkerStatus (y0 : (WorkerV MV)) : Option ((Int × Unit) × ((WorkerV MV) × Unit)) :=
 if y0.line = 0 then
  some ((0, ()), (y0, ()))
 else
 if y0.line = 7 then
  some ((2, ()), (y0, ()))
 else
 if y0.line = 8 then
  (pAsleep y0.inside).bind fun r1 =>
  if r1.1.1 = true then
   some ((3, ()), (({ y0 with inside := r1.2.1 } : (WorkerV MV)), ()))
  else
  some ((1, ()), (({ y0 with inside := r1.2.1 } : (WorkerV MV)), ()))
 else
 some ((1, ()), (y0, ()))
noncomputable abbrev workerWorkerStatus_k : Con SR1 := ⟨42, [.ref 31], [.sh sI_], fun x => workerWorkerStatus x.1⟩
theorem workerWorkerStatus_ok : CO Tryz.prog workerWorkerStatus_k := co_fn mixed Tryz.func42 [pAsleep_k] ⟨pAsleep_ok, trivial⟩ [] trivial (fun _ => []) [] fun x => by kernel_rfl
noncomputable def engineEngineDone (y0 : EngP) : Option ((Bool × Unit) × (EngP × Unit)) :=
 ((
  (clientClientStatus y0.cl).bind fun r1 =>
  if r1.1.1 ≠ 4 then
   some (true, ({ y0 with cl := r1.2.1 } : EngP), ())
  else
  (lpF (σ := Int × List (WorkerV MV) × Unit) (β := (Int × List (WorkerV MV) × Unit) ⊕ (Bool × EngP × Unit)) (fun self4 x2 =>
   if x2.1 < ((y0.ws.length : Nat) : Int) then
    if 0 ≤ x2.1 ∧ x2.1 < ((x2.2.1.length : Nat) : Int) then
     (workerWorkerStatus (atK56 x2.2.1 x2.1)).bind fun r5 =>
     if r5.1.1 = 2 then
      Option.map Sum.inr (
       some (decide (0 ≤ x2.1), ({ y0 with ws := x2.2.1.set x2.1.toNat r5.2.1, cl := r1.2.1 } : EngP), ())
      )
     else
     self4 (wi (x2.1 + 1), x2.2.1.set x2.1.toNat r5.2.1, ())
    else none
   else
   some (Sum.inl (x2.1, x2.2.1, ()))
  ) 18446744073709551616 (0, y0.ws, ())).bind fun z3 => match z3 with
  | .inr o6 => some o6
  | .inl z3 =>
  some (false, ({ y0 with ws := z3.2.1, cl := r1.2.1 } : EngP), ())
 ) : Option (Bool × EngP × Unit)).bind fun z7 =>
 if z7.1 = true then
  some ((false, ()), (z7.2.1, ()))
 else
 if z7.2.1.e.l.workers = z7.2.1.e.l.workers then
  if z7.2.1.e.l.levels = z7.2.1.e.l.levels then
   if z7.2.1.e.l.classes = z7.2.1.e.l.classes then
    if z7.2.1.e.l.tasks = z7.2.1.e.l.tasks then
     if z7.2.1.e.l.deque = z7.2.1.e.l.deque then
      if z7.2.1.e.l.heap = z7.2.1.e.l.heap then
       if z7.2.1.e.l.sleepers = z7.2.1.e.l.sleepers then
        if z7.2.1.e.l.epochs = z7.2.1.e.l.epochs then
         if z7.2.1.e.l.bitmaps = z7.2.1.e.l.bitmaps then
          if z7.2.1.e.l.queues = z7.2.1.e.l.queues then
           if z7.2.1.e.l.table = z7.2.1.e.l.table then
            (lpF (σ := Int × MemV × Unit) (β := (Int × MemV × Unit) ⊕ ((Bool × Unit) × (EngP × Unit))) (fun self10 x8 =>
             if x8.1 < z7.2.1.e.c.tasks then
              (pNext z7.2.1.e.l).bind fun r11 =>
              if r11.1.1 < 0 then
               if (wu (x8.1)) < 0 then
                (pState z7.2.1.e.l x8.1).bind fun r12 =>
                if r12.1.1 < 0 then
                 Option.map Sum.inr (
                  some ((false, ()), (({ z7.2.1 with e := ({ z7.2.1.e with m := x8.2.1 } : EnvP) } : EngP), ()))
                 )
                else
                if ((x8.2.1.cells.length : Nat) : Int) ≤ r12.1.1 then
                 Option.map Sum.inr (
                  some ((false, ()), (({ z7.2.1 with e := ({ z7.2.1.e with m := x8.2.1 } : EnvP) } : EngP), ()))
                 )
                else
                if 0 ≤ r12.1.1 ∧ r12.1.1 < ((x8.2.1.cells.length : Nat) : Int) then
                 if (atK0 x8.2.1.cells r12.1.1) ≠ 4 then
                  Option.map Sum.inr (
                   some ((false, ()), (({ z7.2.1 with e := ({ z7.2.1.e with m := x8.2.1 } : EnvP) } : EngP), ()))
                  )
                 else
                 self10 (wi (x8.1 + 1), x8.2.1, ())
                else none
               else
               some (Sum.inl (x8.1, x8.2.1, ()))
              else
              if ((x8.2.1.cells.length : Nat) : Int) ≤ r11.1.1 then
               if (wu (x8.1)) < 0 then
                (pState z7.2.1.e.l x8.1).bind fun r13 =>
                if r13.1.1 < 0 then
                 Option.map Sum.inr (
                  some ((false, ()), (({ z7.2.1 with e := ({ z7.2.1.e with m := x8.2.1 } : EnvP) } : EngP), ()))
                 )
                else
                if ((x8.2.1.cells.length : Nat) : Int) ≤ r13.1.1 then
                 Option.map Sum.inr (
                  some ((false, ()), (({ z7.2.1 with e := ({ z7.2.1.e with m := x8.2.1 } : EnvP) } : EngP), ()))
                 )
                else
                if 0 ≤ r13.1.1 ∧ r13.1.1 < ((x8.2.1.cells.length : Nat) : Int) then
                 if (atK0 x8.2.1.cells r13.1.1) ≠ 4 then
                  Option.map Sum.inr (
                   some ((false, ()), (({ z7.2.1 with e := ({ z7.2.1.e with m := x8.2.1 } : EnvP) } : EngP), ()))
                  )
                 else
                 self10 (wi (x8.1 + 1), x8.2.1, ())
                else none
               else
               some (Sum.inl (x8.1, x8.2.1, ()))
              else
              if 0 ≤ r11.1.1 ∧ r11.1.1 < ((x8.2.1.cells.length : Nat) : Int) then
               if (wu (x8.1)) < (atK0 x8.2.1.cells r11.1.1) then
                (pState z7.2.1.e.l x8.1).bind fun r14 =>
                if r14.1.1 < 0 then
                 Option.map Sum.inr (
                  some ((false, ()), (({ z7.2.1 with e := ({ z7.2.1.e with m := x8.2.1 } : EnvP) } : EngP), ()))
                 )
                else
                if ((x8.2.1.cells.length : Nat) : Int) ≤ r14.1.1 then
                 Option.map Sum.inr (
                  some ((false, ()), (({ z7.2.1 with e := ({ z7.2.1.e with m := x8.2.1 } : EnvP) } : EngP), ()))
                 )
                else
                if 0 ≤ r14.1.1 ∧ r14.1.1 < ((x8.2.1.cells.length : Nat) : Int) then
                 if (atK0 x8.2.1.cells r14.1.1) ≠ 4 then
                  Option.map Sum.inr (
                   some ((false, ()), (({ z7.2.1 with e := ({ z7.2.1.e with m := x8.2.1 } : EnvP) } : EngP), ()))
                  )
                 else
                 self10 (wi (x8.1 + 1), x8.2.1, ())
                else none
               else
               some (Sum.inl (x8.1, x8.2.1, ()))
              else none
             else
             some (Sum.inl (x8.1, x8.2.1, ()))
            ) 18446744073709551616 (0, z7.2.1.e.m, ())).bind fun z9 => match z9 with
            | .inr o15 => some o15
            | .inl z9 =>
            some ((true, ()), (({ z7.2.1 with e := ({ z7.2.1.e with m := z9.2.1 } : EnvP) } : EngP), ()))
           else none
          else none
         else none
        else none
       else none
      else none
     else none
    else none
   else none
  else none
 else none
noncomputable abbrev engineEngineDone_k : Con SR1 := ⟨24, [.ref 58], [.sh .b], fun x => engineEngineDone x.1⟩
noncomputable def engineEngineDone_tb : List (Nat × Func) := [(44, Tryz.f44), (62, Tryz.f62), (41, Tryz.f41), (45, Tryz.f45)]
theorem engineEngineDone_ok : CO Tryz.prog engineEngineDone_k := co_fn mixed Tryz.func24 [clientClientStatus_k, workerWorkerStatus_k, pNext_k, pState_k] ⟨clientClientStatus_ok, workerWorkerStatus_ok, pNext_ok, pState_ok, trivial⟩ engineEngineDone_tb ⟨Tryz.func44, Tryz.func62, Tryz.func41, Tryz.func45, trivial⟩ (fun f => (get [(62, [(2, .loopR [.rg 8 sI_, .rw 3 56] 18446744073709551616 0)])] f).getD []) [(3, .cut [.rg 20 .b, .ob 0 58] []), (6, .loopR [.rg 6 sI_, .ob 34 9] 18446744073709551616 0)] fun x => by kernel_rfl
noncomputable def r5number (r : CodV) (k : Int) : Option ((Int × Unit) × (CodV × Unit)) :=
 if r.at_ < ((r.inn.length : Nat) : Int) then
  if 0 ≤ r.at_ ∧ r.at_ < ((r.inn.length : Nat) : Int) then
   if k ≠ 0 then
    some (((Int.tmod (wi (atK17 r.inn r.at_)) k), ()), (({ r with at_ := wi (r.at_ + 1) } : CodV), ()))
   else none
  else none
 else
 some ((0, ()), (({ r with at_ := wi (r.at_ + 1) } : CodV), ()))
noncomputable abbrev r5number_k : Con SR1 := ⟨28, [.ref 19, .sh sI_], [.sh sI_], fun x => r5number x.1 x.2.1⟩
theorem r5number_ok : CO Tryz.prog r5number_k := co_fn mixed Tryz.func28 [] trivial [] trivial (fun _ => []) [] fun x => by kernel_rfl
noncomputable def r5decode (b : List Int) : Option ((Cfg × Unit) × (Unit)) :=
 (r5number (⟨b, [], 0, false⟩ : CodV) 4).bind fun r1 =>
 (r5number r1.2.1 4).bind fun r2 =>
 (r5number r2.2.1 (if wi (1 + r2.1.1) < 3 then wi (1 + r2.1.1) else 3)).bind fun r3 =>
 (r5number r3.2.1 12).bind fun r4 =>
 (r5number r4.2.1 4).bind fun r5 =>
 (r5number r5.2.1 4).bind fun r6 =>
 (r5number r6.2.1 (wi (1 + r5.1.1))).bind fun r7 =>
 (r5number r7.2.1 6).bind fun r8 =>
 (r5number r8.2.1 8).bind fun r9 =>
 (r5number r9.2.1 4).bind fun r10 =>
 (lpF (σ := Int × CodV × Cfg × Unit) (β := Int × CodV × Cfg × Unit) (fun self13 x11 =>
  if x11.1 < (wi (1 + r10.1.1)) then
   (r5number x11.2.1 6).bind fun r14 =>
   (lpF (σ := List Ins × Int × CodV × Unit) (β := List Ins × Int × CodV × Unit) (fun self17 x15 =>
    if 0 < x15.2.1 then
     (r5number x15.2.2.1 3).bind fun r18 =>
     if r18.1.1 = 0 then
      (r5number r18.2.1 4).bind fun r19 =>
      if (((x15.1.length + ([(⟨r18.1.1, wi (1 + r19.1.1), 0⟩ : Ins)] : List Ins).length : Nat)) : Int) < 1000000000000 then
       self17 (x15.1 ++ ([(⟨r18.1.1, wi (1 + r19.1.1), 0⟩ : Ins)]), wi (x15.2.1 - 1), r19.2.1, ())
      else none
     else
     if r18.1.1 = 1 then
      (r5number r18.2.1 (wi (1 + r10.1.1))).bind fun r20 =>
      (r5number r20.2.1 x11.2.2.1.levels).bind fun r21 =>
      if (((x15.1.length + ([(⟨r18.1.1, r20.1.1, r21.1.1⟩ : Ins)] : List Ins).length : Nat)) : Int) < 1000000000000 then
       self17 (x15.1 ++ ([(⟨r18.1.1, r20.1.1, r21.1.1⟩ : Ins)]), wi (x15.2.1 - 1), r21.2.1, ())
      else none
     else
     (r5number r18.2.1 4).bind fun r22 =>
     if (((x15.1.length + ([(⟨r18.1.1, r22.1.1, 0⟩ : Ins)] : List Ins).length : Nat)) : Int) < 1000000000000 then
      self17 (x15.1 ++ ([(⟨r18.1.1, r22.1.1, 0⟩ : Ins)]), wi (x15.2.1 - 1), r22.2.1, ())
     else none
    else
    some (x15.1, x15.2.1, x15.2.2.1, ())
   ) 18446744073709551616 ([], r14.1.1, r14.2.1, ())).bind fun z16 =>
   if (((x11.2.2.1.progs.length + ([z16.1] : List (List Ins)).length : Nat)) : Int) < 100000000000 then
    self13 (wi (x11.1 + 1), z16.2.2.1, ({ x11.2.2.1 with progs := x11.2.2.1.progs ++ ([z16.1]) } : Cfg), ())
   else none
  else
  some (x11.1, x11.2.1, x11.2.2.1, ())
 ) 18446744073709551616 (0, r10.2.1, (⟨wi (1 + r1.1.1), wi (1 + r2.1.1), wi (1 + r3.1.1), wi (1 + r4.1.1), wi (1 + r5.1.1), wi (1 + r6.1.1), wi (1 + r7.1.1), r8.1.1, wi (1 + r9.1.1), [], []⟩ : Cfg), ())).bind fun z12 =>
 (r5number z12.2.1 6).bind fun r23 =>
 (lpF (σ := Int × CodV × Cfg × Unit) (β := Int × CodV × Cfg × Unit) (fun self26 x24 =>
  if 0 < x24.1 then
   (r5number x24.2.1 (wi (1 + r10.1.1))).bind fun r27 =>
   (r5number r27.2.1 x24.2.2.1.levels).bind fun r28 =>
   (r5number r28.2.1 16).bind fun r29 =>
   if (((x24.2.2.1.subs.length + ([(⟨r27.1.1, r28.1.1, r29.1.1⟩ : Sub)] : List Sub).length : Nat)) : Int) < 1000000000000 then
    self26 (wi (x24.1 - 1), r29.2.1, ({ x24.2.2.1 with subs := x24.2.2.1.subs ++ ([(⟨r27.1.1, r28.1.1, r29.1.1⟩ : Sub)]) } : Cfg), ())
   else none
  else
  some (x24.1, x24.2.1, x24.2.2.1, ())
 ) 18446744073709551616 (r23.1.1, r23.2.1, z12.2.2.1, ())).bind fun z25 =>
 some ((z25.2.2.1, ()), (()))
noncomputable abbrev r5decode_k : Con SR1 := ⟨18, [.sh (.ro 17)], [.val 13], fun x => r5decode x.1⟩
theorem r5decode_ok : CO Tryz.prog r5decode_k := co_fn mixed Tryz.func18 [r5number_k] ⟨r5number_ok, trivial⟩ [] trivial (fun _ => []) [(12, .loop [.rg 6 sI_, .rg 3 (.own 19), .rg 4 (.own 20)] 18446744073709551616 0), (16, .loop [.rg 7 (.row 3), .rg 8 sI_, .rg 3 (.own 19)] 18446744073709551616 2), (29, .loop [.rg 10 sI_, .rg 3 (.own 19), .rg 4 (.own 20)] 18446744073709551616 5)] fun x => by kernel_rfl
noncomputable def kconfig (b : List Int) : Option ((Cfg × Unit) × (Unit)) :=
 (r5decode b).bind fun r1 =>
 some ((r1.1.1, ()), (()))
noncomputable abbrev kconfig_k : Con SR1 := ⟨12, [.sh (.ro 17)], [.val 13], fun x => kconfig x.1⟩
theorem kconfig_ok : CO Tryz.prog kconfig_k := co_fn mixed Tryz.func12 [r5decode_k] ⟨r5decode_ok, trivial⟩ [] trivial (fun _ => []) [] fun x => by kernel_rfl
noncomputable def eDo (x : EngP) (v : EntV) : Option (Unit × (EngP × Unit)) := none
noncomputable abbrev eDo_k : Con SR1 := ⟨25, [.ref 58, .val 5], [], fun x => none⟩
theorem eDo_ok : CO Tryz.prog eDo_k := fun x out h => by cases h
noncomputable def configMachines (y0 : Cfg) : Option ((Int × Unit) × (Unit)) :=
 some ((wi (y0.workers + 1), ()), (()))
noncomputable abbrev configMachines_k : Con SR1 := ⟨27, [.val 13], [.sh sI_], fun x => configMachines x.1⟩
theorem configMachines_ok : CO Tryz.prog configMachines_k := co_fn mixed Tryz.func27 [] trivial [] trivial (fun _ => []) [] fun x => by kernel_rfl
noncomputable def boundPlay (y0 : Cfg) (y1 : List EntV) : Option ((Int × Int × Bool × Unit) × (Unit)) :=
 (layoutNew y0).bind fun r1 =>
 if r1.1.2.1 ≠ 0 then
  if r1.1.2.1 ≠ 0 then
   if r1.1.2.1 ≠ 0 then
    some ((0, 0, false, ()), (()))
   else
   none
  else
  (clientNew y0).bind fun r2 =>
  none
 else
 (pCells r1.1.1).bind fun r3 =>
 (machineBare r3.1.1).bind fun r4 =>
 (configClone y0).bind fun r5 =>
 if r1.1.1.workers = r1.1.1.workers then
  if r1.1.1.levels = r1.1.1.levels then
   if r1.1.1.classes = r1.1.1.classes then
    if r1.1.1.tasks = r1.1.1.tasks then
     if r1.1.1.deque = r1.1.1.deque then
      if r1.1.1.heap = r1.1.1.heap then
       if r1.1.1.sleepers = r1.1.1.sleepers then
        if r1.1.1.epochs = r1.1.1.epochs then
         if r1.1.1.bitmaps = r1.1.1.bitmaps then
          if r1.1.1.queues = r1.1.1.queues then
           if r1.1.1.table = r1.1.1.table then
            if r1.1.1.workers = r1.1.1.workers then
             if r1.1.1.levels = r1.1.1.levels then
              if r1.1.1.classes = r1.1.1.classes then
               if r1.1.1.tasks = r1.1.1.tasks then
                if r1.1.1.deque = r1.1.1.deque then
                 if r1.1.1.heap = r1.1.1.heap then
                  if r1.1.1.sleepers = r1.1.1.sleepers then
                   if r1.1.1.epochs = r1.1.1.epochs then
                    if r1.1.1.bitmaps = r1.1.1.bitmaps then
                     if r1.1.1.queues = r1.1.1.queues then
                      if r1.1.1.table = r1.1.1.table then
                       (lpF (σ := Int × EnvP × Unit) (β := Int × EnvP × Unit) (fun self8 x6 =>
                        if x6.1 < y0.tasks then
                         if (((x6.2.1.recs.length + ([(⟨0, (-1), 0, 0, (-1), [], false⟩ : RecP)] : List RecP).length : Nat)) : Int) < 100000000000 then
                          self8 (wi (x6.1 + 1), ({ x6.2.1 with recs := x6.2.1.recs ++ ([(⟨0, (-1), 0, 0, (-1), [], false⟩ : RecP)]) } : EnvP), ())
                         else none
                        else
                        some (x6.1, x6.2.1, ())
                       ) 18446744073709551616 (0, ({ r4.1.1 with c := r5.1.1, l := r1.1.1 } : EnvP), ())).bind fun z7 =>
                       (clientNew y0).bind fun r9 =>
                       (lpF (σ := Int × EngP × Unit) (β := Int × EngP × Unit) (fun self12 x10 =>
                        if x10.1 < y0.workers then
                         (workerNew x10.1).bind fun r13 =>
                         if (((x10.2.1.ws.length + ([r13.1.1] : List (WorkerV MV)).length : Nat)) : Int) < 100000000000 then
                          self12 (wi (x10.1 + 1), ({ x10.2.1 with ws := x10.2.1.ws ++ ([r13.1.1]) } : EngP), ())
                         else none
                        else
                        some (x10.1, x10.2.1, ())
                       ) 18446744073709551616 (0, (⟨z7.2.1, [], r9.1.1, [], 0, [], ⟨0, 0, 0, 0⟩⟩ : EngP), ())).bind fun z11 =>
                       (engineEngineGather z11.2.1).bind fun r14 =>
                       (lpF (σ := Int × EngP × Unit) (β := Int × EngP × Unit) (fun self17 x15 =>
                        if x15.1 < ((y1.length : Nat) : Int) then
                         (engineEngineDone x15.2.1).bind fun r18 =>
                         if (!r18.1.1) = true then
                          if 0 ≤ x15.1 ∧ x15.1 < ((y1.length : Nat) : Int) then
                           (eDo r18.2.1 (atK5 y1 x15.1)).bind fun r19 =>
                           self17 (wi (x15.1 + 1), r19.2.1, ())
                          else none
                         else
                         some (x15.1, r18.2.1, ())
                        else
                        some (x15.1, x15.2.1, ())
                       ) 18446744073709551616 (0, r14.2.1, ())).bind fun z16 =>
                       agr (
                        if 0 ≤ z16.1 ∧ z16.1 ≤ ((y1.length : Nat) : Int) then
                         if y0.workers = y0.workers then
                          if y0.levels = y0.levels then
                           if y0.classes = y0.classes then
                            if y0.tasks = y0.tasks then
                             if y0.deque = y0.deque then
                              if y0.heap = y0.heap then
                               if y0.batch = y0.batch then
                                if y0.age = y0.age then
                                 if y0.patience = y0.patience then
                                  (configMachines y0).bind fun r23 =>
                                  (scRounds (y1.take (z16.1 : Int).toNat) r23.1.1).bind fun r24 =>
                                  (engineEngineDone z16.2.1).bind fun r25 =>
                                  some ((z16.1, r24.1.1, r25.1.1, ()), (()))
                                 else none
                                else none
                               else none
                              else none
                             else none
                            else none
                           else none
                          else none
                         else none
                        else none
                       ) (
                        (configMachines y0).bind fun r20 =>
                        if 0 ≤ z16.1 ∧ z16.1 ≤ ((y1.length : Nat) : Int) then
                         if y0.workers = y0.workers then
                          if y0.levels = y0.levels then
                           if y0.classes = y0.classes then
                            if y0.tasks = y0.tasks then
                             if y0.deque = y0.deque then
                              if y0.heap = y0.heap then
                               if y0.batch = y0.batch then
                                if y0.age = y0.age then
                                 if y0.patience = y0.patience then
                                  (scRounds (y1.take (z16.1 : Int).toNat) r20.1.1).bind fun r21 =>
                                  (engineEngineDone z16.2.1).bind fun r22 =>
                                  some ((z16.1, r21.1.1, r22.1.1, ()), (()))
                                 else none
                                else none
                               else none
                              else none
                             else none
                            else none
                           else none
                          else none
                         else none
                        else none
                       )
                      else none
                     else none
                    else none
                   else none
                  else none
                 else none
                else none
               else none
              else none
             else none
            else none
           else none
          else none
         else none
        else none
       else none
      else none
     else none
    else none
   else none
  else none
 else none
noncomputable abbrev boundPlay_k : Con SR1 := ⟨16, [.val 13, .sh (.ro 5)], [.sh sI_, .sh sI_, .sh .b], fun x => boundPlay x.1 x.2.1⟩
noncomputable def boundPlay_tb : List (Nat × Func) := [(23, Tryz.f23), (37, Tryz.f37)]
theorem boundPlay_ok : CO Tryz.prog boundPlay_k := co_fn mixed Tryz.func16 [layoutNew_k, clientNew_k, workerNew_k, pCells_k, machineBare_k, configClone_k, engineEngineGather_k, engineEngineDone_k, eDo_k, configMachines_k, scRounds_k] ⟨layoutNew_ok, clientNew_ok, workerNew_ok, pCells_ok, machineBare_ok, configClone_ok, engineEngineGather_ok, engineEngineDone_ok, eDo_ok, configMachines_ok, scRounds_ok, trivial⟩ boundPlay_tb ⟨Tryz.func23, Tryz.func37, trivial⟩ (fun f => (get [(23, [(6, .loop [.rg 23 sI_, .rg 6 (.own 58)] 18446744073709551616 0)]), (37, [(7, .loop [.rg 29 sI_, .rg 6 (.own 27)] 18446744073709551616 0)])] f).getD []) [(4, .loop [.rg 4 sI_, .ob 68 58] 18446744073709551616 0)] fun x => by kernel_rfl
noncomputable def worksteallaw31Awake  : Option ((Bool × Unit) × (Unit)) :=
 (kconfig ([])).bind fun r1 =>
 (boundPlay r1.1.1 ([])).bind fun r2 =>
 (bndBound 1 1 1 1 1 0 0).bind fun r3 =>
 if r3.1.1 = 14691 then
  if r2.1.1 = 0 then
   if r2.1.2.1 = 0 then
    some ((r2.1.2.2.1, ()), (()))
   else
   some ((false, ()), (()))
  else
  some ((false, ()), (()))
 else
 some ((false, ()), (()))
noncomputable abbrev worksteallaw31Awake_k : Con SR1 := ⟨7, [], [.sh .b], fun x => worksteallaw31Awake ⟩
theorem worksteallaw31Awake_ok : CO Tryz.prog worksteallaw31Awake_k := co_fn mixed Tryz.func7 [kconfig_k, boundPlay_k, bndBound_k] ⟨kconfig_ok, boundPlay_ok, bndBound_ok, trivial⟩ [] trivial (fun _ => []) [] fun x => by kernel_rfl
noncomputable def workstealref02Draw (y0 : Int) (y1 : Int) : Option ((Int × Unit) × (Unit)) :=
 if y1 < 1 then
  some ((0, ()), (()))
 else
 if y1 ≠ 0 then
  if (Int.tmod y0 y1) < 0 then
   if y1 ≠ 0 then
    some ((wi ((Int.tmod y0 y1) + y1), ()), (()))
   else none
  else
  if y1 ≠ 0 then
   some (((Int.tmod y0 y1), ()), (()))
  else none
 else none
noncomputable abbrev workstealref02Draw_k : Con SR1 := ⟨15, [.sh sI_, .sh sI_], [.sh sI_], fun x => workstealref02Draw x.1 x.2.1⟩
theorem workstealref02Draw_ok : CO Tryz.prog workstealref02Draw_k := co_fn mixed Tryz.func15 [] trivial [] trivial (fun _ => []) [] fun x => by kernel_rfl
noncomputable def worksteallaw31BoundGrows (y0 : A7) (y1 : Int) (y2 : Int) : Option ((Bool × Unit) × (Unit)) :=
 (workstealref02Draw (wi (Int.tdiv y0.a0 1)) 4096).bind fun r1 =>
 (workstealref02Draw (wi (Int.tdiv y0.a1 1)) 4096).bind fun r2 =>
 (workstealref02Draw (wi (Int.tdiv y0.a2 1)) 4096).bind fun r3 =>
 (workstealref02Draw (wi (Int.tdiv y0.a3 1)) 4096).bind fun r4 =>
 (workstealref02Draw (wi (Int.tdiv y0.a4 1)) 4096).bind fun r5 =>
 (workstealref02Draw (wi (Int.tdiv y0.a5 1)) 4096).bind fun r6 =>
 (workstealref02Draw (wi (Int.tdiv y0.a6 1)) 4096).bind fun r7 =>
 ((
  agr (
   agr (
    if ((([y1]).length : Nat) : Int) = 0 then
     if r1.1.1 = r1.1.1 then
      if ((([y2]).length : Nat) : Int) = 0 then
       if r1.1.1 = r1.1.1 then
        some ((⟨wi (r1.1.1 + 0), r2.1.1, r3.1.1, r4.1.1, r5.1.1, r6.1.1, r7.1.1⟩ : A7), ())
       else none
      else
      if ((([y2]).length : Nat) : Int) ≠ 0 then
       if 0 ≤ (Int.tmod 0 ((([y2]).length : Nat) : Int)) ∧ (Int.tmod 0 ((([y2]).length : Nat) : Int)) < ((([y2]).length : Nat) : Int) then
        if ((([y2]).length : Nat) : Int) ≠ 0 then
         if (wi (1 + (Int.tmod (wi (Int.tdiv 0 ((([y2]).length : Nat) : Int))) 7))) ≠ 0 then
          (workstealref02Draw (wi (Int.tdiv (atK1 ([y2]) (Int.tmod 0 ((([y2]).length : Nat) : Int))) (wi (1 + (Int.tmod (wi (Int.tdiv 0 ((([y2]).length : Nat) : Int))) 7))))) 4096).bind fun r26 =>
          if r1.1.1 = r1.1.1 then
           some ((⟨wi (r1.1.1 + r26.1.1), r2.1.1, r3.1.1, r4.1.1, r5.1.1, r6.1.1, r7.1.1⟩ : A7), ())
          else none
         else none
        else none
       else none
      else none
     else none
    else
    if ((([y1]).length : Nat) : Int) ≠ 0 then
     if 0 ≤ (Int.tmod 0 ((([y1]).length : Nat) : Int)) ∧ (Int.tmod 0 ((([y1]).length : Nat) : Int)) < ((([y1]).length : Nat) : Int) then
      if ((([y1]).length : Nat) : Int) ≠ 0 then
       if (wi (1 + (Int.tmod (wi (Int.tdiv 0 ((([y1]).length : Nat) : Int))) 7))) ≠ 0 then
        (workstealref02Draw (wi (Int.tdiv (atK1 ([y1]) (Int.tmod 0 ((([y1]).length : Nat) : Int))) (wi (1 + (Int.tmod (wi (Int.tdiv 0 ((([y1]).length : Nat) : Int))) 7))))) 7).bind fun r27 =>
        if r27.1.1 = ((6 : Nat) : Int) then
         if r7.1.1 = r7.1.1 then
          if ((([y2]).length : Nat) : Int) = 0 then
           if r7.1.1 = r7.1.1 then
            some ((⟨r1.1.1, r2.1.1, r3.1.1, r4.1.1, r5.1.1, r6.1.1, wi (r7.1.1 + 0)⟩ : A7), ())
           else none
          else
          if ((([y2]).length : Nat) : Int) ≠ 0 then
           if 0 ≤ (Int.tmod 0 ((([y2]).length : Nat) : Int)) ∧ (Int.tmod 0 ((([y2]).length : Nat) : Int)) < ((([y2]).length : Nat) : Int) then
            if ((([y2]).length : Nat) : Int) ≠ 0 then
             if (wi (1 + (Int.tmod (wi (Int.tdiv 0 ((([y2]).length : Nat) : Int))) 7))) ≠ 0 then
              (workstealref02Draw (wi (Int.tdiv (atK1 ([y2]) (Int.tmod 0 ((([y2]).length : Nat) : Int))) (wi (1 + (Int.tmod (wi (Int.tdiv 0 ((([y2]).length : Nat) : Int))) 7))))) 4096).bind fun r28 =>
              if r7.1.1 = r7.1.1 then
               some ((⟨r1.1.1, r2.1.1, r3.1.1, r4.1.1, r5.1.1, r6.1.1, wi (r7.1.1 + r28.1.1)⟩ : A7), ())
              else none
             else none
            else none
           else none
          else none
         else none
        else
         if r27.1.1 = ((5 : Nat) : Int) then
          if r6.1.1 = r6.1.1 then
           if ((([y2]).length : Nat) : Int) = 0 then
            if r6.1.1 = r6.1.1 then
             some ((⟨r1.1.1, r2.1.1, r3.1.1, r4.1.1, r5.1.1, wi (r6.1.1 + 0), r7.1.1⟩ : A7), ())
            else none
           else
           if ((([y2]).length : Nat) : Int) ≠ 0 then
            if 0 ≤ (Int.tmod 0 ((([y2]).length : Nat) : Int)) ∧ (Int.tmod 0 ((([y2]).length : Nat) : Int)) < ((([y2]).length : Nat) : Int) then
             if ((([y2]).length : Nat) : Int) ≠ 0 then
              if (wi (1 + (Int.tmod (wi (Int.tdiv 0 ((([y2]).length : Nat) : Int))) 7))) ≠ 0 then
               (workstealref02Draw (wi (Int.tdiv (atK1 ([y2]) (Int.tmod 0 ((([y2]).length : Nat) : Int))) (wi (1 + (Int.tmod (wi (Int.tdiv 0 ((([y2]).length : Nat) : Int))) 7))))) 4096).bind fun r29 =>
               if r6.1.1 = r6.1.1 then
                some ((⟨r1.1.1, r2.1.1, r3.1.1, r4.1.1, r5.1.1, wi (r6.1.1 + r29.1.1), r7.1.1⟩ : A7), ())
               else none
              else none
             else none
            else none
           else none
          else none
         else
          if r27.1.1 = ((4 : Nat) : Int) then
           if r5.1.1 = r5.1.1 then
            if ((([y2]).length : Nat) : Int) = 0 then
             if r5.1.1 = r5.1.1 then
              some ((⟨r1.1.1, r2.1.1, r3.1.1, r4.1.1, wi (r5.1.1 + 0), r6.1.1, r7.1.1⟩ : A7), ())
             else none
            else
            if ((([y2]).length : Nat) : Int) ≠ 0 then
             if 0 ≤ (Int.tmod 0 ((([y2]).length : Nat) : Int)) ∧ (Int.tmod 0 ((([y2]).length : Nat) : Int)) < ((([y2]).length : Nat) : Int) then
              if ((([y2]).length : Nat) : Int) ≠ 0 then
               if (wi (1 + (Int.tmod (wi (Int.tdiv 0 ((([y2]).length : Nat) : Int))) 7))) ≠ 0 then
                (workstealref02Draw (wi (Int.tdiv (atK1 ([y2]) (Int.tmod 0 ((([y2]).length : Nat) : Int))) (wi (1 + (Int.tmod (wi (Int.tdiv 0 ((([y2]).length : Nat) : Int))) 7))))) 4096).bind fun r30 =>
                if r5.1.1 = r5.1.1 then
                 some ((⟨r1.1.1, r2.1.1, r3.1.1, r4.1.1, wi (r5.1.1 + r30.1.1), r6.1.1, r7.1.1⟩ : A7), ())
                else none
               else none
              else none
             else none
            else none
           else none
          else
           if r27.1.1 = ((3 : Nat) : Int) then
            if r4.1.1 = r4.1.1 then
             if ((([y2]).length : Nat) : Int) = 0 then
              if r4.1.1 = r4.1.1 then
               some ((⟨r1.1.1, r2.1.1, r3.1.1, wi (r4.1.1 + 0), r5.1.1, r6.1.1, r7.1.1⟩ : A7), ())
              else none
             else
             if ((([y2]).length : Nat) : Int) ≠ 0 then
              if 0 ≤ (Int.tmod 0 ((([y2]).length : Nat) : Int)) ∧ (Int.tmod 0 ((([y2]).length : Nat) : Int)) < ((([y2]).length : Nat) : Int) then
               if ((([y2]).length : Nat) : Int) ≠ 0 then
                if (wi (1 + (Int.tmod (wi (Int.tdiv 0 ((([y2]).length : Nat) : Int))) 7))) ≠ 0 then
                 (workstealref02Draw (wi (Int.tdiv (atK1 ([y2]) (Int.tmod 0 ((([y2]).length : Nat) : Int))) (wi (1 + (Int.tmod (wi (Int.tdiv 0 ((([y2]).length : Nat) : Int))) 7))))) 4096).bind fun r31 =>
                 if r4.1.1 = r4.1.1 then
                  some ((⟨r1.1.1, r2.1.1, r3.1.1, wi (r4.1.1 + r31.1.1), r5.1.1, r6.1.1, r7.1.1⟩ : A7), ())
                 else none
                else none
               else none
              else none
             else none
            else none
           else
            if r27.1.1 = ((2 : Nat) : Int) then
             if r3.1.1 = r3.1.1 then
              if ((([y2]).length : Nat) : Int) = 0 then
               if r3.1.1 = r3.1.1 then
                some ((⟨r1.1.1, r2.1.1, wi (r3.1.1 + 0), r4.1.1, r5.1.1, r6.1.1, r7.1.1⟩ : A7), ())
               else none
              else
              if ((([y2]).length : Nat) : Int) ≠ 0 then
               if 0 ≤ (Int.tmod 0 ((([y2]).length : Nat) : Int)) ∧ (Int.tmod 0 ((([y2]).length : Nat) : Int)) < ((([y2]).length : Nat) : Int) then
                if ((([y2]).length : Nat) : Int) ≠ 0 then
                 if (wi (1 + (Int.tmod (wi (Int.tdiv 0 ((([y2]).length : Nat) : Int))) 7))) ≠ 0 then
                  (workstealref02Draw (wi (Int.tdiv (atK1 ([y2]) (Int.tmod 0 ((([y2]).length : Nat) : Int))) (wi (1 + (Int.tmod (wi (Int.tdiv 0 ((([y2]).length : Nat) : Int))) 7))))) 4096).bind fun r32 =>
                  if r3.1.1 = r3.1.1 then
                   some ((⟨r1.1.1, r2.1.1, wi (r3.1.1 + r32.1.1), r4.1.1, r5.1.1, r6.1.1, r7.1.1⟩ : A7), ())
                  else none
                 else none
                else none
               else none
              else none
             else none
            else
             if r27.1.1 = ((1 : Nat) : Int) then
              if r2.1.1 = r2.1.1 then
               if ((([y2]).length : Nat) : Int) = 0 then
                if r2.1.1 = r2.1.1 then
                 some ((⟨r1.1.1, wi (r2.1.1 + 0), r3.1.1, r4.1.1, r5.1.1, r6.1.1, r7.1.1⟩ : A7), ())
                else none
               else
               if ((([y2]).length : Nat) : Int) ≠ 0 then
                if 0 ≤ (Int.tmod 0 ((([y2]).length : Nat) : Int)) ∧ (Int.tmod 0 ((([y2]).length : Nat) : Int)) < ((([y2]).length : Nat) : Int) then
                 if ((([y2]).length : Nat) : Int) ≠ 0 then
                  if (wi (1 + (Int.tmod (wi (Int.tdiv 0 ((([y2]).length : Nat) : Int))) 7))) ≠ 0 then
                   (workstealref02Draw (wi (Int.tdiv (atK1 ([y2]) (Int.tmod 0 ((([y2]).length : Nat) : Int))) (wi (1 + (Int.tmod (wi (Int.tdiv 0 ((([y2]).length : Nat) : Int))) 7))))) 4096).bind fun r33 =>
                   if r2.1.1 = r2.1.1 then
                    some ((⟨r1.1.1, wi (r2.1.1 + r33.1.1), r3.1.1, r4.1.1, r5.1.1, r6.1.1, r7.1.1⟩ : A7), ())
                   else none
                  else none
                 else none
                else none
               else none
              else none
             else
              if r27.1.1 = ((0 : Nat) : Int) then
               if r1.1.1 = r1.1.1 then
                if ((([y2]).length : Nat) : Int) = 0 then
                 if r1.1.1 = r1.1.1 then
                  some ((⟨wi (r1.1.1 + 0), r2.1.1, r3.1.1, r4.1.1, r5.1.1, r6.1.1, r7.1.1⟩ : A7), ())
                 else none
                else
                if ((([y2]).length : Nat) : Int) ≠ 0 then
                 if 0 ≤ (Int.tmod 0 ((([y2]).length : Nat) : Int)) ∧ (Int.tmod 0 ((([y2]).length : Nat) : Int)) < ((([y2]).length : Nat) : Int) then
                  if ((([y2]).length : Nat) : Int) ≠ 0 then
                   if (wi (1 + (Int.tmod (wi (Int.tdiv 0 ((([y2]).length : Nat) : Int))) 7))) ≠ 0 then
                    (workstealref02Draw (wi (Int.tdiv (atK1 ([y2]) (Int.tmod 0 ((([y2]).length : Nat) : Int))) (wi (1 + (Int.tmod (wi (Int.tdiv 0 ((([y2]).length : Nat) : Int))) 7))))) 4096).bind fun r34 =>
                    if r1.1.1 = r1.1.1 then
                     some ((⟨wi (r1.1.1 + r34.1.1), r2.1.1, r3.1.1, r4.1.1, r5.1.1, r6.1.1, r7.1.1⟩ : A7), ())
                    else none
                   else none
                  else none
                 else none
                else none
               else none
              else
               none
       else none
      else none
     else none
    else none
   ) (
    if ((([y1]).length : Nat) : Int) = 0 then
     if ((([y2]).length : Nat) : Int) = 0 then
      if r1.1.1 = r1.1.1 then
       some ((⟨wi (r1.1.1 + 0), r2.1.1, r3.1.1, r4.1.1, r5.1.1, r6.1.1, r7.1.1⟩ : A7), ())
      else none
     else
     if ((([y2]).length : Nat) : Int) ≠ 0 then
      if 0 ≤ (Int.tmod 0 ((([y2]).length : Nat) : Int)) ∧ (Int.tmod 0 ((([y2]).length : Nat) : Int)) < ((([y2]).length : Nat) : Int) then
       if ((([y2]).length : Nat) : Int) ≠ 0 then
        if (wi (1 + (Int.tmod (wi (Int.tdiv 0 ((([y2]).length : Nat) : Int))) 7))) ≠ 0 then
         (workstealref02Draw (wi (Int.tdiv (atK1 ([y2]) (Int.tmod 0 ((([y2]).length : Nat) : Int))) (wi (1 + (Int.tmod (wi (Int.tdiv 0 ((([y2]).length : Nat) : Int))) 7))))) 4096).bind fun r17 =>
         if r1.1.1 = r1.1.1 then
          some ((⟨wi (r1.1.1 + r17.1.1), r2.1.1, r3.1.1, r4.1.1, r5.1.1, r6.1.1, r7.1.1⟩ : A7), ())
         else none
        else none
       else none
      else none
     else none
    else
    if ((([y1]).length : Nat) : Int) ≠ 0 then
     if 0 ≤ (Int.tmod 0 ((([y1]).length : Nat) : Int)) ∧ (Int.tmod 0 ((([y1]).length : Nat) : Int)) < ((([y1]).length : Nat) : Int) then
      if ((([y1]).length : Nat) : Int) ≠ 0 then
       if (wi (1 + (Int.tmod (wi (Int.tdiv 0 ((([y1]).length : Nat) : Int))) 7))) ≠ 0 then
        (workstealref02Draw (wi (Int.tdiv (atK1 ([y1]) (Int.tmod 0 ((([y1]).length : Nat) : Int))) (wi (1 + (Int.tmod (wi (Int.tdiv 0 ((([y1]).length : Nat) : Int))) 7))))) 7).bind fun r18 =>
        if r18.1.1 = ((6 : Nat) : Int) then
         if ((([y2]).length : Nat) : Int) = 0 then
          if r7.1.1 = r7.1.1 then
           some ((⟨r1.1.1, r2.1.1, r3.1.1, r4.1.1, r5.1.1, r6.1.1, wi (r7.1.1 + 0)⟩ : A7), ())
          else none
         else
         if ((([y2]).length : Nat) : Int) ≠ 0 then
          if 0 ≤ (Int.tmod 0 ((([y2]).length : Nat) : Int)) ∧ (Int.tmod 0 ((([y2]).length : Nat) : Int)) < ((([y2]).length : Nat) : Int) then
           if ((([y2]).length : Nat) : Int) ≠ 0 then
            if (wi (1 + (Int.tmod (wi (Int.tdiv 0 ((([y2]).length : Nat) : Int))) 7))) ≠ 0 then
             (workstealref02Draw (wi (Int.tdiv (atK1 ([y2]) (Int.tmod 0 ((([y2]).length : Nat) : Int))) (wi (1 + (Int.tmod (wi (Int.tdiv 0 ((([y2]).length : Nat) : Int))) 7))))) 4096).bind fun r19 =>
             if r7.1.1 = r7.1.1 then
              some ((⟨r1.1.1, r2.1.1, r3.1.1, r4.1.1, r5.1.1, r6.1.1, wi (r7.1.1 + r19.1.1)⟩ : A7), ())
             else none
            else none
           else none
          else none
         else none
        else
         if r18.1.1 = ((5 : Nat) : Int) then
          if ((([y2]).length : Nat) : Int) = 0 then
           if r6.1.1 = r6.1.1 then
            some ((⟨r1.1.1, r2.1.1, r3.1.1, r4.1.1, r5.1.1, wi (r6.1.1 + 0), r7.1.1⟩ : A7), ())
           else none
          else
          if ((([y2]).length : Nat) : Int) ≠ 0 then
           if 0 ≤ (Int.tmod 0 ((([y2]).length : Nat) : Int)) ∧ (Int.tmod 0 ((([y2]).length : Nat) : Int)) < ((([y2]).length : Nat) : Int) then
            if ((([y2]).length : Nat) : Int) ≠ 0 then
             if (wi (1 + (Int.tmod (wi (Int.tdiv 0 ((([y2]).length : Nat) : Int))) 7))) ≠ 0 then
              (workstealref02Draw (wi (Int.tdiv (atK1 ([y2]) (Int.tmod 0 ((([y2]).length : Nat) : Int))) (wi (1 + (Int.tmod (wi (Int.tdiv 0 ((([y2]).length : Nat) : Int))) 7))))) 4096).bind fun r20 =>
              if r6.1.1 = r6.1.1 then
               some ((⟨r1.1.1, r2.1.1, r3.1.1, r4.1.1, r5.1.1, wi (r6.1.1 + r20.1.1), r7.1.1⟩ : A7), ())
              else none
             else none
            else none
           else none
          else none
         else
          if r18.1.1 = ((4 : Nat) : Int) then
           if ((([y2]).length : Nat) : Int) = 0 then
            if r5.1.1 = r5.1.1 then
             some ((⟨r1.1.1, r2.1.1, r3.1.1, r4.1.1, wi (r5.1.1 + 0), r6.1.1, r7.1.1⟩ : A7), ())
            else none
           else
           if ((([y2]).length : Nat) : Int) ≠ 0 then
            if 0 ≤ (Int.tmod 0 ((([y2]).length : Nat) : Int)) ∧ (Int.tmod 0 ((([y2]).length : Nat) : Int)) < ((([y2]).length : Nat) : Int) then
             if ((([y2]).length : Nat) : Int) ≠ 0 then
              if (wi (1 + (Int.tmod (wi (Int.tdiv 0 ((([y2]).length : Nat) : Int))) 7))) ≠ 0 then
               (workstealref02Draw (wi (Int.tdiv (atK1 ([y2]) (Int.tmod 0 ((([y2]).length : Nat) : Int))) (wi (1 + (Int.tmod (wi (Int.tdiv 0 ((([y2]).length : Nat) : Int))) 7))))) 4096).bind fun r21 =>
               if r5.1.1 = r5.1.1 then
                some ((⟨r1.1.1, r2.1.1, r3.1.1, r4.1.1, wi (r5.1.1 + r21.1.1), r6.1.1, r7.1.1⟩ : A7), ())
               else none
              else none
             else none
            else none
           else none
          else
           if r18.1.1 = ((3 : Nat) : Int) then
            if ((([y2]).length : Nat) : Int) = 0 then
             if r4.1.1 = r4.1.1 then
              some ((⟨r1.1.1, r2.1.1, r3.1.1, wi (r4.1.1 + 0), r5.1.1, r6.1.1, r7.1.1⟩ : A7), ())
             else none
            else
            if ((([y2]).length : Nat) : Int) ≠ 0 then
             if 0 ≤ (Int.tmod 0 ((([y2]).length : Nat) : Int)) ∧ (Int.tmod 0 ((([y2]).length : Nat) : Int)) < ((([y2]).length : Nat) : Int) then
              if ((([y2]).length : Nat) : Int) ≠ 0 then
               if (wi (1 + (Int.tmod (wi (Int.tdiv 0 ((([y2]).length : Nat) : Int))) 7))) ≠ 0 then
                (workstealref02Draw (wi (Int.tdiv (atK1 ([y2]) (Int.tmod 0 ((([y2]).length : Nat) : Int))) (wi (1 + (Int.tmod (wi (Int.tdiv 0 ((([y2]).length : Nat) : Int))) 7))))) 4096).bind fun r22 =>
                if r4.1.1 = r4.1.1 then
                 some ((⟨r1.1.1, r2.1.1, r3.1.1, wi (r4.1.1 + r22.1.1), r5.1.1, r6.1.1, r7.1.1⟩ : A7), ())
                else none
               else none
              else none
             else none
            else none
           else
            if r18.1.1 = ((2 : Nat) : Int) then
             if ((([y2]).length : Nat) : Int) = 0 then
              if r3.1.1 = r3.1.1 then
               some ((⟨r1.1.1, r2.1.1, wi (r3.1.1 + 0), r4.1.1, r5.1.1, r6.1.1, r7.1.1⟩ : A7), ())
              else none
             else
             if ((([y2]).length : Nat) : Int) ≠ 0 then
              if 0 ≤ (Int.tmod 0 ((([y2]).length : Nat) : Int)) ∧ (Int.tmod 0 ((([y2]).length : Nat) : Int)) < ((([y2]).length : Nat) : Int) then
               if ((([y2]).length : Nat) : Int) ≠ 0 then
                if (wi (1 + (Int.tmod (wi (Int.tdiv 0 ((([y2]).length : Nat) : Int))) 7))) ≠ 0 then
                 (workstealref02Draw (wi (Int.tdiv (atK1 ([y2]) (Int.tmod 0 ((([y2]).length : Nat) : Int))) (wi (1 + (Int.tmod (wi (Int.tdiv 0 ((([y2]).length : Nat) : Int))) 7))))) 4096).bind fun r23 =>
                 if r3.1.1 = r3.1.1 then
                  some ((⟨r1.1.1, r2.1.1, wi (r3.1.1 + r23.1.1), r4.1.1, r5.1.1, r6.1.1, r7.1.1⟩ : A7), ())
                 else none
                else none
               else none
              else none
             else none
            else
             if r18.1.1 = ((1 : Nat) : Int) then
              if ((([y2]).length : Nat) : Int) = 0 then
               if r2.1.1 = r2.1.1 then
                some ((⟨r1.1.1, wi (r2.1.1 + 0), r3.1.1, r4.1.1, r5.1.1, r6.1.1, r7.1.1⟩ : A7), ())
               else none
              else
              if ((([y2]).length : Nat) : Int) ≠ 0 then
               if 0 ≤ (Int.tmod 0 ((([y2]).length : Nat) : Int)) ∧ (Int.tmod 0 ((([y2]).length : Nat) : Int)) < ((([y2]).length : Nat) : Int) then
                if ((([y2]).length : Nat) : Int) ≠ 0 then
                 if (wi (1 + (Int.tmod (wi (Int.tdiv 0 ((([y2]).length : Nat) : Int))) 7))) ≠ 0 then
                  (workstealref02Draw (wi (Int.tdiv (atK1 ([y2]) (Int.tmod 0 ((([y2]).length : Nat) : Int))) (wi (1 + (Int.tmod (wi (Int.tdiv 0 ((([y2]).length : Nat) : Int))) 7))))) 4096).bind fun r24 =>
                  if r2.1.1 = r2.1.1 then
                   some ((⟨r1.1.1, wi (r2.1.1 + r24.1.1), r3.1.1, r4.1.1, r5.1.1, r6.1.1, r7.1.1⟩ : A7), ())
                  else none
                 else none
                else none
               else none
              else none
             else
              if r18.1.1 = ((0 : Nat) : Int) then
               if ((([y2]).length : Nat) : Int) = 0 then
                if r1.1.1 = r1.1.1 then
                 some ((⟨wi (r1.1.1 + 0), r2.1.1, r3.1.1, r4.1.1, r5.1.1, r6.1.1, r7.1.1⟩ : A7), ())
                else none
               else
               if ((([y2]).length : Nat) : Int) ≠ 0 then
                if 0 ≤ (Int.tmod 0 ((([y2]).length : Nat) : Int)) ∧ (Int.tmod 0 ((([y2]).length : Nat) : Int)) < ((([y2]).length : Nat) : Int) then
                 if ((([y2]).length : Nat) : Int) ≠ 0 then
                  if (wi (1 + (Int.tmod (wi (Int.tdiv 0 ((([y2]).length : Nat) : Int))) 7))) ≠ 0 then
                   (workstealref02Draw (wi (Int.tdiv (atK1 ([y2]) (Int.tmod 0 ((([y2]).length : Nat) : Int))) (wi (1 + (Int.tmod (wi (Int.tdiv 0 ((([y2]).length : Nat) : Int))) 7))))) 4096).bind fun r25 =>
                   if r1.1.1 = r1.1.1 then
                    some ((⟨wi (r1.1.1 + r25.1.1), r2.1.1, r3.1.1, r4.1.1, r5.1.1, r6.1.1, r7.1.1⟩ : A7), ())
                   else none
                  else none
                 else none
                else none
               else none
              else
               none
       else none
      else none
     else none
    else none
   )
  ) (
   if ((([y1]).length : Nat) : Int) = 0 then
    if ((([y2]).length : Nat) : Int) = 0 then
     if r1.1.1 = r1.1.1 then
      some ((⟨wi (r1.1.1 + 0), r2.1.1, r3.1.1, r4.1.1, r5.1.1, r6.1.1, r7.1.1⟩ : A7), ())
     else none
    else
    if ((([y2]).length : Nat) : Int) ≠ 0 then
     if 0 ≤ (Int.tmod 0 ((([y2]).length : Nat) : Int)) ∧ (Int.tmod 0 ((([y2]).length : Nat) : Int)) < ((([y2]).length : Nat) : Int) then
      if ((([y2]).length : Nat) : Int) ≠ 0 then
       if (wi (1 + (Int.tmod (wi (Int.tdiv 0 ((([y2]).length : Nat) : Int))) 7))) ≠ 0 then
        (workstealref02Draw (wi (Int.tdiv (atK1 ([y2]) (Int.tmod 0 ((([y2]).length : Nat) : Int))) (wi (1 + (Int.tmod (wi (Int.tdiv 0 ((([y2]).length : Nat) : Int))) 7))))) 4096).bind fun r8 =>
        if r1.1.1 = r1.1.1 then
         some ((⟨wi (r1.1.1 + r8.1.1), r2.1.1, r3.1.1, r4.1.1, r5.1.1, r6.1.1, r7.1.1⟩ : A7), ())
        else none
       else none
      else none
     else none
    else none
   else
   if ((([y1]).length : Nat) : Int) ≠ 0 then
    if 0 ≤ (Int.tmod 0 ((([y1]).length : Nat) : Int)) ∧ (Int.tmod 0 ((([y1]).length : Nat) : Int)) < ((([y1]).length : Nat) : Int) then
     if ((([y1]).length : Nat) : Int) ≠ 0 then
      if (wi (1 + (Int.tmod (wi (Int.tdiv 0 ((([y1]).length : Nat) : Int))) 7))) ≠ 0 then
       (workstealref02Draw (wi (Int.tdiv (atK1 ([y1]) (Int.tmod 0 ((([y1]).length : Nat) : Int))) (wi (1 + (Int.tmod (wi (Int.tdiv 0 ((([y1]).length : Nat) : Int))) 7))))) 7).bind fun r9 =>
       if r9.1.1 = ((6 : Nat) : Int) then
        if ((([y2]).length : Nat) : Int) = 0 then
         if r7.1.1 = r7.1.1 then
          some ((⟨r1.1.1, r2.1.1, r3.1.1, r4.1.1, r5.1.1, r6.1.1, wi (r7.1.1 + 0)⟩ : A7), ())
         else none
        else
        if ((([y2]).length : Nat) : Int) ≠ 0 then
         if 0 ≤ (Int.tmod 0 ((([y2]).length : Nat) : Int)) ∧ (Int.tmod 0 ((([y2]).length : Nat) : Int)) < ((([y2]).length : Nat) : Int) then
          if ((([y2]).length : Nat) : Int) ≠ 0 then
           if (wi (1 + (Int.tmod (wi (Int.tdiv 0 ((([y2]).length : Nat) : Int))) 7))) ≠ 0 then
            (workstealref02Draw (wi (Int.tdiv (atK1 ([y2]) (Int.tmod 0 ((([y2]).length : Nat) : Int))) (wi (1 + (Int.tmod (wi (Int.tdiv 0 ((([y2]).length : Nat) : Int))) 7))))) 4096).bind fun r10 =>
            if r7.1.1 = r7.1.1 then
             some ((⟨r1.1.1, r2.1.1, r3.1.1, r4.1.1, r5.1.1, r6.1.1, wi (r7.1.1 + r10.1.1)⟩ : A7), ())
            else none
           else none
          else none
         else none
        else none
       else
        if r9.1.1 = ((5 : Nat) : Int) then
         if ((([y2]).length : Nat) : Int) = 0 then
          if r6.1.1 = r6.1.1 then
           some ((⟨r1.1.1, r2.1.1, r3.1.1, r4.1.1, r5.1.1, wi (r6.1.1 + 0), r7.1.1⟩ : A7), ())
          else none
         else
         if ((([y2]).length : Nat) : Int) ≠ 0 then
          if 0 ≤ (Int.tmod 0 ((([y2]).length : Nat) : Int)) ∧ (Int.tmod 0 ((([y2]).length : Nat) : Int)) < ((([y2]).length : Nat) : Int) then
           if ((([y2]).length : Nat) : Int) ≠ 0 then
            if (wi (1 + (Int.tmod (wi (Int.tdiv 0 ((([y2]).length : Nat) : Int))) 7))) ≠ 0 then
             (workstealref02Draw (wi (Int.tdiv (atK1 ([y2]) (Int.tmod 0 ((([y2]).length : Nat) : Int))) (wi (1 + (Int.tmod (wi (Int.tdiv 0 ((([y2]).length : Nat) : Int))) 7))))) 4096).bind fun r11 =>
             if r6.1.1 = r6.1.1 then
              some ((⟨r1.1.1, r2.1.1, r3.1.1, r4.1.1, r5.1.1, wi (r6.1.1 + r11.1.1), r7.1.1⟩ : A7), ())
             else none
            else none
           else none
          else none
         else none
        else
         if r9.1.1 = ((4 : Nat) : Int) then
          if ((([y2]).length : Nat) : Int) = 0 then
           if r5.1.1 = r5.1.1 then
            some ((⟨r1.1.1, r2.1.1, r3.1.1, r4.1.1, wi (r5.1.1 + 0), r6.1.1, r7.1.1⟩ : A7), ())
           else none
          else
          if ((([y2]).length : Nat) : Int) ≠ 0 then
           if 0 ≤ (Int.tmod 0 ((([y2]).length : Nat) : Int)) ∧ (Int.tmod 0 ((([y2]).length : Nat) : Int)) < ((([y2]).length : Nat) : Int) then
            if ((([y2]).length : Nat) : Int) ≠ 0 then
             if (wi (1 + (Int.tmod (wi (Int.tdiv 0 ((([y2]).length : Nat) : Int))) 7))) ≠ 0 then
              (workstealref02Draw (wi (Int.tdiv (atK1 ([y2]) (Int.tmod 0 ((([y2]).length : Nat) : Int))) (wi (1 + (Int.tmod (wi (Int.tdiv 0 ((([y2]).length : Nat) : Int))) 7))))) 4096).bind fun r12 =>
              if r5.1.1 = r5.1.1 then
               some ((⟨r1.1.1, r2.1.1, r3.1.1, r4.1.1, wi (r5.1.1 + r12.1.1), r6.1.1, r7.1.1⟩ : A7), ())
              else none
             else none
            else none
           else none
          else none
         else
          if r9.1.1 = ((3 : Nat) : Int) then
           if ((([y2]).length : Nat) : Int) = 0 then
            if r4.1.1 = r4.1.1 then
             some ((⟨r1.1.1, r2.1.1, r3.1.1, wi (r4.1.1 + 0), r5.1.1, r6.1.1, r7.1.1⟩ : A7), ())
            else none
           else
           if ((([y2]).length : Nat) : Int) ≠ 0 then
            if 0 ≤ (Int.tmod 0 ((([y2]).length : Nat) : Int)) ∧ (Int.tmod 0 ((([y2]).length : Nat) : Int)) < ((([y2]).length : Nat) : Int) then
             if ((([y2]).length : Nat) : Int) ≠ 0 then
              if (wi (1 + (Int.tmod (wi (Int.tdiv 0 ((([y2]).length : Nat) : Int))) 7))) ≠ 0 then
               (workstealref02Draw (wi (Int.tdiv (atK1 ([y2]) (Int.tmod 0 ((([y2]).length : Nat) : Int))) (wi (1 + (Int.tmod (wi (Int.tdiv 0 ((([y2]).length : Nat) : Int))) 7))))) 4096).bind fun r13 =>
               if r4.1.1 = r4.1.1 then
                some ((⟨r1.1.1, r2.1.1, r3.1.1, wi (r4.1.1 + r13.1.1), r5.1.1, r6.1.1, r7.1.1⟩ : A7), ())
               else none
              else none
             else none
            else none
           else none
          else
           if r9.1.1 = ((2 : Nat) : Int) then
            if ((([y2]).length : Nat) : Int) = 0 then
             if r3.1.1 = r3.1.1 then
              some ((⟨r1.1.1, r2.1.1, wi (r3.1.1 + 0), r4.1.1, r5.1.1, r6.1.1, r7.1.1⟩ : A7), ())
             else none
            else
            if ((([y2]).length : Nat) : Int) ≠ 0 then
             if 0 ≤ (Int.tmod 0 ((([y2]).length : Nat) : Int)) ∧ (Int.tmod 0 ((([y2]).length : Nat) : Int)) < ((([y2]).length : Nat) : Int) then
              if ((([y2]).length : Nat) : Int) ≠ 0 then
               if (wi (1 + (Int.tmod (wi (Int.tdiv 0 ((([y2]).length : Nat) : Int))) 7))) ≠ 0 then
                (workstealref02Draw (wi (Int.tdiv (atK1 ([y2]) (Int.tmod 0 ((([y2]).length : Nat) : Int))) (wi (1 + (Int.tmod (wi (Int.tdiv 0 ((([y2]).length : Nat) : Int))) 7))))) 4096).bind fun r14 =>
                if r3.1.1 = r3.1.1 then
                 some ((⟨r1.1.1, r2.1.1, wi (r3.1.1 + r14.1.1), r4.1.1, r5.1.1, r6.1.1, r7.1.1⟩ : A7), ())
                else none
               else none
              else none
             else none
            else none
           else
            if r9.1.1 = ((1 : Nat) : Int) then
             if ((([y2]).length : Nat) : Int) = 0 then
              if r2.1.1 = r2.1.1 then
               some ((⟨r1.1.1, wi (r2.1.1 + 0), r3.1.1, r4.1.1, r5.1.1, r6.1.1, r7.1.1⟩ : A7), ())
              else none
             else
             if ((([y2]).length : Nat) : Int) ≠ 0 then
              if 0 ≤ (Int.tmod 0 ((([y2]).length : Nat) : Int)) ∧ (Int.tmod 0 ((([y2]).length : Nat) : Int)) < ((([y2]).length : Nat) : Int) then
               if ((([y2]).length : Nat) : Int) ≠ 0 then
                if (wi (1 + (Int.tmod (wi (Int.tdiv 0 ((([y2]).length : Nat) : Int))) 7))) ≠ 0 then
                 (workstealref02Draw (wi (Int.tdiv (atK1 ([y2]) (Int.tmod 0 ((([y2]).length : Nat) : Int))) (wi (1 + (Int.tmod (wi (Int.tdiv 0 ((([y2]).length : Nat) : Int))) 7))))) 4096).bind fun r15 =>
                 if r2.1.1 = r2.1.1 then
                  some ((⟨r1.1.1, wi (r2.1.1 + r15.1.1), r3.1.1, r4.1.1, r5.1.1, r6.1.1, r7.1.1⟩ : A7), ())
                 else none
                else none
               else none
              else none
             else none
            else
             if r9.1.1 = ((0 : Nat) : Int) then
              if ((([y2]).length : Nat) : Int) = 0 then
               if r1.1.1 = r1.1.1 then
                some ((⟨wi (r1.1.1 + 0), r2.1.1, r3.1.1, r4.1.1, r5.1.1, r6.1.1, r7.1.1⟩ : A7), ())
               else none
              else
              if ((([y2]).length : Nat) : Int) ≠ 0 then
               if 0 ≤ (Int.tmod 0 ((([y2]).length : Nat) : Int)) ∧ (Int.tmod 0 ((([y2]).length : Nat) : Int)) < ((([y2]).length : Nat) : Int) then
                if ((([y2]).length : Nat) : Int) ≠ 0 then
                 if (wi (1 + (Int.tmod (wi (Int.tdiv 0 ((([y2]).length : Nat) : Int))) 7))) ≠ 0 then
                  (workstealref02Draw (wi (Int.tdiv (atK1 ([y2]) (Int.tmod 0 ((([y2]).length : Nat) : Int))) (wi (1 + (Int.tmod (wi (Int.tdiv 0 ((([y2]).length : Nat) : Int))) 7))))) 4096).bind fun r16 =>
                  if r1.1.1 = r1.1.1 then
                   some ((⟨wi (r1.1.1 + r16.1.1), r2.1.1, r3.1.1, r4.1.1, r5.1.1, r6.1.1, r7.1.1⟩ : A7), ())
                  else none
                 else none
                else none
               else none
              else none
             else
              none
      else none
     else none
    else none
   else none
  )
 ) : Option (A7 × Unit)).bind fun z35 =>
 (bndBound r1.1.1 r2.1.1 r3.1.1 r4.1.1 r5.1.1 r6.1.1 r7.1.1).bind fun r36 =>
 if z35.1.a6 = z35.1.a6 then
  if z35.1.a5 = z35.1.a5 then
   if z35.1.a4 = z35.1.a4 then
    if z35.1.a3 = z35.1.a3 then
     if z35.1.a2 = z35.1.a2 then
      if z35.1.a1 = z35.1.a1 then
       if z35.1.a0 = z35.1.a0 then
        (bndBound z35.1.a0 z35.1.a1 z35.1.a2 z35.1.a3 z35.1.a4 z35.1.a5 z35.1.a6).bind fun r37 =>
        (worksteallaw31Awake).bind fun r38 =>
        if r38.1.1 = true then
         if 0 < r36.1.1 then
          some ((decide (r36.1.1 ≤ r37.1.1), ()), (()))
         else
         some ((false, ()), (()))
        else
        some ((false, ()), (()))
       else none
      else none
     else none
    else none
   else none
  else none
 else none
noncomputable abbrev worksteallaw31BoundGrows_k : Con SR1 := ⟨4, [.val 59, .sh sI_, .sh sI_], [.sh .b], fun x => worksteallaw31BoundGrows x.1 x.2.1 x.2.2.1⟩
noncomputable def worksteallaw31BoundGrows_tb : List (Nat × Func) := [(6, Tryz.f6)]
theorem worksteallaw31BoundGrows_ok : CO Tryz.prog worksteallaw31BoundGrows_k := co_fn mixed Tryz.func4 [workstealref02Draw_k, bndBound_k, worksteallaw31Awake_k] ⟨workstealref02Draw_ok, bndBound_ok, worksteallaw31Awake_ok, trivial⟩ worksteallaw31BoundGrows_tb ⟨Tryz.func6, trivial⟩ (fun _ => []) [(2, .unroll 8), (7, .cut [.ob 66 59] [9])] fun x => by kernel_rfl
end
section
open Go Go.RowKit
set_option maxRecDepth 100000
theorem bind_guard {α β : Type} {G : Prop} [d : Decidable G] (A : Option α) (f : α → Option β) : (A.bind fun r => if G then f r else none) = if G then A.bind f else none := by
  by_cases h : G
  · simp only [if_pos h]
  · simp only [if_neg h]; cases A <;> rfl
theorem awake_cfg : kconfig [] = some ((⟨1, 1, 1, 1, 1, 1, 1, 0, 1, [[]], []⟩, ()), ()) := by kernel_rfl
theorem play_nil : boundPlay ⟨1, 1, 1, 1, 1, 1, 1, 0, 1, [[]], []⟩ [] = some ((0, 0, true, ()), ()) := by
  unfold boundPlay
  simp only [bind_guard, agr_self]
  kernel_rfl
theorem awake_true : worksteallaw31Awake = some ((true, ()), ()) := by
  unfold worksteallaw31Awake
  rw [awake_cfg, Option.bind_some, play_nil]
  kernel_rfl
end
section
open Go Go.RowKit
set_option maxRecDepth 100000
theorem draw_some (x n : Int) (h1 : 1 ≤ n) (h2 : n ≤ 1000000000) : ∃ r, workstealref02Draw x n = some ((r, ()), ()) ∧ 0 ≤ r ∧ r < n := by
  have hn : ¬ n < 1 := by omega
  have hz : n ≠ 0 := by omega
  unfold workstealref02Draw
  rw [if_neg hn, if_pos hz]
  have hb : -n < Int.tmod x n ∧ Int.tmod x n < n := by
    have e1 := Int.tmod_lt_of_pos x (show 0 < n by omega)
    have e2 := Int.lt_tmod_of_pos x (show 0 < n by omega)
    exact ⟨e2, e1⟩
  by_cases h : Int.tmod x n < 0
  · rw [if_pos h, if_pos hz]
    have e : wi (Int.tmod x n + n) = Int.tmod x n + n := w64 (by omega) (by omega)
    exact ⟨_, by rw [e], by omega, by omega⟩
  · rw [if_neg h, if_pos hz]
    exact ⟨_, rfl, by omega, by omega⟩
theorem bind_some' {α β : Type} (a : α) (f : α → Option β) : (some a).bind f = f a := rfl
def Rg7 (x : A7) : Prop := Rg64 x.a6
theorem inRange_small {w l c p t s g : Int} (hw : 0 ≤ w ∧ w ≤ 10000) (hl : 0 ≤ l ∧ l ≤ 10000) (hc : 0 ≤ c ∧ c ≤ 10000) (hp : 0 ≤ p ∧ p ≤ 10000) (ht : 0 ≤ t ∧ t ≤ 10000) (hs : 0 ≤ s ∧ s ≤ 10000) (hg : 0 ≤ g ∧ g ≤ 10000) : InRange w l c p t s g :=
  ⟨by omega, by omega, by omega, by omega, by omega, by omega, by omega⟩
theorem boundV_mono {w l c p t s g w' l' c' p' t' s' g' : Int} (h : InRange w l c p t s g) (h' : InRange w' l' c' p' t' s' g') (hw : w ≤ w') (hl : l ≤ l') (hc : c ≤ c') (hp : p ≤ p') (ht : t ≤ t') (hs : s ≤ s') (hg : g ≤ g') :
    0 < boundV w l c p t s g ∧ boundV w l c p t s g ≤ boundV w' l' c' p' t' s' g' := by
  unfold boundV
  rw [if_pos h, if_pos h']
  obtain ⟨⟨w0, _⟩, ⟨l0, _⟩, ⟨c0, _⟩, ⟨p0, _⟩, ⟨t0, _⟩, ⟨s0, _⟩, ⟨g0, _⟩⟩ := h
  have m1 : 0 ≤ 4 * t * l ∧ 4 * t * l ≤ 4 * t' * l' := mul_le_mul_of (by omega) (by omega) l0 hl
  have m2 : 0 ≤ 8 * t * l ∧ 8 * t * l ≤ 8 * t' * l' := mul_le_mul_of (by omega) (by omega) l0 hl
  have m3 : 0 ≤ (g + 2 * t + 1) * (64 + 2 * c + 16 * t) ∧ (g + 2 * t + 1) * (64 + 2 * c + 16 * t) ≤ (g' + 2 * t' + 1) * (64 + 2 * c' + 16 * t') := mul_le_mul_of (by omega) (by omega) (by omega) (by omega)
  have m4 : 0 ≤ 4 * t * l * (w + 1) ∧ 4 * t * l * (w + 1) ≤ 4 * t' * l' * (w' + 1) := mul_le_mul_of m1.1 m1.2 (by omega) (by omega)
  have m5 : 4 ≤ progV l t s g ∧ progV l t s g ≤ progV l' t' s' g' := by
    unfold progV; omega
  have m6 : 512 ≤ seekV w l c p ∧ seekV w l c p ≤ seekV w' l' c' p' := by
    unfold seekV; omega
  have m7 : 0 ≤ (progV l t s g + 2) * seekV w l c p ∧ (progV l t s g + 2) * seekV w l c p ≤ (progV l' t' s' g' + 2) * seekV w' l' c' p' := mul_le_mul_of (by omega) (by omega) (by omega) m6.2
  have m8 : 6 * 512 ≤ (progV l t s g + 2) * seekV w l c p := (mul_le_mul_of (by omega) (by omega) (by omega) m6.1).2
  unfold runV
  omega
theorem grows_true (y : A7) (w b : Int) : worksteallaw31BoundGrows y w b = some ((true, ()), ()) := by
  unfold worksteallaw31BoundGrows
  obtain ⟨r1, e1, a1, b1⟩ := draw_some (wi (Int.tdiv y.a0 1)) 4096 (by omega) (by omega)
  obtain ⟨r2, e2, a2, b2⟩ := draw_some (wi (Int.tdiv y.a1 1)) 4096 (by omega) (by omega)
  obtain ⟨r3, e3, a3, b3⟩ := draw_some (wi (Int.tdiv y.a2 1)) 4096 (by omega) (by omega)
  obtain ⟨r4, e4, a4, b4⟩ := draw_some (wi (Int.tdiv y.a3 1)) 4096 (by omega) (by omega)
  obtain ⟨r5, e5, a5, b5⟩ := draw_some (wi (Int.tdiv y.a4 1)) 4096 (by omega) (by omega)
  obtain ⟨r6, e6, a6, b6⟩ := draw_some (wi (Int.tdiv y.a5 1)) 4096 (by omega) (by omega)
  obtain ⟨r7, e7, a7, b7⟩ := draw_some (wi (Int.tdiv y.a6 1)) 4096 (by omega) (by omega)
  have f1 : (([w].length : Nat) : Int) = 1 := rfl
  have f2 : (([b].length : Nat) : Int) = 1 := rfl
  have f3 : wi (1 + Int.tmod (wi (Int.tdiv 0 1)) 7) = 1 := by kernel_rfl
  have f4 : Int.tmod 0 1 = 0 := by kernel_rfl
  have n1 : ¬ (1 : Int) = 0 := by omega
  have n2 : (0 : Int) ≤ 0 ∧ (0 : Int) < 1 := by omega
  obtain ⟨k, ek, ak, bk⟩ := draw_some (wi (Int.tdiv (atK1 [w] 0) 1)) 7 (by omega) (by omega)
  obtain ⟨q, eq, aq, bq⟩ := draw_some (wi (Int.tdiv (atK1 [b] 0) 1)) 4096 (by omega) (by omega)
  simp only [e1, e2, e3, e4, e5, e6, e7, bind_some', f1, f2, f4, f3, if_neg n1, if_pos n2, ne_eq, n1, not_false_eq_true, if_true, ek, eq]
  have key : ∀ x0 x1 x2 x3 x4 x5 x6 : Int, (InRange x0 x1 x2 x3 x4 x5 x6 ∧ (r1 ≤ x0 ∧ r2 ≤ x1 ∧ r3 ≤ x2 ∧ r4 ≤ x3 ∧ r5 ≤ x4 ∧ r6 ≤ x5 ∧ r7 ≤ x6)) →
      (((bndBound r1 r2 r3 r4 r5 r6 r7).bind fun r36 => (bndBound x0 x1 x2 x3 x4 x5 x6).bind fun r37 => (worksteallaw31Awake).bind fun r38 =>
        if r38.1.1 = true then (if 0 < r36.1.1 then some ((decide (r36.1.1 ≤ r37.1.1), ()), ()) else some ((false, ()), ())) else some ((false, ()), ())) : Option ((Bool × Unit) × Unit)) = some ((true, ()), ()) := by
    intro x0 x1 x2 x3 x4 x5 x6 ⟨hx, h1, h2, h3, h4, h5, h6, h7⟩
    have hr : InRange r1 r2 r3 r4 r5 r6 r7 := inRange_small (by omega) (by omega) (by omega) (by omega) (by omega) (by omega) (by omega)
    have hm := boundV_mono hr hx h1 h2 h3 h4 h5 h6 h7
    have g1 : Rg64 r7 := ⟨by omega, by omega⟩
    have g2 : Rg64 x6 := ⟨by have := hx.2.2.2.2.2.2; omega, by have := hx.2.2.2.2.2.2; omega⟩
    simp only [bndBound, if_pos g1, if_pos g2, bind_some', awake_true, if_true, hm.1, hm.2, decide_true]
  have hk : k = 0 ∨ k = 1 ∨ k = 2 ∨ k = 3 ∨ k = 4 ∨ k = 5 ∨ k = 6 := by omega
  have v1 : wi (r1 + q) = r1 + q := w64 (by omega) (by omega)
  have v2 : wi (r2 + q) = r2 + q := w64 (by omega) (by omega)
  have v3 : wi (r3 + q) = r3 + q := w64 (by omega) (by omega)
  have v4 : wi (r4 + q) = r4 + q := w64 (by omega) (by omega)
  have v5 : wi (r5 + q) = r5 + q := w64 (by omega) (by omega)
  have v6 : wi (r6 + q) = r6 + q := w64 (by omega) (by omega)
  have v7 : wi (r7 + q) = r7 + q := w64 (by omega) (by omega)
  rcases hk with rfl | rfl | rfl | rfl | rfl | rfl | rfl
  · simp only [v1, agr_self, bind_some', Int.reduceEq, Int.cast_ofNat_Int, if_false, if_true]
    exact key (r1 + q) r2 r3 r4 r5 r6 r7 ⟨inRange_small (by omega) (by omega) (by omega) (by omega) (by omega) (by omega) (by omega), by omega⟩
  · simp only [v2, agr_self, bind_some', Int.reduceEq, Int.cast_ofNat_Int, if_false, if_true]
    exact key r1 (r2 + q) r3 r4 r5 r6 r7 ⟨inRange_small (by omega) (by omega) (by omega) (by omega) (by omega) (by omega) (by omega), by omega⟩
  · simp only [v3, agr_self, bind_some', Int.reduceEq, Int.cast_ofNat_Int, if_false, if_true]
    exact key r1 r2 (r3 + q) r4 r5 r6 r7 ⟨inRange_small (by omega) (by omega) (by omega) (by omega) (by omega) (by omega) (by omega), by omega⟩
  · simp only [v4, agr_self, bind_some', Int.reduceEq, Int.cast_ofNat_Int, if_false, if_true]
    exact key r1 r2 r3 (r4 + q) r5 r6 r7 ⟨inRange_small (by omega) (by omega) (by omega) (by omega) (by omega) (by omega) (by omega), by omega⟩
  · simp only [v5, agr_self, bind_some', Int.reduceEq, Int.cast_ofNat_Int, if_false, if_true]
    exact key r1 r2 r3 r4 (r5 + q) r6 r7 ⟨inRange_small (by omega) (by omega) (by omega) (by omega) (by omega) (by omega) (by omega), by omega⟩
  · simp only [v6, agr_self, bind_some', Int.reduceEq, Int.cast_ofNat_Int, if_false, if_true]
    exact key r1 r2 r3 r4 r5 (r6 + q) r7 ⟨inRange_small (by omega) (by omega) (by omega) (by omega) (by omega) (by omega) (by omega), by omega⟩
  · simp only [v7, agr_self, bind_some', Int.reduceEq, Int.cast_ofNat_Int, if_false, if_true]
    exact key r1 r2 r3 r4 r5 r6 (r7 + q) ⟨inRange_small (by omega) (by omega) (by omega) (by omega) (by omega) (by omega) (by omega), by omega⟩
end
section
open Go.ChangeShapes Go.WideShapes Go.RowKit Go.Deep
set_option maxRecDepth 100000
theorem okWide_array {P : Program} {w : World} {r : Reach} {b0 : Nat} {t e : TypeId} {n : Nat} {v : Value} (ht : P.underlying t = some (.array n e)) (h : Value.okWide P w r b0 t v) : ∃ cs, v = .agg cs ∧ cs.size = P.cellsOf t := by
  simp only [Value.okWide, ht] at h
  obtain ⟨cs, h1, h2, _⟩ := h
  exact ⟨cs, h1, h2⟩
section
variable {H : Type} {enc : TypeId × Value → H} {w : World} {base : Nat} {spare : Nat → Bool} {held : Bool}
theorem cells7 : Tryz.prog.cellsOf 22 = 7 := by kernel_rfl
theorem a7_in {v : Value} {d : DataW H} {p : List MemPlace} {r : Reach} {b0 : Nat} (hv : Value.okWide Tryz.prog w r b0 22 v) (h : DataW.Trod enc Tryz.prog w base spare held 22 v d p) : ∃ z : A7, Rg7 z ∧ ∀ {L}, Sat w.heap.size w L → Sat w.heap.size w (valS SR1 59 z v :: L) := by
  obtain ⟨cs, rfl, hsz⟩ := okWide_array Tryz.underlying22 hv
  obtain ⟨fuel, hf⟩ := h
  obtain ⟨xs, m, _, _, _, hx, hg⟩ := DataW.trod_array Tryz.underlying22 hf
  obtain ⟨l⟩ := cs
  have hl : l.length = 7 := hsz.trans cells7
  have key : ∀ i, i < 7 → ∃ z : Int, (-9223372036854775808 ≤ z ∧ z ≤ 9223372036854775807) ∧ l[i]? = some (.int .i64 z) := fun i hi => by
    have h1 := hg i hi
    rw [cellsInt, Nat.mul_one] at h1
    have hxi : ∃ d, xs[i]? = some d := ⟨xs[i]'(by omega), List.getElem?_eq_getElem _⟩
    obtain ⟨d, hd⟩ := hxi
    rw [hd] at h1
    obtain ⟨z, hz, _, hw⟩ := DataW.trod_int Tryz.underlying3 h1
    refine ⟨z, wf_int hw, ?_⟩
    have := congrArg (fun l : List Value => l[0]?) hz
    simpa [Value.cells] using this
  match l, hl, key with
  | [y0, y1, y2, y3, y4, y5, y6], _, key =>
    obtain ⟨z0, _, e0⟩ := key 0 (by omega)
    obtain ⟨z1, _, e1⟩ := key 1 (by omega)
    obtain ⟨z2, _, e2⟩ := key 2 (by omega)
    obtain ⟨z3, _, e3⟩ := key 3 (by omega)
    obtain ⟨z4, _, e4⟩ := key 4 (by omega)
    obtain ⟨z5, _, e5⟩ := key 5 (by omega)
    obtain ⟨z6, w6, e6⟩ := key 6 (by omega)
    obtain rfl : y0 = .int .i64 z0 := Option.some.inj e0
    obtain rfl : y1 = .int .i64 z1 := Option.some.inj e1
    obtain rfl : y2 = .int .i64 z2 := Option.some.inj e2
    obtain rfl : y3 = .int .i64 z3 := Option.some.inj e3
    obtain rfl : y4 = .int .i64 z4 := Option.some.inj e4
    obtain rfl : y5 = .int .i64 z5 := Option.some.inj e5
    obtain rfl : y6 = .int .i64 z6 := Option.some.inj e6
    exact ⟨⟨z0, z1, z2, z3, z4, z5, z6⟩, w6, fun s => sat_valI (S := SR1) (c := 59) (x := (⟨z0, z1, z2, z3, z4, z5, z6⟩ : A7)) rfl s⟩
end
end
end Go.Proofs.YtnfblhckpmofcaaGreat
