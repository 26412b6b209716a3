/- Done, Play by names. The program's machines, said plainly: their states, and what a step does. No program occurs here but its numbers. The program's machines do what was said plainly, 1: memory, cells, words, the machines that run none inside. -/
import Derived.Test.YtgiagoeoifgliaaGreatBqap
set_option linter.all false
namespace Go.Proofs.YtgiagoeoifgliaaGreat
section
open Go Go.RowKit
set_option maxRecDepth 100000
variable [Tb]
abbrev EngT := Int × List Int × Int × Int × Int × Int × Unit
noncomputable def travTail {σ : Type} (c0 : Int) (env : EnvP) (eng : EngT) (self : EnvP → EngT → Option σ) : Option σ :=
   (memoryMemoryCount env.m).bind fun r22 =>
   if c0 < r22.1.1 then
    (memoryMemoryLast r22.2.1).bind fun r23 =>
    (lpF (σ := EnvP × (Int × List Int × Int × Int × Int × Int × Unit) × Unit) (β := EnvP × (Int × List Int × Int × Int × Int × Int × Unit) × Unit) (fun self26 x24 =>
     if ((x24.2.1.2.1.length : Nat) : Int) < ((x24.1.evs.length : Nat) : Int) then
      if (((x24.2.1.2.1.length + ([x24.2.1.1] : List Int).length : Nat)) : Int) < 1000000000000 then
       self26 (x24.1, (x24.2.1.1, x24.2.1.2.1 ++ ([x24.2.1.1]), x24.2.1.2.2.1, x24.2.1.2.2.2.1, x24.2.1.2.2.2.2.1, x24.2.1.2.2.2.2.2.1, ()), ())
      else none
     else
     some (x24.1, x24.2.1, ())
    ) 18446744073709551616 (({ env with m := r23.2.1 } : EnvP), (eng.1, eng.2.1, r23.1.1.kind, r23.1.1.cell, r23.1.1.old, r23.1.1.new, ()), ())).bind fun z25 =>
    self z25.1 (wi (z25.2.1.1 + 1), z25.2.1.2.1, z25.2.1.2.2.1, z25.2.1.2.2.2.1, z25.2.1.2.2.2.2.1, z25.2.1.2.2.2.2.2.1, ())
   else
   (lpF (σ := EnvP × (Int × List Int × Int × Int × Int × Int × Unit) × Unit) (β := EnvP × (Int × List Int × Int × Int × Int × Int × Unit) × Unit) (fun self29 x27 =>
    if ((x27.2.1.2.1.length : Nat) : Int) < ((x27.1.evs.length : Nat) : Int) then
     if (((x27.2.1.2.1.length + ([x27.2.1.1] : List Int).length : Nat)) : Int) < 1000000000000 then
      self29 (x27.1, (x27.2.1.1, x27.2.1.2.1 ++ ([x27.2.1.1]), x27.2.1.2.2.1, x27.2.1.2.2.2.1, x27.2.1.2.2.2.2.1, x27.2.1.2.2.2.2.2.1, ()), ())
     else none
    else
    some (x27.1, x27.2.1, ())
   ) 18446744073709551616 (({ env with m := r22.2.1 } : EnvP), (eng.1, eng.2.1, 0, 0, 0, 0, ()), ())).bind fun z28 =>
   self z28.1 (wi (z28.2.1.1 + 1), z28.2.1.2.1, z28.2.1.2.2.1, z28.2.1.2.2.2.1, z28.2.1.2.2.2.2.1, z28.2.1.2.2.2.2.2.1, ())
abbrev TravT1 := Int × EnvP × (WorkerV MV) × (ClientV MV) × (Int × List Int × Int × Int × Int × Int × Unit) × Unit
noncomputable def travKind1 (l : List EntV) (x12 : TravT1) (r15 : (Int × Unit) × (MemV × Unit)) :=
   ((
    if ((atK5 l x12.1).kind) = 0 then
     (scriptMachine (atK5 l x12.1) 2).bind fun r16 =>
     if r16.1.1 = ((1 : Nat) : Int) then
      (clientClientStep x12.2.2.2.1 ({ x12.2.1 with m := r15.2.1 } : EnvP)).bind fun r17 =>
      some (r17.2.2.1, x12.2.2.1, r17.2.1, x12.2.2.2.2.1, ())
     else
      if r16.1.1 = ((0 : Nat) : Int) then
       (workerWorkerStep x12.2.2.1 ({ x12.2.1 with m := r15.2.1 } : EnvP)).bind fun r18 =>
       some (r18.2.2.1, r18.2.1, x12.2.2.2.1, x12.2.2.2.2.1, ())
      else
       none
    else
    if ((atK5 l x12.1).kind) = 1 then
     (clockClockTick x12.2.1.k).bind fun r19 =>
     some (({ x12.2.1 with m := r15.2.1, k := r19.2.1 } : EnvP), x12.2.2.1, x12.2.2.2.1, x12.2.2.2.2.1, ())
    else
    if ((atK5 l x12.1).kind) = 2 then
     (clockClockSet x12.2.1.k ((atK5 l x12.1).value)).bind fun r20 =>
     some (({ x12.2.1 with m := r15.2.1, k := r20.2.1 } : EnvP), x12.2.2.1, x12.2.2.2.1, x12.2.2.2.2.1, ())
    else
    some (({ x12.2.1 with m := r15.2.1 } : EnvP), x12.2.2.1, x12.2.2.2.1, x12.2.2.2.2.1, ())
   ) : Option (EnvP × (WorkerV MV) × (ClientV MV) × (Int × List Int × Int × Int × Int × Int × Unit) × Unit))
noncomputable def travBody1 (l : List EntV) (self14 : TravT1 → Option (TravT1)) (x12 : TravT1) : Option (TravT1) :=
 if x12.1 < ((l.length : Nat) : Int) then
  if 0 ≤ x12.1 ∧ x12.1 < ((l.length : Nat) : Int) then
   (memoryMemoryCount x12.2.1.m).bind fun r15 =>
   (travKind1 l x12 r15).bind fun z21 =>
   travTail r15.1.1 z21.1 z21.2.2.2.1 (fun e g => self14 (wi (x12.1 + 1), e, z21.2.1, z21.2.2.1, g, ()))
  else none
 else
 some (x12.1, x12.2.1, x12.2.2.1, x12.2.2.2.1, x12.2.2.2.2.1, ())
abbrev TravT2 := Int × EnvP × (WorkerV MV) × (WorkerV MV) × (ClientV MV) × (Int × List Int × Int × Int × Int × Int × Unit) × Unit
noncomputable def travKind2 (l : List EntV) (x13 : TravT2) (r16 : (Int × Unit) × (MemV × Unit)) :=
   ((
    if ((atK5 l x13.1).kind) = 0 then
     (scriptMachine (atK5 l x13.1) 3).bind fun r17 =>
     if r17.1.1 = ((2 : Nat) : Int) then
      (clientClientStep x13.2.2.2.2.1 ({ x13.2.1 with m := r16.2.1 } : EnvP)).bind fun r18 =>
      some (r18.2.2.1, x13.2.2.1, x13.2.2.2.1, r18.2.1, x13.2.2.2.2.2.1, ())
     else
      if r17.1.1 = ((1 : Nat) : Int) then
       (workerWorkerStep x13.2.2.2.1 ({ x13.2.1 with m := r16.2.1 } : EnvP)).bind fun r19 =>
       some (r19.2.2.1, x13.2.2.1, r19.2.1, x13.2.2.2.2.1, x13.2.2.2.2.2.1, ())
      else
       if r17.1.1 = ((0 : Nat) : Int) then
        (workerWorkerStep x13.2.2.1 ({ x13.2.1 with m := r16.2.1 } : EnvP)).bind fun r20 =>
        some (r20.2.2.1, r20.2.1, x13.2.2.2.1, x13.2.2.2.2.1, x13.2.2.2.2.2.1, ())
       else
        none
    else
    if ((atK5 l x13.1).kind) = 1 then
     (clockClockTick x13.2.1.k).bind fun r21 =>
     some (({ x13.2.1 with m := r16.2.1, k := r21.2.1 } : EnvP), x13.2.2.1, x13.2.2.2.1, x13.2.2.2.2.1, x13.2.2.2.2.2.1, ())
    else
    if ((atK5 l x13.1).kind) = 2 then
     (clockClockSet x13.2.1.k ((atK5 l x13.1).value)).bind fun r22 =>
     some (({ x13.2.1 with m := r16.2.1, k := r22.2.1 } : EnvP), x13.2.2.1, x13.2.2.2.1, x13.2.2.2.2.1, x13.2.2.2.2.2.1, ())
    else
    some (({ x13.2.1 with m := r16.2.1 } : EnvP), x13.2.2.1, x13.2.2.2.1, x13.2.2.2.2.1, x13.2.2.2.2.2.1, ())
   ) : Option (EnvP × (WorkerV MV) × (WorkerV MV) × (ClientV MV) × (Int × List Int × Int × Int × Int × Int × Unit) × Unit))
noncomputable def travBody2 (l : List EntV) (self15 : TravT2 → Option (TravT2)) (x13 : TravT2) : Option (TravT2) :=
 if x13.1 < ((l.length : Nat) : Int) then
  if 0 ≤ x13.1 ∧ x13.1 < ((l.length : Nat) : Int) then
   (memoryMemoryCount x13.2.1.m).bind fun r16 =>
   (travKind2 l x13 r16).bind fun z23 =>
   travTail r16.1.1 z23.1 z23.2.2.2.2.1 (fun e g => self15 (wi (x13.1 + 1), e, z23.2.1, z23.2.2.1, z23.2.2.2.1, g, ()))
  else none
 else
 some (x13.1, x13.2.1, x13.2.2.1, x13.2.2.2.1, x13.2.2.2.2.1, x13.2.2.2.2.2.1, ())
abbrev TravT3 := Int × EnvP × (WorkerV MV) × (WorkerV MV) × (WorkerV MV) × (ClientV MV) × (Int × List Int × Int × Int × Int × Int × Unit) × Unit
noncomputable def travKind3 (l : List EntV) (x14 : TravT3) (r17 : (Int × Unit) × (MemV × Unit)) :=
   ((
    if ((atK5 l x14.1).kind) = 0 then
     (scriptMachine (atK5 l x14.1) 4).bind fun r18 =>
     if r18.1.1 = ((3 : Nat) : Int) then
      (clientClientStep x14.2.2.2.2.2.1 ({ x14.2.1 with m := r17.2.1 } : EnvP)).bind fun r19 =>
      some (r19.2.2.1, x14.2.2.1, x14.2.2.2.1, x14.2.2.2.2.1, r19.2.1, x14.2.2.2.2.2.2.1, ())
     else
      if r18.1.1 = ((2 : Nat) : Int) then
       (workerWorkerStep x14.2.2.2.2.1 ({ x14.2.1 with m := r17.2.1 } : EnvP)).bind fun r20 =>
       some (r20.2.2.1, x14.2.2.1, x14.2.2.2.1, r20.2.1, x14.2.2.2.2.2.1, x14.2.2.2.2.2.2.1, ())
      else
       if r18.1.1 = ((1 : Nat) : Int) then
        (workerWorkerStep x14.2.2.2.1 ({ x14.2.1 with m := r17.2.1 } : EnvP)).bind fun r21 =>
        some (r21.2.2.1, x14.2.2.1, r21.2.1, x14.2.2.2.2.1, x14.2.2.2.2.2.1, x14.2.2.2.2.2.2.1, ())
       else
        if r18.1.1 = ((0 : Nat) : Int) then
         (workerWorkerStep x14.2.2.1 ({ x14.2.1 with m := r17.2.1 } : EnvP)).bind fun r22 =>
         some (r22.2.2.1, r22.2.1, x14.2.2.2.1, x14.2.2.2.2.1, x14.2.2.2.2.2.1, x14.2.2.2.2.2.2.1, ())
        else
         none
    else
    if ((atK5 l x14.1).kind) = 1 then
     (clockClockTick x14.2.1.k).bind fun r23 =>
     some (({ x14.2.1 with m := r17.2.1, k := r23.2.1 } : EnvP), x14.2.2.1, x14.2.2.2.1, x14.2.2.2.2.1, x14.2.2.2.2.2.1, x14.2.2.2.2.2.2.1, ())
    else
    if ((atK5 l x14.1).kind) = 2 then
     (clockClockSet x14.2.1.k ((atK5 l x14.1).value)).bind fun r24 =>
     some (({ x14.2.1 with m := r17.2.1, k := r24.2.1 } : EnvP), x14.2.2.1, x14.2.2.2.1, x14.2.2.2.2.1, x14.2.2.2.2.2.1, x14.2.2.2.2.2.2.1, ())
    else
    some (({ x14.2.1 with m := r17.2.1 } : EnvP), x14.2.2.1, x14.2.2.2.1, x14.2.2.2.2.1, x14.2.2.2.2.2.1, x14.2.2.2.2.2.2.1, ())
   ) : Option (EnvP × (WorkerV MV) × (WorkerV MV) × (WorkerV MV) × (ClientV MV) × (Int × List Int × Int × Int × Int × Int × Unit) × Unit))
noncomputable def travBody3 (l : List EntV) (self16 : TravT3 → Option (TravT3)) (x14 : TravT3) : Option (TravT3) :=
 if x14.1 < ((l.length : Nat) : Int) then
  if 0 ≤ x14.1 ∧ x14.1 < ((l.length : Nat) : Int) then
   (memoryMemoryCount x14.2.1.m).bind fun r17 =>
   (travKind3 l x14 r17).bind fun z25 =>
   travTail r17.1.1 z25.1 z25.2.2.2.2.2.1 (fun e g => self16 (wi (x14.1 + 1), e, z25.2.1, z25.2.2.1, z25.2.2.2.1, z25.2.2.2.2.1, g, ()))
  else none
 else
 some (x14.1, x14.2.1, x14.2.2.1, x14.2.2.2.1, x14.2.2.2.2.1, x14.2.2.2.2.2.1, x14.2.2.2.2.2.2.1, ())
abbrev TravT4 := Int × EnvP × (WorkerV MV) × (WorkerV MV) × (WorkerV MV) × (WorkerV MV) × (ClientV MV) × (Int × List Int × Int × Int × Int × Int × Unit) × Unit
noncomputable def travKind4 (l : List EntV) (x15 : TravT4) (r18 : (Int × Unit) × (MemV × Unit)) :=
   ((
    if ((atK5 l x15.1).kind) = 0 then
     (scriptMachine (atK5 l x15.1) 5).bind fun r19 =>
     if r19.1.1 = ((4 : Nat) : Int) then
      (clientClientStep x15.2.2.2.2.2.2.1 ({ x15.2.1 with m := r18.2.1 } : EnvP)).bind fun r20 =>
      some (r20.2.2.1, x15.2.2.1, x15.2.2.2.1, x15.2.2.2.2.1, x15.2.2.2.2.2.1, r20.2.1, x15.2.2.2.2.2.2.2.1, ())
     else
      if r19.1.1 = ((3 : Nat) : Int) then
       (workerWorkerStep x15.2.2.2.2.2.1 ({ x15.2.1 with m := r18.2.1 } : EnvP)).bind fun r21 =>
       some (r21.2.2.1, x15.2.2.1, x15.2.2.2.1, x15.2.2.2.2.1, r21.2.1, x15.2.2.2.2.2.2.1, x15.2.2.2.2.2.2.2.1, ())
      else
       if r19.1.1 = ((2 : Nat) : Int) then
        (workerWorkerStep x15.2.2.2.2.1 ({ x15.2.1 with m := r18.2.1 } : EnvP)).bind fun r22 =>
        some (r22.2.2.1, x15.2.2.1, x15.2.2.2.1, r22.2.1, x15.2.2.2.2.2.1, x15.2.2.2.2.2.2.1, x15.2.2.2.2.2.2.2.1, ())
       else
        if r19.1.1 = ((1 : Nat) : Int) then
         (workerWorkerStep x15.2.2.2.1 ({ x15.2.1 with m := r18.2.1 } : EnvP)).bind fun r23 =>
         some (r23.2.2.1, x15.2.2.1, r23.2.1, x15.2.2.2.2.1, x15.2.2.2.2.2.1, x15.2.2.2.2.2.2.1, x15.2.2.2.2.2.2.2.1, ())
        else
         if r19.1.1 = ((0 : Nat) : Int) then
          (workerWorkerStep x15.2.2.1 ({ x15.2.1 with m := r18.2.1 } : EnvP)).bind fun r24 =>
          some (r24.2.2.1, r24.2.1, x15.2.2.2.1, x15.2.2.2.2.1, x15.2.2.2.2.2.1, x15.2.2.2.2.2.2.1, x15.2.2.2.2.2.2.2.1, ())
         else
          none
    else
    if ((atK5 l x15.1).kind) = 1 then
     (clockClockTick x15.2.1.k).bind fun r25 =>
     some (({ x15.2.1 with m := r18.2.1, k := r25.2.1 } : EnvP), x15.2.2.1, x15.2.2.2.1, x15.2.2.2.2.1, x15.2.2.2.2.2.1, x15.2.2.2.2.2.2.1, x15.2.2.2.2.2.2.2.1, ())
    else
    if ((atK5 l x15.1).kind) = 2 then
     (clockClockSet x15.2.1.k ((atK5 l x15.1).value)).bind fun r26 =>
     some (({ x15.2.1 with m := r18.2.1, k := r26.2.1 } : EnvP), x15.2.2.1, x15.2.2.2.1, x15.2.2.2.2.1, x15.2.2.2.2.2.1, x15.2.2.2.2.2.2.1, x15.2.2.2.2.2.2.2.1, ())
    else
    some (({ x15.2.1 with m := r18.2.1 } : EnvP), x15.2.2.1, x15.2.2.2.1, x15.2.2.2.2.1, x15.2.2.2.2.2.1, x15.2.2.2.2.2.2.1, x15.2.2.2.2.2.2.2.1, ())
   ) : Option (EnvP × (WorkerV MV) × (WorkerV MV) × (WorkerV MV) × (WorkerV MV) × (ClientV MV) × (Int × List Int × Int × Int × Int × Int × Unit) × Unit))
noncomputable def travBody4 (l : List EntV) (self17 : TravT4 → Option (TravT4)) (x15 : TravT4) : Option (TravT4) :=
 if x15.1 < ((l.length : Nat) : Int) then
  if 0 ≤ x15.1 ∧ x15.1 < ((l.length : Nat) : Int) then
   (memoryMemoryCount x15.2.1.m).bind fun r18 =>
   (travKind4 l x15 r18).bind fun z27 =>
   travTail r18.1.1 z27.1 z27.2.2.2.2.2.2.1 (fun e g => self17 (wi (x15.1 + 1), e, z27.2.1, z27.2.2.1, z27.2.2.2.1, z27.2.2.2.2.1, z27.2.2.2.2.2.1, g, ()))
  else none
 else
 some (x15.1, x15.2.1, x15.2.2.1, x15.2.2.2.1, x15.2.2.2.2.1, x15.2.2.2.2.2.1, x15.2.2.2.2.2.2.1, x15.2.2.2.2.2.2.2.1, ())
noncomputable def gL {α : Type} (c : LayV) (k : Option α) : Option α :=
 if c.workers = c.workers then
  if c.levels = c.levels then
   if c.classes = c.classes then
    if c.tasks = c.tasks then
     if c.deque = c.deque then
      if c.heap = c.heap then
       if c.sleepers = c.sleepers then
        if c.epochs = c.epochs then
         if c.bitmaps = c.bitmaps then
          if c.queues = c.queues then
           if c.table = c.table then
            k
           else none
          else none
         else none
        else none
       else none
      else none
     else none
    else none
   else none
  else none
 else none
theorem gL_eq {α : Type} {c : LayV} {k : Option α} : gL c k = k := by
  unfold gL; simp only [if_true]
theorem machines_eq (c : Cfg) : configMachines c = some ((wi (c.workers + 1), ()), ()) := by
  unfold configMachines; simp only [if_true]
noncomputable def doneB {α : Type} (l : LayV) (tasks : Int) (K : Bool → MemV → Option α) (self188 : Int × MemV × Unit → Option ((Int × MemV × Unit) ⊕ α)) (x186 : Int × MemV × Unit) : Option ((Int × MemV × Unit) ⊕ α) :=
 if x186.1 < tasks then
  (pNext l).bind fun r189 =>
  if r189.1.1 < 0 then
   if (wu (x186.1)) < 0 then
    (pState l x186.1).bind fun r190 =>
    if r190.1.1 < 0 then
     Option.map Sum.inr (
      K false x186.2.1
     )
    else
    if ((x186.2.1.cells.length : Nat) : Int) ≤ r190.1.1 then
     Option.map Sum.inr (
      K false x186.2.1
     )
    else
    if 0 ≤ r190.1.1 ∧ r190.1.1 < ((x186.2.1.cells.length : Nat) : Int) then
     if (atK0 x186.2.1.cells r190.1.1) ≠ 4 then
      Option.map Sum.inr (
       K false x186.2.1
      )
     else
     self188 (wi (x186.1 + 1), x186.2.1, ())
    else none
   else
   some (Sum.inl (x186.1, x186.2.1, ()))
  else
  if ((x186.2.1.cells.length : Nat) : Int) ≤ r189.1.1 then
   if (wu (x186.1)) < 0 then
    (pState l x186.1).bind fun r191 =>
    if r191.1.1 < 0 then
     Option.map Sum.inr (
      K false x186.2.1
     )
    else
    if ((x186.2.1.cells.length : Nat) : Int) ≤ r191.1.1 then
     Option.map Sum.inr (
      K false x186.2.1
     )
    else
    if 0 ≤ r191.1.1 ∧ r191.1.1 < ((x186.2.1.cells.length : Nat) : Int) then
     if (atK0 x186.2.1.cells r191.1.1) ≠ 4 then
      Option.map Sum.inr (
       K false x186.2.1
      )
     else
     self188 (wi (x186.1 + 1), x186.2.1, ())
    else none
   else
   some (Sum.inl (x186.1, x186.2.1, ()))
  else
  if 0 ≤ r189.1.1 ∧ r189.1.1 < ((x186.2.1.cells.length : Nat) : Int) then
   if (wu (x186.1)) < (atK0 x186.2.1.cells r189.1.1) then
    (pState l x186.1).bind fun r192 =>
    if r192.1.1 < 0 then
     Option.map Sum.inr (
      K false x186.2.1
     )
    else
    if ((x186.2.1.cells.length : Nat) : Int) ≤ r192.1.1 then
     Option.map Sum.inr (
      K false x186.2.1
     )
    else
    if 0 ≤ r192.1.1 ∧ r192.1.1 < ((x186.2.1.cells.length : Nat) : Int) then
     if (atK0 x186.2.1.cells r192.1.1) ≠ 4 then
      Option.map Sum.inr (
       K false x186.2.1
      )
     else
     self188 (wi (x186.1 + 1), x186.2.1, ())
    else none
   else
   some (Sum.inl (x186.1, x186.2.1, ()))
  else none
 else
 some (Sum.inl (x186.1, x186.2.1, ()))
noncomputable def doneL {α : Type} (l : LayV) (tasks : Int) (m : MemV) (K : Bool → MemV → Option α) : Option α :=
 (lpF (doneB l tasks K) 18446744073709551616 (0, m, ())).bind fun z => match z with
 | .inr o => some o
 | .inl z => K true z.2.1
noncomputable def doneK1 {α : Type} (env : EnvP) (w0 : WorkerV MV) (cl : ClientV MV) (K : Bool → EnvP → WorkerV MV → ClientV MV → Option α) : Option α :=
 (clientClientStatus cl).bind fun r =>
 if r.1.1 ≠ 4 then K false env w0 r.2.1
 else
 (workerWorkerStatus w0).bind fun s0 =>
 if s0.1.1 = 2 then K false env s0.2.1 r.2.1
 else
 gL env.l (
  doneL env.l env.c.tasks env.m fun b m => K b ({ env with m := m } : EnvP) s0.2.1 r.2.1
 )
noncomputable def playGo1 (l : List EntV) (self : TravT1 → Option (TravT1)) (x : TravT1) : Option (TravT1) :=
 if 0 ≤ x.1 ∧ x.1 < ((l.length : Nat) : Int) then
  (memoryMemoryCount x.2.1.m).bind fun r =>
  (travKind1 l x r).bind fun z =>
  travTail r.1.1 z.1 z.2.2.2.1 (fun e g => self (wi (x.1 + 1), e, z.2.1, z.2.2.1, g, ()))
 else none
noncomputable def playBody1 (l : List EntV) (self : TravT1 → Option (TravT1)) (x : TravT1) : Option (TravT1) :=
 if x.1 < ((l.length : Nat) : Int) then
  doneK1 x.2.1 x.2.2.1 x.2.2.2.1 fun b e w0 cl => match b with
   | true => some (x.1, e, w0, cl, x.2.2.2.2.1, ())
   | false => playGo1 l self (x.1, e, w0, cl, x.2.2.2.2.1, ())
 else some x
noncomputable def boundPlay1 (y0 : Cfg) (y1 : List EntV) : Option ((Int × Int × Bool × Unit) × (Unit)) :=
 (machineNew y0).bind fun r1 =>
 if r1.1.2.1 ≠ 0 then
  if r1.1.2.1 ≠ 0 then some ((0, 0, false, ()), (()))
  else none
 else
 (clientNew y0).bind fun r2 =>
 if y0.workers = ((1 : Nat) : Int) then
  (workerNew 0).bind fun w0 =>
  (lpF (playBody1 y1) 18446744073709551616 (0, r1.1.1, w0.1.1, r2.1.1, (0, [], 0, 0, 0, 0, ()), ())).bind fun z =>
  if 0 ≤ z.1 ∧ z.1 ≤ ((y1.length : Nat) : Int) then
   (configMachines y0).bind fun c =>
   (roundsK (y1.take (z.1 : Int).toNat) c.1.1).bind fun q =>
   doneK1 z.2.1 z.2.2.1 z.2.2.2.1 fun b _ _ _ => some ((z.1, q.1.1, b, ()), ())
  else none
 else
 none
noncomputable def doneK2 {α : Type} (env : EnvP) (w0 : WorkerV MV) (w1 : WorkerV MV) (cl : ClientV MV) (K : Bool → EnvP → WorkerV MV → WorkerV MV → ClientV MV → Option α) : Option α :=
 (clientClientStatus cl).bind fun r =>
 if r.1.1 ≠ 4 then K false env w0 w1 r.2.1
 else
 (workerWorkerStatus w0).bind fun s0 =>
 if s0.1.1 = 2 then K false env s0.2.1 w1 r.2.1
 else
 (workerWorkerStatus w1).bind fun s1 =>
 if s1.1.1 = 2 then K false env s0.2.1 s1.2.1 r.2.1
 else
 gL env.l (
  doneL env.l env.c.tasks env.m fun b m => K b ({ env with m := m } : EnvP) s0.2.1 s1.2.1 r.2.1
 )
noncomputable def playGo2 (l : List EntV) (self : TravT2 → Option (TravT2)) (x : TravT2) : Option (TravT2) :=
 if 0 ≤ x.1 ∧ x.1 < ((l.length : Nat) : Int) then
  (memoryMemoryCount x.2.1.m).bind fun r =>
  (travKind2 l x r).bind fun z =>
  travTail r.1.1 z.1 z.2.2.2.2.1 (fun e g => self (wi (x.1 + 1), e, z.2.1, z.2.2.1, z.2.2.2.1, g, ()))
 else none
noncomputable def playBody2 (l : List EntV) (self : TravT2 → Option (TravT2)) (x : TravT2) : Option (TravT2) :=
 if x.1 < ((l.length : Nat) : Int) then
  doneK2 x.2.1 x.2.2.1 x.2.2.2.1 x.2.2.2.2.1 fun b e w0 w1 cl => match b with
   | true => some (x.1, e, w0, w1, cl, x.2.2.2.2.2.1, ())
   | false => playGo2 l self (x.1, e, w0, w1, cl, x.2.2.2.2.2.1, ())
 else some x
noncomputable def boundPlay2 (y0 : Cfg) (y1 : List EntV) : Option ((Int × Int × Bool × Unit) × (Unit)) :=
 (machineNew y0).bind fun r1 =>
 if r1.1.2.1 ≠ 0 then
  if r1.1.2.1 ≠ 0 then some ((0, 0, false, ()), (()))
  else none
 else
 (clientNew y0).bind fun r2 =>
 if y0.workers = ((2 : Nat) : Int) then
  (workerNew 0).bind fun w0 =>
  (workerNew 1).bind fun w1 =>
  (lpF (playBody2 y1) 18446744073709551616 (0, r1.1.1, w0.1.1, w1.1.1, r2.1.1, (0, [], 0, 0, 0, 0, ()), ())).bind fun z =>
  if 0 ≤ z.1 ∧ z.1 ≤ ((y1.length : Nat) : Int) then
   (configMachines y0).bind fun c =>
   (roundsK (y1.take (z.1 : Int).toNat) c.1.1).bind fun q =>
   doneK2 z.2.1 z.2.2.1 z.2.2.2.1 z.2.2.2.2.1 fun b _ _ _ _ => some ((z.1, q.1.1, b, ()), ())
  else none
 else
 none
noncomputable def doneK3 {α : Type} (env : EnvP) (w0 : WorkerV MV) (w1 : WorkerV MV) (w2 : WorkerV MV) (cl : ClientV MV) (K : Bool → EnvP → WorkerV MV → WorkerV MV → WorkerV MV → ClientV MV → Option α) : Option α :=
 (clientClientStatus cl).bind fun r =>
 if r.1.1 ≠ 4 then K false env w0 w1 w2 r.2.1
 else
 (workerWorkerStatus w0).bind fun s0 =>
 if s0.1.1 = 2 then K false env s0.2.1 w1 w2 r.2.1
 else
 (workerWorkerStatus w1).bind fun s1 =>
 if s1.1.1 = 2 then K false env s0.2.1 s1.2.1 w2 r.2.1
 else
 (workerWorkerStatus w2).bind fun s2 =>
 if s2.1.1 = 2 then K false env s0.2.1 s1.2.1 s2.2.1 r.2.1
 else
 gL env.l (
  doneL env.l env.c.tasks env.m fun b m => K b ({ env with m := m } : EnvP) s0.2.1 s1.2.1 s2.2.1 r.2.1
 )
noncomputable def playGo3 (l : List EntV) (self : TravT3 → Option (TravT3)) (x : TravT3) : Option (TravT3) :=
 if 0 ≤ x.1 ∧ x.1 < ((l.length : Nat) : Int) then
  (memoryMemoryCount x.2.1.m).bind fun r =>
  (travKind3 l x r).bind fun z =>
  travTail r.1.1 z.1 z.2.2.2.2.2.1 (fun e g => self (wi (x.1 + 1), e, z.2.1, z.2.2.1, z.2.2.2.1, z.2.2.2.2.1, g, ()))
 else none
noncomputable def playBody3 (l : List EntV) (self : TravT3 → Option (TravT3)) (x : TravT3) : Option (TravT3) :=
 if x.1 < ((l.length : Nat) : Int) then
  doneK3 x.2.1 x.2.2.1 x.2.2.2.1 x.2.2.2.2.1 x.2.2.2.2.2.1 fun b e w0 w1 w2 cl => match b with
   | true => some (x.1, e, w0, w1, w2, cl, x.2.2.2.2.2.2.1, ())
   | false => playGo3 l self (x.1, e, w0, w1, w2, cl, x.2.2.2.2.2.2.1, ())
 else some x
noncomputable def boundPlay3 (y0 : Cfg) (y1 : List EntV) : Option ((Int × Int × Bool × Unit) × (Unit)) :=
 (machineNew y0).bind fun r1 =>
 if r1.1.2.1 ≠ 0 then
  if r1.1.2.1 ≠ 0 then some ((0, 0, false, ()), (()))
  else none
 else
 (clientNew y0).bind fun r2 =>
 if y0.workers = ((3 : Nat) : Int) then
  (workerNew 0).bind fun w0 =>
  (workerNew 1).bind fun w1 =>
  (workerNew 2).bind fun w2 =>
  (lpF (playBody3 y1) 18446744073709551616 (0, r1.1.1, w0.1.1, w1.1.1, w2.1.1, r2.1.1, (0, [], 0, 0, 0, 0, ()), ())).bind fun z =>
  if 0 ≤ z.1 ∧ z.1 ≤ ((y1.length : Nat) : Int) then
   (configMachines y0).bind fun c =>
   (roundsK (y1.take (z.1 : Int).toNat) c.1.1).bind fun q =>
   doneK3 z.2.1 z.2.2.1 z.2.2.2.1 z.2.2.2.2.1 z.2.2.2.2.2.1 fun b _ _ _ _ _ => some ((z.1, q.1.1, b, ()), ())
  else none
 else
 none
noncomputable def doneK4 {α : Type} (env : EnvP) (w0 : WorkerV MV) (w1 : WorkerV MV) (w2 : WorkerV MV) (w3 : WorkerV MV) (cl : ClientV MV) (K : Bool → EnvP → WorkerV MV → WorkerV MV → WorkerV MV → WorkerV MV → ClientV MV → Option α) : Option α :=
 (clientClientStatus cl).bind fun r =>
 if r.1.1 ≠ 4 then K false env w0 w1 w2 w3 r.2.1
 else
 (workerWorkerStatus w0).bind fun s0 =>
 if s0.1.1 = 2 then K false env s0.2.1 w1 w2 w3 r.2.1
 else
 (workerWorkerStatus w1).bind fun s1 =>
 if s1.1.1 = 2 then K false env s0.2.1 s1.2.1 w2 w3 r.2.1
 else
 (workerWorkerStatus w2).bind fun s2 =>
 if s2.1.1 = 2 then K false env s0.2.1 s1.2.1 s2.2.1 w3 r.2.1
 else
 (workerWorkerStatus w3).bind fun s3 =>
 if s3.1.1 = 2 then K false env s0.2.1 s1.2.1 s2.2.1 s3.2.1 r.2.1
 else
 gL env.l (
  doneL env.l env.c.tasks env.m fun b m => K b ({ env with m := m } : EnvP) s0.2.1 s1.2.1 s2.2.1 s3.2.1 r.2.1
 )
noncomputable def playGo4 (l : List EntV) (self : TravT4 → Option (TravT4)) (x : TravT4) : Option (TravT4) :=
 if 0 ≤ x.1 ∧ x.1 < ((l.length : Nat) : Int) then
  (memoryMemoryCount x.2.1.m).bind fun r =>
  (travKind4 l x r).bind fun z =>
  travTail r.1.1 z.1 z.2.2.2.2.2.2.1 (fun e g => self (wi (x.1 + 1), e, z.2.1, z.2.2.1, z.2.2.2.1, z.2.2.2.2.1, z.2.2.2.2.2.1, g, ()))
 else none
noncomputable def playBody4 (l : List EntV) (self : TravT4 → Option (TravT4)) (x : TravT4) : Option (TravT4) :=
 if x.1 < ((l.length : Nat) : Int) then
  doneK4 x.2.1 x.2.2.1 x.2.2.2.1 x.2.2.2.2.1 x.2.2.2.2.2.1 x.2.2.2.2.2.2.1 fun b e w0 w1 w2 w3 cl => match b with
   | true => some (x.1, e, w0, w1, w2, w3, cl, x.2.2.2.2.2.2.2.1, ())
   | false => playGo4 l self (x.1, e, w0, w1, w2, w3, cl, x.2.2.2.2.2.2.2.1, ())
 else some x
noncomputable def boundPlay4 (y0 : Cfg) (y1 : List EntV) : Option ((Int × Int × Bool × Unit) × (Unit)) :=
 (machineNew y0).bind fun r1 =>
 if r1.1.2.1 ≠ 0 then
  if r1.1.2.1 ≠ 0 then some ((0, 0, false, ()), (()))
  else none
 else
 (clientNew y0).bind fun r2 =>
 if y0.workers = ((4 : Nat) : Int) then
  (workerNew 0).bind fun w0 =>
  (workerNew 1).bind fun w1 =>
  (workerNew 2).bind fun w2 =>
  (workerNew 3).bind fun w3 =>
  (lpF (playBody4 y1) 18446744073709551616 (0, r1.1.1, w0.1.1, w1.1.1, w2.1.1, w3.1.1, r2.1.1, (0, [], 0, 0, 0, 0, ()), ())).bind fun z =>
  if 0 ≤ z.1 ∧ z.1 ≤ ((y1.length : Nat) : Int) then
   (configMachines y0).bind fun c =>
   (roundsK (y1.take (z.1 : Int).toNat) c.1.1).bind fun q =>
   doneK4 z.2.1 z.2.2.1 z.2.2.2.1 z.2.2.2.2.1 z.2.2.2.2.2.1 z.2.2.2.2.2.2.1 fun b _ _ _ _ _ _ => some ((z.1, q.1.1, b, ()), ())
  else none
 else
 none
noncomputable def bndEnd (b : Bool) (c : Cfg) (l : List EntV) (n r : Int) (ok : Bool) : Option ((Bool × Unit) × Unit) :=
 if b = ok then
  if 0 ≤ n ∧ n ≤ ((l.length : Nat) : Int) then
   (roundsK (l.take (n : Int).toNat) (wi (c.workers + 1))).bind fun q =>
   if r = q.1.1 then
    if ok = true then some ((true, ()), ())
    else some ((decide (n = ((l.length : Nat) : Int)), ()), ())
   else some ((false, ()), ())
  else none
 else some ((false, ()), ())
end
section
open Go Go.RowKit
/-! ### States -/
inductive Rs (σ : Type) where
  | go (s : σ)
  | fin (c v : Int)
inductive OPushS where
  | l1 | l2 (b : Int) | l3 (b : Int) | l4 (b : Int)
inductive OPopS where
  | l1 | l2 (b : Int) | l3 (b t : Int) | l4 (b t : Int) | l5 (b t : Int) | l6 (b t : Int) | l7 (b t : Int) | l8 (b t : Int) | l9 (b t : Int)
inductive StealS where
  | l1 | l2 (t : Int) | l3 (t : Int) | l4 (t v : Int)
inductive ResetS where
  | l1 | l2 | l3 (b : Int) | l4 (b : Int)
inductive PublishS where
  | l1 | l2 | l3
inductive InsertS where
  | l1 | l2 (n : Int) | l3 (n i k x : Int) | l4 (n i k x : Int) | l5 (n i k x : Int) | l6 (n i k x : Int)
inductive RemoveS where
  | l1 | l2 (n : Int) | l3 (n x : Int) | l4 (n x y : Int) | l5 (n i c x y z : Int) | l6 (n i c x y z : Int) | l7 (n i c x y z : Int) | l8 (n i c x y z : Int)
inductive WakeS where
  | l1 (j : Int) | l2 (j v : Int) | l3 (j v : Int)
inductive SleepS where
  | l1 | l2 (ep : Int) | l3 (ep : Int) | l4 (ep v : Int) | l5 (ep v s : Int) | l6 (ep v s : Int) | l7 (ep v s : Int)
inductive ProbeS where
  | new | run (start next : Int) (bm : B16)
inductive RaiseS where
  | l1 (q : Int) | l2 (q : Int)
inductive LPushS where
  | new | push (s : OPushS) | set
inductive LPopS where
  | l1 (v : Int) | l2 (v : Int) (s : OPopS) | l3 (v : Int) (s : ResetS)
inductive WalkS where
  | l1 (t : Int) | raise (t : Int) (s : RaiseS) | l2 (t : Int) | push (t : Int) (s : LPushS) | l4 (t : Int)
inductive EnterS where
  | l1 | l2 | l3 | l4 (v : Int) (s : LPushS)
inductive SweepS where
  | l1 | l2 | l3 | l4 (q : Int) | l5 (q : Int) | l6 (q : Int) (s : LPushS)
inductive TakeS where
  | pop (s : LPopS) | claim (t : Int)
inductive DrainC where
  | l1 | l2 | l3 (s : RemoveS) | l4 | l5 (s : LPushS) | l6 | l7 (s : WakeS)
structure DrainS where
  x : Int
  direct : Bool
  p : Int
  last : Int
  count : Int
  c : DrainC
inductive RunC where
  | next | s2 (s : PublishS) | s3 (s : LPushS) | s4 (s : WakeS) | s5 | j2 | j3 | j4 | j5 (s : WalkS) | j6 | j7 | f2 | f3 | f4 (s : EnterS) | f5 (v : Int) (s : WakeS) | f6
structure RunS where
  stack : List Int
  id : Int
  child : Int
  level : Int
  waiter : Int
  c : RunC
inductive WorkC where
  | top | t1 (t : Int) (s : SweepS) | t2 (s : TakeS) | t3 (s : DrainS) | t4 (s : ProbeS) | t5 (s : StealS) | t6 | t7 (s : RunS) | t8 (s : SleepS) | t9 (s : ResetS)
structure WorkS where
  cursor : Int
  victim : Int
  level : Int
  x : Int
  c : WorkC
inductive ClieC where
  | n1 | a1 | n2 | n3 | n4 | n5 | n6 | a6 (s : InsertS) | n7 | n8 | n9 | a9 (s : WakeS)
structure ClieS where
  i : Int
  id : Int
  acc : Bool
  c : ClieC
/-! ### Memory, cells, words -/
def MemV.gt (m : MemV) (a : Int) : Int := if 0 ≤ a ∧ a < (m.cells.length : Int) then atK0 m.cells a else 0
def MemV.pt (m : MemV) (k a v : Int) : MemV := if 0 ≤ a ∧ a < (m.cells.length : Int) then ⟨m.cells.set a.toNat v, ⟨k, a, atK0 m.cells a, v⟩, wi (m.count + 1)⟩ else m
def MemV.hit (m : MemV) (a o : Int) : Bool := decide ((0 ≤ a ∧ a < (m.cells.length : Int)) ∧ atK0 m.cells a = o)
def MemV.cas (m : MemV) (a o v : Int) : MemV := m.pt 3 a (if m.gt a = o then v else m.gt a)
abbrev EnvP.gt (e : EnvP) (a : Int) : Int := e.m.gt a
def EnvP.pt (e : EnvP) (k a v : Int) : EnvP := { e with m := e.m.pt k a v }
def EnvP.lk (e : EnvP) (a : Int) : EnvP := { e with m := e.m.pt 1 a (e.m.gt a) }
abbrev EnvP.hit (e : EnvP) (a o : Int) : Bool := e.m.hit a o
def EnvP.cas (e : EnvP) (a o v : Int) : EnvP := { e with m := e.m.cas a o v }
def EnvP.em (e : EnvP) (k w t o l : Int) : EnvP := { e with evs := e.evs ++ [⟨k, w, t, o, l⟩] }
def EnvP.rc (e : EnvP) (t : Int) : RecP := atK26 e.recs t
def EnvP.pr (e : EnvP) (t : Int) (r : RecP) : EnvP := { e with recs := e.recs.set t.toNat r }
def IsT (e : EnvP) (t : Int) : Prop := 0 ≤ t ∧ t < e.c.tasks
instance (e : EnvP) (t : Int) : Decidable (IsT e t) := inferInstanceAs (Decidable (_ ∧ _))
def Fits (e : EnvP) (t v : Int) : Prop := (0 ≤ t ∧ t < e.c.tasks) ∧ 0 ≤ v ∧ v < e.c.levels
instance (e : EnvP) (t v : Int) : Decidable (Fits e t v) := inferInstanceAs (Decidable (_ ∧ _))
def szP (b t : Int) : Int := wi (wu (b - t))
def cellP (q : QV) (i : Int) : Int := if q.cap < 1 then -1 else wi (q.ring + wi (Int.tmod i (wu q.cap)))
def bitP (n : Int) : Int := if n < 0 then 0 else if 63 < n then 0 else wu (1 * 2 ^ min (wu n).toNat IntKind.u64.bits)
def modP (a n : Int) : Int := if n < 1 then 0 else if Int.tmod a n < 0 then wi (Int.tmod a n + n) else Int.tmod a n
def atP (i n a w : Int) : Int := if i < 0 then -1 else if n ≤ i then -1 else wi (a + wi (i * w))
def taskP (l : LayV) (t f : Int) : Int := atP t l.tasks (wi (l.table + f)) 5
def stateP (l : LayV) (t : Int) : Int := taskP l t 0
def levelP (l : LayV) (t : Int) : Int := taskP l t 1
def joinP (l : LayV) (t : Int) : Int := taskP l t 2
def waitsP (l : LayV) (t : Int) : Int := taskP l t 3
def sinceP (l : LayV) (t : Int) : Int := taskP l t 4
def slotP (l : LayV) (i : Int) : Int := atP i l.heap 4 1
def epochP (l : LayV) (w : Int) : Int := atP w l.workers l.epochs 1
def sleepersP (l : LayV) (k : Int) : Int := atP k l.classes l.sleepers 1
def bitmapP (l : LayV) (w : Int) : Int := atP w l.workers l.bitmaps 1
def queueP (l : LayV) (w v : Int) : QV :=
  if atP w l.workers l.queues (wi (l.levels * wi (2 + l.deque))) < 0 then ⟨-1, -1, -1, 0⟩
  else if atP v l.levels (atP w l.workers l.queues (wi (l.levels * wi (2 + l.deque)))) (wi (2 + l.deque)) < 0 then ⟨-1, -1, -1, 0⟩
  else ⟨atP v l.levels (atP w l.workers l.queues (wi (l.levels * wi (2 + l.deque)))) (wi (2 + l.deque)), wi (atP v l.levels (atP w l.workers l.queues (wi (l.levels * wi (2 + l.deque)))) (wi (2 + l.deque)) + 1), wi (atP v l.levels (atP w l.workers l.queues (wi (l.levels * wi (2 + l.deque)))) (wi (2 + l.deque)) + 2), l.deque⟩
def packP (d a t : Int) : Int × Bool :=
  if d < 0 then (0, false) else if 16777215 < d then (0, false) else if a < 0 then (0, false) else if 16777215 < a then (0, false) else if t < 0 then (0, false) else if 65535 < t then (0, false)
  else (orU (orU (wu ((wu (d)) * 2 ^ min (40 : Int).toNat IntKind.u64.bits)) (wu ((wu (a)) * 2 ^ min (16 : Int).toNat IntKind.u64.bits))) (wu (t)), true)
def classP (l n c : Int) : Int := if n < 1 then 0 else if 64 < n then 0 else if c < 1 then 0 else if 8 < c then 0 else if l < 0 then 0 else if n ≤ l then 0 else wi (Int.tdiv (wi (l * c)) n)
def ktaskP (k : Int) : Int := wi (andU k 65535)
noncomputable def highP (x : Int) : Int := match pHigh x with
  | some o => o.1.1
  | none => 0
def drawP (k : ClkV) (n : Int) : Int := modP k.draw n
/-! ### The machines that run none inside -/
def opushS (q : QV) (v : Int) (e : EnvP) : OPushS → Rs OPushS × EnvP
  | .l1 => (.go (.l2 (e.gt q.bottom)), e.lk q.bottom)
  | .l2 b => (if q.cap ≤ szP b (e.gt q.top) then .fin 3 0 else .go (.l3 b), e.lk q.top)
  | .l3 b => (.go (.l4 b), e.pt 2 (cellP q b) (wu v))
  | .l4 b => (.fin 0 0, e.pt 2 q.bottom (wu (b + 1)))
def opopS (q : QV) (e : EnvP) : OPopS → Rs OPopS × EnvP
  | .l1 => (.go (.l2 (e.gt q.bottom)), e.lk q.bottom)
  | .l2 b => (if szP b (e.gt q.top) ≤ 0 then .fin 2 0 else .go (.l3 b (e.gt q.top)), e.lk q.top)
  | .l3 b t => (.go (.l4 b t), e.pt 2 q.bottom (wu (b - 1)))
  | .l4 b _ => (if 0 < szP (wu (b - 1)) (e.gt q.top) then .go (.l5 b (e.gt q.top)) else if szP (wu (b - 1)) (e.gt q.top) = 0 then .go (.l6 b (e.gt q.top)) else .go (.l9 b (e.gt q.top)), e.lk q.top)
  | .l5 b _ => (.fin 1 (wi (e.gt (cellP q (wu (b - 1))))), e.lk (cellP q (wu (b - 1))))
  | .l6 b t => (if e.hit q.top t = true then .go (.l7 b t) else .go (.l9 b t), e.cas q.top t (wu (t + 1)))
  | .l7 b t => (.go (.l8 b t), e.pt 2 q.bottom b)
  | .l8 b _ => (.fin 1 (wi (e.gt (cellP q (wu (b - 1))))), e.lk (cellP q (wu (b - 1))))
  | .l9 b _ => (.fin 2 0, e.pt 2 q.bottom b)
def stealS (q : QV) (e : EnvP) : StealS → Rs StealS × EnvP
  | .l1 => (.go (.l2 (e.gt q.top)), e.lk q.top)
  | .l2 t => (if szP (e.gt q.bottom) t ≤ 0 then .fin 2 0 else .go (.l3 t), e.lk q.bottom)
  | .l3 t => (.go (.l4 t (e.gt (cellP q t))), e.lk (cellP q t))
  | .l4 t v => (if e.hit q.top t = true then .fin 1 (wi v) else .fin 4 0, e.cas q.top t (wu (t + 1)))
def resetS (a b : Int) (q : QV) (e : EnvP) : ResetS → Rs ResetS × EnvP
  | .l1 => (.go .l2, e.pt 5 a (andU (e.gt a) (cplU (bitP b))))
  | .l2 => (.go (.l3 (e.gt q.bottom)), e.lk q.bottom)
  | .l3 x => (if szP x (e.gt q.top) ≤ 0 then .fin 2 0 else .go (.l4 x), e.lk q.top)
  | .l4 _ => (.fin 1 0, e.pt 4 a (orU (e.gt a) (bitP b)))
def setE (a b : Int) (e : EnvP) : EnvP := e.pt 4 a (orU (e.gt a) (bitP b))
def allocE (e : EnvP) : EnvP := e.pt 6 0 (wu (e.gt 0 + 1))
def publishS (t v : Int) (e : EnvP) (s : PublishS) : Rs PublishS × EnvP :=
  if ¬ IsT e t then (.fin 4 0, e)
  else match s with
    | .l1 => (.go .l2, e.pt 2 (levelP e.l t) (wu v))
    | .l2 => (.go .l3, e.pt 2 (sinceP e.l t) (wu e.k.now))
    | .l3 => (.fin 0 0, e.pt 2 (stateP e.l t) 1)
/-- A claim: whether it got the task. -/
def claimB (t : Int) (e : EnvP) : Bool := e.hit (stateP e.l t) 1
def claimE (w t : Int) (e : EnvP) : EnvP :=
  if claimB t e = true then
    if (e.rc t).started = true then (e.cas (stateP e.l t) 1 2).em 9 w t 0 0 else ((e.cas (stateP e.l t) 1 2).pr t { e.rc t with started := true }).em 5 w t 0 0
  else (e.cas (stateP e.l t) 1 2).em 15 w t 0 0
def lockE (o : Int) (e : EnvP) : EnvP := e.cas 1 0 (wu (wi (o + 1)))
def freeE (e : EnvP) : EnvP := e.pt 2 1 0
def placeS (n i k x : Int) : InsertS := if 0 < i then .l3 n i k x else .l5 n i k x
abbrev upP (i : Int) : Int := wi (Int.tdiv (wi (i - 1)) 2)
def insertS (d t : Int) (e : EnvP) : InsertS → Rs InsertS × EnvP
  | .l1 => (if e.c.heap ≤ wi (e.gt 2) then .fin 3 0 else .go (.l2 (wi (e.gt 2))), e.lk 2)
  | .l2 n => (if (packP d (wi (e.gt 3)) t).2 = true then .go (placeS n n (packP d (wi (e.gt 3)) t).1 0) else .fin 4 0, e.pt 6 3 (wu (e.gt 3 + 1)))
  | .l3 n i k _ => (if k < e.gt (slotP e.l (upP i)) then .go (.l4 n i k (e.gt (slotP e.l (upP i)))) else .go (.l5 n i k (e.gt (slotP e.l (upP i)))), e.lk (slotP e.l (upP i)))
  | .l4 n i k x => (.go (placeS n (upP i) k x), e.pt 2 (slotP e.l i) x)
  | .l5 n i k x => (.go (.l6 n i k x), e.pt 2 (slotP e.l i) k)
  | .l6 n _ _ _ => (.fin 0 0, e.pt 2 2 (wu (wi (n + 1))))
def childS (n i c x y z : Int) : RemoveS := if wi (wi (2 * i) + 1) < wi (n - 1) then .l5 n i c x y z else .l8 n i c x y z
def descS (n i c x y z : Int) : RemoveS := if z < y then .l7 n i c x y z else .l8 n i c x y z
def removeS (w : Int) (e : EnvP) : RemoveS → Rs RemoveS × EnvP
  | .l1 => (if wi (e.gt 2) ≤ 0 then .fin 2 0 else .go (.l2 (wi (e.gt 2))), e.lk 2)
  | .l2 n => (.go (.l3 n (e.gt (slotP e.l 0))), e.lk (slotP e.l 0))
  | .l3 n x => (.go (.l4 n x (e.gt (slotP e.l (wi (n - 1))))), e.lk (slotP e.l (wi (n - 1))))
  | .l4 n x y => (if n = 1 then .fin 1 (ktaskP x) else .go (childS n 0 0 x y 0), (e.pt 2 2 (wu (wi (n - 1)))).em 13 w (ktaskP x) 0 0)
  | .l5 n i _ x y _ => (if wi (wi (wi (2 * i) + 1) + 1) < wi (n - 1) then .go (.l6 n i (wi (wi (2 * i) + 1)) x y (e.gt (slotP e.l (wi (wi (2 * i) + 1))))) else .go (descS n i (wi (wi (2 * i) + 1)) x y (e.gt (slotP e.l (wi (wi (2 * i) + 1))))), e.lk (slotP e.l (wi (wi (2 * i) + 1))))
  | .l6 n i c x y z => (if e.gt (slotP e.l (wi (wi (2 * i) + 2))) < z then .go (descS n i (wi (wi (2 * i) + 2)) x y (e.gt (slotP e.l (wi (wi (2 * i) + 2))))) else .go (descS n i c x y z), e.lk (slotP e.l (wi (wi (2 * i) + 2))))
  | .l7 n i c x y z => (.go (childS n c c x y z), e.pt 2 (slotP e.l i) z)
  | .l8 _ i _ x y _ => (.fin 1 (ktaskP x), e.pt 2 (slotP e.l i) y)
def sleepA (w : Int) (e : EnvP) : Int := if e.c.classes < 1 then -1 else sleepersP e.l (modP w e.c.classes)
def sleepS (w : Int) (e : EnvP) : SleepS → Rs SleepS × EnvP
  | .l1 => (.go (.l2 (e.gt (epochP e.l w))), e.lk (epochP e.l w))
  | .l2 ep => (.go (.l3 ep), e.pt 4 (sleepA w e) (orU (e.gt (sleepA w e)) (bitP w)))
  | .l3 ep => (if e.gt 2 ≠ 0 then .go (.l7 ep 0 0) else .go (.l4 ep 0), e.lk 2)
  | .l4 ep v =>
    if e.gt (bitmapP e.l v) ≠ 0 then (.go (.l7 ep v 0), e.lk (bitmapP e.l v))
    else if e.c.workers ≤ wi (v + 1) then (.go (.l5 ep (wi (v + 1)) e.k.now), (e.lk (bitmapP e.l v)).em 16 w 0 0 0)
    else (.go (.l4 ep (wi (v + 1))), e.lk (bitmapP e.l v))
  | .l5 ep v s =>
    if e.gt (epochP e.l w) ≠ ep then (.go (.l6 ep v s), (e.lk (epochP e.l w)).em 17 w 0 1 0)
    else if e.c.patience ≤ wi (e.k.now - s) then (.go (.l6 ep v s), (e.lk (epochP e.l w)).em 17 w 0 2 0)
    else (.go (.l5 ep v s), e.lk (epochP e.l w))
  | .l6 _ _ _ => (.fin 1 0, e.pt 5 (sleepA w e) (andU (e.gt (sleepA w e)) (cplU (bitP w))))
  | .l7 _ _ _ => (.fin 5 0, e.pt 5 (sleepA w e) (andU (e.gt (sleepA w e)) (cplU (bitP w))))
def wakeA (v j : Int) (e : EnvP) : Int := if e.c.classes < 1 then -1 else sleepersP e.l (modP (wi (classP v e.c.levels e.c.classes + j)) e.c.classes)
noncomputable def lowP [Tb] (x : Int) : Int := if x = 0 then -1 else tzV x
noncomputable def wakeS [Tb] (w v : Int) (e : EnvP) : WakeS → Rs WakeS × EnvP
  | .l1 j => (if e.gt (wakeA v j e) ≠ 0 then .go (.l2 j (lowP (e.gt (wakeA v j e)))) else if e.c.classes ≤ wi (j + 1) then .fin 2 0 else .go (.l1 (wi (j + 1))), e.lk (wakeA v j e))
  | .l2 j x => (if andU (e.gt (wakeA v j e)) (bitP x) = 0 then .fin 4 0 else .go (.l3 j x), e.pt 5 (wakeA v j e) (andU (e.gt (wakeA v j e)) (cplU (bitP x))))
  | .l3 _ x => (.fin 1 x, (e.pt 6 (epochP e.l x) (wu (e.gt (epochP e.l x) + 1))).em 18 w 0 x 0)
def raiseS (w t v : Int) (e : EnvP) (s : RaiseS) : Rs RaiseS × EnvP :=
  if ¬ Fits e t v then (.fin 4 0, e)
  else match s with
    | .l1 _ => (if v ≤ wi (e.gt (levelP e.l t)) then .fin 0 0 else .go (.l2 (e.gt (levelP e.l t))), e.lk (levelP e.l t))
    | .l2 q => if e.hit (levelP e.l t) q = true then (.fin 1 0, (e.cas (levelP e.l t) q (wu v)).em 11 w t 0 v) else (.go (.l1 q), e.cas (levelP e.l t) q (wu v))
/-! ### Probing -/
def B16.at (b : B16) (i : Int) : Int :=
  if i = 15 then b.b15 else if i = 14 then b.b14 else if i = 13 then b.b13 else if i = 12 then b.b12 else if i = 11 then b.b11 else if i = 10 then b.b10 else if i = 9 then b.b9 else if i = 8 then b.b8
  else if i = 7 then b.b7 else if i = 6 then b.b6 else if i = 5 then b.b5 else if i = 4 then b.b4 else if i = 3 then b.b3 else if i = 2 then b.b2 else if i = 1 then b.b1 else b.b0
def B16.put (b : B16) (i v : Int) : B16 :=
  if i = 15 then { b with b15 := v } else if i = 14 then { b with b14 := v } else if i = 13 then { b with b13 := v } else if i = 12 then { b with b12 := v } else if i = 11 then { b with b11 := v } else if i = 10 then { b with b10 := v }
  else if i = 9 then { b with b9 := v } else if i = 8 then { b with b8 := v } else if i = 7 then { b with b7 := v } else if i = 6 then { b with b6 := v } else if i = 5 then { b with b5 := v } else if i = 4 then { b with b4 := v }
  else if i = 3 then { b with b3 := v } else if i = 2 then { b with b2 := v } else if i = 1 then { b with b1 := v } else { b with b0 := v }
def b16z : B16 := ⟨0, 0, 0, 0, 0, 0, 0, 0, 0, 0, 0, 0, 0, 0, 0, 0⟩
def manyP (e : EnvP) : Int := if 16 < e.c.workers then 16 else e.c.workers
def passP (w n s i : Int) : Int := if i < n ∧ Int.tmod (wi (s + i)) n = w then wi (i + 1) else i
/-- The choice among the bitmaps: k rounds from place i on. -/
noncomputable def pickP (w n s : Int) (bm : B16) : Nat → Int → Int × Int → Int × Int
  | 0, _, r => r
  | k + 1, i, r => pickP w n s bm k (i + 1) (if Int.tmod (wi (s + i)) n ≠ w ∧ r.2 < highP (bm.at (Int.tmod (wi (s + i)) n)) then (Int.tmod (wi (s + i)) n, highP (bm.at (Int.tmod (wi (s + i)) n))) else r)
noncomputable def chooseP (w n s : Int) (bm : B16) : Int × Int := pickP w n (modP s n) bm n.toNat 0 (-1, -1)
noncomputable def probeG (w : Int) (e : EnvP) (s i : Int) (bm : B16) : Rs ProbeS × EnvP :=
  if manyP e ≤ passP w (manyP e) s i then (.fin 2 0, e)
  else
    let v := Int.tmod (wi (s + passP w (manyP e) s i)) (manyP e)
    let bm' := bm.put v (e.gt (bitmapP e.l v))
    let i' := passP w (manyP e) s (wi (passP w (manyP e) s i + 1))
    if manyP e ≤ i' then
      (if (chooseP w (manyP e) s bm').1 < 0 then .fin 2 0 else .fin 1 (wi (wi ((chooseP w (manyP e) s bm').1 * 64) + (chooseP w (manyP e) s bm').2)), e.lk (bitmapP e.l v))
    else (.go (.run s i' bm'), e.lk (bitmapP e.l v))
noncomputable def probeS (w : Int) (e : EnvP) : ProbeS → Rs ProbeS × EnvP
  | .new => probeG w e (drawP e.k (manyP e)) 0 b16z
  | .run s i bm => probeG w e s i bm
/-! ### The machines that run others inside -/
def lpushS (w v x : Int) (e : EnvP) : LPushS → Rs LPushS × EnvP
  | .new => match opushS (queueP e.l w v) x e .l1 with
    | (.go s, e') => (.go (.push s), e')
    | (.fin c _, e') => (if c = 3 then .fin 3 0 else .go .set, e')
  | .push s => match opushS (queueP e.l w v) x e s with
    | (.go s, e') => (.go (.push s), e')
    | (.fin c _, e') => (if c = 3 then .fin 3 0 else .go .set, e')
  | .set => (.fin 0 0, setE (bitmapP e.l w) v e)
noncomputable def lpopS (w : Int) (e : EnvP) : LPopS → Rs LPopS × EnvP
  | .l1 _ => (if e.gt (bitmapP e.l w) = 0 then .fin 2 0 else .go (.l2 (highP (e.gt (bitmapP e.l w))) .l1), e.lk (bitmapP e.l w))
  | .l2 v s => match opopS (queueP e.l w v) e s with
    | (.go s, e') => (.go (.l2 v s), e')
    | (.fin c x, e') => (if c = 1 then .fin 1 x else .go (.l3 v .l1), e')
  | .l3 v s => match resetS (bitmapP e.l w) v (queueP e.l w v) e s with
    | (.go s, e') => (.go (.l3 v s), e')
    | (.fin _ _, e') => (.go (.l1 v), e')
def walkS (w v : Int) (e : EnvP) : WalkS → Rs WalkS × EnvP
  | .l1 t => if ¬ Fits e t v then (.fin 4 0, e) else match raiseS w t v e (.l1 0) with
    | (.go s, e') => (.go (.raise t s), e')
    | (.fin c _, e') => (.go (if c = 1 then .l2 t else .l4 t), e')
  | .raise t s => match raiseS w t v e s with
    | (.go s, e') => (.go (.raise t s), e')
    | (.fin c _, e') => (.go (if c = 1 then .l2 t else .l4 t), e')
  | .l2 t => (.go (if e.gt (stateP e.l t) = 1 then .push t .new else .l4 t), e.lk (stateP e.l t))
  | .push t s => match lpushS w v t e s with
    | (.go s, e') => (.go (.push t s), e')
    | (.fin c _, e') => (.go (.l4 t), if c = 3 then e'.em 19 w t 0 v else e')
  | .l4 t => (if e.gt (waitsP e.l t) = 0 then .fin 0 0 else .go (.l1 (wi (wu (e.gt (waitsP e.l t) - 1)))), e.lk (waitsP e.l t))
def enterS (w t : Int) (e : EnvP) : EnterS → Rs EnterS × EnvP
  | .l1 => if ¬ IsT e t then (.fin 4 0, e) else (.go .l2, e.pt 2 (sinceP e.l t) (wu e.k.now))
  | .l2 => (.go .l3, e.pt 2 (stateP e.l t) 1)
  | .l3 => (.go (.l4 (wi (e.gt (levelP e.l t))) .new), e.lk (levelP e.l t))
  | .l4 v s => match lpushS w v t e s with
    | (.go s, e') => (.go (.l4 v s), e')
    | (.fin c _, e') => (.fin c v, e')
def sweepS (w t : Int) (e : EnvP) : SweepS → Rs SweepS × EnvP
  | .l1 => if ¬ IsT e t ∨ e.c.age = 0 then (.fin 0 0, e) else (if e.gt (stateP e.l t) = 1 then .go .l2 else .fin 0 0, e.lk (stateP e.l t))
  | .l2 => (if wi (e.k.now - wi (e.gt (sinceP e.l t))) < e.c.age then .fin 0 0 else .go .l3, e.lk (sinceP e.l t))
  | .l3 => (if wi (e.c.levels - 1) ≤ wi (e.gt (levelP e.l t)) then .fin 0 0 else .go (.l4 (e.gt (levelP e.l t))), e.lk (levelP e.l t))
  | .l4 q => if e.hit (levelP e.l t) q = true then (.go (.l5 q), (e.cas (levelP e.l t) q (wu (q + 1))).em 12 w t 0 (wi (wi q + 1))) else (.fin 4 0, e.cas (levelP e.l t) q (wu (q + 1)))
  | .l5 q => (.go (.l6 q .new), e.pt 2 (sinceP e.l t) (wu e.k.now))
  | .l6 q s => match lpushS w (wi (wi q + 1)) t e s with
    | (.go s, e') => (.go (.l6 q s), e')
    | (.fin c _, e') => (.fin 1 0, if c = 3 then e'.em 19 w t 0 (wi (wi q + 1)) else e')
noncomputable def takeS (w : Int) (e : EnvP) : TakeS → Rs TakeS × EnvP
  | .pop s => match lpopS w e s with
    | (.go s, e') => (.go (.pop s), e')
    | (.fin c x, e') => (if c = 2 then .fin 2 0 else .go (.claim x), e')
  | .claim t => (if claimB t e = true then .fin 1 t else .go (.pop (.l1 0)), claimE w t e)
def drainF (s : DrainS) : Rs DrainS := if s.direct = true then .fin 1 s.x else if 0 < s.count then .fin 0 s.count else .fin 2 0
noncomputable def drainS [Tb] (w : Int) (e : EnvP) (d : DrainS) : Rs DrainS × EnvP :=
  match d.c with
  | .l1 => (if wi (e.gt 2) ≤ 0 then .fin 2 0 else .go { d with c := .l2 }, e.lk 2)
  | .l2 => (if e.hit 1 0 = true then .go { d with c := .l3 .l1 } else .fin 5 0, lockE w e)
  | .l3 s => match removeS w e s with
    | (.go s, e') => (.go { d with c := .l3 s }, e')
    | (.fin c x, e') => (if c = 2 then .go { d with c := .l6 } else .go { d with x := x, c := .l4 }, e')
  | .l4 => (.go { d with p := wi (e.gt (levelP e.l d.x)), c := .l5 .new }, e.lk (levelP e.l d.x))
  | .l5 s => match lpushS w d.p d.x e s with
    | (.go s, e') => (.go { d with c := .l5 s }, e')
    | (.fin c _, e') => (if c = 3 then .go { d with direct := true, c := .l6 } else if wi (d.count + 1) < e.c.batch then .go { d with last := d.p, count := wi (d.count + 1), c := .l3 .l1 } else .go { d with last := d.p, count := wi (d.count + 1), c := .l6 }, e')
  | .l6 => (if 0 < d.count then .go { d with c := .l7 (.l1 0) } else drainF d, freeE e)
  | .l7 s => match wakeS w d.last e s with
    | (.go s, e') => (.go { d with c := .l7 s }, e')
    | (.fin _ _, e') => (drainF d, e')
def topP (l : List Int) : Int := l.getLast?.getD 0
def leaveS (r : RunS) (e : EnvP) : Rs RunS × EnvP := (if r.stack.length = 1 then .fin 0 0 else .go { r with stack := r.stack.dropLast, c := .next }, e)
def compP (x : RecP) (i : Ins) : RecP :=
  if wi ((if x.left = 0 then i.a else x.left) - 1) = 0 then { x with left := wi ((if x.left = 0 then i.a else x.left) - 1), pc := wi (x.pc + 1) } else { x with left := wi ((if x.left = 0 then i.a else x.left) - 1) }
def EnvP.prog (e : EnvP) (x : RecP) : List Ins := if x.prog < 0 ∨ (e.c.progs.length : Int) ≤ x.prog then [] else atL [] e.c.progs x.prog
def newP (p t : Int) : RecP := ⟨p, t, 0, 0, -1, [], false⟩
/-- A step that the record of the top chooses. -/
def nextS (w : Int) (e : EnvP) (r : RunS) (t : Int) (x : RecP) (p : List Ins) : Rs RunS × EnvP :=
  if x.waiting ≠ -1 then (.go r, (e.pt 2 (waitsP e.l t) 0).pr t { x with waiting := -1 })
  else if x.pc < 0 ∨ (p.length : Int) ≤ x.pc then (.go { r with c := .f2 }, e.pt 2 (stateP e.l t) 4)
  else if (atK3 p x.pc).op = 0 then (.go r, e.pr t (compP x (atK3 p x.pc)))
  else if (atK3 p x.pc).op = 1 then
    if IsT e (wi (e.gt 0)) then (.go { r with id := wi (e.gt 0), level := (atK3 p x.pc).b, c := .s2 .l1 }, ((allocE e).pr t { x with pc := wi (x.pc + 1), kids := x.kids ++ [wi (e.gt 0)] }).pr (wi (e.gt 0)) (newP (atK3 p x.pc).a t))
    else (.go r, ((allocE e).pr t { x with pc := wi (x.pc + 1), kids := x.kids ++ [-1] }).em 4 w t 0 0)
  else if (atK3 p x.pc).a < 0 ∨ (x.kids.length : Int) ≤ (atK3 p x.pc).a ∨ atK1 x.kids (atK3 p x.pc).a = -1 then (.go r, e.pr t { x with pc := wi (x.pc + 1) })
  else (.go { r with child := atK1 x.kids (atK3 p x.pc).a, c := .j2 }, (e.pt 2 (waitsP e.l t) (wu (wi (atK1 x.kids (atK3 p x.pc).a + 1)))).pr t { x with pc := wi (x.pc + 1), waiting := atK1 x.kids (atK3 p x.pc).a })
noncomputable def runG [Tb] (w : Int) (e : EnvP) (r : RunS) (t : Int) : Rs RunS × EnvP :=
  match r.c with
  | .next => nextS w e r t (e.rc t) (e.prog (e.rc t))
  | .s2 s => match publishS r.id r.level e s with
    | (.go s, e') => (.go { r with c := .s2 s }, e')
    | (.fin _ _, e') => (.go { r with c := .s3 .new }, e'.em 3 w r.id t r.level)
  | .s3 s => match lpushS w r.level r.id e s with
    | (.go s, e') => (.go { r with c := .s3 s }, e')
    | (.fin c _, e') => (.go { r with c := if c = 3 then .s5 else .s4 (.l1 0) }, e')
  | .s4 s => match wakeS w r.level e s with
    | (.go s, e') => (.go { r with c := .s4 s }, e')
    | (.fin _ _, e') => (.go { r with c := .next }, e')
  | .s5 => (.go (if claimB r.id e = true then { r with stack := r.stack ++ [r.id], c := .next } else { r with c := .next }), claimE w r.id e)
  | .j2 => (.go { r with c := .j3 }, e.pt 2 (stateP e.l t) 3)
  | .j3 => if e.hit (joinP e.l r.child) 0 = true then (.go { r with c := .j4 }, (e.cas (joinP e.l r.child) 0 (wu (wi (t + 1)))).em 6 w t r.child 0) else (.go { r with c := .j6 }, e.cas (joinP e.l r.child) 0 (wu (wi (t + 1))))
  | .j4 => (.go { r with level := wi (e.gt (levelP e.l t)), c := .j5 (.l1 r.child) }, e.lk (levelP e.l t))
  | .j5 s => match walkS w r.level e s with
    | (.go s, e') => (.go { r with c := .j5 s }, e')
    | (.fin _ _, e') => leaveS r (e'.em 7 w t 0 r.level)
  | .j6 => (.go { r with c := .j7 }, e.pt 2 (stateP e.l t) 2)
  | .j7 => (.go { r with c := .next }, ((e.pt 2 (waitsP e.l t) 0).pr t { e.rc t with waiting := -1 }).em 8 w t r.child 0)
  | .f2 => if e.hit (joinP e.l t) 0 = true then leaveS r ((e.cas (joinP e.l t) 0 4294967296).em 10 w t 0 0) else (.go { r with c := .f3 }, (e.cas (joinP e.l t) 0 4294967296).em 10 w t 0 0)
  | .f3 => if IsT e (wi (wi (e.gt (joinP e.l t)) - 1)) then (.go { r with waiter := wi (wi (e.gt (joinP e.l t)) - 1), c := .f4 .l1 }, e.lk (joinP e.l t)) else leaveS { r with waiter := wi (wi (e.gt (joinP e.l t)) - 1) } (e.lk (joinP e.l t))
  | .f4 s => match enterS w r.waiter e s with
    | (.go s, e') => (.go { r with c := .f4 s }, e')
    | (.fin c v, e') => (.go { r with c := if c = 3 then .f6 else .f5 v (.l1 0) }, e')
  | .f5 v s => match wakeS w v e s with
    | (.go s, e') => (.go { r with c := .f5 v s }, e')
    | (.fin _ _, e') => leaveS r e'
  | .f6 => if claimB r.waiter e = true then (.go { r with stack := r.stack.dropLast ++ [r.waiter], c := .next }, claimE w r.waiter e) else leaveS r (claimE w r.waiter e)
noncomputable def runS [Tb] (w : Int) (e : EnvP) (r : RunS) : Rs RunS × EnvP := if ¬ IsT e (topP r.stack) then (.fin 4 0, e) else runG w e r (topP r.stack)
def run0 (t : Int) : RunS := ⟨[t], 0, 0, 0, 0, .next⟩
def drain0 : DrainS := ⟨0, false, 0, 0, 0, .l1⟩
def take0 : TakeS := .pop (.l1 0)
/-- The worker's line, chosen at the top. -/
def workB (w : Int) (e : EnvP) (k : WorkS) : WorkC := match k.c with
  | .top => if e.c.age = 0 then .t2 take0 else .t1 (modP (wi (modP w e.c.tasks + k.cursor)) e.c.tasks) .l1
  | c => c
def idleC (e : EnvP) : WorkC := if e.c.workers = 1 then .t8 .l1 else .t4 .new
noncomputable def workS [Tb] (w : Int) (e : EnvP) (k : WorkS) : WorkS × EnvP :=
  match workB w e k with
  | .top => (k, e)
  | .t1 t s => match sweepS w t e s with
    | (.go s, e') => ({ k with c := .t1 t s }, e')
    | (.fin _ _, e') => ({ k with cursor := wi (k.cursor + 1), c := .t2 take0 }, e')
  | .t2 s => match takeS w e s with
    | (.go s, e') => ({ k with c := .t2 s }, e')
    | (.fin c x, e') => (if c = 1 then { k with x := x, c := .t7 (run0 x) } else { k with c := .t3 drain0 }, e')
  | .t3 s => match drainS w e s with
    | (.go s, e') => ({ k with c := .t3 s }, e')
    | (.fin c x, e') => (if c = 1 then { k with x := x, c := .t6 } else if c = 0 then { k with c := .t2 take0 } else { k with c := idleC e' }, e')
  | .t4 s => match probeS w e s with
    | (.go s, e') => ({ k with c := .t4 s }, e')
    | (.fin c x, e') => (if c = 2 then { k with c := .t8 .l1 } else { k with victim := wi (Int.tdiv x 64), level := Int.tmod x 64, c := .t5 .l1 }, e')
  | .t5 s => match stealS (queueP e.l k.victim k.level) e s with
    | (.go s, e') => ({ k with c := .t5 s }, e')
    | (.fin c x, e') => if c = 1 then ({ k with x := x, c := .t6 }, e'.em 14 w x k.victim k.level) else if c = 2 then ({ k with c := .t9 .l1 }, e') else ({ k with c := .top }, e')
  | .t6 => (if claimB k.x e = true then { k with c := .t7 (run0 k.x) } else { k with c := .top }, claimE w k.x e)
  | .t7 s => match runS w e s with
    | (.go s, e') => ({ k with c := .t7 s }, e')
    | (.fin _ _, e') => ({ k with c := .top }, e')
  | .t8 s => match sleepS w e s with
    | (.go s, e') => ({ k with c := .t8 s }, e')
    | (.fin _ _, e') => ({ k with c := .top }, e')
  | .t9 s => match resetS (bitmapP e.l k.victim) k.level (queueP e.l k.victim k.level) e s with
    | (.go s, e') => ({ k with c := .t9 s }, e')
    | (.fin _ _, e') => ({ k with c := .top }, e')
def clieN (subs : List Sub) (k : ClieS) (e : EnvP) : Bool × ClieS × EnvP := (decide ((subs.length : Int) ≤ wi (k.i + 1)), { k with i := wi (k.i + 1), acc := false, c := .n1 }, e)
noncomputable def clieG [Tb] (subs : List Sub) (me : Int) (e : EnvP) (k : ClieS) (s : Sub) : Bool × ClieS × EnvP :=
  match k.c with
  | .n1 => (false, { k with c := if e.hit 1 0 = true then .n2 else .a1 }, lockE me e)
  | .a1 => (false, { k with c := if e.hit 1 0 = true then .n2 else .a1 }, lockE me e)
  | .n2 => if e.c.heap ≤ wi (e.gt 2) then (false, { k with c := .n8 }, (e.lk 2).em 2 me 0 k.i 1) else (false, { k with c := .n3 }, e.lk 2)
  | .n3 => if IsT e (wi (e.gt 0)) then (false, { k with id := wi (e.gt 0), c := .n4 }, (allocE e).pr (wi (e.gt 0)) (newP s.prog (-1))) else (false, { k with c := .n8 }, (allocE e).em 2 me 0 k.i 2)
  | .n4 => (false, { k with c := .n5 }, e.pt 2 (levelP e.l k.id) (wu s.level))
  | .n5 => (false, { k with c := .n6 }, e.pt 2 (sinceP e.l k.id) (wu e.k.now))
  | .n6 => match insertS s.deadline k.id e .l1 with
    | (.go t, e') => (false, { k with c := .a6 t }, e')
    | (.fin c _, e') => if c = 0 then (false, { k with acc := true, c := .n7 }, e'.em 1 me k.id k.i s.level) else (false, { k with c := .n8 }, e')
  | .a6 t => match insertS s.deadline k.id e t with
    | (.go t, e') => (false, { k with c := .a6 t }, e')
    | (.fin c _, e') => if c = 0 then (false, { k with acc := true, c := .n7 }, e'.em 1 me k.id k.i s.level) else (false, { k with c := .n8 }, e')
  | .n7 => (false, { k with c := .n8 }, e.pt 2 (stateP e.l k.id) 1)
  | .n8 => if k.acc = true then (false, { k with c := .n9 }, freeE e) else clieN subs k (freeE e)
  | .n9 => match wakeS me s.level e (.l1 0) with
    | (.go t, e') => (false, { k with c := .a9 t }, e')
    | (.fin _ _, e') => clieN subs k e'
  | .a9 t => match wakeS me s.level e t with
    | (.go t, e') => (false, { k with c := .a9 t }, e')
    | (.fin _ _, e') => clieN subs k e'
noncomputable def clieS [Tb] (subs : List Sub) (me : Int) (e : EnvP) (k : ClieS) : Bool × ClieS × EnvP :=
  if (subs.length : Int) ≤ k.i then (true, k, e) else clieG subs me e k (atK4 subs k.i)
end
section
open Go Go.RowKit
set_option maxRecDepth 100000
theorem atL_set {α : Type} {d : α} {xs : List α} {a : Int} {x : α} (h : 0 ≤ a ∧ a < (xs.length : Int)) : atL d (xs.set a.toNat x) a = x := by
  have : a.toNat < xs.length := by omega
  simp [atL, this]
theorem at0_set {cs : List Int} {a x : Int} (h : 0 ≤ a ∧ a < (cs.length : Int)) : atK0 (cs.set a.toNat x) a = x := atL_set h
theorem wu_pos {x : Int} (h : ¬ x < 1) (h2 : x ≤ 9223372036854775807) : wu x ≠ 0 := by
  simp only [wu, IntKind.wrap, IntKind.bits, IntKind.signed]
  simp
  omega
theorem wu_bd (a : Int) : 0 ≤ wu a ∧ wu a ≤ 18446744073709551615 := by
  simp only [wu, IntKind.wrap, IntKind.bits, IntKind.signed]
  simp
  omega
section
variable {m : MemV} {a o v : Int}
theorem pLoad_eq : pLoad m a = some ((m.gt a, ()), (m.pt 1 a (m.gt a), ())) := by
  unfold pLoad MemV.gt MemV.pt
  by_cases h : 0 ≤ a ∧ a < (m.cells.length : Int)
  · have h1 : ¬ a < 0 := by omega
    have h2 : ¬ ((m.cells.length : Nat) : Int) ≤ a := by omega
    simp only [h1, h2, h, and_self, if_true, if_false, List.length_set, at0_set h]
  · by_cases h1 : a < 0
    · simp only [h1, h, if_true, if_false]
    · have h2 : ((m.cells.length : Nat) : Int) ≤ a := by omega
      simp only [h1, h2, h, if_true, if_false]
theorem pStore_eq : pStore m a v = some ((), (m.pt 2 a v, ())) := by
  unfold pStore MemV.pt
  by_cases h : 0 ≤ a ∧ a < (m.cells.length : Int)
  · have h1 : ¬ a < 0 := by omega
    have h2 : ¬ ((m.cells.length : Nat) : Int) ≤ a := by omega
    simp only [h1, h2, h, and_self, if_true, if_false, List.length_set, at0_set h]
  · by_cases h1 : a < 0
    · simp only [h1, h, if_true, if_false]
    · have h2 : ((m.cells.length : Nat) : Int) ≤ a := by omega
      simp only [h1, h2, h, if_true, if_false]
theorem pCAS_eq : pCAS m a o v = some ((m.hit a o, ()), (m.cas a o v, ())) := by
  unfold pCAS MemV.hit MemV.cas MemV.pt MemV.gt
  by_cases h : 0 ≤ a ∧ a < (m.cells.length : Int)
  · have h1 : ¬ a < 0 := by omega
    have h2 : ¬ ((m.cells.length : Nat) : Int) ≤ a := by omega
    by_cases hc : atK0 m.cells a = o
    · simp only [h1, h2, h, hc, and_self, if_true, if_false, List.length_set, at0_set h]
    · simp only [h1, h2, h, hc, and_self, if_true, if_false, List.length_set, at0_set h, and_false]
  · by_cases h1 : a < 0
    · simp only [h1, h, if_true, if_false, false_and, decide_false]
    · have h2 : ((m.cells.length : Nat) : Int) ≤ a := by omega
      simp only [h1, h2, h, if_true, if_false, false_and, decide_false]
theorem pOr_eq : pOr m a v = some ((m.gt a, ()), (m.pt 4 a (orU (m.gt a) v), ())) := by
  unfold pOr MemV.gt MemV.pt
  by_cases h : 0 ≤ a ∧ a < (m.cells.length : Int)
  · have h1 : ¬ a < 0 := by omega
    have h2 : ¬ ((m.cells.length : Nat) : Int) ≤ a := by omega
    simp only [h1, h2, h, and_self, if_true, if_false, List.length_set, at0_set h]
  · by_cases h1 : a < 0
    · simp only [h1, h, if_true, if_false]
    · have h2 : ((m.cells.length : Nat) : Int) ≤ a := by omega
      simp only [h1, h2, h, if_true, if_false]
theorem pAnd_eq : pAnd m a v = some ((m.gt a, ()), (m.pt 5 a (andU (m.gt a) v), ())) := by
  unfold pAnd MemV.gt MemV.pt
  by_cases h : 0 ≤ a ∧ a < (m.cells.length : Int)
  · have h1 : ¬ a < 0 := by omega
    have h2 : ¬ ((m.cells.length : Nat) : Int) ≤ a := by omega
    simp only [h1, h2, h, and_self, if_true, if_false, List.length_set, at0_set h]
  · by_cases h1 : a < 0
    · simp only [h1, h, if_true, if_false]
    · have h2 : ((m.cells.length : Nat) : Int) ≤ a := by omega
      simp only [h1, h2, h, if_true, if_false]
theorem pAdd_eq : pAdd m a v = some ((m.gt a, ()), (m.pt 6 a (wu (m.gt a + v)), ())) := by
  unfold pAdd MemV.gt MemV.pt
  by_cases h : 0 ≤ a ∧ a < (m.cells.length : Int)
  · have h1 : ¬ a < 0 := by omega
    have h2 : ¬ ((m.cells.length : Nat) : Int) ≤ a := by omega
    simp only [h1, h2, h, and_self, if_true, if_false, List.length_set, at0_set h]
  · by_cases h1 : a < 0
    · simp only [h1, h, if_true, if_false]
    · have h2 : ((m.cells.length : Nat) : Int) ≤ a := by omega
      simp only [h1, h2, h, if_true, if_false]
end
theorem pMod_eq {a n : Int} : pMod a n = some ((modP a n, ()), ()) := by
  unfold pMod modP
  by_cases h : n < 1
  · rw [if_pos h, if_pos h]
  · rw [if_neg h, if_neg h, if_pos (show n ≠ 0 by omega)]
    split <;> rfl
theorem pDraw_eq {k : ClkV} {n : Int} : pDraw k n = some ((drawP k n, ()), (k, ())) := by
  unfold pDraw drawP modP
  by_cases h : n < 1
  · rw [if_pos h, if_pos h]
  · rw [if_neg h, if_neg h, if_pos (show n ≠ 0 by omega)]
    split <;> rfl
theorem pBit_eq {n : Int} : pBit n = some ((bitP n, ()), ()) := by
  unfold pBit bitP
  rw [if_pos (wu_bd n).1]
  split
  · rfl
  · split <;> rfl
theorem pCell_eq {q : QV} {i : Int} (h : q.cap ≤ 9223372036854775807) : pCell q i = some ((cellP q i, ()), ()) := by
  unfold pCell cellP
  by_cases h1 : q.cap < 1
  · rw [if_pos h1, if_pos h1]
  · rw [if_neg h1, if_neg h1, if_pos (wu_pos h1 h)]
theorem pSize_eq {b t : Int} : pSize b t = some ((szP b t, ()), ()) := rfl
theorem pAt_eq {i n a w : Int} : pAt i n a w = some ((atP i n a w, ()), ()) := by
  unfold pAt atP
  split
  · rfl
  · split <;> rfl
theorem pTask_eq {l : LayV} {t f : Int} : pTask l t f = some ((taskP l t f, ()), ()) := by unfold pTask; rw [pAt_eq]; rfl
theorem pState_eq {l : LayV} {t : Int} : pState l t = some ((stateP l t, ()), ()) := by unfold pState; rw [pTask_eq]; rfl
theorem pLevel_eq {l : LayV} {t : Int} : pLevel l t = some ((levelP l t, ()), ()) := by unfold pLevel; rw [pTask_eq]; rfl
theorem pSince_eq {l : LayV} {t : Int} : pSince l t = some ((sinceP l t, ()), ()) := by unfold pSince; rw [pTask_eq]; rfl
theorem pWaits_eq {l : LayV} {t : Int} : pWaits l t = some ((waitsP l t, ()), ()) := by unfold pWaits; rw [pTask_eq]; rfl
theorem pJoin_eq {l : LayV} {t : Int} : pJoin l t = some ((joinP l t, ()), ()) := by unfold pJoin; rw [pTask_eq]; rfl
theorem pSlot_eq {l : LayV} {t : Int} : pSlot l t = some ((slotP l t, ()), ()) := by unfold pSlot; rw [pAt_eq]; rfl
theorem pEpoch_eq {l : LayV} {t : Int} : pEpoch l t = some ((epochP l t, ()), ()) := by unfold pEpoch; rw [pAt_eq]; rfl
theorem pSleepers_eq {l : LayV} {t : Int} : pSleepers l t = some ((sleepersP l t, ()), ()) := by unfold pSleepers; rw [pAt_eq]; rfl
theorem pBitmap_eq {l : LayV} {t : Int} : pBitmap l t = some ((bitmapP l t, ()), ()) := by unfold pBitmap; rw [pAt_eq]; rfl
theorem pQueue_eq {l : LayV} {w v : Int} : pQueue l w v = some ((queueP l w v, ()), ()) := by
  unfold pQueue queueP
  simp only [pAt_eq, Option.bind_some]
  split
  · rfl
  · split <;> rfl
theorem pPack_eq {d a t : Int} : pPack d a t = some (((packP d a t).1, (packP d a t).2, ()), ()) := by
  unfold pPack packP
  repeat' split
  all_goals rfl
theorem pClass_eq {l n c : Int} : pClass l n c = some ((classP l n c, ()), ()) := by
  unfold pClass classP
  by_cases h : n < 1
  · rw [if_pos h, if_pos h]
  · rw [if_neg h, if_neg h, if_pos (show n ≠ 0 by omega)]
    repeat' split
    all_goals rfl
theorem u8_bd (a : Int) : 0 ≤ IntKind.u8.wrap a ∧ IntKind.u8.wrap a < 256 := by
  simp only [IntKind.wrap, IntKind.bits, IntKind.signed]
  simp
  omega
theorem pHigh_eq {x : Int} : pHigh x = some ((highP x, ()), ()) := by
  have h : ∃ y, pHigh x = some ((y, ()), ()) := by
    have hs : ((strC0.size : Nat) : Int) = 256 := rfl
    unfold pHigh
    simp only [hs, u8_bd, and_self, if_true]
    repeat' split
    all_goals exact ⟨_, rfl⟩
  obtain ⟨y, hy⟩ := h
  unfold highP
  rw [hy]
theorem pLow_eq [Tb] {x : Int} : pLow x = some ((lowP x, ()), ()) := by
  unfold pLow lowP
  split <;> rfl
theorem pEmit_eq {e : EnvP} {v : Ev} (h : e.evs.length ≤ 999999999) : pEmit e v = some ((), ({ e with evs := e.evs ++ [v] }, ())) := by
  unfold pEmit
  rw [if_pos (by rw [List.length_singleton]; omega)]
/-! ### The states as the program's data -/
@[reducible] def o0 : OutV := ⟨false, 0, 0⟩
@[reducible] def opushC (q : QV) (v : Int) : OPushS → OPushV
  | .l1 => ⟨o0, q, v, 1, 0⟩
  | .l2 b => ⟨o0, q, v, 2, b⟩
  | .l3 b => ⟨o0, q, v, 3, b⟩
  | .l4 b => ⟨o0, q, v, 4, b⟩
@[reducible] def opopC (q : QV) : OPopS → OPopV
  | .l1 => ⟨o0, q, 1, 0, 0⟩
  | .l2 b => ⟨o0, q, 2, b, 0⟩
  | .l3 b t => ⟨o0, q, 3, b, t⟩
  | .l4 b t => ⟨o0, q, 4, b, t⟩
  | .l5 b t => ⟨o0, q, 5, b, t⟩
  | .l6 b t => ⟨o0, q, 6, b, t⟩
  | .l7 b t => ⟨o0, q, 7, b, t⟩
  | .l8 b t => ⟨o0, q, 8, b, t⟩
  | .l9 b t => ⟨o0, q, 9, b, t⟩
@[reducible] def stealC (q : QV) : StealS → StealV
  | .l1 => ⟨o0, q, 1, 0, 0⟩
  | .l2 t => ⟨o0, q, 2, t, 0⟩
  | .l3 t => ⟨o0, q, 3, t, 0⟩
  | .l4 t v => ⟨o0, q, 4, t, v⟩
@[reducible] def resetC (a b : Int) (q : QV) : ResetS → ResetV
  | .l1 => ⟨o0, a, b, q, 1, 0⟩
  | .l2 => ⟨o0, a, b, q, 2, 0⟩
  | .l3 x => ⟨o0, a, b, q, 3, x⟩
  | .l4 x => ⟨o0, a, b, q, 4, x⟩
@[reducible] def publishC (t v : Int) : PublishS → PublishV
  | .l1 => ⟨o0, t, v, 1⟩
  | .l2 => ⟨o0, t, v, 2⟩
  | .l3 => ⟨o0, t, v, 3⟩
@[reducible] def insertC (d t : Int) : InsertS → InsertV
  | .l1 => ⟨o0, d, t, 1, 0, 0, 0, 0⟩
  | .l2 n => ⟨o0, d, t, 2, n, 0, 0, 0⟩
  | .l3 n i k x => ⟨o0, d, t, 3, n, i, k, x⟩
  | .l4 n i k x => ⟨o0, d, t, 4, n, i, k, x⟩
  | .l5 n i k x => ⟨o0, d, t, 5, n, i, k, x⟩
  | .l6 n i k x => ⟨o0, d, t, 6, n, i, k, x⟩
@[reducible] def removeC (w : Int) : RemoveS → RemoveV
  | .l1 => ⟨o0, w, 1, 0, 0, 0, 0, 0, 0⟩
  | .l2 n => ⟨o0, w, 2, n, 0, 0, 0, 0, 0⟩
  | .l3 n x => ⟨o0, w, 3, n, 0, 0, x, 0, 0⟩
  | .l4 n x y => ⟨o0, w, 4, n, 0, 0, x, y, 0⟩
  | .l5 n i c x y z => ⟨o0, w, 5, n, i, c, x, y, z⟩
  | .l6 n i c x y z => ⟨o0, w, 6, n, i, c, x, y, z⟩
  | .l7 n i c x y z => ⟨o0, w, 7, n, i, c, x, y, z⟩
  | .l8 n i c x y z => ⟨o0, w, 8, n, i, c, x, y, z⟩
@[reducible] def wakeC (w v : Int) : WakeS → WakeV
  | .l1 j => ⟨o0, w, v, 1, j, 0⟩
  | .l2 j x => ⟨o0, w, v, 2, j, x⟩
  | .l3 j x => ⟨o0, w, v, 3, j, x⟩
@[reducible] def sleepC (w : Int) : SleepS → SleepV
  | .l1 => ⟨o0, w, 1, 0, 0, 0⟩
  | .l2 ep => ⟨o0, w, 2, ep, 0, 0⟩
  | .l3 ep => ⟨o0, w, 3, ep, 0, 0⟩
  | .l4 ep v => ⟨o0, w, 4, ep, v, 0⟩
  | .l5 ep v s => ⟨o0, w, 5, ep, v, s⟩
  | .l6 ep v s => ⟨o0, w, 6, ep, v, s⟩
  | .l7 ep v s => ⟨o0, w, 7, ep, v, s⟩
@[reducible] def probeC (w : Int) : ProbeS → ProbeV
  | .new => ⟨o0, w, false, 0, 0, b16z⟩
  | .run s i bm => ⟨o0, w, true, s, i, bm⟩
@[reducible] def raiseC (w t v : Int) : RaiseS → RaiseV
  | .l1 q => ⟨o0, w, t, v, 1, q⟩
  | .l2 q => ⟨o0, w, t, v, 2, q⟩
/-- A step's answer: the state behind it, or the end with its result. -/
def SimR {σ X : Type} (og : X → OutV) (mk : σ → X) (res : Option ((Bool × Unit) × (X × EnvP × Unit))) (r : Rs σ × EnvP) : Prop :=
  match r with
  | (.go s, e) => res = some ((false, ()), (mk s, e, ()))
  | (.fin c v, e) => ∃ x, res = some ((true, ()), (x, e, ())) ∧ og x = ⟨true, c, v⟩
section
variable {σ X : Type} {og : X → OutV} {mk : σ → X} {a b : Option ((Bool × Unit) × (X × EnvP × Unit))} {r s : Rs σ × EnvP}
theorem SimR.ite {c : Prop} [Decidable c] (h1 : c → SimR og mk a r) (h2 : ¬ c → SimR og mk b s) : SimR og mk (if c then a else b) (if c then r else s) := by
  by_cases h : c
  · rw [if_pos h, if_pos h]; exact h1 h
  · rw [if_neg h, if_neg h]; exact h2 h
theorem SimR.iteN {c : Bool} (h1 : c = true → SimR og mk b r) (h2 : c = false → SimR og mk a s) : SimR og mk (if (!c) = true then a else b) (if c = true then r else s) := by
  cases c
  · exact h2 rfl
  · exact h1 rfl
theorem SimR.iteL {c : Prop} [Decidable c] (h1 : c → SimR og mk a r) (h2 : ¬ c → SimR og mk b r) : SimR og mk (if c then a else b) r := by
  by_cases h : c
  · rw [if_pos h]; exact h1 h
  · rw [if_neg h]; exact h2 h
theorem pair_ite {c : Prop} [Decidable c] {x y : Rs σ} {e : EnvP} : ((if c then x else y), e) = if c then (x, e) else (y, e) := by split <;> rfl
theorem go_ite {c : Prop} [Decidable c] {x y : σ} : Rs.go (if c then x else y) = if c then Rs.go x else Rs.go y := by split <;> rfl
end
theorem bind_ite {α β : Type} {c : Prop} [Decidable c] {x y : Option α} {f : α → Option β} : (if c then x else y).bind f = if c then x.bind f else y.bind f := by split <;> rfl
section
variable {e : EnvP}
theorem opush_sim {q : QV} {v : Int} (hq : q.cap ≤ 9223372036854775807) (s : OPushS) : SimR OPushV.o (opushC q v) (ownerPushStep (opushC q v s) e) (opushS q v e s) := by
  cases s <;> simp only [ownerPushStep, opushC, opushS, pEnded, pEnd, o0, pLoad_eq, pStore_eq, pSize_eq, pCell_eq hq, Option.bind_some, Bool.false_eq_true, if_true, if_false, reduceIte, Int.reduceEq, pair_ite]
  all_goals repeat' first | with_reducible refine SimR.ite (fun _ => ?_) fun _ => ?_ | with_reducible refine SimR.iteN (fun _ => ?_) fun _ => ?_
  all_goals first | rfl | exact ⟨_, rfl, rfl⟩
theorem opop_sim {q : QV} (hq : q.cap ≤ 9223372036854775807) (s : OPopS) : SimR OPopV.o (opopC q) (ownerPopStep (opopC q s) e) (opopS q e s) := by
  cases s <;> simp only [ownerPopStep, ownerPopDecide, opopC, opopS, pEnded, pEnd, o0, pLoad_eq, pStore_eq, pCAS_eq, pSize_eq, pCell_eq hq, Option.bind_some, Bool.false_eq_true, if_true, if_false, reduceIte, Int.reduceEq, pair_ite, bind_ite]
  all_goals repeat' first | with_reducible refine SimR.ite (fun _ => ?_) fun _ => ?_ | with_reducible refine SimR.iteN (fun _ => ?_) fun _ => ?_
  all_goals first | rfl | exact ⟨_, rfl, rfl⟩
theorem steal_sim {q : QV} (hq : q.cap ≤ 9223372036854775807) (s : StealS) : SimR StealV.o (stealC q) (thiefStealStep (stealC q s) e) (stealS q e s) := by
  cases s <;> simp only [thiefStealStep, stealC, stealS, pEnded, pEnd, o0, pLoad_eq, pStore_eq, pCAS_eq, pSize_eq, pCell_eq hq, Option.bind_some, Bool.false_eq_true, if_true, if_false, reduceIte, Int.reduceEq, pair_ite]
  all_goals repeat' first | with_reducible refine SimR.ite (fun _ => ?_) fun _ => ?_ | with_reducible refine SimR.iteN (fun _ => ?_) fun _ => ?_
  all_goals first | rfl | exact ⟨_, rfl, rfl⟩
theorem reset_sim {a b : Int} {q : QV} (s : ResetS) : SimR ResetV.o (resetC a b q) (bitmapResetStep (resetC a b q s) e) (resetS a b q e s) := by
  cases s <;> simp only [bitmapResetStep, resetC, resetS, pEnded, pEnd, o0, pLoad_eq, pStore_eq, pAnd_eq, pOr_eq, pBit_eq, pSize_eq, Option.bind_some, Bool.false_eq_true, if_true, if_false, reduceIte, Int.reduceEq, pair_ite]
  all_goals repeat' first | with_reducible refine SimR.ite (fun _ => ?_) fun _ => ?_ | with_reducible refine SimR.iteN (fun _ => ?_) fun _ => ?_
  all_goals first | rfl | exact ⟨_, rfl, rfl⟩
theorem set_sim {a b : Int} : ∃ x, bitmapSetStep ⟨o0, a, b⟩ e = some ((true, ()), (x, setE a b e, ())) ∧ x.o = ⟨true, 0, 0⟩ := by
  simp only [bitmapSetStep, pEnded, pEnd, o0, pOr_eq, pBit_eq, Option.bind_some, Bool.false_eq_true, if_true, if_false]
  exact ⟨_, rfl, rfl⟩
theorem isTask_eq {t : Int} : tableIsTask e t = some ((decide (IsT e t), ()), (e, ())) := by
  unfold tableIsTask IsT
  by_cases h : 0 ≤ t
  · simp only [h, if_true, true_and]
  · simp only [h, if_false, false_and, decide_false]
theorem fits_eq {t v : Int} : boostFits e t v = some ((decide (Fits e t v), ()), (e, ())) := by
  unfold boostFits Fits
  by_cases h : 0 ≤ t
  · by_cases h2 : t < e.c.tasks
    · by_cases h3 : 0 ≤ v
      · simp only [h, h2, h3, if_true, true_and]
      · simp only [h, h2, h3, if_true, if_false, false_and, and_false, decide_false]
    · simp only [h, h2, if_true, if_false, false_and, and_false, decide_false]
  · simp only [h, if_false, false_and, decide_false]
theorem alloc_sim : ∃ x, tableAllocateStep ⟨o0⟩ e = some ((true, ()), (x, allocE e, ())) ∧ x.o = if IsT e (wi (e.gt 0)) then ⟨true, 1, wi (e.gt 0)⟩ else ⟨true, 3, 0⟩ := by
  simp only [tableAllocateStep, pEnded, pEnd, pNext, o0, pAdd_eq, isTask_eq, Option.bind_some, Bool.false_eq_true, if_true, if_false]
  by_cases h : IsT e (wi (e.gt 0))
  · have h' : IsT { e with m := e.m.pt 6 0 (wu (e.m.gt 0 + 1)) } (wi (e.m.gt 0)) := h
    simp only [h, h', decide_true, Bool.not_true, Bool.false_eq_true, if_true, if_false]
    exact ⟨_, rfl, rfl⟩
  · have h' : ¬ IsT { e with m := e.m.pt 6 0 (wu (e.m.gt 0 + 1)) } (wi (e.m.gt 0)) := h
    simp only [h, h', decide_false, Bool.not_false, if_true, if_false]
    exact ⟨_, rfl, rfl⟩
theorem publish_sim {t v : Int} (s : PublishS) : SimR PublishV.o (publishC t v) (tablePublishStep (publishC t v s) e) (publishS t v e s) := by
  by_cases h : IsT e t
  · cases s <;> simp only [tablePublishStep, publishC, publishS, isTask_eq, h, not_true, decide_true, Bool.not_true, pEnded, pEnd, pNow, o0, pStore_eq, pLevel_eq, pSince_eq, pState_eq, Option.bind_some, Bool.false_eq_true, if_true, if_false, reduceIte, Int.reduceEq]
    all_goals first | rfl | exact ⟨_, rfl, rfl⟩
  · cases s <;> simp only [tablePublishStep, publishC, publishS, isTask_eq, h, not_false_eq_true, decide_false, Bool.not_false, pEnded, pEnd, o0, Option.bind_some, Bool.false_eq_true, if_true, if_false]
    all_goals exact ⟨_, rfl, rfl⟩
theorem lock_sim {w : Int} {b : Bool} : ∃ d x, lockAttemptStep ⟨o0, w, b⟩ e = some ((d, ()), (x, lockE w e, ())) ∧ (d = true → x.o = if e.hit 1 0 = true then ⟨true, 1, 0⟩ else ⟨true, 5, 0⟩) ∧ (d = (e.hit 1 0 || b)) ∧ (d = false → x = ⟨o0, w, b⟩) := by
  simp only [lockAttemptStep, pEnded, pEnd, pLock, o0, pCAS_eq, Option.bind_some, Bool.false_eq_true, if_true, if_false]
  rcases Bool.eq_false_or_eq_true (e.m.hit 1 0) with h | h
  · simp only [h, if_true]; exact ⟨_, _, rfl, (fun _ => rfl), rfl, (fun h => by cases h)⟩
  · cases b
    · simp only [h, Bool.false_eq_true, if_false]; exact ⟨_, _, rfl, (fun h => by cases h), rfl, fun _ => rfl⟩
    · simp only [h, Bool.false_eq_true, if_false, if_true]; exact ⟨_, _, rfl, (fun _ => rfl), rfl, (fun h => by cases h)⟩
theorem free_sim : ∃ x, lockReleaseStep ⟨o0⟩ e = some ((true, ()), (x, freeE e, ())) ∧ x.o = ⟨true, 0, 0⟩ := by
  simp only [lockReleaseStep, pEnded, pEnd, pLock, o0, pStore_eq, Option.bind_some, Bool.false_eq_true, if_true, if_false]
  exact ⟨_, rfl, rfl⟩
theorem claim_sim {w t : Int} (hl : e.evs.length ≤ 999999999) (hr : e.hit (stateP e.l t) 1 = true → 0 ≤ t ∧ t < (e.recs.length : Int)) : ∃ x, tableClaimStep ⟨o0, w, t⟩ e = some ((true, ()), (x, claimE w t e, ())) ∧ x.o = if claimB t e = true then ⟨true, 1, t⟩ else ⟨true, 4, 0⟩ := by
  simp only [tableClaimStep, pEnded, pEnd, o0, pCAS_eq, pState_eq, Option.bind_some, Bool.false_eq_true, if_true, if_false]
  unfold claimE claimB
  simp only [EnvP.hit] at hr ⊢
  rcases Bool.eq_false_or_eq_true (e.m.hit (stateP e.l t) 1) with h | h
  · simp only [h, Bool.not_true, Bool.false_eq_true, if_true, if_false, hr h, and_self]
    by_cases hs : (atK26 e.recs t).started = true
    · have hs' : (e.rc t).started = true := hs
      simp only [hs, hs', if_true, pEmit_eq (e := { e with m := e.m.cas (stateP e.l t) 1 2 }) hl, Option.bind_some]
      exact ⟨_, rfl, rfl⟩
    · have hs' : ¬ (e.rc t).started = true := hs
      simp only [hs, hs', if_false, pEmit_eq (e := { e with m := e.m.cas (stateP e.l t) 1 2, recs := e.recs.set t.toNat { atK26 e.recs t with started := true } }) hl, Option.bind_some]
      exact ⟨_, rfl, rfl⟩
  · simp only [h, Bool.not_false, Bool.false_eq_true, if_true, if_false, pEmit_eq (e := { e with m := e.m.cas (stateP e.l t) 1 2 }) hl, Option.bind_some]
    exact ⟨_, rfl, rfl⟩
theorem insert_sim {d t : Int} (s : InsertS) : SimR InsertV.o (insertC d t) (injectorInsertStep (insertC d t s) e) (insertS d t e s) := by
  cases s <;> simp only [injectorInsertStep, injectorInsertPlace, placeS, insertC, insertS, pEnded, pEnd, pLSize, pArrival, o0, pLoad_eq, pStore_eq, pAdd_eq, pSlot_eq, pPack_eq, Option.bind_some, Bool.false_eq_true, if_true, if_false, reduceIte, Int.reduceEq, pair_ite, bind_ite, go_ite]
  all_goals repeat' first | with_reducible refine SimR.ite (fun _ => ?_) fun _ => ?_ | with_reducible refine SimR.iteN (fun _ => ?_) fun _ => ?_
  all_goals first | rfl | exact ⟨_, rfl, rfl⟩
theorem remove_sim {w : Int} (hl : e.evs.length ≤ 999999999) (s : RemoveS) : SimR RemoveV.o (removeC w) (injectorRemoveStep (removeC w s) e) (removeS w e s) := by
  have hm : ∀ m v, pEmit { e with m := m } v = some ((), ({ e with m := m, evs := e.evs ++ [v] }, ())) := fun m v => pEmit_eq (e := { e with m := m }) hl
  cases s <;> simp only [injectorRemoveStep, injectorRemoveBegin, injectorRemoveTask, injectorRemoveChildren, injectorRemoveDescend, childS, descS, removeC, removeS, pEnded, pEnd, pLSize, pUnpack, o0, pLoad_eq, pStore_eq, pSlot_eq, hm, Option.bind_some, Bool.false_eq_true, if_true, if_false, reduceIte, Int.reduceEq, pair_ite, bind_ite, go_ite]
  all_goals repeat' first | with_reducible refine SimR.ite (fun _ => ?_) fun _ => ?_ | with_reducible refine SimR.iteN (fun _ => ?_) fun _ => ?_
  all_goals first | rfl | exact ⟨_, rfl, rfl⟩ | skip
  refine SimR.iteL (fun h => ?_) fun h => ?_
  · rw [if_pos h]
    exact SimR.ite (fun _ => rfl) fun _ => rfl
  · rw [if_neg h]
    exact SimR.ite (fun _ => rfl) fun _ => rfl
theorem raise_sim {w t v : Int} (hl : e.evs.length ≤ 999999999) (s : RaiseS) : SimR RaiseV.o (raiseC w t v) (boostRaiseStep (raiseC w t v s) e) (raiseS w t v e s) := by
  have hm : ∀ m v, pEmit { e with m := m } v = some ((), ({ e with m := m, evs := e.evs ++ [v] }, ())) := fun m v => pEmit_eq (e := { e with m := m }) hl
  by_cases h : Fits e t v
  · cases s <;> simp only [boostRaiseStep, raiseC, raiseS, fits_eq, h, not_true, decide_true, Bool.not_true, pEnded, pEnd, o0, pLoad_eq, pCAS_eq, pLevel_eq, hm, Option.bind_some, Bool.false_eq_true, if_true, if_false, reduceIte, Int.reduceEq, pair_ite]
    all_goals repeat' first | with_reducible refine SimR.ite (fun _ => ?_) fun _ => ?_ | with_reducible refine SimR.iteN (fun _ => ?_) fun _ => ?_
    all_goals first | rfl | exact ⟨_, rfl, rfl⟩
  · cases s <;> simp only [boostRaiseStep, raiseC, raiseS, fits_eq, h, not_false_eq_true, decide_false, Bool.not_false, pEnded, pEnd, o0, Option.bind_some, Bool.false_eq_true, if_true, if_false]
    all_goals exact ⟨_, rfl, rfl⟩
theorem sleep_sim {w : Int} (hl : e.evs.length ≤ 999999999) (s : SleepS) : SimR SleepV.o (sleepC w) (parkSleepStep (sleepC w s) e) (sleepS w e s) := by
  have hm : ∀ m k v, pEmit { e with m := m, k := k } v = some ((), ({ e with m := m, k := k, evs := e.evs ++ [v] }, ())) := fun m k v => pEmit_eq (e := { e with m := m, k := k }) hl
  by_cases hc : e.c.classes < 1
  · cases s <;> simp only [parkSleepStep, parkSleepLook, parkSleepWait, sleepC, sleepS, sleepA, hc, pEnded, pEnd, pNow, pLSize, o0, pLoad_eq, pOr_eq, pAnd_eq, pBit_eq, pMod_eq, pEpoch_eq, pSleepers_eq, pBitmap_eq, hm, Option.bind_some, Bool.false_eq_true, if_true, if_false, reduceIte, Int.reduceEq, pair_ite, bind_ite]
    all_goals repeat' first | with_reducible refine SimR.ite (fun _ => ?_) fun _ => ?_ | with_reducible refine SimR.iteN (fun _ => ?_) fun _ => ?_
    all_goals first | rfl | exact ⟨_, rfl, rfl⟩
  · cases s <;> simp only [parkSleepStep, parkSleepLook, parkSleepWait, sleepC, sleepS, sleepA, hc, pEnded, pEnd, pNow, pLSize, o0, pLoad_eq, pOr_eq, pAnd_eq, pBit_eq, pMod_eq, pEpoch_eq, pSleepers_eq, pBitmap_eq, hm, Option.bind_some, Bool.false_eq_true, if_true, if_false, reduceIte, Int.reduceEq, pair_ite, bind_ite]
    all_goals repeat' first | with_reducible refine SimR.ite (fun _ => ?_) fun _ => ?_ | with_reducible refine SimR.iteN (fun _ => ?_) fun _ => ?_
    all_goals first | rfl | exact ⟨_, rfl, rfl⟩
theorem wake_sim [Tb] {w v : Int} (hl : e.evs.length ≤ 999999999) (s : WakeS) : SimR WakeV.o (wakeC w v) (parkWakeStep (wakeC w v s) e) (wakeS w v e s) := by
  have hm : ∀ m v, pEmit { e with m := m } v = some ((), ({ e with m := m, evs := e.evs ++ [v] }, ())) := fun m v => pEmit_eq (e := { e with m := m }) hl
  by_cases hc : e.c.classes < 1
  · cases s <;> simp only [parkWakeStep, wakeC, wakeS, wakeA, hc, pEnded, pEnd, pLow_eq, o0, pLoad_eq, pAdd_eq, pAnd_eq, pBit_eq, pMod_eq, pClass_eq, pEpoch_eq, pSleepers_eq, hm, Option.bind_some, Bool.false_eq_true, if_true, if_false, reduceIte, Int.reduceEq, pair_ite, bind_ite, decide_eq_true_eq]
    all_goals repeat' first | with_reducible refine SimR.ite (fun _ => ?_) fun _ => ?_ | with_reducible refine SimR.iteN (fun _ => ?_) fun _ => ?_
    all_goals first | rfl | exact ⟨_, rfl, rfl⟩
  · cases s <;> simp only [parkWakeStep, wakeC, wakeS, wakeA, hc, pEnded, pEnd, pLow_eq, o0, pLoad_eq, pAdd_eq, pAnd_eq, pBit_eq, pMod_eq, pClass_eq, pEpoch_eq, pSleepers_eq, hm, Option.bind_some, Bool.false_eq_true, if_true, if_false, reduceIte, Int.reduceEq, pair_ite, bind_ite, decide_eq_true_eq]
    all_goals repeat' first | with_reducible refine SimR.ite (fun _ => ?_) fun _ => ?_ | with_reducible refine SimR.iteN (fun _ => ?_) fun _ => ?_
    all_goals first | rfl | exact ⟨_, rfl, rfl⟩
end
end
end Go.Proofs.YtgiagoeoifgliaaGreat
