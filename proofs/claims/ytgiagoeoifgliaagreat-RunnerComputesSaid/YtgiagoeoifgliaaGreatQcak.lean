/- RunnerFull in the evaluator's form. -/
import Derived.Test.YtgiagoeoifgliaaGreatQcaj
set_option linter.all false
namespace Go.Proofs.YtgiagoeoifgliaaGreat
open Go Go.RowKit
set_option maxRecDepth 100000
noncomputable def parkWakeStep (y0 : WakeV) (y1 : EnvP) : Option ((Bool × Unit) × (WakeV × EnvP × Unit)) :=
 (pEnded y0.o).bind fun r1 =>
 if r1.1.1 = true then
  some ((true, ()), (({ y0 with o := r1.2.1 } : WakeV), y1, ()))
 else
 if y0.line = 1 then
  ((
   if y1.c.classes < 1 then
    (pLoad y1.m (-1)).bind fun r2 =>
    some (r2.1.1, ({ y1 with m := r2.2.1 } : EnvP), ())
   else
   (pClass y0.level y1.c.levels y1.c.classes).bind fun r3 =>
   if y1.c.classes = y1.c.classes then
    if y0.j = y0.j then
     if y1.l.workers = y1.l.workers then
      if y1.l.levels = y1.l.levels then
       if y1.l.classes = y1.l.classes then
        if y1.l.tasks = y1.l.tasks then
         if y1.l.deque = y1.l.deque then
          if y1.l.heap = y1.l.heap then
           if y1.l.sleepers = y1.l.sleepers then
            if y1.l.epochs = y1.l.epochs then
             if y1.l.bitmaps = y1.l.bitmaps then
              if y1.l.queues = y1.l.queues then
               if y1.l.table = y1.l.table then
                (pMod (wi (r3.1.1 + y0.j)) y1.c.classes).bind fun r4 =>
                if y1.l.workers = y1.l.workers then
                 if y1.l.levels = y1.l.levels then
                  if y1.l.classes = y1.l.classes then
                   if y1.l.tasks = y1.l.tasks then
                    if y1.l.deque = y1.l.deque then
                     if y1.l.heap = y1.l.heap then
                      if y1.l.sleepers = y1.l.sleepers then
                       if y1.l.epochs = y1.l.epochs then
                        if y1.l.bitmaps = y1.l.bitmaps then
                         if y1.l.queues = y1.l.queues then
                          if y1.l.table = y1.l.table then
                           (pSleepers y1.l r4.1.1).bind fun r5 =>
                           (pLoad y1.m r5.1.1).bind fun r6 =>
                           some (r6.1.1, ({ y1 with m := r6.2.1 } : EnvP), ())
                          else none
                         else none
                        else none
                       else none
                      else none
                     else none
                    else none
                   else none
                  else none
                 else none
                else none
               else none
              else none
             else none
            else none
           else none
          else none
         else none
        else none
       else none
      else none
     else none
    else none
   else none
  ) : Option (Int × EnvP × Unit)).bind fun z7 =>
  if z7.1 ≠ 0 then
   (pLow z7.1).bind fun r8 =>
   some ((false, ()), (({ y0 with o := r1.2.1, line := 2, v := r8.1.1 } : WakeV), z7.2.1, ()))
  else
  if z7.2.1.c.classes ≤ (wi (y0.j + 1)) then
   (pEnd r1.2.1 2 0).bind fun r9 =>
   some ((r9.1.1, ()), (({ y0 with o := r9.2.1, j := wi (y0.j + 1) } : WakeV), z7.2.1, ()))
  else
  some ((false, ()), (({ y0 with o := r1.2.1, j := wi (y0.j + 1) } : WakeV), z7.2.1, ()))
 else
 if y0.line = 2 then
  (pBit y0.v).bind fun r10 =>
  ((
   if y1.c.classes < 1 then
    (pAnd y1.m (-1) (cplU r10.1.1)).bind fun r11 =>
    some (decide ((andU r11.1.1 r10.1.1) = 0), ({ y1 with m := r11.2.1 } : EnvP), ())
   else
   (pClass y0.level y1.c.levels y1.c.classes).bind fun r12 =>
   if y1.c.classes = y1.c.classes then
    if y0.j = y0.j then
     if y1.l.workers = y1.l.workers then
      if y1.l.levels = y1.l.levels then
       if y1.l.classes = y1.l.classes then
        if y1.l.tasks = y1.l.tasks then
         if y1.l.deque = y1.l.deque then
          if y1.l.heap = y1.l.heap then
           if y1.l.sleepers = y1.l.sleepers then
            if y1.l.epochs = y1.l.epochs then
             if y1.l.bitmaps = y1.l.bitmaps then
              if y1.l.queues = y1.l.queues then
               if y1.l.table = y1.l.table then
                (pMod (wi (r12.1.1 + y0.j)) y1.c.classes).bind fun r13 =>
                if y1.l.workers = y1.l.workers then
                 if y1.l.levels = y1.l.levels then
                  if y1.l.classes = y1.l.classes then
                   if y1.l.tasks = y1.l.tasks then
                    if y1.l.deque = y1.l.deque then
                     if y1.l.heap = y1.l.heap then
                      if y1.l.sleepers = y1.l.sleepers then
                       if y1.l.epochs = y1.l.epochs then
                        if y1.l.bitmaps = y1.l.bitmaps then
                         if y1.l.queues = y1.l.queues then
                          if y1.l.table = y1.l.table then
                           (pSleepers y1.l r13.1.1).bind fun r14 =>
                           (pAnd y1.m r14.1.1 (cplU r10.1.1)).bind fun r15 =>
                           some (decide ((andU r15.1.1 r10.1.1) = 0), ({ y1 with m := r15.2.1 } : EnvP), ())
                          else none
                         else none
                        else none
                       else none
                      else none
                     else none
                    else none
                   else none
                  else none
                 else none
                else none
               else none
              else none
             else none
            else none
           else none
          else none
         else none
        else none
       else none
      else none
     else none
    else none
   else none
  ) : Option (Bool × EnvP × Unit)).bind fun z16 =>
  if z16.1 = true then
   (pEnd r1.2.1 4 0).bind fun r17 =>
   some ((r17.1.1, ()), (({ y0 with o := r17.2.1 } : WakeV), z16.2.1, ()))
  else
  some ((false, ()), (({ y0 with o := r1.2.1, line := 3 } : WakeV), z16.2.1, ()))
 else
 (pEpoch y1.l y0.v).bind fun r18 =>
 (pAdd y1.m r18.1.1 1).bind fun r19 =>
 (pEmit ({ y1 with m := r19.2.1 } : EnvP) (⟨18, y0.me, 0, y0.v, 0⟩ : Ev)).bind fun r20 =>
 (pEnd r1.2.1 1 y0.v).bind fun r21 =>
 some ((r21.1.1, ()), (({ y0 with o := r21.2.1 } : WakeV), r20.2.1, ()))
noncomputable abbrev parkWakeStep_k : Con SR1 := ⟨277, [.ref 38, .ref 27], [.sh .b], fun x => parkWakeStep x.1 x.2.1⟩
noncomputable def parkWakeStep_tb : List (Nat × Func) := [(278, Tryz.f278)]
theorem parkWakeStep_ok : CO Tryz.prog parkWakeStep_k := co_fn mixed Tryz.func277 [pEnded_k, pLoad_k, pClass_k, pMod_k, pSleepers_k, pLow_k, pEnd_k, pBit_k, pAnd_k, pEpoch_k, pAdd_k, pEmit_k] ⟨pEnded_ok, pLoad_ok, pClass_ok, pMod_ok, pSleepers_ok, pLow_ok, pEnd_ok, pBit_ok, pAnd_ok, pEpoch_ok, pAdd_ok, pEmit_ok, trivial⟩ parkWakeStep_tb ⟨Tryz.func278, trivial⟩ (fun _ => []) [(9, .cut [.rg 5 sU_, .ob 1 27] [0]), (18, .cut [.rg 108 .b, .ob 1 27] [0])] fun x => by kernel_rfl
noncomputable def boostFits (y0 : EnvP) (y1 : Int) (y2 : Int) : Option ((Bool × Unit) × (EnvP × Unit)) :=
 if 0 ≤ y1 then
  if y1 < y0.c.tasks then
   if 0 ≤ y2 then
    some ((decide (y2 < y0.c.levels), ()), (y0, ()))
   else
   some ((false, ()), (y0, ()))
  else
  some ((false, ()), (y0, ()))
 else
 some ((false, ()), (y0, ()))
noncomputable abbrev boostFits_k : Con SR1 := ⟨286, [.ref 27, .sh sI_, .sh sI_], [.sh .b], fun x => boostFits x.1 x.2.1 x.2.2.1⟩
theorem boostFits_ok : CO Tryz.prog boostFits_k := co_fn mixed Tryz.func286 [] trivial [] trivial (fun _ => []) [] fun x => by kernel_rfl
noncomputable def boostRaiseStep (y0 : RaiseV) (y1 : EnvP) : Option ((Bool × Unit) × (RaiseV × EnvP × Unit)) :=
 (pEnded y0.o).bind fun r1 =>
 if r1.1.1 = true then
  some ((true, ()), (({ y0 with o := r1.2.1 } : RaiseV), y1, ()))
 else
 (boostFits y1 y0.task y0.level).bind fun r2 =>
 if (!r2.1.1) = true then
  (pEnd r1.2.1 4 0).bind fun r3 =>
  some ((r3.1.1, ()), (({ y0 with o := r3.2.1 } : RaiseV), r2.2.1, ()))
 else
 if y0.line = 1 then
  (pLevel r2.2.1.l y0.task).bind fun r4 =>
  (pLoad r2.2.1.m r4.1.1).bind fun r5 =>
  if y0.level ≤ (wi (r5.1.1)) then
   (pEnd r1.2.1 0 0).bind fun r6 =>
   some ((r6.1.1, ()), (({ y0 with o := r6.2.1, q := r5.1.1 } : RaiseV), ({ r2.2.1 with m := r5.2.1 } : EnvP), ()))
  else
  some ((false, ()), (({ y0 with o := r1.2.1, line := 2, q := r5.1.1 } : RaiseV), ({ r2.2.1 with m := r5.2.1 } : EnvP), ()))
 else
 (pLevel r2.2.1.l y0.task).bind fun r7 =>
 if y0.level = y0.level then
  if y0.q = y0.q then
   (pCAS r2.2.1.m r7.1.1 y0.q (wu (y0.level))).bind fun r8 =>
   if r8.1.1 = true then
    (pEmit ({ r2.2.1 with m := r8.2.1 } : EnvP) ({ y0 with kind := 11, other := 0 } : Ev)).bind fun r9 =>
    (pEnd r1.2.1 1 0).bind fun r10 =>
    some ((r10.1.1, ()), (({ y0 with o := r10.2.1 } : RaiseV), r9.2.1, ()))
   else
   some ((false, ()), (({ y0 with o := r1.2.1, line := 1 } : RaiseV), ({ r2.2.1 with m := r8.2.1 } : EnvP), ()))
  else none
 else none
noncomputable abbrev boostRaiseStep_k : Con SR1 := ⟨315, [.ref 55, .ref 27], [.sh .b], fun x => boostRaiseStep x.1 x.2.1⟩
theorem boostRaiseStep_ok : CO Tryz.prog boostRaiseStep_k := co_fn mixed Tryz.func315 [pEnded_k, boostFits_k, pEnd_k, pLevel_k, pLoad_k, pCAS_k, pEmit_k] ⟨pEnded_ok, boostFits_ok, pEnd_ok, pLevel_ok, pLoad_ok, pCAS_ok, pEmit_ok, trivial⟩ [] trivial (fun _ => []) [] fun x => by kernel_rfl
noncomputable def stepD0 (m : MV) (e : EnvP) : Option ((Bool × Unit) × (MV × EnvP × Unit)) :=
 match m with
 | .alloc x => (tableAllocateStep x e).bind fun o => some (o.1, (MV.alloc o.2.1, o.2.2))
 | .publish x => (tablePublishStep x e).bind fun o => some (o.1, (MV.publish o.2.1, o.2.2))
 | .claim x => (tableClaimStep x e).bind fun o => some (o.1, (MV.claim o.2.1, o.2.2))
 | .attempt x => (lockAttemptStep x e).bind fun o => some (o.1, (MV.attempt o.2.1, o.2.2))
 | .release x => (lockReleaseStep x e).bind fun o => some (o.1, (MV.release o.2.1, o.2.2))
 | .opush x => (ownerPushStep x e).bind fun o => some (o.1, (MV.opush o.2.1, o.2.2))
 | .opop x => (ownerPopStep x e).bind fun o => some (o.1, (MV.opop o.2.1, o.2.2))
 | .steal x => (thiefStealStep x e).bind fun o => some (o.1, (MV.steal o.2.1, o.2.2))
 | .set x => (bitmapSetStep x e).bind fun o => some (o.1, (MV.set o.2.1, o.2.2))
 | .reset x => (bitmapResetStep x e).bind fun o => some (o.1, (MV.reset o.2.1, o.2.2))
 | .insert x => (injectorInsertStep x e).bind fun o => some (o.1, (MV.insert o.2.1, o.2.2))
 | .remove x => (injectorRemoveStep x e).bind fun o => some (o.1, (MV.remove o.2.1, o.2.2))
 | .sleep x => (parkSleepStep x e).bind fun o => some (o.1, (MV.sleep o.2.1, o.2.2))
 | .wake x => (parkWakeStep x e).bind fun o => some (o.1, (MV.wake o.2.1, o.2.2))
 | .raise x => (boostRaiseStep x e).bind fun o => some (o.1, (MV.raise o.2.1, o.2.2))
 | .probe x => (probeProbeStep x e).bind fun o => some (o.1, (MV.probe o.2.1, o.2.2))
 | _ => none
noncomputable abbrev stepD0_k : Con SR1 := ⟨1000000000, [.mch, .ref 27], [.sh .b], fun x => stepD0 x.1 x.2.1⟩
theorem stepD0_ok : CO Tryz.prog stepD0_k := co_meth (S := SR1) (i := 0) (ps := [.ref 27]) (rs := [.sh .b]) (spec := fun m xs => stepD0 m xs.1) fun m xs out h => by
  cases m with
  | alloc x => exact via_ok (S := SR1) (ps := [.ref 27]) (rs := [.sh .b]) (c := 35) (mk := MV.alloc) (fun _ => rfl) rfl (fun _ _ _ _ => by kernel_rfl) tableAllocateStep_ok h
  | publish x => exact via_ok (S := SR1) (ps := [.ref 27]) (rs := [.sh .b]) (c := 50) (mk := MV.publish) (fun _ => rfl) rfl (fun _ _ _ _ => by kernel_rfl) tablePublishStep_ok h
  | claim x => exact via_ok (S := SR1) (ps := [.ref 27]) (rs := [.sh .b]) (c := 45) (mk := MV.claim) (fun _ => rfl) rfl (fun _ _ _ _ => by kernel_rfl) tableClaimStep_ok h
  | attempt x => exact via_ok (S := SR1) (ps := [.ref 27]) (rs := [.sh .b]) (c := 34) (mk := MV.attempt) (fun _ => rfl) rfl (fun _ _ _ _ => by kernel_rfl) lockAttemptStep_ok h
  | release x => exact via_ok (S := SR1) (ps := [.ref 27]) (rs := [.sh .b]) (c := 37) (mk := MV.release) (fun _ => rfl) rfl (fun _ _ _ _ => by kernel_rfl) lockReleaseStep_ok h
  | opush x => exact via_ok (S := SR1) (ps := [.ref 27]) (rs := [.sh .b]) (c := 53) (mk := MV.opush) (fun _ => rfl) rfl (fun _ _ _ _ => by kernel_rfl) ownerPushStep_ok h
  | opop x => exact via_ok (S := SR1) (ps := [.ref 27]) (rs := [.sh .b]) (c := 52) (mk := MV.opop) (fun _ => rfl) rfl (fun _ _ _ _ => by kernel_rfl) ownerPopStep_ok h
  | steal x => exact via_ok (S := SR1) (ps := [.ref 27]) (rs := [.sh .b]) (c := 42) (mk := MV.steal) (fun _ => rfl) rfl (fun _ _ _ _ => by kernel_rfl) thiefStealStep_ok h
  | set x => exact via_ok (S := SR1) (ps := [.ref 27]) (rs := [.sh .b]) (c := 54) (mk := MV.set) (fun _ => rfl) rfl (fun _ _ _ _ => by kernel_rfl) bitmapSetStep_ok h
  | reset x => exact via_ok (S := SR1) (ps := [.ref 27]) (rs := [.sh .b]) (c := 43) (mk := MV.reset) (fun _ => rfl) rfl (fun _ _ _ _ => by kernel_rfl) bitmapResetStep_ok h
  | insert x => exact via_ok (S := SR1) (ps := [.ref 27]) (rs := [.sh .b]) (c := 36) (mk := MV.insert) (fun _ => rfl) rfl (fun _ _ _ _ => by kernel_rfl) injectorInsertStep_ok h
  | remove x => exact via_ok (S := SR1) (ps := [.ref 27]) (rs := [.sh .b]) (c := 51) (mk := MV.remove) (fun _ => rfl) rfl (fun _ _ _ _ => by kernel_rfl) injectorRemoveStep_ok h
  | sleep x => exact via_ok (S := SR1) (ps := [.ref 27]) (rs := [.sh .b]) (c := 32) (mk := MV.sleep) (fun _ => rfl) rfl (fun _ _ _ _ => by kernel_rfl) parkSleepStep_ok h
  | wake x => exact via_ok (S := SR1) (ps := [.ref 27]) (rs := [.sh .b]) (c := 38) (mk := MV.wake) (fun _ => rfl) rfl (fun _ _ _ _ => by kernel_rfl) parkWakeStep_ok h
  | raise x => exact via_ok (S := SR1) (ps := [.ref 27]) (rs := [.sh .b]) (c := 55) (mk := MV.raise) (fun _ => rfl) rfl (fun _ _ _ _ => by kernel_rfl) boostRaiseStep_ok h
  | probe x => exact via_ok (S := SR1) (ps := [.ref 27]) (rs := [.sh .b]) (c := 46) (mk := MV.probe) (fun _ => rfl) rfl (fun _ _ _ _ => by kernel_rfl) probeProbeStep_ok h
  | _ => cases h
noncomputable def resultD0 (m : MV) : Option ((Int × Int × Unit) × (MV × Unit)) :=
 match m with
 | .alloc x => some ((x.o.code, x.o.value, ()), (MV.alloc x, ()))
 | .publish x => some ((x.o.code, x.o.value, ()), (MV.publish x, ()))
 | .claim x => some ((x.o.code, x.o.value, ()), (MV.claim x, ()))
 | .attempt x => some ((x.o.code, x.o.value, ()), (MV.attempt x, ()))
 | .release x => some ((x.o.code, x.o.value, ()), (MV.release x, ()))
 | .opush x => some ((x.o.code, x.o.value, ()), (MV.opush x, ()))
 | .opop x => some ((x.o.code, x.o.value, ()), (MV.opop x, ()))
 | .steal x => some ((x.o.code, x.o.value, ()), (MV.steal x, ()))
 | .set x => some ((x.o.code, x.o.value, ()), (MV.set x, ()))
 | .reset x => some ((x.o.code, x.o.value, ()), (MV.reset x, ()))
 | .insert x => some ((x.o.code, x.o.value, ()), (MV.insert x, ()))
 | .remove x => some ((x.o.code, x.o.value, ()), (MV.remove x, ()))
 | .sleep x => some ((x.o.code, x.o.value, ()), (MV.sleep x, ()))
 | .wake x => some ((x.o.code, x.o.value, ()), (MV.wake x, ()))
 | .raise x => some ((x.o.code, x.o.value, ()), (MV.raise x, ()))
 | .probe x => some ((x.o.code, x.o.value, ()), (MV.probe x, ()))
 | _ => none
noncomputable abbrev resultD0_k : Con SR1 := ⟨1000000001, [.mch], [.sh sI_, .sh sI_], fun x => resultD0 x.1⟩
theorem resultD0_ok : CO Tryz.prog resultD0_k := co_meth (S := SR1) (i := 1) (ps := []) (rs := [.sh sI_, .sh sI_]) (spec := fun m _ => resultD0 m) fun m xs out h => by
  cases m with
  | alloc x => exact via_ok (S := SR1) (ps := []) (rs := [.sh sI_, .sh sI_]) (c := 35) (mk := MV.alloc) (f := 172) (sp := fun x => some ((x.1.o.code, x.1.o.value, ()), (x.1, ()))) (fun _ => rfl) rfl (fun _ _ _ _ => by kernel_rfl) (co_like [pResult_k] ⟨pResult_ok, trivial⟩ fun x => by kernel_rfl) h
  | publish x => exact via_ok (S := SR1) (ps := []) (rs := [.sh sI_, .sh sI_]) (c := 50) (mk := MV.publish) (f := 172) (sp := fun x => some ((x.1.o.code, x.1.o.value, ()), (x.1, ()))) (fun _ => rfl) rfl (fun _ _ _ _ => by kernel_rfl) (co_like [pResult_k] ⟨pResult_ok, trivial⟩ fun x => by kernel_rfl) h
  | claim x => exact via_ok (S := SR1) (ps := []) (rs := [.sh sI_, .sh sI_]) (c := 45) (mk := MV.claim) (f := 172) (sp := fun x => some ((x.1.o.code, x.1.o.value, ()), (x.1, ()))) (fun _ => rfl) rfl (fun _ _ _ _ => by kernel_rfl) (co_like [pResult_k] ⟨pResult_ok, trivial⟩ fun x => by kernel_rfl) h
  | attempt x => exact via_ok (S := SR1) (ps := []) (rs := [.sh sI_, .sh sI_]) (c := 34) (mk := MV.attempt) (f := 172) (sp := fun x => some ((x.1.o.code, x.1.o.value, ()), (x.1, ()))) (fun _ => rfl) rfl (fun _ _ _ _ => by kernel_rfl) (co_like [pResult_k] ⟨pResult_ok, trivial⟩ fun x => by kernel_rfl) h
  | release x => exact via_ok (S := SR1) (ps := []) (rs := [.sh sI_, .sh sI_]) (c := 37) (mk := MV.release) (f := 172) (sp := fun x => some ((x.1.o.code, x.1.o.value, ()), (x.1, ()))) (fun _ => rfl) rfl (fun _ _ _ _ => by kernel_rfl) (co_like [pResult_k] ⟨pResult_ok, trivial⟩ fun x => by kernel_rfl) h
  | opush x => exact via_ok (S := SR1) (ps := []) (rs := [.sh sI_, .sh sI_]) (c := 53) (mk := MV.opush) (f := 172) (sp := fun x => some ((x.1.o.code, x.1.o.value, ()), (x.1, ()))) (fun _ => rfl) rfl (fun _ _ _ _ => by kernel_rfl) (co_like [pResult_k] ⟨pResult_ok, trivial⟩ fun x => by kernel_rfl) h
  | opop x => exact via_ok (S := SR1) (ps := []) (rs := [.sh sI_, .sh sI_]) (c := 52) (mk := MV.opop) (f := 172) (sp := fun x => some ((x.1.o.code, x.1.o.value, ()), (x.1, ()))) (fun _ => rfl) rfl (fun _ _ _ _ => by kernel_rfl) (co_like [pResult_k] ⟨pResult_ok, trivial⟩ fun x => by kernel_rfl) h
  | steal x => exact via_ok (S := SR1) (ps := []) (rs := [.sh sI_, .sh sI_]) (c := 42) (mk := MV.steal) (f := 172) (sp := fun x => some ((x.1.o.code, x.1.o.value, ()), (x.1, ()))) (fun _ => rfl) rfl (fun _ _ _ _ => by kernel_rfl) (co_like [pResult_k] ⟨pResult_ok, trivial⟩ fun x => by kernel_rfl) h
  | set x => exact via_ok (S := SR1) (ps := []) (rs := [.sh sI_, .sh sI_]) (c := 54) (mk := MV.set) (f := 172) (sp := fun x => some ((x.1.o.code, x.1.o.value, ()), (x.1, ()))) (fun _ => rfl) rfl (fun _ _ _ _ => by kernel_rfl) (co_like [pResult_k] ⟨pResult_ok, trivial⟩ fun x => by kernel_rfl) h
  | reset x => exact via_ok (S := SR1) (ps := []) (rs := [.sh sI_, .sh sI_]) (c := 43) (mk := MV.reset) (f := 172) (sp := fun x => some ((x.1.o.code, x.1.o.value, ()), (x.1, ()))) (fun _ => rfl) rfl (fun _ _ _ _ => by kernel_rfl) (co_like [pResult_k] ⟨pResult_ok, trivial⟩ fun x => by kernel_rfl) h
  | insert x => exact via_ok (S := SR1) (ps := []) (rs := [.sh sI_, .sh sI_]) (c := 36) (mk := MV.insert) (f := 172) (sp := fun x => some ((x.1.o.code, x.1.o.value, ()), (x.1, ()))) (fun _ => rfl) rfl (fun _ _ _ _ => by kernel_rfl) (co_like [pResult_k] ⟨pResult_ok, trivial⟩ fun x => by kernel_rfl) h
  | remove x => exact via_ok (S := SR1) (ps := []) (rs := [.sh sI_, .sh sI_]) (c := 51) (mk := MV.remove) (f := 172) (sp := fun x => some ((x.1.o.code, x.1.o.value, ()), (x.1, ()))) (fun _ => rfl) rfl (fun _ _ _ _ => by kernel_rfl) (co_like [pResult_k] ⟨pResult_ok, trivial⟩ fun x => by kernel_rfl) h
  | sleep x => exact via_ok (S := SR1) (ps := []) (rs := [.sh sI_, .sh sI_]) (c := 32) (mk := MV.sleep) (f := 172) (sp := fun x => some ((x.1.o.code, x.1.o.value, ()), (x.1, ()))) (fun _ => rfl) rfl (fun _ _ _ _ => by kernel_rfl) (co_like [pResult_k] ⟨pResult_ok, trivial⟩ fun x => by kernel_rfl) h
  | wake x => exact via_ok (S := SR1) (ps := []) (rs := [.sh sI_, .sh sI_]) (c := 38) (mk := MV.wake) (f := 172) (sp := fun x => some ((x.1.o.code, x.1.o.value, ()), (x.1, ()))) (fun _ => rfl) rfl (fun _ _ _ _ => by kernel_rfl) (co_like [pResult_k] ⟨pResult_ok, trivial⟩ fun x => by kernel_rfl) h
  | raise x => exact via_ok (S := SR1) (ps := []) (rs := [.sh sI_, .sh sI_]) (c := 55) (mk := MV.raise) (f := 172) (sp := fun x => some ((x.1.o.code, x.1.o.value, ()), (x.1, ()))) (fun _ => rfl) rfl (fun _ _ _ _ => by kernel_rfl) (co_like [pResult_k] ⟨pResult_ok, trivial⟩ fun x => by kernel_rfl) h
  | probe x => exact via_ok (S := SR1) (ps := []) (rs := [.sh sI_, .sh sI_]) (c := 46) (mk := MV.probe) (f := 172) (sp := fun x => some ((x.1.o.code, x.1.o.value, ()), (x.1, ()))) (fun _ => rfl) rfl (fun _ _ _ _ => by kernel_rfl) (co_like [pResult_k] ⟨pResult_ok, trivial⟩ fun x => by kernel_rfl) h
  | _ => cases h
noncomputable def ownerPush (y0 : QV) (y1 : Int) : Option ((MV × Unit) × (Unit)) :=
 some ((MV.opush (⟨⟨false, 0, 0⟩, y0, y1, 1, 0⟩ : OPushV), ()), (()))
noncomputable abbrev ownerPush_k : Con SR1 := ⟨274, [.val 14, .sh sI_], [.sh .mach], fun x => ownerPush x.1 x.2.1⟩
theorem ownerPush_ok : CO Tryz.prog ownerPush_k := co_fn mixed Tryz.func274 [] trivial [] trivial (fun _ => []) [] fun x => by kernel_rfl
noncomputable def bitmapSet (y0 : Int) (y1 : Int) : Option ((MV × Unit) × (Unit)) :=
 some ((MV.set (⟨⟨false, 0, 0⟩, y0, y1⟩ : SetV), ()), (()))
noncomputable abbrev bitmapSet_k : Con SR1 := ⟨275, [.sh sI_, .sh sI_], [.sh .mach], fun x => bitmapSet x.1 x.2.1⟩
theorem bitmapSet_ok : CO Tryz.prog bitmapSet_k := co_fn mixed Tryz.func275 [] trivial [] trivial (fun _ => []) [] fun x => by kernel_rfl
noncomputable def levelsPushStep (y0 : (LPushV MV)) (y1 : EnvP) : Option ((Bool × Unit) × ((LPushV MV) × EnvP × Unit)) :=
 (pEnded y0.o).bind fun r1 =>
 if r1.1.1 = true then
  some ((true, ()), (({ y0 with o := r1.2.1 } : (LPushV MV)), y1, ()))
 else
 if (SR1.spl y0.inside).isNone = true then
  (pQueue y1.l y0.worker y0.level).bind fun r2 =>
  if y0.value = y0.value then
   (ownerPush r2.1.1 y0.value).bind fun r3 =>
   (stepD0 r3.1.1 y1).bind fun r4 =>
   if (!r4.1.1) = true then
    some ((false, ()), (({ y0 with o := r1.2.1, inside := r4.2.1 } : (LPushV MV)), r4.2.2.1, ()))
   else
   (resultD0 r4.2.1).bind fun r5 =>
   if r5.1.1 = 3 then
    (pEnd r1.2.1 3 0).bind fun r6 =>
    some ((r6.1.1, ()), (({ y0 with o := r6.2.1, inside := r5.2.1 } : (LPushV MV)), r4.2.2.1, ()))
   else
   if y0.line = 2 then
    (pEnd r1.2.1 0 0).bind fun r7 =>
    some ((r7.1.1, ()), (({ y0 with o := r7.2.1, inside := r5.2.1 } : (LPushV MV)), r4.2.2.1, ()))
   else
   (pBitmap r4.2.2.1.l y0.worker).bind fun r8 =>
   if y0.level = y0.level then
    (bitmapSet r8.1.1 y0.level).bind fun r9 =>
    some ((false, ()), (({ y0 with o := r1.2.1, line := 2, inside := r9.1.1 } : (LPushV MV)), r4.2.2.1, ()))
   else none
  else none
 else
 (stepD0 y0.inside y1).bind fun r10 =>
 if (!r10.1.1) = true then
  some ((false, ()), (({ y0 with o := r1.2.1, inside := r10.2.1 } : (LPushV MV)), r10.2.2.1, ()))
 else
 (resultD0 r10.2.1).bind fun r11 =>
 if r11.1.1 = 3 then
  (pEnd r1.2.1 3 0).bind fun r12 =>
  some ((r12.1.1, ()), (({ y0 with o := r12.2.1, inside := r11.2.1 } : (LPushV MV)), r10.2.2.1, ()))
 else
 if y0.line = 2 then
  (pEnd r1.2.1 0 0).bind fun r13 =>
  some ((r13.1.1, ()), (({ y0 with o := r13.2.1, inside := r11.2.1 } : (LPushV MV)), r10.2.2.1, ()))
 else
 (pBitmap r10.2.2.1.l y0.worker).bind fun r14 =>
 if y0.level = y0.level then
  (bitmapSet r14.1.1 y0.level).bind fun r15 =>
  some ((false, ()), (({ y0 with o := r1.2.1, line := 2, inside := r15.1.1 } : (LPushV MV)), r10.2.2.1, ()))
 else none
noncomputable abbrev levelsPushStep_k : Con SR1 := ⟨273, [.ref 47, .ref 27], [.sh .b], fun x => levelsPushStep x.1 x.2.1⟩
theorem levelsPushStep_ok : CO Tryz.prog levelsPushStep_k := co_fn mixed Tryz.func273 [pEnded_k, pQueue_k, ownerPush_k, stepD0_k, resultD0_k, pEnd_k, pBitmap_k, bitmapSet_k] ⟨pEnded_ok, pQueue_ok, ownerPush_ok, stepD0_ok, resultD0_ok, pEnd_ok, pBitmap_ok, bitmapSet_ok, trivial⟩ [] trivial (fun _ => []) [] fun x => by kernel_rfl
noncomputable def ownerPop (y0 : QV) : Option ((MV × Unit) × (Unit)) :=
 some ((MV.opop (⟨⟨false, 0, 0⟩, y0, 1, 0, 0⟩ : OPopV), ()), (()))
noncomputable abbrev ownerPop_k : Con SR1 := ⟨264, [.val 14], [.sh .mach], fun x => ownerPop x.1⟩
theorem ownerPop_ok : CO Tryz.prog ownerPop_k := co_fn mixed Tryz.func264 [] trivial [] trivial (fun _ => []) [] fun x => by kernel_rfl
noncomputable def levelsPopLook (y0 : (LPopV MV)) (y1 : EnvP) : Option ((Bool × Unit) × ((LPopV MV) × EnvP × Unit)) :=
 (pBitmap y1.l y0.worker).bind fun r1 =>
 (pLoad y1.m r1.1.1).bind fun r2 =>
 if r2.1.1 = 0 then
  (pEnd y0.o 2 0).bind fun r3 =>
  some ((r3.1.1, ()), (({ y0 with o := r3.2.1 } : (LPopV MV)), ({ y1 with m := r2.2.1 } : EnvP), ()))
 else
 (pHigh r2.1.1).bind fun r4 =>
 (pQueue y1.l y0.worker r4.1.1).bind fun r5 =>
 (ownerPop r5.1.1).bind fun r6 =>
 some ((false, ()), (({ y0 with level := r4.1.1, line := 2, inside := r6.1.1 } : (LPopV MV)), ({ y1 with m := r2.2.1 } : EnvP), ()))
noncomputable abbrev levelsPopLook_k : Con SR1 := ⟨262, [.ref 44, .ref 27], [.sh .b], fun x => levelsPopLook x.1 x.2.1⟩
theorem levelsPopLook_ok : CO Tryz.prog levelsPopLook_k := co_fn mixed Tryz.func262 [pBitmap_k, pLoad_k, pEnd_k, pHigh_k, pQueue_k, ownerPop_k] ⟨pBitmap_ok, pLoad_ok, pEnd_ok, pHigh_ok, pQueue_ok, ownerPop_ok, trivial⟩ [] trivial (fun _ => []) [] fun x => by kernel_rfl
noncomputable def bitmapClear (y0 : Int) (y1 : Int) (y2 : QV) : Option ((MV × Unit) × (Unit)) :=
 some ((MV.reset (⟨⟨false, 0, 0⟩, y0, y1, y2, 1, 0⟩ : ResetV), ()), (()))
noncomputable abbrev bitmapClear_k : Con SR1 := ⟨135, [.sh sI_, .sh sI_, .val 14], [.sh .mach], fun x => bitmapClear x.1 x.2.1 x.2.2.1⟩
theorem bitmapClear_ok : CO Tryz.prog bitmapClear_k := co_fn mixed Tryz.func135 [] trivial [] trivial (fun _ => []) [] fun x => by kernel_rfl
noncomputable def levelsPopStep (y0 : (LPopV MV)) (y1 : EnvP) : Option ((Bool × Unit) × ((LPopV MV) × EnvP × Unit)) :=
 (pEnded y0.o).bind fun r1 =>
 if r1.1.1 = true then
  some ((true, ()), (({ y0 with o := r1.2.1 } : (LPopV MV)), y1, ()))
 else
 if y0.line = 1 then
  (levelsPopLook ({ y0 with o := r1.2.1 } : (LPopV MV)) y1).bind fun r2 =>
  some ((r2.1.1, ()), (r2.2.1, r2.2.2.1, ()))
 else
 (stepD0 y0.inside y1).bind fun r3 =>
 if (!r3.1.1) = true then
  some ((false, ()), (({ y0 with o := r1.2.1, inside := r3.2.1 } : (LPopV MV)), r3.2.2.1, ()))
 else
 (resultD0 r3.2.1).bind fun r4 =>
 if y0.line = 3 then
  some ((false, ()), (({ y0 with o := r1.2.1, line := 1, inside := MV.nil } : (LPopV MV)), r3.2.2.1, ()))
 else
 if r4.1.1 = 1 then
  (pEnd r1.2.1 1 r4.1.2.1).bind fun r5 =>
  some ((r5.1.1, ()), (({ y0 with o := r5.2.1, inside := r4.2.1 } : (LPopV MV)), r3.2.2.1, ()))
 else
 (pBitmap r3.2.2.1.l y0.worker).bind fun r6 =>
 if y0.level = y0.level then
  if y0.worker = y0.worker then
   if r3.2.2.1.l.workers = r3.2.2.1.l.workers then
    if r3.2.2.1.l.levels = r3.2.2.1.l.levels then
     if r3.2.2.1.l.classes = r3.2.2.1.l.classes then
      if r3.2.2.1.l.tasks = r3.2.2.1.l.tasks then
       if r3.2.2.1.l.deque = r3.2.2.1.l.deque then
        if r3.2.2.1.l.heap = r3.2.2.1.l.heap then
         if r3.2.2.1.l.sleepers = r3.2.2.1.l.sleepers then
          if r3.2.2.1.l.epochs = r3.2.2.1.l.epochs then
           if r3.2.2.1.l.bitmaps = r3.2.2.1.l.bitmaps then
            if r3.2.2.1.l.queues = r3.2.2.1.l.queues then
             if r3.2.2.1.l.table = r3.2.2.1.l.table then
              if y0.level = y0.level then
               (pQueue r3.2.2.1.l y0.worker y0.level).bind fun r7 =>
               if y0.level = y0.level then
                (bitmapClear r6.1.1 y0.level r7.1.1).bind fun r8 =>
                some ((false, ()), (({ y0 with o := r1.2.1, line := 3, inside := r8.1.1 } : (LPopV MV)), r3.2.2.1, ()))
               else none
              else none
             else none
            else none
           else none
          else none
         else none
        else none
       else none
      else none
     else none
    else none
   else none
  else none
 else none
noncomputable abbrev levelsPopStep_k : Con SR1 := ⟨261, [.ref 44, .ref 27], [.sh .b], fun x => levelsPopStep x.1 x.2.1⟩
theorem levelsPopStep_ok : CO Tryz.prog levelsPopStep_k := co_fn mixed Tryz.func261 [pEnded_k, levelsPopLook_k, stepD0_k, resultD0_k, pEnd_k, pBitmap_k, pQueue_k, bitmapClear_k] ⟨pEnded_ok, levelsPopLook_ok, stepD0_ok, resultD0_ok, pEnd_ok, pBitmap_ok, pQueue_ok, bitmapClear_ok, trivial⟩ [] trivial (fun _ => []) [] fun x => by kernel_rfl
noncomputable def boostRaise (y0 : Int) (y1 : Int) (y2 : Int) : Option ((MV × Unit) × (Unit)) :=
 some ((MV.raise (⟨⟨false, 0, 0⟩, y0, y1, y2, 1, 0⟩ : RaiseV), ()), (()))
noncomputable abbrev boostRaise_k : Con SR1 := ⟨287, [.sh sI_, .sh sI_, .sh sI_], [.sh .mach], fun x => boostRaise x.1 x.2.1 x.2.2.1⟩
theorem boostRaise_ok : CO Tryz.prog boostRaise_k := co_fn mixed Tryz.func287 [] trivial [] trivial (fun _ => []) [] fun x => by kernel_rfl
noncomputable def boostWalkRaise (y0 : (WalkV MV)) (y1 : EnvP) : Option ((Bool × Unit) × ((WalkV MV) × EnvP × Unit)) :=
 if (SR1.spl y0.inside).isNone = true then
  (boostFits y1 y0.task y0.level).bind fun r1 =>
  if (!r1.1.1) = true then
   (pEnd y0.o 4 0).bind fun r2 =>
   some ((r2.1.1, ()), (({ y0 with o := r2.2.1 } : (WalkV MV)), r1.2.1, ()))
  else
  (boostRaise y0.worker y0.task y0.level).bind fun r3 =>
  (stepD0 r3.1.1 r1.2.1).bind fun r4 =>
  if (!r4.1.1) = true then
   some ((false, ()), (({ y0 with inside := r4.2.1 } : (WalkV MV)), r4.2.2.1, ()))
  else
  (resultD0 r4.2.1).bind fun r5 =>
  if r5.1.1 = 1 then
   some ((false, ()), (({ y0 with line := 2, inside := MV.nil } : (WalkV MV)), r4.2.2.1, ()))
  else
  some ((false, ()), (({ y0 with line := 4, inside := MV.nil } : (WalkV MV)), r4.2.2.1, ()))
 else
 (stepD0 y0.inside y1).bind fun r6 =>
 if (!r6.1.1) = true then
  some ((false, ()), (({ y0 with inside := r6.2.1 } : (WalkV MV)), r6.2.2.1, ()))
 else
 (resultD0 r6.2.1).bind fun r7 =>
 if r7.1.1 = 1 then
  some ((false, ()), (({ y0 with line := 2, inside := MV.nil } : (WalkV MV)), r6.2.2.1, ()))
 else
 some ((false, ()), (({ y0 with line := 4, inside := MV.nil } : (WalkV MV)), r6.2.2.1, ()))
noncomputable abbrev boostWalkRaise_k : Con SR1 := ⟨284, [.ref 48, .ref 27], [.sh .b], fun x => boostWalkRaise x.1 x.2.1⟩
theorem boostWalkRaise_ok : CO Tryz.prog boostWalkRaise_k := co_fn mixed Tryz.func284 [boostFits_k, pEnd_k, boostRaise_k, stepD0_k, resultD0_k] ⟨boostFits_ok, pEnd_ok, boostRaise_ok, stepD0_ok, resultD0_ok, trivial⟩ [] trivial (fun _ => []) [] fun x => by kernel_rfl
noncomputable def levelsPush (y0 : Int) (y1 : Int) (y2 : Int) : Option ((MV × Unit) × (Unit)) :=
 some ((MV.lpush (⟨⟨false, 0, 0⟩, y0, y1, y2, 1, MV.nil⟩ : (LPushV MV)), ()), (()))
noncomputable abbrev levelsPush_k : Con SR1 := ⟨189, [.sh sI_, .sh sI_, .sh sI_], [.sh .mach], fun x => levelsPush x.1 x.2.1 x.2.2.1⟩
theorem levelsPush_ok : CO Tryz.prog levelsPush_k := co_fn mixed Tryz.func189 [] trivial [] trivial (fun _ => []) [] fun x => by kernel_rfl
noncomputable def boostWalkPush (y0 : (WalkV MV)) (y1 : EnvP) : Option ((Unit) × ((WalkV MV) × EnvP × Unit)) :=
 (stepD0 y0.inside y1).bind fun r1 =>
 if (!r1.1.1) = true then
  some ((()), (({ y0 with inside := r1.2.1 } : (WalkV MV)), r1.2.2.1, ()))
 else
 (resultD0 r1.2.1).bind fun r2 =>
 if r2.1.1 = 3 then
  (pEmit r1.2.2.1 ({ y0 with kind := 19, other := 0 } : Ev)).bind fun r3 =>
  some ((()), (({ y0 with line := 4, inside := MV.nil } : (WalkV MV)), r3.2.1, ()))
 else
 some ((()), (({ y0 with line := 4, inside := MV.nil } : (WalkV MV)), r1.2.2.1, ()))
noncomputable abbrev boostWalkPush_k : Con SR1 := ⟨285, [.ref 48, .ref 27], [], fun x => boostWalkPush x.1 x.2.1⟩
theorem boostWalkPush_ok : CO Tryz.prog boostWalkPush_k := co_fn mixed Tryz.func285 [stepD0_k, resultD0_k, pEmit_k] ⟨stepD0_ok, resultD0_ok, pEmit_ok, trivial⟩ [] trivial (fun _ => []) [] fun x => by kernel_rfl
noncomputable def boostWalkStep (y0 : (WalkV MV)) (y1 : EnvP) : Option ((Bool × Unit) × ((WalkV MV) × EnvP × Unit)) :=
 (pEnded y0.o).bind fun r1 =>
 if r1.1.1 = true then
  some ((true, ()), (({ y0 with o := r1.2.1 } : (WalkV MV)), y1, ()))
 else
 if y0.line = 1 then
  (boostWalkRaise ({ y0 with o := r1.2.1 } : (WalkV MV)) y1).bind fun r2 =>
  some ((r2.1.1, ()), (r2.2.1, r2.2.2.1, ()))
 else
 if y0.line = 2 then
  (pState y1.l y0.task).bind fun r3 =>
  (pLoad y1.m r3.1.1).bind fun r4 =>
  if r4.1.1 = 1 then
   (levelsPush y0.worker y0.level y0.task).bind fun r5 =>
   some ((false, ()), (({ y0 with o := r1.2.1, line := 3, inside := r5.1.1 } : (WalkV MV)), ({ y1 with m := r4.2.1 } : EnvP), ()))
  else
  some ((false, ()), (({ y0 with o := r1.2.1, line := 4 } : (WalkV MV)), ({ y1 with m := r4.2.1 } : EnvP), ()))
 else
 if y0.line = 3 then
  (boostWalkPush ({ y0 with o := r1.2.1 } : (WalkV MV)) y1).bind fun r6 =>
  some ((false, ()), (r6.2.1, r6.2.2.1, ()))
 else
 (pWaits y1.l y0.task).bind fun r7 =>
 (pLoad y1.m r7.1.1).bind fun r8 =>
 if r8.1.1 = 0 then
  (pEnd r1.2.1 0 0).bind fun r9 =>
  some ((r9.1.1, ()), (({ y0 with o := r9.2.1 } : (WalkV MV)), ({ y1 with m := r8.2.1 } : EnvP), ()))
 else
 some ((false, ()), (({ y0 with o := r1.2.1, task := wi (wu (r8.1.1 - 1)), line := 1 } : (WalkV MV)), ({ y1 with m := r8.2.1 } : EnvP), ()))
noncomputable abbrev boostWalkStep_k : Con SR1 := ⟨283, [.ref 48, .ref 27], [.sh .b], fun x => boostWalkStep x.1 x.2.1⟩
theorem boostWalkStep_ok : CO Tryz.prog boostWalkStep_k := co_fn mixed Tryz.func283 [pEnded_k, boostWalkRaise_k, pState_k, pLoad_k, levelsPush_k, boostWalkPush_k, pWaits_k, pEnd_k] ⟨pEnded_ok, boostWalkRaise_ok, pState_ok, pLoad_ok, levelsPush_ok, boostWalkPush_ok, pWaits_ok, pEnd_ok, trivial⟩ [] trivial (fun _ => []) [] fun x => by kernel_rfl
noncomputable def stepD1 (m : MV) (e : EnvP) : Option ((Bool × Unit) × (MV × EnvP × Unit)) :=
 match m with
 | .alloc x => (tableAllocateStep x e).bind fun o => some (o.1, (MV.alloc o.2.1, o.2.2))
 | .publish x => (tablePublishStep x e).bind fun o => some (o.1, (MV.publish o.2.1, o.2.2))
 | .claim x => (tableClaimStep x e).bind fun o => some (o.1, (MV.claim o.2.1, o.2.2))
 | .attempt x => (lockAttemptStep x e).bind fun o => some (o.1, (MV.attempt o.2.1, o.2.2))
 | .release x => (lockReleaseStep x e).bind fun o => some (o.1, (MV.release o.2.1, o.2.2))
 | .opush x => (ownerPushStep x e).bind fun o => some (o.1, (MV.opush o.2.1, o.2.2))
 | .opop x => (ownerPopStep x e).bind fun o => some (o.1, (MV.opop o.2.1, o.2.2))
 | .steal x => (thiefStealStep x e).bind fun o => some (o.1, (MV.steal o.2.1, o.2.2))
 | .set x => (bitmapSetStep x e).bind fun o => some (o.1, (MV.set o.2.1, o.2.2))
 | .reset x => (bitmapResetStep x e).bind fun o => some (o.1, (MV.reset o.2.1, o.2.2))
 | .insert x => (injectorInsertStep x e).bind fun o => some (o.1, (MV.insert o.2.1, o.2.2))
 | .remove x => (injectorRemoveStep x e).bind fun o => some (o.1, (MV.remove o.2.1, o.2.2))
 | .sleep x => (parkSleepStep x e).bind fun o => some (o.1, (MV.sleep o.2.1, o.2.2))
 | .wake x => (parkWakeStep x e).bind fun o => some (o.1, (MV.wake o.2.1, o.2.2))
 | .raise x => (boostRaiseStep x e).bind fun o => some (o.1, (MV.raise o.2.1, o.2.2))
 | .probe x => (probeProbeStep x e).bind fun o => some (o.1, (MV.probe o.2.1, o.2.2))
 | .lpush x => (levelsPushStep x e).bind fun o => some (o.1, (MV.lpush o.2.1, o.2.2))
 | .lpop x => (levelsPopStep x e).bind fun o => some (o.1, (MV.lpop o.2.1, o.2.2))
 | .walk x => (boostWalkStep x e).bind fun o => some (o.1, (MV.walk o.2.1, o.2.2))
 | _ => none
noncomputable abbrev stepD1_k : Con SR1 := ⟨1000000000, [.mch, .ref 27], [.sh .b], fun x => stepD1 x.1 x.2.1⟩
theorem stepD1_ok : CO Tryz.prog stepD1_k := co_meth (S := SR1) (i := 0) (ps := [.ref 27]) (rs := [.sh .b]) (spec := fun m xs => stepD1 m xs.1) fun m xs out h => by
  cases m with
  | alloc x => exact via_ok (S := SR1) (ps := [.ref 27]) (rs := [.sh .b]) (c := 35) (mk := MV.alloc) (fun _ => rfl) rfl (fun _ _ _ _ => by kernel_rfl) tableAllocateStep_ok h
  | publish x => exact via_ok (S := SR1) (ps := [.ref 27]) (rs := [.sh .b]) (c := 50) (mk := MV.publish) (fun _ => rfl) rfl (fun _ _ _ _ => by kernel_rfl) tablePublishStep_ok h
  | claim x => exact via_ok (S := SR1) (ps := [.ref 27]) (rs := [.sh .b]) (c := 45) (mk := MV.claim) (fun _ => rfl) rfl (fun _ _ _ _ => by kernel_rfl) tableClaimStep_ok h
  | attempt x => exact via_ok (S := SR1) (ps := [.ref 27]) (rs := [.sh .b]) (c := 34) (mk := MV.attempt) (fun _ => rfl) rfl (fun _ _ _ _ => by kernel_rfl) lockAttemptStep_ok h
  | release x => exact via_ok (S := SR1) (ps := [.ref 27]) (rs := [.sh .b]) (c := 37) (mk := MV.release) (fun _ => rfl) rfl (fun _ _ _ _ => by kernel_rfl) lockReleaseStep_ok h
  | opush x => exact via_ok (S := SR1) (ps := [.ref 27]) (rs := [.sh .b]) (c := 53) (mk := MV.opush) (fun _ => rfl) rfl (fun _ _ _ _ => by kernel_rfl) ownerPushStep_ok h
  | opop x => exact via_ok (S := SR1) (ps := [.ref 27]) (rs := [.sh .b]) (c := 52) (mk := MV.opop) (fun _ => rfl) rfl (fun _ _ _ _ => by kernel_rfl) ownerPopStep_ok h
  | steal x => exact via_ok (S := SR1) (ps := [.ref 27]) (rs := [.sh .b]) (c := 42) (mk := MV.steal) (fun _ => rfl) rfl (fun _ _ _ _ => by kernel_rfl) thiefStealStep_ok h
  | set x => exact via_ok (S := SR1) (ps := [.ref 27]) (rs := [.sh .b]) (c := 54) (mk := MV.set) (fun _ => rfl) rfl (fun _ _ _ _ => by kernel_rfl) bitmapSetStep_ok h
  | reset x => exact via_ok (S := SR1) (ps := [.ref 27]) (rs := [.sh .b]) (c := 43) (mk := MV.reset) (fun _ => rfl) rfl (fun _ _ _ _ => by kernel_rfl) bitmapResetStep_ok h
  | insert x => exact via_ok (S := SR1) (ps := [.ref 27]) (rs := [.sh .b]) (c := 36) (mk := MV.insert) (fun _ => rfl) rfl (fun _ _ _ _ => by kernel_rfl) injectorInsertStep_ok h
  | remove x => exact via_ok (S := SR1) (ps := [.ref 27]) (rs := [.sh .b]) (c := 51) (mk := MV.remove) (fun _ => rfl) rfl (fun _ _ _ _ => by kernel_rfl) injectorRemoveStep_ok h
  | sleep x => exact via_ok (S := SR1) (ps := [.ref 27]) (rs := [.sh .b]) (c := 32) (mk := MV.sleep) (fun _ => rfl) rfl (fun _ _ _ _ => by kernel_rfl) parkSleepStep_ok h
  | wake x => exact via_ok (S := SR1) (ps := [.ref 27]) (rs := [.sh .b]) (c := 38) (mk := MV.wake) (fun _ => rfl) rfl (fun _ _ _ _ => by kernel_rfl) parkWakeStep_ok h
  | raise x => exact via_ok (S := SR1) (ps := [.ref 27]) (rs := [.sh .b]) (c := 55) (mk := MV.raise) (fun _ => rfl) rfl (fun _ _ _ _ => by kernel_rfl) boostRaiseStep_ok h
  | probe x => exact via_ok (S := SR1) (ps := [.ref 27]) (rs := [.sh .b]) (c := 46) (mk := MV.probe) (fun _ => rfl) rfl (fun _ _ _ _ => by kernel_rfl) probeProbeStep_ok h
  | lpush x => exact via_ok (S := SR1) (ps := [.ref 27]) (rs := [.sh .b]) (c := 47) (mk := MV.lpush) (fun _ => rfl) rfl (fun _ _ _ _ => by kernel_rfl) levelsPushStep_ok h
  | lpop x => exact via_ok (S := SR1) (ps := [.ref 27]) (rs := [.sh .b]) (c := 44) (mk := MV.lpop) (fun _ => rfl) rfl (fun _ _ _ _ => by kernel_rfl) levelsPopStep_ok h
  | walk x => exact via_ok (S := SR1) (ps := [.ref 27]) (rs := [.sh .b]) (c := 48) (mk := MV.walk) (fun _ => rfl) rfl (fun _ _ _ _ => by kernel_rfl) boostWalkStep_ok h
  | _ => cases h
noncomputable def resultD1 (m : MV) : Option ((Int × Int × Unit) × (MV × Unit)) :=
 match m with
 | .alloc x => some ((x.o.code, x.o.value, ()), (MV.alloc x, ()))
 | .publish x => some ((x.o.code, x.o.value, ()), (MV.publish x, ()))
 | .claim x => some ((x.o.code, x.o.value, ()), (MV.claim x, ()))
 | .attempt x => some ((x.o.code, x.o.value, ()), (MV.attempt x, ()))
 | .release x => some ((x.o.code, x.o.value, ()), (MV.release x, ()))
 | .opush x => some ((x.o.code, x.o.value, ()), (MV.opush x, ()))
 | .opop x => some ((x.o.code, x.o.value, ()), (MV.opop x, ()))
 | .steal x => some ((x.o.code, x.o.value, ()), (MV.steal x, ()))
 | .set x => some ((x.o.code, x.o.value, ()), (MV.set x, ()))
 | .reset x => some ((x.o.code, x.o.value, ()), (MV.reset x, ()))
 | .insert x => some ((x.o.code, x.o.value, ()), (MV.insert x, ()))
 | .remove x => some ((x.o.code, x.o.value, ()), (MV.remove x, ()))
 | .sleep x => some ((x.o.code, x.o.value, ()), (MV.sleep x, ()))
 | .wake x => some ((x.o.code, x.o.value, ()), (MV.wake x, ()))
 | .raise x => some ((x.o.code, x.o.value, ()), (MV.raise x, ()))
 | .probe x => some ((x.o.code, x.o.value, ()), (MV.probe x, ()))
 | .lpush x => some ((x.o.code, x.o.value, ()), (MV.lpush x, ()))
 | .lpop x => some ((x.o.code, x.o.value, ()), (MV.lpop x, ()))
 | .walk x => some ((x.o.code, x.o.value, ()), (MV.walk x, ()))
 | _ => none
noncomputable abbrev resultD1_k : Con SR1 := ⟨1000000001, [.mch], [.sh sI_, .sh sI_], fun x => resultD1 x.1⟩
theorem resultD1_ok : CO Tryz.prog resultD1_k := co_meth (S := SR1) (i := 1) (ps := []) (rs := [.sh sI_, .sh sI_]) (spec := fun m _ => resultD1 m) fun m xs out h => by
  cases m with
  | alloc x => exact via_ok (S := SR1) (ps := []) (rs := [.sh sI_, .sh sI_]) (c := 35) (mk := MV.alloc) (f := 172) (sp := fun x => some ((x.1.o.code, x.1.o.value, ()), (x.1, ()))) (fun _ => rfl) rfl (fun _ _ _ _ => by kernel_rfl) (co_like [pResult_k] ⟨pResult_ok, trivial⟩ fun x => by kernel_rfl) h
  | publish x => exact via_ok (S := SR1) (ps := []) (rs := [.sh sI_, .sh sI_]) (c := 50) (mk := MV.publish) (f := 172) (sp := fun x => some ((x.1.o.code, x.1.o.value, ()), (x.1, ()))) (fun _ => rfl) rfl (fun _ _ _ _ => by kernel_rfl) (co_like [pResult_k] ⟨pResult_ok, trivial⟩ fun x => by kernel_rfl) h
  | claim x => exact via_ok (S := SR1) (ps := []) (rs := [.sh sI_, .sh sI_]) (c := 45) (mk := MV.claim) (f := 172) (sp := fun x => some ((x.1.o.code, x.1.o.value, ()), (x.1, ()))) (fun _ => rfl) rfl (fun _ _ _ _ => by kernel_rfl) (co_like [pResult_k] ⟨pResult_ok, trivial⟩ fun x => by kernel_rfl) h
  | attempt x => exact via_ok (S := SR1) (ps := []) (rs := [.sh sI_, .sh sI_]) (c := 34) (mk := MV.attempt) (f := 172) (sp := fun x => some ((x.1.o.code, x.1.o.value, ()), (x.1, ()))) (fun _ => rfl) rfl (fun _ _ _ _ => by kernel_rfl) (co_like [pResult_k] ⟨pResult_ok, trivial⟩ fun x => by kernel_rfl) h
  | release x => exact via_ok (S := SR1) (ps := []) (rs := [.sh sI_, .sh sI_]) (c := 37) (mk := MV.release) (f := 172) (sp := fun x => some ((x.1.o.code, x.1.o.value, ()), (x.1, ()))) (fun _ => rfl) rfl (fun _ _ _ _ => by kernel_rfl) (co_like [pResult_k] ⟨pResult_ok, trivial⟩ fun x => by kernel_rfl) h
  | opush x => exact via_ok (S := SR1) (ps := []) (rs := [.sh sI_, .sh sI_]) (c := 53) (mk := MV.opush) (f := 172) (sp := fun x => some ((x.1.o.code, x.1.o.value, ()), (x.1, ()))) (fun _ => rfl) rfl (fun _ _ _ _ => by kernel_rfl) (co_like [pResult_k] ⟨pResult_ok, trivial⟩ fun x => by kernel_rfl) h
  | opop x => exact via_ok (S := SR1) (ps := []) (rs := [.sh sI_, .sh sI_]) (c := 52) (mk := MV.opop) (f := 172) (sp := fun x => some ((x.1.o.code, x.1.o.value, ()), (x.1, ()))) (fun _ => rfl) rfl (fun _ _ _ _ => by kernel_rfl) (co_like [pResult_k] ⟨pResult_ok, trivial⟩ fun x => by kernel_rfl) h
  | steal x => exact via_ok (S := SR1) (ps := []) (rs := [.sh sI_, .sh sI_]) (c := 42) (mk := MV.steal) (f := 172) (sp := fun x => some ((x.1.o.code, x.1.o.value, ()), (x.1, ()))) (fun _ => rfl) rfl (fun _ _ _ _ => by kernel_rfl) (co_like [pResult_k] ⟨pResult_ok, trivial⟩ fun x => by kernel_rfl) h
  | set x => exact via_ok (S := SR1) (ps := []) (rs := [.sh sI_, .sh sI_]) (c := 54) (mk := MV.set) (f := 172) (sp := fun x => some ((x.1.o.code, x.1.o.value, ()), (x.1, ()))) (fun _ => rfl) rfl (fun _ _ _ _ => by kernel_rfl) (co_like [pResult_k] ⟨pResult_ok, trivial⟩ fun x => by kernel_rfl) h
  | reset x => exact via_ok (S := SR1) (ps := []) (rs := [.sh sI_, .sh sI_]) (c := 43) (mk := MV.reset) (f := 172) (sp := fun x => some ((x.1.o.code, x.1.o.value, ()), (x.1, ()))) (fun _ => rfl) rfl (fun _ _ _ _ => by kernel_rfl) (co_like [pResult_k] ⟨pResult_ok, trivial⟩ fun x => by kernel_rfl) h
  | insert x => exact via_ok (S := SR1) (ps := []) (rs := [.sh sI_, .sh sI_]) (c := 36) (mk := MV.insert) (f := 172) (sp := fun x => some ((x.1.o.code, x.1.o.value, ()), (x.1, ()))) (fun _ => rfl) rfl (fun _ _ _ _ => by kernel_rfl) (co_like [pResult_k] ⟨pResult_ok, trivial⟩ fun x => by kernel_rfl) h
  | remove x => exact via_ok (S := SR1) (ps := []) (rs := [.sh sI_, .sh sI_]) (c := 51) (mk := MV.remove) (f := 172) (sp := fun x => some ((x.1.o.code, x.1.o.value, ()), (x.1, ()))) (fun _ => rfl) rfl (fun _ _ _ _ => by kernel_rfl) (co_like [pResult_k] ⟨pResult_ok, trivial⟩ fun x => by kernel_rfl) h
  | sleep x => exact via_ok (S := SR1) (ps := []) (rs := [.sh sI_, .sh sI_]) (c := 32) (mk := MV.sleep) (f := 172) (sp := fun x => some ((x.1.o.code, x.1.o.value, ()), (x.1, ()))) (fun _ => rfl) rfl (fun _ _ _ _ => by kernel_rfl) (co_like [pResult_k] ⟨pResult_ok, trivial⟩ fun x => by kernel_rfl) h
  | wake x => exact via_ok (S := SR1) (ps := []) (rs := [.sh sI_, .sh sI_]) (c := 38) (mk := MV.wake) (f := 172) (sp := fun x => some ((x.1.o.code, x.1.o.value, ()), (x.1, ()))) (fun _ => rfl) rfl (fun _ _ _ _ => by kernel_rfl) (co_like [pResult_k] ⟨pResult_ok, trivial⟩ fun x => by kernel_rfl) h
  | raise x => exact via_ok (S := SR1) (ps := []) (rs := [.sh sI_, .sh sI_]) (c := 55) (mk := MV.raise) (f := 172) (sp := fun x => some ((x.1.o.code, x.1.o.value, ()), (x.1, ()))) (fun _ => rfl) rfl (fun _ _ _ _ => by kernel_rfl) (co_like [pResult_k] ⟨pResult_ok, trivial⟩ fun x => by kernel_rfl) h
  | probe x => exact via_ok (S := SR1) (ps := []) (rs := [.sh sI_, .sh sI_]) (c := 46) (mk := MV.probe) (f := 172) (sp := fun x => some ((x.1.o.code, x.1.o.value, ()), (x.1, ()))) (fun _ => rfl) rfl (fun _ _ _ _ => by kernel_rfl) (co_like [pResult_k] ⟨pResult_ok, trivial⟩ fun x => by kernel_rfl) h
  | lpush x => exact via_ok (S := SR1) (ps := []) (rs := [.sh sI_, .sh sI_]) (c := 47) (mk := MV.lpush) (f := 172) (sp := fun x => some ((x.1.o.code, x.1.o.value, ()), (x.1, ()))) (fun _ => rfl) rfl (fun _ _ _ _ => by kernel_rfl) (co_like [pResult_k] ⟨pResult_ok, trivial⟩ fun x => by kernel_rfl) h
  | lpop x => exact via_ok (S := SR1) (ps := []) (rs := [.sh sI_, .sh sI_]) (c := 44) (mk := MV.lpop) (f := 172) (sp := fun x => some ((x.1.o.code, x.1.o.value, ()), (x.1, ()))) (fun _ => rfl) rfl (fun _ _ _ _ => by kernel_rfl) (co_like [pResult_k] ⟨pResult_ok, trivial⟩ fun x => by kernel_rfl) h
  | walk x => exact via_ok (S := SR1) (ps := []) (rs := [.sh sI_, .sh sI_]) (c := 48) (mk := MV.walk) (f := 172) (sp := fun x => some ((x.1.o.code, x.1.o.value, ()), (x.1, ()))) (fun _ => rfl) rfl (fun _ _ _ _ => by kernel_rfl) (co_like [pResult_k] ⟨pResult_ok, trivial⟩ fun x => by kernel_rfl) h
  | _ => cases h
noncomputable def levelsPop (y0 : Int) : Option ((MV × Unit) × (Unit)) :=
 some ((MV.lpop (⟨⟨false, 0, 0⟩, y0, 0, 1, MV.nil⟩ : (LPopV MV)), ()), (()))
noncomputable abbrev levelsPop_k : Con SR1 := ⟨149, [.sh sI_], [.sh .mach], fun x => levelsPop x.1⟩
theorem levelsPop_ok : CO Tryz.prog levelsPop_k := co_fn mixed Tryz.func149 [] trivial [] trivial (fun _ => []) [] fun x => by kernel_rfl
noncomputable def tableClaim (y0 : Int) (y1 : Int) : Option ((MV × Unit) × (Unit)) :=
 some ((MV.claim (⟨⟨false, 0, 0⟩, y0, y1⟩ : ClaimV), ()), (()))
noncomputable abbrev tableClaim_k : Con SR1 := ⟨60, [.sh sI_, .sh sI_], [.sh .mach], fun x => tableClaim x.1 x.2.1⟩
theorem tableClaim_ok : CO Tryz.prog tableClaim_k := co_fn mixed Tryz.func60 [] trivial [] trivial (fun _ => []) [] fun x => by kernel_rfl
noncomputable def takeTakeStep (y0 : (TakeV MV)) (y1 : EnvP) : Option ((Bool × Unit) × ((TakeV MV) × EnvP × Unit)) :=
 (pEnded y0.o).bind fun r1 =>
 if r1.1.1 = true then
  some ((true, ()), (({ y0 with o := r1.2.1 } : (TakeV MV)), y1, ()))
 else
 (stepD1 y0.inside y1).bind fun r2 =>
 if (!r2.1.1) = true then
  some ((false, ()), (({ y0 with o := r1.2.1, inside := r2.2.1 } : (TakeV MV)), r2.2.2.1, ()))
 else
 (resultD1 r2.2.1).bind fun r3 =>
 if y0.claiming = true then
  if r3.1.1 = 1 then
   (pEnd r1.2.1 1 r3.1.2.1).bind fun r4 =>
   some ((r4.1.1, ()), (({ y0 with o := r4.2.1, inside := r3.2.1 } : (TakeV MV)), r2.2.2.1, ()))
  else
  if y0.claiming = true then
   (levelsPop y0.worker).bind fun r5 =>
   some ((false, ()), ((⟨r1.2.1, y0.worker, false, r5.1.1⟩ : (TakeV MV)), r2.2.2.1, ()))
  else
  if r3.1.1 = 2 then
   (pEnd r1.2.1 2 0).bind fun r6 =>
   some ((r6.1.1, ()), (({ y0 with o := r6.2.1, inside := r3.2.1 } : (TakeV MV)), r2.2.2.1, ()))
  else
  (tableClaim y0.worker r3.1.2.1).bind fun r7 =>
  some ((false, ()), ((⟨r1.2.1, y0.worker, true, r7.1.1⟩ : (TakeV MV)), r2.2.2.1, ()))
 else
 if y0.claiming = true then
  (levelsPop y0.worker).bind fun r8 =>
  some ((false, ()), ((⟨r1.2.1, y0.worker, false, r8.1.1⟩ : (TakeV MV)), r2.2.2.1, ()))
 else
 if r3.1.1 = 2 then
  (pEnd r1.2.1 2 0).bind fun r9 =>
  some ((r9.1.1, ()), (({ y0 with o := r9.2.1, inside := r3.2.1 } : (TakeV MV)), r2.2.2.1, ()))
 else
 (tableClaim y0.worker r3.1.2.1).bind fun r10 =>
 some ((false, ()), ((⟨r1.2.1, y0.worker, true, r10.1.1⟩ : (TakeV MV)), r2.2.2.1, ()))
noncomputable abbrev takeTakeStep_k : Con SR1 := ⟨239, [.ref 39, .ref 27], [.sh .b], fun x => takeTakeStep x.1 x.2.1⟩
theorem takeTakeStep_ok : CO Tryz.prog takeTakeStep_k := co_fn mixed Tryz.func239 [pEnded_k, stepD1_k, resultD1_k, pEnd_k, levelsPop_k, tableClaim_k] ⟨pEnded_ok, stepD1_ok, resultD1_ok, pEnd_ok, levelsPop_ok, tableClaim_ok, trivial⟩ [] trivial (fun _ => []) [] fun x => by kernel_rfl
noncomputable def agingSweepLook (y0 : (SweepV MV)) (y1 : EnvP) : Option ((Bool × Unit) × ((SweepV MV) × EnvP × Unit)) :=
 if y0.line = 1 then
  ((
   if y0.task < 0 then
    some (true, y0, y1, ())
   else
   if y1.c.tasks ≤ y0.task then
    some (true, y0, y1, ())
   else
   some (decide (y1.c.age = 0), y0, y1, ())
  ) : Option (Bool × (SweepV MV) × EnvP × Unit)).bind fun z1 =>
  if z1.1 = true then
   some ((true, ()), (z1.2.1, z1.2.2.1, ()))
  else
  (pState z1.2.2.1.l z1.2.1.task).bind fun r2 =>
  (pLoad z1.2.2.1.m r2.1.1).bind fun r3 =>
  some ((decide (r3.1.1 ≠ 1), ()), (z1.2.1, ({ z1.2.2.1 with m := r3.2.1 } : EnvP), ()))
 else
 if y0.line = 2 then
  (pSince y1.l y0.task).bind fun r4 =>
  (pLoad y1.m r4.1.1).bind fun r5 =>
  (pNow y1.k).bind fun r6 =>
  if y1.c.age = y1.c.age then
   some ((decide ((wi (r6.1.1 - (wi (r5.1.1)))) < y1.c.age), ()), (y0, ({ y1 with m := r5.2.1, k := r6.2.1 } : EnvP), ()))
  else none
 else
 (pLevel y1.l y0.task).bind fun r7 =>
 (pLoad y1.m r7.1.1).bind fun r8 =>
 some ((decide ((wi (y1.c.levels - 1)) ≤ (wi (r8.1.1))), ()), (({ y0 with q := r8.1.1 } : (SweepV MV)), ({ y1 with m := r8.2.1 } : EnvP), ()))
noncomputable abbrev agingSweepLook_k : Con SR1 := ⟨242, [.ref 40, .ref 27], [.sh .b], fun x => agingSweepLook x.1 x.2.1⟩
theorem agingSweepLook_ok : CO Tryz.prog agingSweepLook_k := co_fn mixed Tryz.func242 [pState_k, pLoad_k, pSince_k, pNow_k, pLevel_k] ⟨pState_ok, pLoad_ok, pSince_ok, pNow_ok, pLevel_ok, trivial⟩ [] trivial (fun _ => []) [(4, .cut [.rg 36 .b, .ob 0 40, .ob 1 27] [])] fun x => by kernel_rfl
noncomputable def agingSweepEvent (y0 : (SweepV MV)) (y1 : Int) : Option ((Ev × Unit) × ((SweepV MV) × Unit)) :=
 some ((({ y0 with kind := y1, other := 0, level := wi ((wi (y0.q)) + 1) } : Ev), ()), (y0, ()))
noncomputable abbrev agingSweepEvent_k : Con SR1 := ⟨243, [.ref 40, .sh sI_], [.val 2], fun x => agingSweepEvent x.1 x.2.1⟩
theorem agingSweepEvent_ok : CO Tryz.prog agingSweepEvent_k := co_fn mixed Tryz.func243 [] trivial [] trivial (fun _ => []) [] fun x => by kernel_rfl
noncomputable def agingSweepStep (y0 : (SweepV MV)) (y1 : EnvP) : Option ((Bool × Unit) × ((SweepV MV) × EnvP × Unit)) :=
 (pEnded y0.o).bind fun r1 =>
 if r1.1.1 = true then
  some ((true, ()), (({ y0 with o := r1.2.1 } : (SweepV MV)), y1, ()))
 else
 if y0.line = 1 then
  if y0.line = 1 then
   (agingSweepLook ({ y0 with o := r1.2.1 } : (SweepV MV)) y1).bind fun r2 =>
   if r2.1.1 = true then
    (pEnd r2.2.1.o 0 0).bind fun r3 =>
    some ((r3.1.1, ()), (({ r2.2.1 with o := r3.2.1 } : (SweepV MV)), r2.2.2.1, ()))
   else
   some ((false, ()), (({ r2.2.1 with line := wi (r2.2.1.line + 1) } : (SweepV MV)), r2.2.2.1, ()))
  else
  if y0.line = 4 then
   (pLevel y1.l y0.task).bind fun r4 =>
   if y0.q = y0.q then
    if y0.q = y0.q then
     (pCAS y1.m r4.1.1 y0.q (wu (y0.q + 1))).bind fun r5 =>
     if (!r5.1.1) = true then
      (pEnd r1.2.1 4 0).bind fun r6 =>
      some ((r6.1.1, ()), (({ y0 with o := r6.2.1 } : (SweepV MV)), ({ y1 with m := r5.2.1 } : EnvP), ()))
     else
     (agingSweepEvent ({ y0 with o := r1.2.1 } : (SweepV MV)) 12).bind fun r7 =>
     (pEmit ({ y1 with m := r5.2.1 } : EnvP) r7.1.1).bind fun r8 =>
     some ((false, ()), (({ r7.2.1 with line := wi (r7.2.1.line + 1) } : (SweepV MV)), r8.2.1, ()))
    else none
   else none
  else
  if y0.line = 5 then
   (pSince y1.l y0.task).bind fun r9 =>
   (pNow y1.k).bind fun r10 =>
   (pStore y1.m r9.1.1 (wu (r10.1.1))).bind fun r11 =>
   (levelsPush y0.worker (wi ((wi (y0.q)) + 1)) y0.task).bind fun r12 =>
   some ((false, ()), (({ y0 with o := r1.2.1, line := wi (y0.line + 1), push := r12.1.1 } : (SweepV MV)), ({ y1 with m := r11.2.1, k := r10.2.1 } : EnvP), ()))
  else
  (stepD1 y0.push y1).bind fun r13 =>
  if (!r13.1.1) = true then
   some ((false, ()), (({ y0 with o := r1.2.1, push := r13.2.1 } : (SweepV MV)), r13.2.2.1, ()))
  else
  (resultD1 r13.2.1).bind fun r14 =>
  if r14.1.1 = 3 then
   (agingSweepEvent ({ y0 with o := r1.2.1, push := r14.2.1 } : (SweepV MV)) 19).bind fun r15 =>
   (pEmit r13.2.2.1 r15.1.1).bind fun r16 =>
   (pEnd r15.2.1.o 1 0).bind fun r17 =>
   some ((r17.1.1, ()), (({ r15.2.1 with o := r17.2.1 } : (SweepV MV)), r16.2.1, ()))
  else
  (pEnd r1.2.1 1 0).bind fun r18 =>
  some ((r18.1.1, ()), (({ y0 with o := r18.2.1, push := r14.2.1 } : (SweepV MV)), r13.2.2.1, ()))
 else
 if y0.line = 2 then
  if y0.line = 2 then
   (agingSweepLook ({ y0 with o := r1.2.1 } : (SweepV MV)) y1).bind fun r19 =>
   if r19.1.1 = true then
    (pEnd r19.2.1.o 0 0).bind fun r20 =>
    some ((r20.1.1, ()), (({ r19.2.1 with o := r20.2.1 } : (SweepV MV)), r19.2.2.1, ()))
   else
   some ((false, ()), (({ r19.2.1 with line := wi (r19.2.1.line + 1) } : (SweepV MV)), r19.2.2.1, ()))
  else
  if y0.line = 4 then
   (pLevel y1.l y0.task).bind fun r21 =>
   if y0.q = y0.q then
    if y0.q = y0.q then
     (pCAS y1.m r21.1.1 y0.q (wu (y0.q + 1))).bind fun r22 =>
     if (!r22.1.1) = true then
      (pEnd r1.2.1 4 0).bind fun r23 =>
      some ((r23.1.1, ()), (({ y0 with o := r23.2.1 } : (SweepV MV)), ({ y1 with m := r22.2.1 } : EnvP), ()))
     else
     (agingSweepEvent ({ y0 with o := r1.2.1 } : (SweepV MV)) 12).bind fun r24 =>
     (pEmit ({ y1 with m := r22.2.1 } : EnvP) r24.1.1).bind fun r25 =>
     some ((false, ()), (({ r24.2.1 with line := wi (r24.2.1.line + 1) } : (SweepV MV)), r25.2.1, ()))
    else none
   else none
  else
  if y0.line = 5 then
   (pSince y1.l y0.task).bind fun r26 =>
   (pNow y1.k).bind fun r27 =>
   (pStore y1.m r26.1.1 (wu (r27.1.1))).bind fun r28 =>
   (levelsPush y0.worker (wi ((wi (y0.q)) + 1)) y0.task).bind fun r29 =>
   some ((false, ()), (({ y0 with o := r1.2.1, line := wi (y0.line + 1), push := r29.1.1 } : (SweepV MV)), ({ y1 with m := r28.2.1, k := r27.2.1 } : EnvP), ()))
  else
  (stepD1 y0.push y1).bind fun r30 =>
  if (!r30.1.1) = true then
   some ((false, ()), (({ y0 with o := r1.2.1, push := r30.2.1 } : (SweepV MV)), r30.2.2.1, ()))
  else
  (resultD1 r30.2.1).bind fun r31 =>
  if r31.1.1 = 3 then
   (agingSweepEvent ({ y0 with o := r1.2.1, push := r31.2.1 } : (SweepV MV)) 19).bind fun r32 =>
   (pEmit r30.2.2.1 r32.1.1).bind fun r33 =>
   (pEnd r32.2.1.o 1 0).bind fun r34 =>
   some ((r34.1.1, ()), (({ r32.2.1 with o := r34.2.1 } : (SweepV MV)), r33.2.1, ()))
  else
  (pEnd r1.2.1 1 0).bind fun r35 =>
  some ((r35.1.1, ()), (({ y0 with o := r35.2.1, push := r31.2.1 } : (SweepV MV)), r30.2.2.1, ()))
 else
 if y0.line = 3 then
  (agingSweepLook ({ y0 with o := r1.2.1 } : (SweepV MV)) y1).bind fun r36 =>
  if r36.1.1 = true then
   (pEnd r36.2.1.o 0 0).bind fun r37 =>
   some ((r37.1.1, ()), (({ r36.2.1 with o := r37.2.1 } : (SweepV MV)), r36.2.2.1, ()))
  else
  some ((false, ()), (({ r36.2.1 with line := wi (r36.2.1.line + 1) } : (SweepV MV)), r36.2.2.1, ()))
 else
 if y0.line = 4 then
  (pLevel y1.l y0.task).bind fun r38 =>
  if y0.q = y0.q then
   if y0.q = y0.q then
    (pCAS y1.m r38.1.1 y0.q (wu (y0.q + 1))).bind fun r39 =>
    if (!r39.1.1) = true then
     (pEnd r1.2.1 4 0).bind fun r40 =>
     some ((r40.1.1, ()), (({ y0 with o := r40.2.1 } : (SweepV MV)), ({ y1 with m := r39.2.1 } : EnvP), ()))
    else
    (agingSweepEvent ({ y0 with o := r1.2.1 } : (SweepV MV)) 12).bind fun r41 =>
    (pEmit ({ y1 with m := r39.2.1 } : EnvP) r41.1.1).bind fun r42 =>
    some ((false, ()), (({ r41.2.1 with line := wi (r41.2.1.line + 1) } : (SweepV MV)), r42.2.1, ()))
   else none
  else none
 else
 if y0.line = 5 then
  (pSince y1.l y0.task).bind fun r43 =>
  (pNow y1.k).bind fun r44 =>
  (pStore y1.m r43.1.1 (wu (r44.1.1))).bind fun r45 =>
  (levelsPush y0.worker (wi ((wi (y0.q)) + 1)) y0.task).bind fun r46 =>
  some ((false, ()), (({ y0 with o := r1.2.1, line := wi (y0.line + 1), push := r46.1.1 } : (SweepV MV)), ({ y1 with m := r45.2.1, k := r44.2.1 } : EnvP), ()))
 else
 (stepD1 y0.push y1).bind fun r47 =>
 if (!r47.1.1) = true then
  some ((false, ()), (({ y0 with o := r1.2.1, push := r47.2.1 } : (SweepV MV)), r47.2.2.1, ()))
 else
 (resultD1 r47.2.1).bind fun r48 =>
 if r48.1.1 = 3 then
  (agingSweepEvent ({ y0 with o := r1.2.1, push := r48.2.1 } : (SweepV MV)) 19).bind fun r49 =>
  (pEmit r47.2.2.1 r49.1.1).bind fun r50 =>
  (pEnd r49.2.1.o 1 0).bind fun r51 =>
  some ((r51.1.1, ()), (({ r49.2.1 with o := r51.2.1 } : (SweepV MV)), r50.2.1, ()))
 else
 (pEnd r1.2.1 1 0).bind fun r52 =>
 some ((r52.1.1, ()), (({ y0 with o := r52.2.1, push := r48.2.1 } : (SweepV MV)), r47.2.2.1, ()))
noncomputable abbrev agingSweepStep_k : Con SR1 := ⟨241, [.ref 40, .ref 27], [.sh .b], fun x => agingSweepStep x.1 x.2.1⟩
theorem agingSweepStep_ok : CO Tryz.prog agingSweepStep_k := co_fn mixed Tryz.func241 [pEnded_k, agingSweepLook_k, pEnd_k, pLevel_k, pCAS_k, agingSweepEvent_k, pEmit_k, pSince_k, pNow_k, pStore_k, levelsPush_k, stepD1_k, resultD1_k] ⟨pEnded_ok, agingSweepLook_ok, pEnd_ok, pLevel_ok, pCAS_ok, agingSweepEvent_ok, pEmit_ok, pSince_ok, pNow_ok, pStore_ok, levelsPush_ok, stepD1_ok, resultD1_ok, trivial⟩ [] trivial (fun _ => []) [] fun x => by kernel_rfl
noncomputable def tableEnterStep (y0 : (EnterV MV)) (y1 : EnvP) : Option ((Bool × Unit) × ((EnterV MV) × EnvP × Unit)) :=
 (pEnded y0.o).bind fun r1 =>
 if r1.1.1 = true then
  some ((true, ()), (({ y0 with o := r1.2.1 } : (EnterV MV)), y1, ()))
 else
 if y0.line = 1 then
  (tableIsTask y1 y0.task).bind fun r2 =>
  if (!r2.1.1) = true then
   (pEnd r1.2.1 4 0).bind fun r3 =>
   some ((r3.1.1, ()), (({ y0 with o := r3.2.1 } : (EnterV MV)), r2.2.1, ()))
  else
  (pSince r2.2.1.l y0.task).bind fun r4 =>
  (pNow r2.2.1.k).bind fun r5 =>
  (pStore r2.2.1.m r4.1.1 (wu (r5.1.1))).bind fun r6 =>
  some ((false, ()), (({ y0 with o := r1.2.1, line := wi (y0.line + 1) } : (EnterV MV)), ({ r2.2.1 with m := r6.2.1, k := r5.2.1 } : EnvP), ()))
 else
 if y0.line = 2 then
  (pState y1.l y0.task).bind fun r7 =>
  (pStore y1.m r7.1.1 1).bind fun r8 =>
  some ((false, ()), (({ y0 with o := r1.2.1, line := wi (y0.line + 1) } : (EnterV MV)), ({ y1 with m := r8.2.1 } : EnvP), ()))
 else
 if y0.line = 3 then
  (pLevel y1.l y0.task).bind fun r9 =>
  (pLoad y1.m r9.1.1).bind fun r10 =>
  (levelsPush y0.worker (wi (r10.1.1)) y0.task).bind fun r11 =>
  some ((false, ()), (({ y0 with o := r1.2.1, level := wi (r10.1.1), line := wi (y0.line + 1), push := r11.1.1 } : (EnterV MV)), ({ y1 with m := r10.2.1 } : EnvP), ()))
 else
 (stepD1 y0.push y1).bind fun r12 =>
 if (!r12.1.1) = true then
  some ((false, ()), (({ y0 with o := r1.2.1, push := r12.2.1 } : (EnterV MV)), r12.2.2.1, ()))
 else
 (resultD1 r12.2.1).bind fun r13 =>
 (pEnd r1.2.1 r13.1.1 y0.level).bind fun r14 =>
 some ((r14.1.1, ()), (({ y0 with o := r14.2.1, push := r13.2.1 } : (EnterV MV)), r12.2.2.1, ()))
noncomputable abbrev tableEnterStep_k : Con SR1 := ⟨289, [.ref 49, .ref 27], [.sh .b], fun x => tableEnterStep x.1 x.2.1⟩
theorem tableEnterStep_ok : CO Tryz.prog tableEnterStep_k := co_fn mixed Tryz.func289 [pEnded_k, tableIsTask_k, pEnd_k, pSince_k, pNow_k, pStore_k, pState_k, pLevel_k, pLoad_k, levelsPush_k, stepD1_k, resultD1_k] ⟨pEnded_ok, tableIsTask_ok, pEnd_ok, pSince_ok, pNow_ok, pStore_ok, pState_ok, pLevel_ok, pLoad_ok, levelsPush_ok, stepD1_ok, resultD1_ok, trivial⟩ [] trivial (fun _ => []) [] fun x => by kernel_rfl
end Go.Proofs.YtgiagoeoifgliaaGreat
