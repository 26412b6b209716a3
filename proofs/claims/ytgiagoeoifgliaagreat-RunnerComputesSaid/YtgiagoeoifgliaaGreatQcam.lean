/- RunnerFull in the evaluator's form. -/
import Derived.Test.YtgiagoeoifgliaaGreatQcal
set_option linter.all false
namespace Go.Proofs.YtgiagoeoifgliaaGreat
open Go Go.RowKit
set_option maxRecDepth 100000
noncomputable def runnerRunSpawn (y0 : (RunV MV)) (y1 : EnvP) : Option ((Bool × Unit) × ((RunV MV) × EnvP × Unit)) :=
 (stepD2 y0.inside y1).bind fun r1 =>
 if (!r1.1.1) = true then
  some ((false, ()), (({ y0 with inside := r1.2.1 } : (RunV MV)), r1.2.2.1, ()))
 else
 (resultD2 r1.2.1).bind fun r2 =>
 if y0.line = 4 then
  (runnerRunAllocated ({ y0 with inside := r2.2.1 } : (RunV MV)) r1.2.2.1 r2.1.1 r2.1.2.1).bind fun r3 =>
  some ((r3.1.1, ()), (r3.2.1, r3.2.2.1, ()))
 else
 if y0.line = 5 then
  if 0 ≤ wi (((y0.stack.length : Nat) : Int) - 1) ∧ wi (((y0.stack.length : Nat) : Int) - 1) < ((y0.stack.length : Nat) : Int) then
   if y0.level = y0.level then
    if y0.id = y0.id then
     (runnerRunEmit ({ y0 with inside := r2.2.1 } : (RunV MV)) r1.2.2.1 (⟨3, 0, y0.id, atK1 y0.stack (wi (((y0.stack.length : Nat) : Int) - 1)), y0.level⟩ : Ev)).bind fun r4 =>
     (levelsPush r4.2.1.worker r4.2.1.level r4.2.1.id).bind fun r5 =>
     (runnerRunTo r4.2.1 6 r5.1.1).bind fun r6 =>
     some ((r6.1.1, ()), (r6.2.1, r4.2.2.1, ()))
    else none
   else none
  else none
 else
 if y0.line = 6 then
  if r2.1.1 = 3 then
   (tableClaim y0.worker y0.id).bind fun r7 =>
   (runnerRunTo ({ y0 with inside := r2.2.1 } : (RunV MV)) 8 r7.1.1).bind fun r8 =>
   some ((r8.1.1, ()), (r8.2.1, r1.2.2.1, ()))
  else
  (parkWake y0.worker y0.level).bind fun r9 =>
  (runnerRunTo ({ y0 with inside := r2.2.1 } : (RunV MV)) 7 r9.1.1).bind fun r10 =>
  some ((r10.1.1, ()), (r10.2.1, r1.2.2.1, ()))
 else
 if y0.line = 8 then
  if r2.1.1 = 1 then
   if (((y0.stack.length + ([y0.id] : List Int).length : Nat)) : Int) < 1000000000000 then
    (runnerRunTo ({ y0 with stack := y0.stack ++ ([y0.id]), inside := r2.2.1 } : (RunV MV)) 0 MV.nil).bind fun r11 =>
    some ((r11.1.1, ()), (r11.2.1, r1.2.2.1, ()))
   else none
  else
  (runnerRunTo ({ y0 with inside := r2.2.1 } : (RunV MV)) 0 MV.nil).bind fun r12 =>
  some ((r12.1.1, ()), (r12.2.1, r1.2.2.1, ()))
 else
 (runnerRunTo ({ y0 with inside := r2.2.1 } : (RunV MV)) 0 MV.nil).bind fun r13 =>
 some ((r13.1.1, ()), (r13.2.1, r1.2.2.1, ()))
noncomputable abbrev runnerRunSpawn_k : Con SR1 := ⟨178, [.ref 33, .ref 27], [.sh .b], fun x => runnerRunSpawn x.1 x.2.1⟩
noncomputable def runnerRunSpawn_tb : List (Nat × Func) := [(174, Tryz.f174)]
theorem runnerRunSpawn_ok : CO Tryz.prog runnerRunSpawn_k := co_fn mixed Tryz.func178 [stepD2_k, resultD2_k, runnerRunAllocated_k, runnerRunEmit_k, levelsPush_k, runnerRunTo_k, tableClaim_k, parkWake_k] ⟨stepD2_ok, resultD2_ok, runnerRunAllocated_ok, runnerRunEmit_ok, levelsPush_ok, runnerRunTo_ok, tableClaim_ok, parkWake_ok, trivial⟩ runnerRunSpawn_tb ⟨Tryz.func174, trivial⟩ (fun _ => []) [] fun x => by kernel_rfl
noncomputable def boostWalk (y0 : Int) (y1 : Int) (y2 : Int) : Option ((MV × Unit) × (Unit)) :=
 some ((MV.walk (⟨⟨false, 0, 0⟩, y0, y1, y2, 1, MV.nil⟩ : (WalkV MV)), ()), (()))
noncomputable abbrev boostWalk_k : Con SR1 := ⟨195, [.sh sI_, .sh sI_, .sh sI_], [.sh .mach], fun x => boostWalk x.1 x.2.1 x.2.2.1⟩
theorem boostWalk_ok : CO Tryz.prog boostWalk_k := co_fn mixed Tryz.func195 [] trivial [] trivial (fun _ => []) [] fun x => by kernel_rfl
noncomputable def runnerRunLeave (y0 : (RunV MV)) : Option ((Bool × Unit) × ((RunV MV) × Unit)) :=
 if 0 ≤ wi (((y0.stack.length : Nat) : Int) - 1) ∧ wi (((y0.stack.length : Nat) : Int) - 1) ≤ ((y0.stack.length : Nat) : Int) then
  if (((y0.stack.take (wi (((y0.stack.length : Nat) : Int) - 1) : Int).toNat).length : Nat) : Int) = 0 then
   (pEnd y0.o 0 0).bind fun r1 =>
   some ((r1.1.1, ()), (({ y0 with o := r1.2.1, stack := y0.stack.take (wi (((y0.stack.length : Nat) : Int) - 1) : Int).toNat } : (RunV MV)), ()))
  else
  (runnerRunTo ({ y0 with stack := y0.stack.take (wi (((y0.stack.length : Nat) : Int) - 1) : Int).toNat } : (RunV MV)) 0 MV.nil).bind fun r2 =>
  some ((r2.1.1, ()), (r2.2.1, ()))
 else none
noncomputable abbrev runnerRunLeave_k : Con SR1 := ⟨196, [.ref 33], [.sh .b], fun x => runnerRunLeave x.1⟩
theorem runnerRunLeave_ok : CO Tryz.prog runnerRunLeave_k := co_fn mixed Tryz.func196 [pEnd_k, runnerRunTo_k] ⟨pEnd_ok, runnerRunTo_ok, trivial⟩ [] trivial (fun _ => []) [] fun x => by kernel_rfl
noncomputable def runnerRunJoin_a (y0 : (RunV MV)) (y1 : EnvP) : Option ((Bool × Unit) × ((RunV MV) × EnvP × Unit)) :=
 agr (
  if 0 ≤ wi (((y0.stack.length : Nat) : Int) - 1) ∧ wi (((y0.stack.length : Nat) : Int) - 1) < ((y0.stack.length : Nat) : Int) then
   if y1.l.workers = y1.l.workers then
    if y1.l.levels = y1.l.levels then
     if y1.l.classes = y1.l.classes then
      if y1.l.tasks = y1.l.tasks then
       if y1.l.deque = y1.l.deque then
        if y1.l.heap = y1.l.heap then
         if y1.l.sleepers = y1.l.sleepers then
          if y1.l.epochs = y1.l.epochs then
           if y1.l.bitmaps = y1.l.bitmaps then
            if y1.l.queues = y1.l.queues then
             if y1.l.table = y1.l.table then
              if y1.l.workers = y1.l.workers then
               if y1.l.levels = y1.l.levels then
                if y1.l.classes = y1.l.classes then
                 if y1.l.tasks = y1.l.tasks then
                  if y1.l.deque = y1.l.deque then
                   if y1.l.heap = y1.l.heap then
                    if y1.l.sleepers = y1.l.sleepers then
                     if y1.l.epochs = y1.l.epochs then
                      if y1.l.bitmaps = y1.l.bitmaps then
                       if y1.l.queues = y1.l.queues then
                        if y1.l.table = y1.l.table then
                         if y0.line = 9 then
                          if 0 ≤ wi (((y0.stack.length : Nat) : Int) - 1) ∧ wi (((y0.stack.length : Nat) : Int) - 1) < ((y0.stack.length : Nat) : Int) then
                           if 0 ≤ atK1 y0.stack (wi (((y0.stack.length : Nat) : Int) - 1)) ∧ atK1 y0.stack (wi (((y0.stack.length : Nat) : Int) - 1)) < ((y1.recs.length : Nat) : Int) then
                            if 0 ≤ wi (((y0.stack.length : Nat) : Int) - 1) ∧ wi (((y0.stack.length : Nat) : Int) - 1) < ((y0.stack.length : Nat) : Int) then
                             if 0 ≤ atK1 y0.stack (wi (((y0.stack.length : Nat) : Int) - 1)) ∧ atK1 y0.stack (wi (((y0.stack.length : Nat) : Int) - 1)) < ((y1.recs.length : Nat) : Int) then
                              if (atK1 y0.stack (wi (((y0.stack.length : Nat) : Int) - 1))) = (atK1 y0.stack (wi (((y0.stack.length : Nat) : Int) - 1))) then
                               if ((atK26 y1.recs (atK1 y0.stack (wi (((y0.stack.length : Nat) : Int) - 1)))).prog) < 0 then
                                if 0 ≤ wi (((y0.stack.length : Nat) : Int) - 1) ∧ wi (((y0.stack.length : Nat) : Int) - 1) < ((y0.stack.length : Nat) : Int) then
                                 if 0 ≤ atK1 y0.stack (wi (((y0.stack.length : Nat) : Int) - 1)) ∧ atK1 y0.stack (wi (((y0.stack.length : Nat) : Int) - 1)) < ((y1.recs.length : Nat) : Int) then
                                  if (atK1 y0.stack (wi (((y0.stack.length : Nat) : Int) - 1))) = (atK1 y0.stack (wi (((y0.stack.length : Nat) : Int) - 1))) then
                                   none
                                  else none
                                 else none
                                else none
                               else
                               if ((y1.c.progs.length : Nat) : Int) ≤ ((atK26 y1.recs (atK1 y0.stack (wi (((y0.stack.length : Nat) : Int) - 1)))).prog) then
                                if 0 ≤ wi (((y0.stack.length : Nat) : Int) - 1) ∧ wi (((y0.stack.length : Nat) : Int) - 1) < ((y0.stack.length : Nat) : Int) then
                                 if 0 ≤ atK1 y0.stack (wi (((y0.stack.length : Nat) : Int) - 1)) ∧ atK1 y0.stack (wi (((y0.stack.length : Nat) : Int) - 1)) < ((y1.recs.length : Nat) : Int) then
                                  if (atK1 y0.stack (wi (((y0.stack.length : Nat) : Int) - 1))) = (atK1 y0.stack (wi (((y0.stack.length : Nat) : Int) - 1))) then
                                   none
                                  else none
                                 else none
                                else none
                               else
                               if 0 ≤ (atK26 y1.recs (atK1 y0.stack (wi (((y0.stack.length : Nat) : Int) - 1)))).prog ∧ (atK26 y1.recs (atK1 y0.stack (wi (((y0.stack.length : Nat) : Int) - 1)))).prog < ((y1.c.progs.length : Nat) : Int) then
                                if 0 ≤ wi (((y0.stack.length : Nat) : Int) - 1) ∧ wi (((y0.stack.length : Nat) : Int) - 1) < ((y0.stack.length : Nat) : Int) then
                                 if 0 ≤ atK1 y0.stack (wi (((y0.stack.length : Nat) : Int) - 1)) ∧ atK1 y0.stack (wi (((y0.stack.length : Nat) : Int) - 1)) < ((y1.recs.length : Nat) : Int) then
                                  if (atK1 y0.stack (wi (((y0.stack.length : Nat) : Int) - 1))) = (atK1 y0.stack (wi (((y0.stack.length : Nat) : Int) - 1))) then
                                   if 0 ≤ (atK26 y1.recs (atK1 y0.stack (wi (((y0.stack.length : Nat) : Int) - 1)))).pc ∧ (atK26 y1.recs (atK1 y0.stack (wi (((y0.stack.length : Nat) : Int) - 1)))).pc < (((atL [] y1.c.progs ((atK26 y1.recs (atK1 y0.stack (wi (((y0.stack.length : Nat) : Int) - 1)))).prog)).length : Nat) : Int) then
                                    if 0 ≤ (atK3 (atL [] y1.c.progs ((atK26 y1.recs (atK1 y0.stack (wi (((y0.stack.length : Nat) : Int) - 1)))).prog)) ((atK26 y1.recs (atK1 y0.stack (wi (((y0.stack.length : Nat) : Int) - 1)))).pc)).a ∧ (atK3 (atL [] y1.c.progs ((atK26 y1.recs (atK1 y0.stack (wi (((y0.stack.length : Nat) : Int) - 1)))).prog)) ((atK26 y1.recs (atK1 y0.stack (wi (((y0.stack.length : Nat) : Int) - 1)))).pc)).a < ((((atK26 y1.recs (atK1 y0.stack (wi (((y0.stack.length : Nat) : Int) - 1)))).kids).length : Nat) : Int) then
                                     (pWaits y1.l (atK1 y0.stack (wi (((y0.stack.length : Nat) : Int) - 1)))).bind fun r26 =>
                                     if (atK1 ((atK26 y1.recs (atK1 y0.stack (wi (((y0.stack.length : Nat) : Int) - 1)))).kids) ((atK3 (atL [] y1.c.progs ((atK26 y1.recs (atK1 y0.stack (wi (((y0.stack.length : Nat) : Int) - 1)))).prog)) ((atK26 y1.recs (atK1 y0.stack (wi (((y0.stack.length : Nat) : Int) - 1)))).pc)).a)) = (atK1 ((atK26 y1.recs (atK1 y0.stack (wi (((y0.stack.length : Nat) : Int) - 1)))).kids) ((atK3 (atL [] y1.c.progs ((atK26 y1.recs (atK1 y0.stack (wi (((y0.stack.length : Nat) : Int) - 1)))).prog)) ((atK26 y1.recs (atK1 y0.stack (wi (((y0.stack.length : Nat) : Int) - 1)))).pc)).a)) then
                                      (pStore y1.m r26.1.1 (wu (wi ((atK1 ((atK26 y1.recs (atK1 y0.stack (wi (((y0.stack.length : Nat) : Int) - 1)))).kids) ((atK3 (atL [] y1.c.progs ((atK26 y1.recs (atK1 y0.stack (wi (((y0.stack.length : Nat) : Int) - 1)))).prog)) ((atK26 y1.recs (atK1 y0.stack (wi (((y0.stack.length : Nat) : Int) - 1)))).pc)).a)) + 1)))).bind fun r27 =>
                                      (runnerRunTo ({ y0 with child := atK1 ((atK26 y1.recs (atK1 y0.stack (wi (((y0.stack.length : Nat) : Int) - 1)))).kids) ((atK3 (atL [] y1.c.progs ((atK26 y1.recs (atK1 y0.stack (wi (((y0.stack.length : Nat) : Int) - 1)))).prog)) ((atK26 y1.recs (atK1 y0.stack (wi (((y0.stack.length : Nat) : Int) - 1)))).pc)).a) } : (RunV MV)) (wi (y0.line + 1)) MV.nil).bind fun r28 =>
                                      some ((r28.1.1, ()), (r28.2.1, ({ y1 with m := r27.2.1, recs := ((y1.recs.set (atK1 y0.stack (wi (((y0.stack.length : Nat) : Int) - 1))).toNat (atK26 y1.recs (atK1 y0.stack (wi (((y0.stack.length : Nat) : Int) - 1))))).set (atK1 y0.stack (wi (((y0.stack.length : Nat) : Int) - 1))).toNat ({ atK26 (y1.recs.set (atK1 y0.stack (wi (((y0.stack.length : Nat) : Int) - 1))).toNat (atK26 y1.recs (atK1 y0.stack (wi (((y0.stack.length : Nat) : Int) - 1))))) (atK1 y0.stack (wi (((y0.stack.length : Nat) : Int) - 1))) with pc := wi (((atK26 (y1.recs.set (atK1 y0.stack (wi (((y0.stack.length : Nat) : Int) - 1))).toNat (atK26 y1.recs (atK1 y0.stack (wi (((y0.stack.length : Nat) : Int) - 1))))) (atK1 y0.stack (wi (((y0.stack.length : Nat) : Int) - 1)))).pc) + 1) } : RecP)).set (atK1 y0.stack (wi (((y0.stack.length : Nat) : Int) - 1))).toNat ({ atK26 ((y1.recs.set (atK1 y0.stack (wi (((y0.stack.length : Nat) : Int) - 1))).toNat (atK26 y1.recs (atK1 y0.stack (wi (((y0.stack.length : Nat) : Int) - 1))))).set (atK1 y0.stack (wi (((y0.stack.length : Nat) : Int) - 1))).toNat ({ atK26 (y1.recs.set (atK1 y0.stack (wi (((y0.stack.length : Nat) : Int) - 1))).toNat (atK26 y1.recs (atK1 y0.stack (wi (((y0.stack.length : Nat) : Int) - 1))))) (atK1 y0.stack (wi (((y0.stack.length : Nat) : Int) - 1))) with pc := wi (((atK26 (y1.recs.set (atK1 y0.stack (wi (((y0.stack.length : Nat) : Int) - 1))).toNat (atK26 y1.recs (atK1 y0.stack (wi (((y0.stack.length : Nat) : Int) - 1))))) (atK1 y0.stack (wi (((y0.stack.length : Nat) : Int) - 1)))).pc) + 1) } : RecP)) (atK1 y0.stack (wi (((y0.stack.length : Nat) : Int) - 1))) with waiting := atK1 ((atK26 y1.recs (atK1 y0.stack (wi (((y0.stack.length : Nat) : Int) - 1)))).kids) ((atK3 (atL [] y1.c.progs ((atK26 y1.recs (atK1 y0.stack (wi (((y0.stack.length : Nat) : Int) - 1)))).prog)) ((atK26 y1.recs (atK1 y0.stack (wi (((y0.stack.length : Nat) : Int) - 1)))).pc)).a) } : RecP) } : EnvP), ()))
                                     else none
                                    else none
                                   else none
                                  else none
                                 else none
                                else none
                               else none
                              else none
                             else none
                            else none
                           else none
                          else none
                         else
                         if y0.line = 10 then
                          (pState y1.l (atK1 y0.stack (wi (((y0.stack.length : Nat) : Int) - 1)))).bind fun r29 =>
                          (pStore y1.m r29.1.1 3).bind fun r30 =>
                          (runnerRunTo y0 (wi (y0.line + 1)) MV.nil).bind fun r31 =>
                          some ((r31.1.1, ()), (r31.2.1, ({ y1 with m := r30.2.1 } : EnvP), ()))
                         else
                         if y0.line = 11 then
                          (pJoin y1.l y0.child).bind fun r32 =>
                          (pCAS y1.m r32.1.1 0 (wu (wi ((atK1 y0.stack (wi (((y0.stack.length : Nat) : Int) - 1))) + 1)))).bind fun r33 =>
                          if (!r33.1.1) = true then
                           (runnerRunTo y0 14 MV.nil).bind fun r34 =>
                           some ((r34.1.1, ()), (r34.2.1, ({ y1 with m := r33.2.1 } : EnvP), ()))
                          else
                          (runnerRunEmit y0 ({ y1 with m := r33.2.1 } : EnvP) (⟨6, 0, atK1 y0.stack (wi (((y0.stack.length : Nat) : Int) - 1)), y0.child, 0⟩ : Ev)).bind fun r35 =>
                          (runnerRunTo r35.2.1 (wi (r35.2.1.line + 1)) MV.nil).bind fun r36 =>
                          some ((r36.1.1, ()), (r36.2.1, r35.2.2.1, ()))
                         else
                         if y0.line = 12 then
                          (pLevel y1.l (atK1 y0.stack (wi (((y0.stack.length : Nat) : Int) - 1)))).bind fun r37 =>
                          (pLoad y1.m r37.1.1).bind fun r38 =>
                          (boostWalk y0.worker y0.child (wi (r38.1.1))).bind fun r39 =>
                          (runnerRunTo ({ y0 with level := wi (r38.1.1) } : (RunV MV)) 13 r39.1.1).bind fun r40 =>
                          some ((r40.1.1, ()), (r40.2.1, ({ y1 with m := r38.2.1 } : EnvP), ()))
                         else
                         if y0.line = 13 then
                          (stepD2 y0.inside y1).bind fun r41 =>
                          if (!r41.1.1) = true then
                           some ((false, ()), (({ y0 with inside := r41.2.1 } : (RunV MV)), r41.2.2.1, ()))
                          else
                          (runnerRunEmit ({ y0 with inside := r41.2.1 } : (RunV MV)) r41.2.2.1 (⟨7, 0, atK1 y0.stack (wi (((y0.stack.length : Nat) : Int) - 1)), 0, y0.level⟩ : Ev)).bind fun r42 =>
                          (runnerRunLeave r42.2.1).bind fun r43 =>
                          some ((r43.1.1, ()), (r43.2.1, r42.2.2.1, ()))
                         else
                         if y0.line = 14 then
                          (pState y1.l (atK1 y0.stack (wi (((y0.stack.length : Nat) : Int) - 1)))).bind fun r44 =>
                          (pStore y1.m r44.1.1 2).bind fun r45 =>
                          (runnerRunTo y0 (wi (y0.line + 1)) MV.nil).bind fun r46 =>
                          some ((r46.1.1, ()), (r46.2.1, ({ y1 with m := r45.2.1 } : EnvP), ()))
                         else
                         (pWaits y1.l (atK1 y0.stack (wi (((y0.stack.length : Nat) : Int) - 1)))).bind fun r47 =>
                         (pStore y1.m r47.1.1 0).bind fun r48 =>
                         if 0 ≤ wi (((y0.stack.length : Nat) : Int) - 1) ∧ wi (((y0.stack.length : Nat) : Int) - 1) < ((y0.stack.length : Nat) : Int) then
                          if 0 ≤ atK1 y0.stack (wi (((y0.stack.length : Nat) : Int) - 1)) ∧ atK1 y0.stack (wi (((y0.stack.length : Nat) : Int) - 1)) < ((y1.recs.length : Nat) : Int) then
                           (runnerRunEmit y0 ({ y1 with m := r48.2.1, recs := y1.recs.set (atK1 y0.stack (wi (((y0.stack.length : Nat) : Int) - 1))).toNat ({ atK26 y1.recs (atK1 y0.stack (wi (((y0.stack.length : Nat) : Int) - 1))) with waiting := (-1) } : RecP) } : EnvP) (⟨8, 0, atK1 y0.stack (wi (((y0.stack.length : Nat) : Int) - 1)), y0.child, 0⟩ : Ev)).bind fun r49 =>
                           (runnerRunTo r49.2.1 0 MV.nil).bind fun r50 =>
                           some ((r50.1.1, ()), (r50.2.1, r49.2.2.1, ()))
                          else none
                         else none
                        else none
                       else none
                      else none
                     else none
                    else none
                   else none
                  else none
                 else none
                else none
               else none
              else none
             else none
            else none
           else none
          else none
         else none
        else none
       else none
      else none
     else none
    else none
   else none
  else none
 ) (
  if y1.l.workers = y1.l.workers then
   if y1.l.levels = y1.l.levels then
    if y1.l.classes = y1.l.classes then
     if y1.l.tasks = y1.l.tasks then
      if y1.l.deque = y1.l.deque then
       if y1.l.heap = y1.l.heap then
        if y1.l.sleepers = y1.l.sleepers then
         if y1.l.epochs = y1.l.epochs then
          if y1.l.bitmaps = y1.l.bitmaps then
           if y1.l.queues = y1.l.queues then
            if y1.l.table = y1.l.table then
             if 0 ≤ wi (((y0.stack.length : Nat) : Int) - 1) ∧ wi (((y0.stack.length : Nat) : Int) - 1) < ((y0.stack.length : Nat) : Int) then
              if y1.l.workers = y1.l.workers then
               if y1.l.levels = y1.l.levels then
                if y1.l.classes = y1.l.classes then
                 if y1.l.tasks = y1.l.tasks then
                  if y1.l.deque = y1.l.deque then
                   if y1.l.heap = y1.l.heap then
                    if y1.l.sleepers = y1.l.sleepers then
                     if y1.l.epochs = y1.l.epochs then
                      if y1.l.bitmaps = y1.l.bitmaps then
                       if y1.l.queues = y1.l.queues then
                        if y1.l.table = y1.l.table then
                         if y0.line = 9 then
                          if 0 ≤ wi (((y0.stack.length : Nat) : Int) - 1) ∧ wi (((y0.stack.length : Nat) : Int) - 1) < ((y0.stack.length : Nat) : Int) then
                           if 0 ≤ atK1 y0.stack (wi (((y0.stack.length : Nat) : Int) - 1)) ∧ atK1 y0.stack (wi (((y0.stack.length : Nat) : Int) - 1)) < ((y1.recs.length : Nat) : Int) then
                            if 0 ≤ wi (((y0.stack.length : Nat) : Int) - 1) ∧ wi (((y0.stack.length : Nat) : Int) - 1) < ((y0.stack.length : Nat) : Int) then
                             if 0 ≤ atK1 y0.stack (wi (((y0.stack.length : Nat) : Int) - 1)) ∧ atK1 y0.stack (wi (((y0.stack.length : Nat) : Int) - 1)) < ((y1.recs.length : Nat) : Int) then
                              if (atK1 y0.stack (wi (((y0.stack.length : Nat) : Int) - 1))) = (atK1 y0.stack (wi (((y0.stack.length : Nat) : Int) - 1))) then
                               if ((atK26 y1.recs (atK1 y0.stack (wi (((y0.stack.length : Nat) : Int) - 1)))).prog) < 0 then
                                if 0 ≤ wi (((y0.stack.length : Nat) : Int) - 1) ∧ wi (((y0.stack.length : Nat) : Int) - 1) < ((y0.stack.length : Nat) : Int) then
                                 if 0 ≤ atK1 y0.stack (wi (((y0.stack.length : Nat) : Int) - 1)) ∧ atK1 y0.stack (wi (((y0.stack.length : Nat) : Int) - 1)) < ((y1.recs.length : Nat) : Int) then
                                  if (atK1 y0.stack (wi (((y0.stack.length : Nat) : Int) - 1))) = (atK1 y0.stack (wi (((y0.stack.length : Nat) : Int) - 1))) then
                                   none
                                  else none
                                 else none
                                else none
                               else
                               if ((y1.c.progs.length : Nat) : Int) ≤ ((atK26 y1.recs (atK1 y0.stack (wi (((y0.stack.length : Nat) : Int) - 1)))).prog) then
                                if 0 ≤ wi (((y0.stack.length : Nat) : Int) - 1) ∧ wi (((y0.stack.length : Nat) : Int) - 1) < ((y0.stack.length : Nat) : Int) then
                                 if 0 ≤ atK1 y0.stack (wi (((y0.stack.length : Nat) : Int) - 1)) ∧ atK1 y0.stack (wi (((y0.stack.length : Nat) : Int) - 1)) < ((y1.recs.length : Nat) : Int) then
                                  if (atK1 y0.stack (wi (((y0.stack.length : Nat) : Int) - 1))) = (atK1 y0.stack (wi (((y0.stack.length : Nat) : Int) - 1))) then
                                   none
                                  else none
                                 else none
                                else none
                               else
                               if 0 ≤ (atK26 y1.recs (atK1 y0.stack (wi (((y0.stack.length : Nat) : Int) - 1)))).prog ∧ (atK26 y1.recs (atK1 y0.stack (wi (((y0.stack.length : Nat) : Int) - 1)))).prog < ((y1.c.progs.length : Nat) : Int) then
                                if 0 ≤ wi (((y0.stack.length : Nat) : Int) - 1) ∧ wi (((y0.stack.length : Nat) : Int) - 1) < ((y0.stack.length : Nat) : Int) then
                                 if 0 ≤ atK1 y0.stack (wi (((y0.stack.length : Nat) : Int) - 1)) ∧ atK1 y0.stack (wi (((y0.stack.length : Nat) : Int) - 1)) < ((y1.recs.length : Nat) : Int) then
                                  if (atK1 y0.stack (wi (((y0.stack.length : Nat) : Int) - 1))) = (atK1 y0.stack (wi (((y0.stack.length : Nat) : Int) - 1))) then
                                   if 0 ≤ (atK26 y1.recs (atK1 y0.stack (wi (((y0.stack.length : Nat) : Int) - 1)))).pc ∧ (atK26 y1.recs (atK1 y0.stack (wi (((y0.stack.length : Nat) : Int) - 1)))).pc < (((atL [] y1.c.progs ((atK26 y1.recs (atK1 y0.stack (wi (((y0.stack.length : Nat) : Int) - 1)))).prog)).length : Nat) : Int) then
                                    if 0 ≤ (atK3 (atL [] y1.c.progs ((atK26 y1.recs (atK1 y0.stack (wi (((y0.stack.length : Nat) : Int) - 1)))).prog)) ((atK26 y1.recs (atK1 y0.stack (wi (((y0.stack.length : Nat) : Int) - 1)))).pc)).a ∧ (atK3 (atL [] y1.c.progs ((atK26 y1.recs (atK1 y0.stack (wi (((y0.stack.length : Nat) : Int) - 1)))).prog)) ((atK26 y1.recs (atK1 y0.stack (wi (((y0.stack.length : Nat) : Int) - 1)))).pc)).a < ((((atK26 y1.recs (atK1 y0.stack (wi (((y0.stack.length : Nat) : Int) - 1)))).kids).length : Nat) : Int) then
                                     (pWaits y1.l (atK1 y0.stack (wi (((y0.stack.length : Nat) : Int) - 1)))).bind fun r1 =>
                                     if (atK1 ((atK26 y1.recs (atK1 y0.stack (wi (((y0.stack.length : Nat) : Int) - 1)))).kids) ((atK3 (atL [] y1.c.progs ((atK26 y1.recs (atK1 y0.stack (wi (((y0.stack.length : Nat) : Int) - 1)))).prog)) ((atK26 y1.recs (atK1 y0.stack (wi (((y0.stack.length : Nat) : Int) - 1)))).pc)).a)) = (atK1 ((atK26 y1.recs (atK1 y0.stack (wi (((y0.stack.length : Nat) : Int) - 1)))).kids) ((atK3 (atL [] y1.c.progs ((atK26 y1.recs (atK1 y0.stack (wi (((y0.stack.length : Nat) : Int) - 1)))).prog)) ((atK26 y1.recs (atK1 y0.stack (wi (((y0.stack.length : Nat) : Int) - 1)))).pc)).a)) then
                                      (pStore y1.m r1.1.1 (wu (wi ((atK1 ((atK26 y1.recs (atK1 y0.stack (wi (((y0.stack.length : Nat) : Int) - 1)))).kids) ((atK3 (atL [] y1.c.progs ((atK26 y1.recs (atK1 y0.stack (wi (((y0.stack.length : Nat) : Int) - 1)))).prog)) ((atK26 y1.recs (atK1 y0.stack (wi (((y0.stack.length : Nat) : Int) - 1)))).pc)).a)) + 1)))).bind fun r2 =>
                                      (runnerRunTo ({ y0 with child := atK1 ((atK26 y1.recs (atK1 y0.stack (wi (((y0.stack.length : Nat) : Int) - 1)))).kids) ((atK3 (atL [] y1.c.progs ((atK26 y1.recs (atK1 y0.stack (wi (((y0.stack.length : Nat) : Int) - 1)))).prog)) ((atK26 y1.recs (atK1 y0.stack (wi (((y0.stack.length : Nat) : Int) - 1)))).pc)).a) } : (RunV MV)) (wi (y0.line + 1)) MV.nil).bind fun r3 =>
                                      some ((r3.1.1, ()), (r3.2.1, ({ y1 with m := r2.2.1, recs := ((y1.recs.set (atK1 y0.stack (wi (((y0.stack.length : Nat) : Int) - 1))).toNat (atK26 y1.recs (atK1 y0.stack (wi (((y0.stack.length : Nat) : Int) - 1))))).set (atK1 y0.stack (wi (((y0.stack.length : Nat) : Int) - 1))).toNat ({ atK26 (y1.recs.set (atK1 y0.stack (wi (((y0.stack.length : Nat) : Int) - 1))).toNat (atK26 y1.recs (atK1 y0.stack (wi (((y0.stack.length : Nat) : Int) - 1))))) (atK1 y0.stack (wi (((y0.stack.length : Nat) : Int) - 1))) with pc := wi (((atK26 (y1.recs.set (atK1 y0.stack (wi (((y0.stack.length : Nat) : Int) - 1))).toNat (atK26 y1.recs (atK1 y0.stack (wi (((y0.stack.length : Nat) : Int) - 1))))) (atK1 y0.stack (wi (((y0.stack.length : Nat) : Int) - 1)))).pc) + 1) } : RecP)).set (atK1 y0.stack (wi (((y0.stack.length : Nat) : Int) - 1))).toNat ({ atK26 ((y1.recs.set (atK1 y0.stack (wi (((y0.stack.length : Nat) : Int) - 1))).toNat (atK26 y1.recs (atK1 y0.stack (wi (((y0.stack.length : Nat) : Int) - 1))))).set (atK1 y0.stack (wi (((y0.stack.length : Nat) : Int) - 1))).toNat ({ atK26 (y1.recs.set (atK1 y0.stack (wi (((y0.stack.length : Nat) : Int) - 1))).toNat (atK26 y1.recs (atK1 y0.stack (wi (((y0.stack.length : Nat) : Int) - 1))))) (atK1 y0.stack (wi (((y0.stack.length : Nat) : Int) - 1))) with pc := wi (((atK26 (y1.recs.set (atK1 y0.stack (wi (((y0.stack.length : Nat) : Int) - 1))).toNat (atK26 y1.recs (atK1 y0.stack (wi (((y0.stack.length : Nat) : Int) - 1))))) (atK1 y0.stack (wi (((y0.stack.length : Nat) : Int) - 1)))).pc) + 1) } : RecP)) (atK1 y0.stack (wi (((y0.stack.length : Nat) : Int) - 1))) with waiting := atK1 ((atK26 y1.recs (atK1 y0.stack (wi (((y0.stack.length : Nat) : Int) - 1)))).kids) ((atK3 (atL [] y1.c.progs ((atK26 y1.recs (atK1 y0.stack (wi (((y0.stack.length : Nat) : Int) - 1)))).prog)) ((atK26 y1.recs (atK1 y0.stack (wi (((y0.stack.length : Nat) : Int) - 1)))).pc)).a) } : RecP) } : EnvP), ()))
                                     else none
                                    else none
                                   else none
                                  else none
                                 else none
                                else none
                               else none
                              else none
                             else none
                            else none
                           else none
                          else none
                         else
                         if y0.line = 10 then
                          (pState y1.l (atK1 y0.stack (wi (((y0.stack.length : Nat) : Int) - 1)))).bind fun r4 =>
                          (pStore y1.m r4.1.1 3).bind fun r5 =>
                          (runnerRunTo y0 (wi (y0.line + 1)) MV.nil).bind fun r6 =>
                          some ((r6.1.1, ()), (r6.2.1, ({ y1 with m := r5.2.1 } : EnvP), ()))
                         else
                         if y0.line = 11 then
                          (pJoin y1.l y0.child).bind fun r7 =>
                          (pCAS y1.m r7.1.1 0 (wu (wi ((atK1 y0.stack (wi (((y0.stack.length : Nat) : Int) - 1))) + 1)))).bind fun r8 =>
                          if (!r8.1.1) = true then
                           (runnerRunTo y0 14 MV.nil).bind fun r9 =>
                           some ((r9.1.1, ()), (r9.2.1, ({ y1 with m := r8.2.1 } : EnvP), ()))
                          else
                          (runnerRunEmit y0 ({ y1 with m := r8.2.1 } : EnvP) (⟨6, 0, atK1 y0.stack (wi (((y0.stack.length : Nat) : Int) - 1)), y0.child, 0⟩ : Ev)).bind fun r10 =>
                          (runnerRunTo r10.2.1 (wi (r10.2.1.line + 1)) MV.nil).bind fun r11 =>
                          some ((r11.1.1, ()), (r11.2.1, r10.2.2.1, ()))
                         else
                         if y0.line = 12 then
                          (pLevel y1.l (atK1 y0.stack (wi (((y0.stack.length : Nat) : Int) - 1)))).bind fun r12 =>
                          (pLoad y1.m r12.1.1).bind fun r13 =>
                          (boostWalk y0.worker y0.child (wi (r13.1.1))).bind fun r14 =>
                          (runnerRunTo ({ y0 with level := wi (r13.1.1) } : (RunV MV)) 13 r14.1.1).bind fun r15 =>
                          some ((r15.1.1, ()), (r15.2.1, ({ y1 with m := r13.2.1 } : EnvP), ()))
                         else
                         if y0.line = 13 then
                          (stepD2 y0.inside y1).bind fun r16 =>
                          if (!r16.1.1) = true then
                           some ((false, ()), (({ y0 with inside := r16.2.1 } : (RunV MV)), r16.2.2.1, ()))
                          else
                          (runnerRunEmit ({ y0 with inside := r16.2.1 } : (RunV MV)) r16.2.2.1 (⟨7, 0, atK1 y0.stack (wi (((y0.stack.length : Nat) : Int) - 1)), 0, y0.level⟩ : Ev)).bind fun r17 =>
                          (runnerRunLeave r17.2.1).bind fun r18 =>
                          some ((r18.1.1, ()), (r18.2.1, r17.2.2.1, ()))
                         else
                         if y0.line = 14 then
                          (pState y1.l (atK1 y0.stack (wi (((y0.stack.length : Nat) : Int) - 1)))).bind fun r19 =>
                          (pStore y1.m r19.1.1 2).bind fun r20 =>
                          (runnerRunTo y0 (wi (y0.line + 1)) MV.nil).bind fun r21 =>
                          some ((r21.1.1, ()), (r21.2.1, ({ y1 with m := r20.2.1 } : EnvP), ()))
                         else
                         (pWaits y1.l (atK1 y0.stack (wi (((y0.stack.length : Nat) : Int) - 1)))).bind fun r22 =>
                         (pStore y1.m r22.1.1 0).bind fun r23 =>
                         if 0 ≤ wi (((y0.stack.length : Nat) : Int) - 1) ∧ wi (((y0.stack.length : Nat) : Int) - 1) < ((y0.stack.length : Nat) : Int) then
                          if 0 ≤ atK1 y0.stack (wi (((y0.stack.length : Nat) : Int) - 1)) ∧ atK1 y0.stack (wi (((y0.stack.length : Nat) : Int) - 1)) < ((y1.recs.length : Nat) : Int) then
                           (runnerRunEmit y0 ({ y1 with m := r23.2.1, recs := y1.recs.set (atK1 y0.stack (wi (((y0.stack.length : Nat) : Int) - 1))).toNat ({ atK26 y1.recs (atK1 y0.stack (wi (((y0.stack.length : Nat) : Int) - 1))) with waiting := (-1) } : RecP) } : EnvP) (⟨8, 0, atK1 y0.stack (wi (((y0.stack.length : Nat) : Int) - 1)), y0.child, 0⟩ : Ev)).bind fun r24 =>
                           (runnerRunTo r24.2.1 0 MV.nil).bind fun r25 =>
                           some ((r25.1.1, ()), (r25.2.1, r24.2.2.1, ()))
                          else none
                         else none
                        else none
                       else none
                      else none
                     else none
                    else none
                   else none
                  else none
                 else none
                else none
               else none
              else none
             else none
            else none
           else none
          else none
         else none
        else none
       else none
      else none
     else none
    else none
   else none
  else none
 )
noncomputable abbrev runnerRunJoin_a_k : Con SR1 := ⟨179, [.ref 33, .ref 27], [.sh .b], fun x => runnerRunJoin_a x.1 x.2.1⟩
noncomputable def runnerRunJoin_a_tb : List (Nat × Func) := [(174, Tryz.f174), (181, Tryz.f181), (185, Tryz.f185), (182, Tryz.f182)]
theorem runnerRunJoin_a_ok : CO Tryz.prog runnerRunJoin_a_k := co_fn mixed Tryz.func179 [pWaits_k, pStore_k, runnerRunTo_k, pState_k, pJoin_k, pCAS_k, runnerRunEmit_k, pLevel_k, pLoad_k, boostWalk_k, stepD2_k, runnerRunLeave_k] ⟨pWaits_ok, pStore_ok, runnerRunTo_ok, pState_ok, pJoin_ok, pCAS_ok, runnerRunEmit_ok, pLevel_ok, pLoad_ok, boostWalk_ok, stepD2_ok, runnerRunLeave_ok, trivial⟩ runnerRunJoin_a_tb ⟨Tryz.func174, Tryz.func181, Tryz.func185, Tryz.func182, trivial⟩ (fun _ => []) [] fun x => by kernel_rfl
noncomputable def runnerRunJoin (y0 : (RunV MV)) (y1 : EnvP) : Option ((Bool × Unit) × ((RunV MV) × EnvP × Unit)) :=
 if 0 ≤ wi (((y0.stack.length : Nat) : Int) - 1) ∧ wi (((y0.stack.length : Nat) : Int) - 1) < ((y0.stack.length : Nat) : Int) then
  if y0.line = 9 then
   if 0 ≤ wi (((y0.stack.length : Nat) : Int) - 1) ∧ wi (((y0.stack.length : Nat) : Int) - 1) < ((y0.stack.length : Nat) : Int) then
    if 0 ≤ atK1 y0.stack (wi (((y0.stack.length : Nat) : Int) - 1)) ∧ atK1 y0.stack (wi (((y0.stack.length : Nat) : Int) - 1)) < ((y1.recs.length : Nat) : Int) then
     if 0 ≤ wi (((y0.stack.length : Nat) : Int) - 1) ∧ wi (((y0.stack.length : Nat) : Int) - 1) < ((y0.stack.length : Nat) : Int) then
      if 0 ≤ atK1 y0.stack (wi (((y0.stack.length : Nat) : Int) - 1)) ∧ atK1 y0.stack (wi (((y0.stack.length : Nat) : Int) - 1)) < ((y1.recs.length : Nat) : Int) then
       if ((atK26 y1.recs (atK1 y0.stack (wi (((y0.stack.length : Nat) : Int) - 1)))).prog) < 0 then
        if 0 ≤ wi (((y0.stack.length : Nat) : Int) - 1) ∧ wi (((y0.stack.length : Nat) : Int) - 1) < ((y0.stack.length : Nat) : Int) then
         if 0 ≤ atK1 y0.stack (wi (((y0.stack.length : Nat) : Int) - 1)) ∧ atK1 y0.stack (wi (((y0.stack.length : Nat) : Int) - 1)) < ((y1.recs.length : Nat) : Int) then
          none
         else none
        else none
       else
       if ((y1.c.progs.length : Nat) : Int) ≤ ((atK26 y1.recs (atK1 y0.stack (wi (((y0.stack.length : Nat) : Int) - 1)))).prog) then
        if 0 ≤ wi (((y0.stack.length : Nat) : Int) - 1) ∧ wi (((y0.stack.length : Nat) : Int) - 1) < ((y0.stack.length : Nat) : Int) then
         if 0 ≤ atK1 y0.stack (wi (((y0.stack.length : Nat) : Int) - 1)) ∧ atK1 y0.stack (wi (((y0.stack.length : Nat) : Int) - 1)) < ((y1.recs.length : Nat) : Int) then
          none
         else none
        else none
       else
       if 0 ≤ (atK26 y1.recs (atK1 y0.stack (wi (((y0.stack.length : Nat) : Int) - 1)))).prog ∧ (atK26 y1.recs (atK1 y0.stack (wi (((y0.stack.length : Nat) : Int) - 1)))).prog < ((y1.c.progs.length : Nat) : Int) then
        if 0 ≤ wi (((y0.stack.length : Nat) : Int) - 1) ∧ wi (((y0.stack.length : Nat) : Int) - 1) < ((y0.stack.length : Nat) : Int) then
         if 0 ≤ atK1 y0.stack (wi (((y0.stack.length : Nat) : Int) - 1)) ∧ atK1 y0.stack (wi (((y0.stack.length : Nat) : Int) - 1)) < ((y1.recs.length : Nat) : Int) then
          if 0 ≤ (atK26 y1.recs (atK1 y0.stack (wi (((y0.stack.length : Nat) : Int) - 1)))).pc ∧ (atK26 y1.recs (atK1 y0.stack (wi (((y0.stack.length : Nat) : Int) - 1)))).pc < (((atL [] y1.c.progs ((atK26 y1.recs (atK1 y0.stack (wi (((y0.stack.length : Nat) : Int) - 1)))).prog)).length : Nat) : Int) then
           if 0 ≤ (atK3 (atL [] y1.c.progs ((atK26 y1.recs (atK1 y0.stack (wi (((y0.stack.length : Nat) : Int) - 1)))).prog)) ((atK26 y1.recs (atK1 y0.stack (wi (((y0.stack.length : Nat) : Int) - 1)))).pc)).a ∧ (atK3 (atL [] y1.c.progs ((atK26 y1.recs (atK1 y0.stack (wi (((y0.stack.length : Nat) : Int) - 1)))).prog)) ((atK26 y1.recs (atK1 y0.stack (wi (((y0.stack.length : Nat) : Int) - 1)))).pc)).a < ((((atK26 y1.recs (atK1 y0.stack (wi (((y0.stack.length : Nat) : Int) - 1)))).kids).length : Nat) : Int) then
            (pWaits y1.l (atK1 y0.stack (wi (((y0.stack.length : Nat) : Int) - 1)))).bind fun r1 =>
            (pStore y1.m r1.1.1 (wu (wi ((atK1 ((atK26 y1.recs (atK1 y0.stack (wi (((y0.stack.length : Nat) : Int) - 1)))).kids) ((atK3 (atL [] y1.c.progs ((atK26 y1.recs (atK1 y0.stack (wi (((y0.stack.length : Nat) : Int) - 1)))).prog)) ((atK26 y1.recs (atK1 y0.stack (wi (((y0.stack.length : Nat) : Int) - 1)))).pc)).a)) + 1)))).bind fun r2 =>
            (runnerRunTo ({ y0 with child := atK1 ((atK26 y1.recs (atK1 y0.stack (wi (((y0.stack.length : Nat) : Int) - 1)))).kids) ((atK3 (atL [] y1.c.progs ((atK26 y1.recs (atK1 y0.stack (wi (((y0.stack.length : Nat) : Int) - 1)))).prog)) ((atK26 y1.recs (atK1 y0.stack (wi (((y0.stack.length : Nat) : Int) - 1)))).pc)).a) } : (RunV MV)) (wi (y0.line + 1)) MV.nil).bind fun r3 =>
            some ((r3.1.1, ()), (r3.2.1, ({ y1 with m := r2.2.1, recs := ((y1.recs.set (atK1 y0.stack (wi (((y0.stack.length : Nat) : Int) - 1))).toNat (atK26 y1.recs (atK1 y0.stack (wi (((y0.stack.length : Nat) : Int) - 1))))).set (atK1 y0.stack (wi (((y0.stack.length : Nat) : Int) - 1))).toNat ({ atK26 (y1.recs.set (atK1 y0.stack (wi (((y0.stack.length : Nat) : Int) - 1))).toNat (atK26 y1.recs (atK1 y0.stack (wi (((y0.stack.length : Nat) : Int) - 1))))) (atK1 y0.stack (wi (((y0.stack.length : Nat) : Int) - 1))) with pc := wi (((atK26 (y1.recs.set (atK1 y0.stack (wi (((y0.stack.length : Nat) : Int) - 1))).toNat (atK26 y1.recs (atK1 y0.stack (wi (((y0.stack.length : Nat) : Int) - 1))))) (atK1 y0.stack (wi (((y0.stack.length : Nat) : Int) - 1)))).pc) + 1) } : RecP)).set (atK1 y0.stack (wi (((y0.stack.length : Nat) : Int) - 1))).toNat ({ atK26 ((y1.recs.set (atK1 y0.stack (wi (((y0.stack.length : Nat) : Int) - 1))).toNat (atK26 y1.recs (atK1 y0.stack (wi (((y0.stack.length : Nat) : Int) - 1))))).set (atK1 y0.stack (wi (((y0.stack.length : Nat) : Int) - 1))).toNat ({ atK26 (y1.recs.set (atK1 y0.stack (wi (((y0.stack.length : Nat) : Int) - 1))).toNat (atK26 y1.recs (atK1 y0.stack (wi (((y0.stack.length : Nat) : Int) - 1))))) (atK1 y0.stack (wi (((y0.stack.length : Nat) : Int) - 1))) with pc := wi (((atK26 (y1.recs.set (atK1 y0.stack (wi (((y0.stack.length : Nat) : Int) - 1))).toNat (atK26 y1.recs (atK1 y0.stack (wi (((y0.stack.length : Nat) : Int) - 1))))) (atK1 y0.stack (wi (((y0.stack.length : Nat) : Int) - 1)))).pc) + 1) } : RecP)) (atK1 y0.stack (wi (((y0.stack.length : Nat) : Int) - 1))) with waiting := atK1 ((atK26 y1.recs (atK1 y0.stack (wi (((y0.stack.length : Nat) : Int) - 1)))).kids) ((atK3 (atL [] y1.c.progs ((atK26 y1.recs (atK1 y0.stack (wi (((y0.stack.length : Nat) : Int) - 1)))).prog)) ((atK26 y1.recs (atK1 y0.stack (wi (((y0.stack.length : Nat) : Int) - 1)))).pc)).a) } : RecP) } : EnvP), ()))
           else none
          else none
         else none
        else none
       else none
      else none
     else none
    else none
   else none
  else
  if y0.line = 10 then
   (pState y1.l (atK1 y0.stack (wi (((y0.stack.length : Nat) : Int) - 1)))).bind fun r4 =>
   (pStore y1.m r4.1.1 3).bind fun r5 =>
   (runnerRunTo y0 (wi (y0.line + 1)) MV.nil).bind fun r6 =>
   some ((r6.1.1, ()), (r6.2.1, ({ y1 with m := r5.2.1 } : EnvP), ()))
  else
  if y0.line = 11 then
   (pJoin y1.l y0.child).bind fun r7 =>
   (pCAS y1.m r7.1.1 0 (wu (wi ((atK1 y0.stack (wi (((y0.stack.length : Nat) : Int) - 1))) + 1)))).bind fun r8 =>
   if (!r8.1.1) = true then
    (runnerRunTo y0 14 MV.nil).bind fun r9 =>
    some ((r9.1.1, ()), (r9.2.1, ({ y1 with m := r8.2.1 } : EnvP), ()))
   else
   (runnerRunEmit y0 ({ y1 with m := r8.2.1 } : EnvP) (⟨6, 0, atK1 y0.stack (wi (((y0.stack.length : Nat) : Int) - 1)), y0.child, 0⟩ : Ev)).bind fun r10 =>
   (runnerRunTo r10.2.1 (wi (r10.2.1.line + 1)) MV.nil).bind fun r11 =>
   some ((r11.1.1, ()), (r11.2.1, r10.2.2.1, ()))
  else
  if y0.line = 12 then
   (pLevel y1.l (atK1 y0.stack (wi (((y0.stack.length : Nat) : Int) - 1)))).bind fun r12 =>
   (pLoad y1.m r12.1.1).bind fun r13 =>
   (boostWalk y0.worker y0.child (wi (r13.1.1))).bind fun r14 =>
   (runnerRunTo ({ y0 with level := wi (r13.1.1) } : (RunV MV)) 13 r14.1.1).bind fun r15 =>
   some ((r15.1.1, ()), (r15.2.1, ({ y1 with m := r13.2.1 } : EnvP), ()))
  else
  if y0.line = 13 then
   (stepD2 y0.inside y1).bind fun r16 =>
   if (!r16.1.1) = true then
    some ((false, ()), (({ y0 with inside := r16.2.1 } : (RunV MV)), r16.2.2.1, ()))
   else
   (runnerRunEmit ({ y0 with inside := r16.2.1 } : (RunV MV)) r16.2.2.1 (⟨7, 0, atK1 y0.stack (wi (((y0.stack.length : Nat) : Int) - 1)), 0, y0.level⟩ : Ev)).bind fun r17 =>
   (runnerRunLeave r17.2.1).bind fun r18 =>
   some ((r18.1.1, ()), (r18.2.1, r17.2.2.1, ()))
  else
  if y0.line = 14 then
   (pState y1.l (atK1 y0.stack (wi (((y0.stack.length : Nat) : Int) - 1)))).bind fun r19 =>
   (pStore y1.m r19.1.1 2).bind fun r20 =>
   (runnerRunTo y0 (wi (y0.line + 1)) MV.nil).bind fun r21 =>
   some ((r21.1.1, ()), (r21.2.1, ({ y1 with m := r20.2.1 } : EnvP), ()))
  else
  (pWaits y1.l (atK1 y0.stack (wi (((y0.stack.length : Nat) : Int) - 1)))).bind fun r22 =>
  (pStore y1.m r22.1.1 0).bind fun r23 =>
  if 0 ≤ wi (((y0.stack.length : Nat) : Int) - 1) ∧ wi (((y0.stack.length : Nat) : Int) - 1) < ((y0.stack.length : Nat) : Int) then
   if 0 ≤ atK1 y0.stack (wi (((y0.stack.length : Nat) : Int) - 1)) ∧ atK1 y0.stack (wi (((y0.stack.length : Nat) : Int) - 1)) < ((y1.recs.length : Nat) : Int) then
    (runnerRunEmit y0 ({ y1 with m := r23.2.1, recs := y1.recs.set (atK1 y0.stack (wi (((y0.stack.length : Nat) : Int) - 1))).toNat ({ atK26 y1.recs (atK1 y0.stack (wi (((y0.stack.length : Nat) : Int) - 1))) with waiting := (-1) } : RecP) } : EnvP) (⟨8, 0, atK1 y0.stack (wi (((y0.stack.length : Nat) : Int) - 1)), y0.child, 0⟩ : Ev)).bind fun r24 =>
    (runnerRunTo r24.2.1 0 MV.nil).bind fun r25 =>
    some ((r25.1.1, ()), (r25.2.1, r24.2.2.1, ()))
   else none
  else none
 else none
noncomputable abbrev runnerRunJoin_k : Con SR1 := ⟨179, [.ref 33, .ref 27], [.sh .b], fun x => runnerRunJoin x.1 x.2.1⟩
theorem runnerRunJoin_eq (y0 : (RunV MV)) (y1 : EnvP) : runnerRunJoin_a y0 y1 = runnerRunJoin y0 y1 := by
  unfold runnerRunJoin_a runnerRunJoin
  simp only [if_true, agr_self, bind_guard]
theorem runnerRunJoin_ok : CO Tryz.prog runnerRunJoin_k := co_as runnerRunJoin_a_ok fun x out hx => (show runnerRunJoin_a_k.spec x = some out from (runnerRunJoin_eq x.1 x.2.1).trans hx)
noncomputable def tableEnter (y0 : Int) (y1 : Int) : Option ((MV × Unit) × (Unit)) :=
 some ((MV.enter (⟨⟨false, 0, 0⟩, y0, y1, 0, 1, MV.nil⟩ : (EnterV MV)), ()), (()))
noncomputable abbrev tableEnter_k : Con SR1 := ⟨197, [.sh sI_, .sh sI_], [.sh .mach], fun x => tableEnter x.1 x.2.1⟩
theorem tableEnter_ok : CO Tryz.prog tableEnter_k := co_fn mixed Tryz.func197 [] trivial [] trivial (fun _ => []) [] fun x => by kernel_rfl
noncomputable def runnerRunFinish_a (y0 : (RunV MV)) (y1 : EnvP) : Option ((Bool × Unit) × ((RunV MV) × EnvP × Unit)) :=
 agr (
  if 0 ≤ wi (((y0.stack.length : Nat) : Int) - 1) ∧ wi (((y0.stack.length : Nat) : Int) - 1) < ((y0.stack.length : Nat) : Int) then
   if y1.l.workers = y1.l.workers then
    if y1.l.levels = y1.l.levels then
     if y1.l.classes = y1.l.classes then
      if y1.l.tasks = y1.l.tasks then
       if y1.l.deque = y1.l.deque then
        if y1.l.heap = y1.l.heap then
         if y1.l.sleepers = y1.l.sleepers then
          if y1.l.epochs = y1.l.epochs then
           if y1.l.bitmaps = y1.l.bitmaps then
            if y1.l.queues = y1.l.queues then
             if y1.l.table = y1.l.table then
              if y1.l.workers = y1.l.workers then
               if y1.l.levels = y1.l.levels then
                if y1.l.classes = y1.l.classes then
                 if y1.l.tasks = y1.l.tasks then
                  if y1.l.deque = y1.l.deque then
                   if y1.l.heap = y1.l.heap then
                    if y1.l.sleepers = y1.l.sleepers then
                     if y1.l.epochs = y1.l.epochs then
                      if y1.l.bitmaps = y1.l.bitmaps then
                       if y1.l.queues = y1.l.queues then
                        if y1.l.table = y1.l.table then
                         if y0.line = 16 then
                          (pState y1.l (atK1 y0.stack (wi (((y0.stack.length : Nat) : Int) - 1)))).bind fun r29 =>
                          (pStore y1.m r29.1.1 4).bind fun r30 =>
                          (runnerRunTo y0 17 MV.nil).bind fun r31 =>
                          some ((r31.1.1, ()), (r31.2.1, ({ y1 with m := r30.2.1 } : EnvP), ()))
                         else
                         if y0.line = 17 then
                          (pJoin y1.l (atK1 y0.stack (wi (((y0.stack.length : Nat) : Int) - 1)))).bind fun r32 =>
                          (pCAS y1.m r32.1.1 0 4294967296).bind fun r33 =>
                          (runnerRunEmit y0 ({ y1 with m := r33.2.1 } : EnvP) (⟨10, 0, atK1 y0.stack (wi (((y0.stack.length : Nat) : Int) - 1)), 0, 0⟩ : Ev)).bind fun r34 =>
                          if r33.1.1 = true then
                           (runnerRunLeave r34.2.1).bind fun r35 =>
                           some ((r35.1.1, ()), (r35.2.1, r34.2.2.1, ()))
                          else
                          (runnerRunTo r34.2.1 18 MV.nil).bind fun r36 =>
                          some ((r36.1.1, ()), (r36.2.1, r34.2.2.1, ()))
                         else
                         if y0.line = 18 then
                          (pJoin y1.l (atK1 y0.stack (wi (((y0.stack.length : Nat) : Int) - 1)))).bind fun r37 =>
                          (pLoad y1.m r37.1.1).bind fun r38 =>
                          if (wi ((wi (r38.1.1)) - 1)) < 0 then
                           (runnerRunLeave ({ y0 with waiter := wi ((wi (r38.1.1)) - 1) } : (RunV MV))).bind fun r39 =>
                           some ((r39.1.1, ()), (r39.2.1, ({ y1 with m := r38.2.1 } : EnvP), ()))
                          else
                          if y1.c.tasks ≤ (wi ((wi (r38.1.1)) - 1)) then
                           (runnerRunLeave ({ y0 with waiter := wi ((wi (r38.1.1)) - 1) } : (RunV MV))).bind fun r40 =>
                           some ((r40.1.1, ()), (r40.2.1, ({ y1 with m := r38.2.1 } : EnvP), ()))
                          else
                          (tableEnter y0.worker (wi ((wi (r38.1.1)) - 1))).bind fun r41 =>
                          (runnerRunTo ({ y0 with waiter := wi ((wi (r38.1.1)) - 1) } : (RunV MV)) 19 r41.1.1).bind fun r42 =>
                          some ((r42.1.1, ()), (r42.2.1, ({ y1 with m := r38.2.1 } : EnvP), ()))
                         else
                         (stepD2 y0.inside y1).bind fun r43 =>
                         if (!r43.1.1) = true then
                          some ((false, ()), (({ y0 with inside := r43.2.1 } : (RunV MV)), r43.2.2.1, ()))
                         else
                         (resultD2 r43.2.1).bind fun r44 =>
                         if y0.line = 19 then
                          if r44.1.1 = 3 then
                           (tableClaim y0.worker y0.waiter).bind fun r45 =>
                           (runnerRunTo ({ y0 with inside := r44.2.1 } : (RunV MV)) 21 r45.1.1).bind fun r46 =>
                           some ((r46.1.1, ()), (r46.2.1, r43.2.2.1, ()))
                          else
                          if y0.line = 19 then
                           (parkWake y0.worker r44.1.2.1).bind fun r47 =>
                           (runnerRunTo ({ y0 with inside := r44.2.1 } : (RunV MV)) 20 r47.1.1).bind fun r48 =>
                           some ((r48.1.1, ()), (r48.2.1, r43.2.2.1, ()))
                          else
                          if y0.line = 21 then
                           if r44.1.1 = 1 then
                            if 0 ≤ wi (((y0.stack.length : Nat) : Int) - 1) ∧ wi (((y0.stack.length : Nat) : Int) - 1) < ((y0.stack.length : Nat) : Int) then
                             (runnerRunTo ({ y0 with stack := y0.stack.set (wi (((y0.stack.length : Nat) : Int) - 1)).toNat y0.waiter, inside := r44.2.1 } : (RunV MV)) 0 MV.nil).bind fun r49 =>
                             some ((r49.1.1, ()), (r49.2.1, r43.2.2.1, ()))
                            else none
                           else
                           (runnerRunLeave ({ y0 with inside := r44.2.1 } : (RunV MV))).bind fun r50 =>
                           some ((r50.1.1, ()), (r50.2.1, r43.2.2.1, ()))
                          else
                          (runnerRunLeave ({ y0 with inside := r44.2.1 } : (RunV MV))).bind fun r51 =>
                          some ((r51.1.1, ()), (r51.2.1, r43.2.2.1, ()))
                         else
                         if y0.line = 19 then
                          (parkWake y0.worker r44.1.2.1).bind fun r52 =>
                          (runnerRunTo ({ y0 with inside := r44.2.1 } : (RunV MV)) 20 r52.1.1).bind fun r53 =>
                          some ((r53.1.1, ()), (r53.2.1, r43.2.2.1, ()))
                         else
                         if y0.line = 21 then
                          if r44.1.1 = 1 then
                           if 0 ≤ wi (((y0.stack.length : Nat) : Int) - 1) ∧ wi (((y0.stack.length : Nat) : Int) - 1) < ((y0.stack.length : Nat) : Int) then
                            (runnerRunTo ({ y0 with stack := y0.stack.set (wi (((y0.stack.length : Nat) : Int) - 1)).toNat y0.waiter, inside := r44.2.1 } : (RunV MV)) 0 MV.nil).bind fun r54 =>
                            some ((r54.1.1, ()), (r54.2.1, r43.2.2.1, ()))
                           else none
                          else
                          (runnerRunLeave ({ y0 with inside := r44.2.1 } : (RunV MV))).bind fun r55 =>
                          some ((r55.1.1, ()), (r55.2.1, r43.2.2.1, ()))
                         else
                         (runnerRunLeave ({ y0 with inside := r44.2.1 } : (RunV MV))).bind fun r56 =>
                         some ((r56.1.1, ()), (r56.2.1, r43.2.2.1, ()))
                        else none
                       else none
                      else none
                     else none
                    else none
                   else none
                  else none
                 else none
                else none
               else none
              else none
             else none
            else none
           else none
          else none
         else none
        else none
       else none
      else none
     else none
    else none
   else none
  else none
 ) (
  if y1.l.workers = y1.l.workers then
   if y1.l.levels = y1.l.levels then
    if y1.l.classes = y1.l.classes then
     if y1.l.tasks = y1.l.tasks then
      if y1.l.deque = y1.l.deque then
       if y1.l.heap = y1.l.heap then
        if y1.l.sleepers = y1.l.sleepers then
         if y1.l.epochs = y1.l.epochs then
          if y1.l.bitmaps = y1.l.bitmaps then
           if y1.l.queues = y1.l.queues then
            if y1.l.table = y1.l.table then
             if 0 ≤ wi (((y0.stack.length : Nat) : Int) - 1) ∧ wi (((y0.stack.length : Nat) : Int) - 1) < ((y0.stack.length : Nat) : Int) then
              if y1.l.workers = y1.l.workers then
               if y1.l.levels = y1.l.levels then
                if y1.l.classes = y1.l.classes then
                 if y1.l.tasks = y1.l.tasks then
                  if y1.l.deque = y1.l.deque then
                   if y1.l.heap = y1.l.heap then
                    if y1.l.sleepers = y1.l.sleepers then
                     if y1.l.epochs = y1.l.epochs then
                      if y1.l.bitmaps = y1.l.bitmaps then
                       if y1.l.queues = y1.l.queues then
                        if y1.l.table = y1.l.table then
                         if y0.line = 16 then
                          (pState y1.l (atK1 y0.stack (wi (((y0.stack.length : Nat) : Int) - 1)))).bind fun r1 =>
                          (pStore y1.m r1.1.1 4).bind fun r2 =>
                          (runnerRunTo y0 17 MV.nil).bind fun r3 =>
                          some ((r3.1.1, ()), (r3.2.1, ({ y1 with m := r2.2.1 } : EnvP), ()))
                         else
                         if y0.line = 17 then
                          (pJoin y1.l (atK1 y0.stack (wi (((y0.stack.length : Nat) : Int) - 1)))).bind fun r4 =>
                          (pCAS y1.m r4.1.1 0 4294967296).bind fun r5 =>
                          (runnerRunEmit y0 ({ y1 with m := r5.2.1 } : EnvP) (⟨10, 0, atK1 y0.stack (wi (((y0.stack.length : Nat) : Int) - 1)), 0, 0⟩ : Ev)).bind fun r6 =>
                          if r5.1.1 = true then
                           (runnerRunLeave r6.2.1).bind fun r7 =>
                           some ((r7.1.1, ()), (r7.2.1, r6.2.2.1, ()))
                          else
                          (runnerRunTo r6.2.1 18 MV.nil).bind fun r8 =>
                          some ((r8.1.1, ()), (r8.2.1, r6.2.2.1, ()))
                         else
                         if y0.line = 18 then
                          (pJoin y1.l (atK1 y0.stack (wi (((y0.stack.length : Nat) : Int) - 1)))).bind fun r9 =>
                          (pLoad y1.m r9.1.1).bind fun r10 =>
                          if (wi ((wi (r10.1.1)) - 1)) < 0 then
                           (runnerRunLeave ({ y0 with waiter := wi ((wi (r10.1.1)) - 1) } : (RunV MV))).bind fun r11 =>
                           some ((r11.1.1, ()), (r11.2.1, ({ y1 with m := r10.2.1 } : EnvP), ()))
                          else
                          if y1.c.tasks ≤ (wi ((wi (r10.1.1)) - 1)) then
                           (runnerRunLeave ({ y0 with waiter := wi ((wi (r10.1.1)) - 1) } : (RunV MV))).bind fun r12 =>
                           some ((r12.1.1, ()), (r12.2.1, ({ y1 with m := r10.2.1 } : EnvP), ()))
                          else
                          (tableEnter y0.worker (wi ((wi (r10.1.1)) - 1))).bind fun r13 =>
                          (runnerRunTo ({ y0 with waiter := wi ((wi (r10.1.1)) - 1) } : (RunV MV)) 19 r13.1.1).bind fun r14 =>
                          some ((r14.1.1, ()), (r14.2.1, ({ y1 with m := r10.2.1 } : EnvP), ()))
                         else
                         (stepD2 y0.inside y1).bind fun r15 =>
                         if (!r15.1.1) = true then
                          some ((false, ()), (({ y0 with inside := r15.2.1 } : (RunV MV)), r15.2.2.1, ()))
                         else
                         (resultD2 r15.2.1).bind fun r16 =>
                         if y0.line = 19 then
                          if r16.1.1 = 3 then
                           (tableClaim y0.worker y0.waiter).bind fun r17 =>
                           (runnerRunTo ({ y0 with inside := r16.2.1 } : (RunV MV)) 21 r17.1.1).bind fun r18 =>
                           some ((r18.1.1, ()), (r18.2.1, r15.2.2.1, ()))
                          else
                          if y0.line = 19 then
                           (parkWake y0.worker r16.1.2.1).bind fun r19 =>
                           (runnerRunTo ({ y0 with inside := r16.2.1 } : (RunV MV)) 20 r19.1.1).bind fun r20 =>
                           some ((r20.1.1, ()), (r20.2.1, r15.2.2.1, ()))
                          else
                          if y0.line = 21 then
                           if r16.1.1 = 1 then
                            if 0 ≤ wi (((y0.stack.length : Nat) : Int) - 1) ∧ wi (((y0.stack.length : Nat) : Int) - 1) < ((y0.stack.length : Nat) : Int) then
                             (runnerRunTo ({ y0 with stack := y0.stack.set (wi (((y0.stack.length : Nat) : Int) - 1)).toNat y0.waiter, inside := r16.2.1 } : (RunV MV)) 0 MV.nil).bind fun r21 =>
                             some ((r21.1.1, ()), (r21.2.1, r15.2.2.1, ()))
                            else none
                           else
                           (runnerRunLeave ({ y0 with inside := r16.2.1 } : (RunV MV))).bind fun r22 =>
                           some ((r22.1.1, ()), (r22.2.1, r15.2.2.1, ()))
                          else
                          (runnerRunLeave ({ y0 with inside := r16.2.1 } : (RunV MV))).bind fun r23 =>
                          some ((r23.1.1, ()), (r23.2.1, r15.2.2.1, ()))
                         else
                         if y0.line = 19 then
                          (parkWake y0.worker r16.1.2.1).bind fun r24 =>
                          (runnerRunTo ({ y0 with inside := r16.2.1 } : (RunV MV)) 20 r24.1.1).bind fun r25 =>
                          some ((r25.1.1, ()), (r25.2.1, r15.2.2.1, ()))
                         else
                         if y0.line = 21 then
                          if r16.1.1 = 1 then
                           if 0 ≤ wi (((y0.stack.length : Nat) : Int) - 1) ∧ wi (((y0.stack.length : Nat) : Int) - 1) < ((y0.stack.length : Nat) : Int) then
                            (runnerRunTo ({ y0 with stack := y0.stack.set (wi (((y0.stack.length : Nat) : Int) - 1)).toNat y0.waiter, inside := r16.2.1 } : (RunV MV)) 0 MV.nil).bind fun r26 =>
                            some ((r26.1.1, ()), (r26.2.1, r15.2.2.1, ()))
                           else none
                          else
                          (runnerRunLeave ({ y0 with inside := r16.2.1 } : (RunV MV))).bind fun r27 =>
                          some ((r27.1.1, ()), (r27.2.1, r15.2.2.1, ()))
                         else
                         (runnerRunLeave ({ y0 with inside := r16.2.1 } : (RunV MV))).bind fun r28 =>
                         some ((r28.1.1, ()), (r28.2.1, r15.2.2.1, ()))
                        else none
                       else none
                      else none
                     else none
                    else none
                   else none
                  else none
                 else none
                else none
               else none
              else none
             else none
            else none
           else none
          else none
         else none
        else none
       else none
      else none
     else none
    else none
   else none
  else none
 )
noncomputable abbrev runnerRunFinish_a_k : Con SR1 := ⟨180, [.ref 33, .ref 27], [.sh .b], fun x => runnerRunFinish_a x.1 x.2.1⟩
noncomputable def runnerRunFinish_a_tb : List (Nat × Func) := [(174, Tryz.f174)]
theorem runnerRunFinish_a_ok : CO Tryz.prog runnerRunFinish_a_k := co_fn mixed Tryz.func180 [pState_k, pStore_k, runnerRunTo_k, pJoin_k, pCAS_k, runnerRunEmit_k, runnerRunLeave_k, pLoad_k, tableEnter_k, stepD2_k, resultD2_k, tableClaim_k, parkWake_k] ⟨pState_ok, pStore_ok, runnerRunTo_ok, pJoin_ok, pCAS_ok, runnerRunEmit_ok, runnerRunLeave_ok, pLoad_ok, tableEnter_ok, stepD2_ok, resultD2_ok, tableClaim_ok, parkWake_ok, trivial⟩ runnerRunFinish_a_tb ⟨Tryz.func174, trivial⟩ (fun _ => []) [] fun x => by kernel_rfl
end Go.Proofs.YtgiagoeoifgliaaGreat
