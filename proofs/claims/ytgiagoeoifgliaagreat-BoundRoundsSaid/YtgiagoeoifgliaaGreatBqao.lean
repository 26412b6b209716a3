/- The program's machines in the evaluator's form. -/
import Derived.Test.YtgiagoeoifgliaaGreatBqan
set_option linter.all false
namespace Go.Proofs.YtgiagoeoifgliaaGreat
open Go Go.RowKit
set_option maxRecDepth 100000
variable [Tb]
noncomputable def runnerRunJoin (y0 : (RunV MV)) (y1 : EnvP) : Option ((Bool × Unit) × ((RunV MV) × EnvP × Unit)) :=
 if 0 ≤ wi (((y0.stack.length : Nat) : Int) - 1) ∧ wi (((y0.stack.length : Nat) : Int) - 1) < ((y0.stack.length : Nat) : Int) then
  if y0.line = 9 then
   if 0 ≤ wi (((y0.stack.length : Nat) : Int) - 1) ∧ wi (((y0.stack.length : Nat) : Int) - 1) < ((y0.stack.length : Nat) : Int) then
   if 0 ≤ atK1 y0.stack (wi (((y0.stack.length : Nat) : Int) - 1)) ∧ atK1 y0.stack (wi (((y0.stack.length : Nat) : Int) - 1)) < ((y1.recs.length : Nat) : Int) then
   if 0 ≤ wi (((y0.stack.length : Nat) : Int) - 1) ∧ wi (((y0.stack.length : Nat) : Int) - 1) < ((y0.stack.length : Nat) : Int) then
   if 0 ≤ atK1 y0.stack (wi (((y0.stack.length : Nat) : Int) - 1)) ∧ atK1 y0.stack (wi (((y0.stack.length : Nat) : Int) - 1)) < ((y1.recs.length : Nat) : Int) then
   if ((atK26 y1.recs (atK1 y0.stack (wi (((y0.stack.length : Nat) : Int) - 1)))).prog) < 0 then
   if 0 ≤ wi (((y0.stack.length : Nat) : Int) - 1) ∧ wi (((y0.stack.length : Nat) : Int) - 1) < ((y0.stack.length : Nat) : Int) then
   if 0 ≤ atK1 y0.stack (wi (((y0.stack.length : Nat) : Int) - 1)) ∧ atK1 y0.stack (wi (((y0.stack.length : Nat) : Int) - 1)) < ((y1.recs.length : Nat) : Int) then
   none
   else none
   else none
   else
   if ((y1.c.progs.length : Nat) : Int) ≤ ((atK26 y1.recs (atK1 y0.stack (wi (((y0.stack.length : Nat) : Int) - 1)))).prog) then
   if 0 ≤ wi (((y0.stack.length : Nat) : Int) - 1) ∧ wi (((y0.stack.length : Nat) : Int) - 1) < ((y0.stack.length : Nat) : Int) then
   if 0 ≤ atK1 y0.stack (wi (((y0.stack.length : Nat) : Int) - 1)) ∧ atK1 y0.stack (wi (((y0.stack.length : Nat) : Int) - 1)) < ((y1.recs.length : Nat) : Int) then
   none
   else none
   else none
   else
   if 0 ≤ (atK26 y1.recs (atK1 y0.stack (wi (((y0.stack.length : Nat) : Int) - 1)))).prog ∧ (atK26 y1.recs (atK1 y0.stack (wi (((y0.stack.length : Nat) : Int) - 1)))).prog < ((y1.c.progs.length : Nat) : Int) then
   if 0 ≤ wi (((y0.stack.length : Nat) : Int) - 1) ∧ wi (((y0.stack.length : Nat) : Int) - 1) < ((y0.stack.length : Nat) : Int) then
   if 0 ≤ atK1 y0.stack (wi (((y0.stack.length : Nat) : Int) - 1)) ∧ atK1 y0.stack (wi (((y0.stack.length : Nat) : Int) - 1)) < ((y1.recs.length : Nat) : Int) then
   if 0 ≤ (atK26 y1.recs (atK1 y0.stack (wi (((y0.stack.length : Nat) : Int) - 1)))).pc ∧ (atK26 y1.recs (atK1 y0.stack (wi (((y0.stack.length : Nat) : Int) - 1)))).pc < (((atL [] y1.c.progs ((atK26 y1.recs (atK1 y0.stack (wi (((y0.stack.length : Nat) : Int) - 1)))).prog)).length : Nat) : Int) then
   if 0 ≤ (atK3 (atL [] y1.c.progs ((atK26 y1.recs (atK1 y0.stack (wi (((y0.stack.length : Nat) : Int) - 1)))).prog)) ((atK26 y1.recs (atK1 y0.stack (wi (((y0.stack.length : Nat) : Int) - 1)))).pc)).a ∧ (atK3 (atL [] y1.c.progs ((atK26 y1.recs (atK1 y0.stack (wi (((y0.stack.length : Nat) : Int) - 1)))).prog)) ((atK26 y1.recs (atK1 y0.stack (wi (((y0.stack.length : Nat) : Int) - 1)))).pc)).a < ((((atK26 y1.recs (atK1 y0.stack (wi (((y0.stack.length : Nat) : Int) - 1)))).kids).length : Nat) : Int) then
   (pWaits y1.l (atK1 y0.stack (wi (((y0.stack.length : Nat) : Int) - 1)))).bind fun r1 =>
   (pStore y1.m r1.1.1 (wu (wi ((atK1 ((atK26 y1.recs (atK1 y0.stack (wi (((y0.stack.length : Nat) : Int) - 1)))).kids) ((atK3 (atL [] y1.c.progs ((atK26 y1.recs (atK1 y0.stack (wi (((y0.stack.length : Nat) : Int) - 1)))).prog)) ((atK26 y1.recs (atK1 y0.stack (wi (((y0.stack.length : Nat) : Int) - 1)))).pc)).a)) + 1)))).bind fun r2 =>
   (runnerRunTo ({ y0 with child := atK1 ((atK26 y1.recs (atK1 y0.stack (wi (((y0.stack.length : Nat) : Int) - 1)))).kids) ((atK3 (atL [] y1.c.progs ((atK26 y1.recs (atK1 y0.stack (wi (((y0.stack.length : Nat) : Int) - 1)))).prog)) ((atK26 y1.recs (atK1 y0.stack (wi (((y0.stack.length : Nat) : Int) - 1)))).pc)).a) } : (RunV MV)) (wi (y0.line + 1)) MV.nil).bind fun r3 =>
   some ((r3.1.1, ()), (r3.2.1, ({ y1 with m := r2.2.1, recs := ((y1.recs.set (atK1 y0.stack (wi (((y0.stack.length : Nat) : Int) - 1))).toNat (atK26 y1.recs (atK1 y0.stack (wi (((y0.stack.length : Nat) : Int) - 1))))).set (atK1 y0.stack (wi (((y0.stack.length : Nat) : Int) - 1))).toNat ({ atK26 (y1.recs.set (atK1 y0.stack (wi (((y0.stack.length : Nat) : Int) - 1))).toNat (atK26 y1.recs (atK1 y0.stack (wi (((y0.stack.length : Nat) : Int) - 1))))) (atK1 y0.stack (wi (((y0.stack.length : Nat) : Int) - 1))) with pc := wi (((atK26 (y1.recs.set (atK1 y0.stack (wi (((y0.stack.length : Nat) : Int) - 1))).toNat (atK26 y1.recs (atK1 y0.stack (wi (((y0.stack.length : Nat) : Int) - 1))))) (atK1 y0.stack (wi (((y0.stack.length : Nat) : Int) - 1)))).pc) + 1) } : RecP)).set (atK1 y0.stack (wi (((y0.stack.length : Nat) : Int) - 1))).toNat ({ atK26 ((y1.recs.set (atK1 y0.stack (wi (((y0.stack.length : Nat) : Int) - 1))).toNat (atK26 y1.recs (atK1 y0.stack (wi (((y0.stack.length : Nat) : Int) - 1))))).set (atK1 y0.stack (wi (((y0.stack.length : Nat) : Int) - 1))).toNat ({ atK26 (y1.recs.set (atK1 y0.stack (wi (((y0.stack.length : Nat) : Int) - 1))).toNat (atK26 y1.recs (atK1 y0.stack (wi (((y0.stack.length : Nat) : Int) - 1))))) (atK1 y0.stack (wi (((y0.stack.length : Nat) : Int) - 1))) with pc := wi (((atK26 (y1.recs.set (atK1 y0.stack (wi (((y0.stack.length : Nat) : Int) - 1))).toNat (atK26 y1.recs (atK1 y0.stack (wi (((y0.stack.length : Nat) : Int) - 1))))) (atK1 y0.stack (wi (((y0.stack.length : Nat) : Int) - 1)))).pc) + 1) } : RecP)) (atK1 y0.stack (wi (((y0.stack.length : Nat) : Int) - 1))) with waiting := atK1 ((atK26 y1.recs (atK1 y0.stack (wi (((y0.stack.length : Nat) : Int) - 1)))).kids) ((atK3 (atL [] y1.c.progs ((atK26 y1.recs (atK1 y0.stack (wi (((y0.stack.length : Nat) : Int) - 1)))).prog)) ((atK26 y1.recs (atK1 y0.stack (wi (((y0.stack.length : Nat) : Int) - 1)))).pc)).a) } : RecP) } : EnvP), ()))
   else none
   else none
   else none
   else none
   else none
   else none
   else none
   else none
   else none
  else
  if y0.line = 10 then
   (pState y1.l (atK1 y0.stack (wi (((y0.stack.length : Nat) : Int) - 1)))).bind fun r4 =>
   (pStore y1.m r4.1.1 3).bind fun r5 =>
   (runnerRunTo y0 (wi (y0.line + 1)) MV.nil).bind fun r6 =>
   some ((r6.1.1, ()), (r6.2.1, ({ y1 with m := r5.2.1 } : EnvP), ()))
  else
  if y0.line = 11 then
   (pJoin y1.l y0.child).bind fun r7 =>
   (pCAS y1.m r7.1.1 0 (wu (wi ((atK1 y0.stack (wi (((y0.stack.length : Nat) : Int) - 1))) + 1)))).bind fun r8 =>
   if (!r8.1.1) = true then
   (runnerRunTo y0 14 MV.nil).bind fun r9 =>
   some ((r9.1.1, ()), (r9.2.1, ({ y1 with m := r8.2.1 } : EnvP), ()))
   else
   (runnerRunEmit y0 ({ y1 with m := r8.2.1 } : EnvP) (⟨6, 0, atK1 y0.stack (wi (((y0.stack.length : Nat) : Int) - 1)), y0.child, 0⟩ : Ev)).bind fun r10 =>
   (runnerRunTo r10.2.1 (wi (r10.2.1.line + 1)) MV.nil).bind fun r11 =>
   some ((r11.1.1, ()), (r11.2.1, r10.2.2.1, ()))
  else
  if y0.line = 12 then
   (pLevel y1.l (atK1 y0.stack (wi (((y0.stack.length : Nat) : Int) - 1)))).bind fun r12 =>
   (pLoad y1.m r12.1.1).bind fun r13 =>
   (boostWalk y0.worker y0.child (wi (r13.1.1))).bind fun r14 =>
   (runnerRunTo ({ y0 with level := wi (r13.1.1) } : (RunV MV)) 13 r14.1.1).bind fun r15 =>
   some ((r15.1.1, ()), (r15.2.1, ({ y1 with m := r13.2.1 } : EnvP), ()))
  else
  if y0.line = 13 then
   (stepD2 y0.inside y1).bind fun r16 =>
   if (!r16.1.1) = true then
   some ((false, ()), (({ y0 with inside := r16.2.1 } : (RunV MV)), r16.2.2.1, ()))
   else
   (runnerRunEmit ({ y0 with inside := r16.2.1 } : (RunV MV)) r16.2.2.1 (⟨7, 0, atK1 y0.stack (wi (((y0.stack.length : Nat) : Int) - 1)), 0, y0.level⟩ : Ev)).bind fun r17 =>
   (runnerRunLeave r17.2.1).bind fun r18 =>
   some ((r18.1.1, ()), (r18.2.1, r17.2.2.1, ()))
  else
  if y0.line = 14 then
   (pState y1.l (atK1 y0.stack (wi (((y0.stack.length : Nat) : Int) - 1)))).bind fun r19 =>
   (pStore y1.m r19.1.1 2).bind fun r20 =>
   (runnerRunTo y0 (wi (y0.line + 1)) MV.nil).bind fun r21 =>
   some ((r21.1.1, ()), (r21.2.1, ({ y1 with m := r20.2.1 } : EnvP), ()))
  else
  (pWaits y1.l (atK1 y0.stack (wi (((y0.stack.length : Nat) : Int) - 1)))).bind fun r22 =>
  (pStore y1.m r22.1.1 0).bind fun r23 =>
  if 0 ≤ wi (((y0.stack.length : Nat) : Int) - 1) ∧ wi (((y0.stack.length : Nat) : Int) - 1) < ((y0.stack.length : Nat) : Int) then
   if 0 ≤ atK1 y0.stack (wi (((y0.stack.length : Nat) : Int) - 1)) ∧ atK1 y0.stack (wi (((y0.stack.length : Nat) : Int) - 1)) < ((y1.recs.length : Nat) : Int) then
   (runnerRunEmit y0 ({ y1 with m := r23.2.1, recs := y1.recs.set (atK1 y0.stack (wi (((y0.stack.length : Nat) : Int) - 1))).toNat ({ atK26 y1.recs (atK1 y0.stack (wi (((y0.stack.length : Nat) : Int) - 1))) with waiting := (-1) } : RecP) } : EnvP) (⟨8, 0, atK1 y0.stack (wi (((y0.stack.length : Nat) : Int) - 1)), y0.child, 0⟩ : Ev)).bind fun r24 =>
   (runnerRunTo r24.2.1 0 MV.nil).bind fun r25 =>
   some ((r25.1.1, ()), (r25.2.1, r24.2.2.1, ()))
   else none
  else none
 else none
noncomputable abbrev runnerRunJoin_k : Con SR1 := ⟨179, [.ref 33, .ref 27], [.sh .b], fun x => runnerRunJoin x.1 x.2.1⟩
theorem runnerRunJoin_eq (y0 : (RunV MV)) (y1 : EnvP) : runnerRunJoin_a y0 y1 = runnerRunJoin y0 y1 := by
  unfold runnerRunJoin_a runnerRunJoin
  simp only [if_true, agr_self, bind_guard]
theorem runnerRunJoin_ok : CO Tryz.prog runnerRunJoin_k := co_as runnerRunJoin_a_ok fun x out hx => (show runnerRunJoin_a_k.spec x = some out from (runnerRunJoin_eq x.1 x.2.1).trans hx)
noncomputable def tableEnter (y0 : Int) (y1 : Int) : Option ((MV × Unit) × (Unit)) :=
 some ((MV.enter (⟨⟨false, 0, 0⟩, y0, y1, 0, 1, MV.nil⟩ : (EnterV MV)), ()), (()))
noncomputable abbrev tableEnter_k : Con SR1 := ⟨197, [.sh sI_, .sh sI_], [.sh .mach], fun x => tableEnter x.1 x.2.1⟩
theorem tableEnter_ok : CO Tryz.prog tableEnter_k := co_fn mixed Tryz.func197 [] trivial [] trivial (fun _ => []) [] fun x => by kernel_rfl
noncomputable def runnerRunFinish_a (y0 : (RunV MV)) (y1 : EnvP) : Option ((Bool × Unit) × ((RunV MV) × EnvP × Unit)) :=
 agr (
  if 0 ≤ wi (((y0.stack.length : Nat) : Int) - 1) ∧ wi (((y0.stack.length : Nat) : Int) - 1) < ((y0.stack.length : Nat) : Int) then
   if y1.l.workers = y1.l.workers then
   if y1.l.levels = y1.l.levels then
   if y1.l.classes = y1.l.classes then
   if y1.l.tasks = y1.l.tasks then
   if y1.l.deque = y1.l.deque then
   if y1.l.heap = y1.l.heap then
   if y1.l.sleepers = y1.l.sleepers then
   if y1.l.epochs = y1.l.epochs then
   if y1.l.bitmaps = y1.l.bitmaps then
   if y1.l.queues = y1.l.queues then
   if y1.l.table = y1.l.table then
   if y1.l.workers = y1.l.workers then
   if y1.l.levels = y1.l.levels then
   if y1.l.classes = y1.l.classes then
   if y1.l.tasks = y1.l.tasks then
   if y1.l.deque = y1.l.deque then
   if y1.l.heap = y1.l.heap then
   if y1.l.sleepers = y1.l.sleepers then
   if y1.l.epochs = y1.l.epochs then
   if y1.l.bitmaps = y1.l.bitmaps then
   if y1.l.queues = y1.l.queues then
   if y1.l.table = y1.l.table then
   if y0.line = 16 then
   (pState y1.l (atK1 y0.stack (wi (((y0.stack.length : Nat) : Int) - 1)))).bind fun r29 =>
   (pStore y1.m r29.1.1 4).bind fun r30 =>
   (runnerRunTo y0 17 MV.nil).bind fun r31 =>
   some ((r31.1.1, ()), (r31.2.1, ({ y1 with m := r30.2.1 } : EnvP), ()))
   else
   if y0.line = 17 then
   (pJoin y1.l (atK1 y0.stack (wi (((y0.stack.length : Nat) : Int) - 1)))).bind fun r32 =>
   (pCAS y1.m r32.1.1 0 4294967296).bind fun r33 =>
   (runnerRunEmit y0 ({ y1 with m := r33.2.1 } : EnvP) (⟨10, 0, atK1 y0.stack (wi (((y0.stack.length : Nat) : Int) - 1)), 0, 0⟩ : Ev)).bind fun r34 =>
   if r33.1.1 = true then
   (runnerRunLeave r34.2.1).bind fun r35 =>
   some ((r35.1.1, ()), (r35.2.1, r34.2.2.1, ()))
   else
   (runnerRunTo r34.2.1 18 MV.nil).bind fun r36 =>
   some ((r36.1.1, ()), (r36.2.1, r34.2.2.1, ()))
   else
   if y0.line = 18 then
   (pJoin y1.l (atK1 y0.stack (wi (((y0.stack.length : Nat) : Int) - 1)))).bind fun r37 =>
   (pLoad y1.m r37.1.1).bind fun r38 =>
   if (wi ((wi (r38.1.1)) - 1)) < 0 then
   (runnerRunLeave ({ y0 with waiter := wi ((wi (r38.1.1)) - 1) } : (RunV MV))).bind fun r39 =>
   some ((r39.1.1, ()), (r39.2.1, ({ y1 with m := r38.2.1 } : EnvP), ()))
   else
   if y1.c.tasks ≤ (wi ((wi (r38.1.1)) - 1)) then
   (runnerRunLeave ({ y0 with waiter := wi ((wi (r38.1.1)) - 1) } : (RunV MV))).bind fun r40 =>
   some ((r40.1.1, ()), (r40.2.1, ({ y1 with m := r38.2.1 } : EnvP), ()))
   else
   (tableEnter y0.worker (wi ((wi (r38.1.1)) - 1))).bind fun r41 =>
   (runnerRunTo ({ y0 with waiter := wi ((wi (r38.1.1)) - 1) } : (RunV MV)) 19 r41.1.1).bind fun r42 =>
   some ((r42.1.1, ()), (r42.2.1, ({ y1 with m := r38.2.1 } : EnvP), ()))
   else
   (stepD2 y0.inside y1).bind fun r43 =>
   if (!r43.1.1) = true then
   some ((false, ()), (({ y0 with inside := r43.2.1 } : (RunV MV)), r43.2.2.1, ()))
   else
   (resultD2 r43.2.1).bind fun r44 =>
   if y0.line = 19 then
   if r44.1.1 = 3 then
   (tableClaim y0.worker y0.waiter).bind fun r45 =>
   (runnerRunTo ({ y0 with inside := r44.2.1 } : (RunV MV)) 21 r45.1.1).bind fun r46 =>
   some ((r46.1.1, ()), (r46.2.1, r43.2.2.1, ()))
   else
   if y0.line = 19 then
   (parkWake y0.worker r44.1.2.1).bind fun r47 =>
   (runnerRunTo ({ y0 with inside := r44.2.1 } : (RunV MV)) 20 r47.1.1).bind fun r48 =>
   some ((r48.1.1, ()), (r48.2.1, r43.2.2.1, ()))
   else
   if y0.line = 21 then
   if r44.1.1 = 1 then
   if 0 ≤ wi (((y0.stack.length : Nat) : Int) - 1) ∧ wi (((y0.stack.length : Nat) : Int) - 1) < ((y0.stack.length : Nat) : Int) then
   (runnerRunTo ({ y0 with stack := y0.stack.set (wi (((y0.stack.length : Nat) : Int) - 1)).toNat y0.waiter, inside := r44.2.1 } : (RunV MV)) 0 MV.nil).bind fun r49 =>
   some ((r49.1.1, ()), (r49.2.1, r43.2.2.1, ()))
   else none
   else
   (runnerRunLeave ({ y0 with inside := r44.2.1 } : (RunV MV))).bind fun r50 =>
   some ((r50.1.1, ()), (r50.2.1, r43.2.2.1, ()))
   else
   (runnerRunLeave ({ y0 with inside := r44.2.1 } : (RunV MV))).bind fun r51 =>
   some ((r51.1.1, ()), (r51.2.1, r43.2.2.1, ()))
   else
   if y0.line = 19 then
   (parkWake y0.worker r44.1.2.1).bind fun r52 =>
   (runnerRunTo ({ y0 with inside := r44.2.1 } : (RunV MV)) 20 r52.1.1).bind fun r53 =>
   some ((r53.1.1, ()), (r53.2.1, r43.2.2.1, ()))
   else
   if y0.line = 21 then
   if r44.1.1 = 1 then
   if 0 ≤ wi (((y0.stack.length : Nat) : Int) - 1) ∧ wi (((y0.stack.length : Nat) : Int) - 1) < ((y0.stack.length : Nat) : Int) then
   (runnerRunTo ({ y0 with stack := y0.stack.set (wi (((y0.stack.length : Nat) : Int) - 1)).toNat y0.waiter, inside := r44.2.1 } : (RunV MV)) 0 MV.nil).bind fun r54 =>
   some ((r54.1.1, ()), (r54.2.1, r43.2.2.1, ()))
   else none
   else
   (runnerRunLeave ({ y0 with inside := r44.2.1 } : (RunV MV))).bind fun r55 =>
   some ((r55.1.1, ()), (r55.2.1, r43.2.2.1, ()))
   else
   (runnerRunLeave ({ y0 with inside := r44.2.1 } : (RunV MV))).bind fun r56 =>
   some ((r56.1.1, ()), (r56.2.1, r43.2.2.1, ()))
   else none
   else none
   else none
   else none
   else none
   else none
   else none
   else none
   else none
   else none
   else none
   else none
   else none
   else none
   else none
   else none
   else none
   else none
   else none
   else none
   else none
   else none
  else none
 ) (
  if y1.l.workers = y1.l.workers then
   if y1.l.levels = y1.l.levels then
   if y1.l.classes = y1.l.classes then
   if y1.l.tasks = y1.l.tasks then
   if y1.l.deque = y1.l.deque then
   if y1.l.heap = y1.l.heap then
   if y1.l.sleepers = y1.l.sleepers then
   if y1.l.epochs = y1.l.epochs then
   if y1.l.bitmaps = y1.l.bitmaps then
   if y1.l.queues = y1.l.queues then
   if y1.l.table = y1.l.table then
   if 0 ≤ wi (((y0.stack.length : Nat) : Int) - 1) ∧ wi (((y0.stack.length : Nat) : Int) - 1) < ((y0.stack.length : Nat) : Int) then
   if y1.l.workers = y1.l.workers then
   if y1.l.levels = y1.l.levels then
   if y1.l.classes = y1.l.classes then
   if y1.l.tasks = y1.l.tasks then
   if y1.l.deque = y1.l.deque then
   if y1.l.heap = y1.l.heap then
   if y1.l.sleepers = y1.l.sleepers then
   if y1.l.epochs = y1.l.epochs then
   if y1.l.bitmaps = y1.l.bitmaps then
   if y1.l.queues = y1.l.queues then
   if y1.l.table = y1.l.table then
   if y0.line = 16 then
   (pState y1.l (atK1 y0.stack (wi (((y0.stack.length : Nat) : Int) - 1)))).bind fun r1 =>
   (pStore y1.m r1.1.1 4).bind fun r2 =>
   (runnerRunTo y0 17 MV.nil).bind fun r3 =>
   some ((r3.1.1, ()), (r3.2.1, ({ y1 with m := r2.2.1 } : EnvP), ()))
   else
   if y0.line = 17 then
   (pJoin y1.l (atK1 y0.stack (wi (((y0.stack.length : Nat) : Int) - 1)))).bind fun r4 =>
   (pCAS y1.m r4.1.1 0 4294967296).bind fun r5 =>
   (runnerRunEmit y0 ({ y1 with m := r5.2.1 } : EnvP) (⟨10, 0, atK1 y0.stack (wi (((y0.stack.length : Nat) : Int) - 1)), 0, 0⟩ : Ev)).bind fun r6 =>
   if r5.1.1 = true then
   (runnerRunLeave r6.2.1).bind fun r7 =>
   some ((r7.1.1, ()), (r7.2.1, r6.2.2.1, ()))
   else
   (runnerRunTo r6.2.1 18 MV.nil).bind fun r8 =>
   some ((r8.1.1, ()), (r8.2.1, r6.2.2.1, ()))
   else
   if y0.line = 18 then
   (pJoin y1.l (atK1 y0.stack (wi (((y0.stack.length : Nat) : Int) - 1)))).bind fun r9 =>
   (pLoad y1.m r9.1.1).bind fun r10 =>
   if (wi ((wi (r10.1.1)) - 1)) < 0 then
   (runnerRunLeave ({ y0 with waiter := wi ((wi (r10.1.1)) - 1) } : (RunV MV))).bind fun r11 =>
   some ((r11.1.1, ()), (r11.2.1, ({ y1 with m := r10.2.1 } : EnvP), ()))
   else
   if y1.c.tasks ≤ (wi ((wi (r10.1.1)) - 1)) then
   (runnerRunLeave ({ y0 with waiter := wi ((wi (r10.1.1)) - 1) } : (RunV MV))).bind fun r12 =>
   some ((r12.1.1, ()), (r12.2.1, ({ y1 with m := r10.2.1 } : EnvP), ()))
   else
   (tableEnter y0.worker (wi ((wi (r10.1.1)) - 1))).bind fun r13 =>
   (runnerRunTo ({ y0 with waiter := wi ((wi (r10.1.1)) - 1) } : (RunV MV)) 19 r13.1.1).bind fun r14 =>
   some ((r14.1.1, ()), (r14.2.1, ({ y1 with m := r10.2.1 } : EnvP), ()))
   else
   (stepD2 y0.inside y1).bind fun r15 =>
   if (!r15.1.1) = true then
   some ((false, ()), (({ y0 with inside := r15.2.1 } : (RunV MV)), r15.2.2.1, ()))
   else
   (resultD2 r15.2.1).bind fun r16 =>
   if y0.line = 19 then
   if r16.1.1 = 3 then
   (tableClaim y0.worker y0.waiter).bind fun r17 =>
   (runnerRunTo ({ y0 with inside := r16.2.1 } : (RunV MV)) 21 r17.1.1).bind fun r18 =>
   some ((r18.1.1, ()), (r18.2.1, r15.2.2.1, ()))
   else
   if y0.line = 19 then
   (parkWake y0.worker r16.1.2.1).bind fun r19 =>
   (runnerRunTo ({ y0 with inside := r16.2.1 } : (RunV MV)) 20 r19.1.1).bind fun r20 =>
   some ((r20.1.1, ()), (r20.2.1, r15.2.2.1, ()))
   else
   if y0.line = 21 then
   if r16.1.1 = 1 then
   if 0 ≤ wi (((y0.stack.length : Nat) : Int) - 1) ∧ wi (((y0.stack.length : Nat) : Int) - 1) < ((y0.stack.length : Nat) : Int) then
   (runnerRunTo ({ y0 with stack := y0.stack.set (wi (((y0.stack.length : Nat) : Int) - 1)).toNat y0.waiter, inside := r16.2.1 } : (RunV MV)) 0 MV.nil).bind fun r21 =>
   some ((r21.1.1, ()), (r21.2.1, r15.2.2.1, ()))
   else none
   else
   (runnerRunLeave ({ y0 with inside := r16.2.1 } : (RunV MV))).bind fun r22 =>
   some ((r22.1.1, ()), (r22.2.1, r15.2.2.1, ()))
   else
   (runnerRunLeave ({ y0 with inside := r16.2.1 } : (RunV MV))).bind fun r23 =>
   some ((r23.1.1, ()), (r23.2.1, r15.2.2.1, ()))
   else
   if y0.line = 19 then
   (parkWake y0.worker r16.1.2.1).bind fun r24 =>
   (runnerRunTo ({ y0 with inside := r16.2.1 } : (RunV MV)) 20 r24.1.1).bind fun r25 =>
   some ((r25.1.1, ()), (r25.2.1, r15.2.2.1, ()))
   else
   if y0.line = 21 then
   if r16.1.1 = 1 then
   if 0 ≤ wi (((y0.stack.length : Nat) : Int) - 1) ∧ wi (((y0.stack.length : Nat) : Int) - 1) < ((y0.stack.length : Nat) : Int) then
   (runnerRunTo ({ y0 with stack := y0.stack.set (wi (((y0.stack.length : Nat) : Int) - 1)).toNat y0.waiter, inside := r16.2.1 } : (RunV MV)) 0 MV.nil).bind fun r26 =>
   some ((r26.1.1, ()), (r26.2.1, r15.2.2.1, ()))
   else none
   else
   (runnerRunLeave ({ y0 with inside := r16.2.1 } : (RunV MV))).bind fun r27 =>
   some ((r27.1.1, ()), (r27.2.1, r15.2.2.1, ()))
   else
   (runnerRunLeave ({ y0 with inside := r16.2.1 } : (RunV MV))).bind fun r28 =>
   some ((r28.1.1, ()), (r28.2.1, r15.2.2.1, ()))
   else none
   else none
   else none
   else none
   else none
   else none
   else none
   else none
   else none
   else none
   else none
   else none
   else none
   else none
   else none
   else none
   else none
   else none
   else none
   else none
   else none
   else none
  else none
 )
noncomputable abbrev runnerRunFinish_a_k : Con SR1 := ⟨180, [.ref 33, .ref 27], [.sh .b], fun x => runnerRunFinish_a x.1 x.2.1⟩
noncomputable def runnerRunFinish_a_tb : List (Nat × Func) := [(174, Tryz.f174)]
theorem runnerRunFinish_a_ok : CO Tryz.prog runnerRunFinish_a_k := co_fn mixed Tryz.func180 [pState_k, pStore_k, runnerRunTo_k, pJoin_k, pCAS_k, runnerRunEmit_k, runnerRunLeave_k, pLoad_k, tableEnter_k, stepD2_k, resultD2_k, tableClaim_k, parkWake_k] ⟨pState_ok, pStore_ok, runnerRunTo_ok, pJoin_ok, pCAS_ok, runnerRunEmit_ok, runnerRunLeave_ok, pLoad_ok, tableEnter_ok, stepD2_ok, resultD2_ok, tableClaim_ok, parkWake_ok, trivial⟩ runnerRunFinish_a_tb ⟨Tryz.func174, trivial⟩ (fun _ => []) [] fun x => by kernel_rfl
noncomputable def runnerRunFinish (y0 : (RunV MV)) (y1 : EnvP) : Option ((Bool × Unit) × ((RunV MV) × EnvP × Unit)) :=
 if 0 ≤ wi (((y0.stack.length : Nat) : Int) - 1) ∧ wi (((y0.stack.length : Nat) : Int) - 1) < ((y0.stack.length : Nat) : Int) then
  if y0.line = 16 then
   (pState y1.l (atK1 y0.stack (wi (((y0.stack.length : Nat) : Int) - 1)))).bind fun r1 =>
   (pStore y1.m r1.1.1 4).bind fun r2 =>
   (runnerRunTo y0 17 MV.nil).bind fun r3 =>
   some ((r3.1.1, ()), (r3.2.1, ({ y1 with m := r2.2.1 } : EnvP), ()))
  else
  if y0.line = 17 then
   (pJoin y1.l (atK1 y0.stack (wi (((y0.stack.length : Nat) : Int) - 1)))).bind fun r4 =>
   (pCAS y1.m r4.1.1 0 4294967296).bind fun r5 =>
   (runnerRunEmit y0 ({ y1 with m := r5.2.1 } : EnvP) (⟨10, 0, atK1 y0.stack (wi (((y0.stack.length : Nat) : Int) - 1)), 0, 0⟩ : Ev)).bind fun r6 =>
   if r5.1.1 = true then
   (runnerRunLeave r6.2.1).bind fun r7 =>
   some ((r7.1.1, ()), (r7.2.1, r6.2.2.1, ()))
   else
   (runnerRunTo r6.2.1 18 MV.nil).bind fun r8 =>
   some ((r8.1.1, ()), (r8.2.1, r6.2.2.1, ()))
  else
  if y0.line = 18 then
   (pJoin y1.l (atK1 y0.stack (wi (((y0.stack.length : Nat) : Int) - 1)))).bind fun r9 =>
   (pLoad y1.m r9.1.1).bind fun r10 =>
   if (wi ((wi (r10.1.1)) - 1)) < 0 then
   (runnerRunLeave ({ y0 with waiter := wi ((wi (r10.1.1)) - 1) } : (RunV MV))).bind fun r11 =>
   some ((r11.1.1, ()), (r11.2.1, ({ y1 with m := r10.2.1 } : EnvP), ()))
   else
   if y1.c.tasks ≤ (wi ((wi (r10.1.1)) - 1)) then
   (runnerRunLeave ({ y0 with waiter := wi ((wi (r10.1.1)) - 1) } : (RunV MV))).bind fun r12 =>
   some ((r12.1.1, ()), (r12.2.1, ({ y1 with m := r10.2.1 } : EnvP), ()))
   else
   (tableEnter y0.worker (wi ((wi (r10.1.1)) - 1))).bind fun r13 =>
   (runnerRunTo ({ y0 with waiter := wi ((wi (r10.1.1)) - 1) } : (RunV MV)) 19 r13.1.1).bind fun r14 =>
   some ((r14.1.1, ()), (r14.2.1, ({ y1 with m := r10.2.1 } : EnvP), ()))
  else
  (stepD2 y0.inside y1).bind fun r15 =>
  if (!r15.1.1) = true then
   some ((false, ()), (({ y0 with inside := r15.2.1 } : (RunV MV)), r15.2.2.1, ()))
  else
  (resultD2 r15.2.1).bind fun r16 =>
  if y0.line = 19 then
   if r16.1.1 = 3 then
   (tableClaim y0.worker y0.waiter).bind fun r17 =>
   (runnerRunTo ({ y0 with inside := r16.2.1 } : (RunV MV)) 21 r17.1.1).bind fun r18 =>
   some ((r18.1.1, ()), (r18.2.1, r15.2.2.1, ()))
   else
   if y0.line = 19 then
   (parkWake y0.worker r16.1.2.1).bind fun r19 =>
   (runnerRunTo ({ y0 with inside := r16.2.1 } : (RunV MV)) 20 r19.1.1).bind fun r20 =>
   some ((r20.1.1, ()), (r20.2.1, r15.2.2.1, ()))
   else
   if y0.line = 21 then
   if r16.1.1 = 1 then
   if 0 ≤ wi (((y0.stack.length : Nat) : Int) - 1) ∧ wi (((y0.stack.length : Nat) : Int) - 1) < ((y0.stack.length : Nat) : Int) then
   (runnerRunTo ({ y0 with stack := y0.stack.set (wi (((y0.stack.length : Nat) : Int) - 1)).toNat y0.waiter, inside := r16.2.1 } : (RunV MV)) 0 MV.nil).bind fun r21 =>
   some ((r21.1.1, ()), (r21.2.1, r15.2.2.1, ()))
   else none
   else
   (runnerRunLeave ({ y0 with inside := r16.2.1 } : (RunV MV))).bind fun r22 =>
   some ((r22.1.1, ()), (r22.2.1, r15.2.2.1, ()))
   else
   (runnerRunLeave ({ y0 with inside := r16.2.1 } : (RunV MV))).bind fun r23 =>
   some ((r23.1.1, ()), (r23.2.1, r15.2.2.1, ()))
  else
  if y0.line = 19 then
   (parkWake y0.worker r16.1.2.1).bind fun r24 =>
   (runnerRunTo ({ y0 with inside := r16.2.1 } : (RunV MV)) 20 r24.1.1).bind fun r25 =>
   some ((r25.1.1, ()), (r25.2.1, r15.2.2.1, ()))
  else
  if y0.line = 21 then
   if r16.1.1 = 1 then
   if 0 ≤ wi (((y0.stack.length : Nat) : Int) - 1) ∧ wi (((y0.stack.length : Nat) : Int) - 1) < ((y0.stack.length : Nat) : Int) then
   (runnerRunTo ({ y0 with stack := y0.stack.set (wi (((y0.stack.length : Nat) : Int) - 1)).toNat y0.waiter, inside := r16.2.1 } : (RunV MV)) 0 MV.nil).bind fun r26 =>
   some ((r26.1.1, ()), (r26.2.1, r15.2.2.1, ()))
   else none
   else
   (runnerRunLeave ({ y0 with inside := r16.2.1 } : (RunV MV))).bind fun r27 =>
   some ((r27.1.1, ()), (r27.2.1, r15.2.2.1, ()))
  else
  (runnerRunLeave ({ y0 with inside := r16.2.1 } : (RunV MV))).bind fun r28 =>
  some ((r28.1.1, ()), (r28.2.1, r15.2.2.1, ()))
 else none
noncomputable abbrev runnerRunFinish_k : Con SR1 := ⟨180, [.ref 33, .ref 27], [.sh .b], fun x => runnerRunFinish x.1 x.2.1⟩
theorem runnerRunFinish_eq (y0 : (RunV MV)) (y1 : EnvP) : runnerRunFinish_a y0 y1 = runnerRunFinish y0 y1 := by
  unfold runnerRunFinish_a runnerRunFinish
  simp only [if_true, agr_self, bind_guard]
theorem runnerRunFinish_ok : CO Tryz.prog runnerRunFinish_k := co_as runnerRunFinish_a_ok fun x out hx => (show runnerRunFinish_a_k.spec x = some out from (runnerRunFinish_eq x.1 x.2.1).trans hx)
noncomputable def runnerRunStep (y0 : (RunV MV)) (y1 : EnvP) : Option ((Bool × Unit) × ((RunV MV) × EnvP × Unit)) :=
 (pEnded y0.o).bind fun r1 =>
 if r1.1.1 = true then
  some ((true, ()), (({ y0 with o := r1.2.1 } : (RunV MV)), y1, ()))
 else
 if 0 ≤ wi (((y0.stack.length : Nat) : Int) - 1) ∧ wi (((y0.stack.length : Nat) : Int) - 1) < ((y0.stack.length : Nat) : Int) then
  if (atK1 y0.stack (wi (((y0.stack.length : Nat) : Int) - 1))) < 0 then
   (pEnd r1.2.1 4 0).bind fun r2 =>
   some ((r2.1.1, ()), (({ y0 with o := r2.2.1 } : (RunV MV)), y1, ()))
  else
  if y1.c.tasks ≤ (atK1 y0.stack (wi (((y0.stack.length : Nat) : Int) - 1))) then
   (pEnd r1.2.1 4 0).bind fun r3 =>
   some ((r3.1.1, ()), (({ y0 with o := r3.2.1 } : (RunV MV)), y1, ()))
  else
  if ((y1.recs.length : Nat) : Int) ≤ (atK1 y0.stack (wi (((y0.stack.length : Nat) : Int) - 1))) then
   (pEnd r1.2.1 4 0).bind fun r4 =>
   some ((r4.1.1, ()), (({ y0 with o := r4.2.1 } : (RunV MV)), y1, ()))
  else
  if y0.line = 0 then
   (runnerRunChoose ({ y0 with o := r1.2.1 } : (RunV MV)) y1).bind fun r5 =>
   if r5.1.1 = 4 then
   (tableAllocate).bind fun r6 =>
   if r5.1.1 = 1 then
   (runnerRunSimple ({ r5.2.1 with line := r5.1.1, inside := r6.1.1 } : (RunV MV)) r5.2.2.1).bind fun r7 =>
   some ((r7.1.1, ()), (r7.2.1, r7.2.2.1, ()))
   else
   if r5.1.1 = 2 then
   (runnerRunSimple ({ r5.2.1 with line := r5.1.1, inside := r6.1.1 } : (RunV MV)) r5.2.2.1).bind fun r8 =>
   some ((r8.1.1, ()), (r8.2.1, r8.2.2.1, ()))
   else
   if r5.1.1 = 3 then
   (runnerRunSimple ({ r5.2.1 with line := r5.1.1, inside := r6.1.1 } : (RunV MV)) r5.2.2.1).bind fun r9 =>
   some ((r9.1.1, ()), (r9.2.1, r9.2.2.1, ()))
   else
   if 4 ≤ r5.1.1 then
   if r5.1.1 ≤ 8 then
   (runnerRunSpawn ({ r5.2.1 with line := r5.1.1, inside := r6.1.1 } : (RunV MV)) r5.2.2.1).bind fun r10 =>
   some ((r10.1.1, ()), (r10.2.1, r10.2.2.1, ()))
   else
   if 9 ≤ r5.1.1 then
   if r5.1.1 ≤ 15 then
   (runnerRunJoin ({ r5.2.1 with line := r5.1.1, inside := r6.1.1 } : (RunV MV)) r5.2.2.1).bind fun r11 =>
   some ((r11.1.1, ()), (r11.2.1, r11.2.2.1, ()))
   else
   (runnerRunFinish ({ r5.2.1 with line := r5.1.1, inside := r6.1.1 } : (RunV MV)) r5.2.2.1).bind fun r12 =>
   some ((r12.1.1, ()), (r12.2.1, r12.2.2.1, ()))
   else
   (runnerRunFinish ({ r5.2.1 with line := r5.1.1, inside := r6.1.1 } : (RunV MV)) r5.2.2.1).bind fun r13 =>
   some ((r13.1.1, ()), (r13.2.1, r13.2.2.1, ()))
   else
   if 9 ≤ r5.1.1 then
   if r5.1.1 ≤ 15 then
   (runnerRunJoin ({ r5.2.1 with line := r5.1.1, inside := r6.1.1 } : (RunV MV)) r5.2.2.1).bind fun r14 =>
   some ((r14.1.1, ()), (r14.2.1, r14.2.2.1, ()))
   else
   (runnerRunFinish ({ r5.2.1 with line := r5.1.1, inside := r6.1.1 } : (RunV MV)) r5.2.2.1).bind fun r15 =>
   some ((r15.1.1, ()), (r15.2.1, r15.2.2.1, ()))
   else
   (runnerRunFinish ({ r5.2.1 with line := r5.1.1, inside := r6.1.1 } : (RunV MV)) r5.2.2.1).bind fun r16 =>
   some ((r16.1.1, ()), (r16.2.1, r16.2.2.1, ()))
   else
   if r5.1.1 = 1 then
   (runnerRunSimple ({ r5.2.1 with line := r5.1.1 } : (RunV MV)) r5.2.2.1).bind fun r17 =>
   some ((r17.1.1, ()), (r17.2.1, r17.2.2.1, ()))
   else
   if r5.1.1 = 2 then
   (runnerRunSimple ({ r5.2.1 with line := r5.1.1 } : (RunV MV)) r5.2.2.1).bind fun r18 =>
   some ((r18.1.1, ()), (r18.2.1, r18.2.2.1, ()))
   else
   if r5.1.1 = 3 then
   (runnerRunSimple ({ r5.2.1 with line := r5.1.1 } : (RunV MV)) r5.2.2.1).bind fun r19 =>
   some ((r19.1.1, ()), (r19.2.1, r19.2.2.1, ()))
   else
   if 4 ≤ r5.1.1 then
   if r5.1.1 ≤ 8 then
   (runnerRunSpawn ({ r5.2.1 with line := r5.1.1 } : (RunV MV)) r5.2.2.1).bind fun r20 =>
   some ((r20.1.1, ()), (r20.2.1, r20.2.2.1, ()))
   else
   if 9 ≤ r5.1.1 then
   if r5.1.1 ≤ 15 then
   (runnerRunJoin ({ r5.2.1 with line := r5.1.1 } : (RunV MV)) r5.2.2.1).bind fun r21 =>
   some ((r21.1.1, ()), (r21.2.1, r21.2.2.1, ()))
   else
   (runnerRunFinish ({ r5.2.1 with line := r5.1.1 } : (RunV MV)) r5.2.2.1).bind fun r22 =>
   some ((r22.1.1, ()), (r22.2.1, r22.2.2.1, ()))
   else
   (runnerRunFinish ({ r5.2.1 with line := r5.1.1 } : (RunV MV)) r5.2.2.1).bind fun r23 =>
   some ((r23.1.1, ()), (r23.2.1, r23.2.2.1, ()))
   else
   if 9 ≤ r5.1.1 then
   if r5.1.1 ≤ 15 then
   (runnerRunJoin ({ r5.2.1 with line := r5.1.1 } : (RunV MV)) r5.2.2.1).bind fun r24 =>
   some ((r24.1.1, ()), (r24.2.1, r24.2.2.1, ()))
   else
   (runnerRunFinish ({ r5.2.1 with line := r5.1.1 } : (RunV MV)) r5.2.2.1).bind fun r25 =>
   some ((r25.1.1, ()), (r25.2.1, r25.2.2.1, ()))
   else
   (runnerRunFinish ({ r5.2.1 with line := r5.1.1 } : (RunV MV)) r5.2.2.1).bind fun r26 =>
   some ((r26.1.1, ()), (r26.2.1, r26.2.2.1, ()))
  else
  if y0.line = 1 then
   (runnerRunSimple ({ y0 with o := r1.2.1 } : (RunV MV)) y1).bind fun r27 =>
   some ((r27.1.1, ()), (r27.2.1, r27.2.2.1, ()))
  else
  if y0.line = 2 then
   (runnerRunSimple ({ y0 with o := r1.2.1 } : (RunV MV)) y1).bind fun r28 =>
   some ((r28.1.1, ()), (r28.2.1, r28.2.2.1, ()))
  else
  if y0.line = 3 then
   (runnerRunSimple ({ y0 with o := r1.2.1 } : (RunV MV)) y1).bind fun r29 =>
   some ((r29.1.1, ()), (r29.2.1, r29.2.2.1, ()))
  else
  if 4 ≤ y0.line then
   if y0.line ≤ 8 then
   (runnerRunSpawn ({ y0 with o := r1.2.1 } : (RunV MV)) y1).bind fun r30 =>
   some ((r30.1.1, ()), (r30.2.1, r30.2.2.1, ()))
   else
   if 9 ≤ y0.line then
   if y0.line ≤ 15 then
   (runnerRunJoin ({ y0 with o := r1.2.1 } : (RunV MV)) y1).bind fun r31 =>
   some ((r31.1.1, ()), (r31.2.1, r31.2.2.1, ()))
   else
   (runnerRunFinish ({ y0 with o := r1.2.1 } : (RunV MV)) y1).bind fun r32 =>
   some ((r32.1.1, ()), (r32.2.1, r32.2.2.1, ()))
   else
   (runnerRunFinish ({ y0 with o := r1.2.1 } : (RunV MV)) y1).bind fun r33 =>
   some ((r33.1.1, ()), (r33.2.1, r33.2.2.1, ()))
  else
  if 9 ≤ y0.line then
   if y0.line ≤ 15 then
   (runnerRunJoin ({ y0 with o := r1.2.1 } : (RunV MV)) y1).bind fun r34 =>
   some ((r34.1.1, ()), (r34.2.1, r34.2.2.1, ()))
   else
   (runnerRunFinish ({ y0 with o := r1.2.1 } : (RunV MV)) y1).bind fun r35 =>
   some ((r35.1.1, ()), (r35.2.1, r35.2.2.1, ()))
  else
  (runnerRunFinish ({ y0 with o := r1.2.1 } : (RunV MV)) y1).bind fun r36 =>
  some ((r36.1.1, ()), (r36.2.1, r36.2.2.1, ()))
 else none
noncomputable abbrev runnerRunStep_k : Con SR1 := ⟨173, [.ref 33, .ref 27], [.sh .b], fun x => runnerRunStep x.1 x.2.1⟩
noncomputable def runnerRunStep_tb : List (Nat × Func) := [(174, Tryz.f174)]
theorem runnerRunStep_ok : CO Tryz.prog runnerRunStep_k := co_fn mixed Tryz.func173 [pEnded_k, pEnd_k, runnerRunChoose_k, tableAllocate_k, runnerRunSimple_k, runnerRunSpawn_k, runnerRunJoin_k, runnerRunFinish_k] ⟨pEnded_ok, pEnd_ok, runnerRunChoose_ok, tableAllocate_ok, runnerRunSimple_ok, runnerRunSpawn_ok, runnerRunJoin_ok, runnerRunFinish_ok, trivial⟩ runnerRunStep_tb ⟨Tryz.func174, trivial⟩ (fun _ => []) [] fun x => by kernel_rfl
noncomputable def stepD3 (m : MV) (e : EnvP) : Option ((Bool × Unit) × (MV × EnvP × Unit)) :=
 match m with
 | .alloc x => (tableAllocateStep x e).bind fun o => some (o.1, (MV.alloc o.2.1, o.2.2))
 | .publish x => (tablePublishStep x e).bind fun o => some (o.1, (MV.publish o.2.1, o.2.2))
 | .claim x => (tableClaimStep x e).bind fun o => some (o.1, (MV.claim o.2.1, o.2.2))
 | .attempt x => (lockAttemptStep x e).bind fun o => some (o.1, (MV.attempt o.2.1, o.2.2))
 | .release x => (lockReleaseStep x e).bind fun o => some (o.1, (MV.release o.2.1, o.2.2))
 | .opush x => (ownerPushStep x e).bind fun o => some (o.1, (MV.opush o.2.1, o.2.2))
 | .opop x => (ownerPopStep x e).bind fun o => some (o.1, (MV.opop o.2.1, o.2.2))
 | .steal x => (thiefStealStep x e).bind fun o => some (o.1, (MV.steal o.2.1, o.2.2))
 | .set x => (bitmapSetStep x e).bind fun o => some (o.1, (MV.set o.2.1, o.2.2))
 | .reset x => (bitmapResetStep x e).bind fun o => some (o.1, (MV.reset o.2.1, o.2.2))
 | .insert x => (injectorInsertStep x e).bind fun o => some (o.1, (MV.insert o.2.1, o.2.2))
 | .remove x => (injectorRemoveStep x e).bind fun o => some (o.1, (MV.remove o.2.1, o.2.2))
 | .sleep x => (parkSleepStep x e).bind fun o => some (o.1, (MV.sleep o.2.1, o.2.2))
 | .wake x => (parkWakeStep x e).bind fun o => some (o.1, (MV.wake o.2.1, o.2.2))
 | .raise x => (boostRaiseStep x e).bind fun o => some (o.1, (MV.raise o.2.1, o.2.2))
 | .probe x => (probeProbeStep x e).bind fun o => some (o.1, (MV.probe o.2.1, o.2.2))
 | .lpush x => (levelsPushStep x e).bind fun o => some (o.1, (MV.lpush o.2.1, o.2.2))
 | .lpop x => (levelsPopStep x e).bind fun o => some (o.1, (MV.lpop o.2.1, o.2.2))
 | .walk x => (boostWalkStep x e).bind fun o => some (o.1, (MV.walk o.2.1, o.2.2))
 | .take x => (takeTakeStep x e).bind fun o => some (o.1, (MV.take o.2.1, o.2.2))
 | .sweep x => (agingSweepStep x e).bind fun o => some (o.1, (MV.sweep o.2.1, o.2.2))
 | .enter x => (tableEnterStep x e).bind fun o => some (o.1, (MV.enter o.2.1, o.2.2))
 | .drain x => (drainDrainStep x e).bind fun o => some (o.1, (MV.drain o.2.1, o.2.2))
 | .run x => (runnerRunStep x e).bind fun o => some (o.1, (MV.run o.2.1, o.2.2))
 | _ => none
noncomputable abbrev stepD3_k : Con SR1 := ⟨1000000000, [.mch, .ref 27], [.sh .b], fun x => stepD3 x.1 x.2.1⟩
theorem stepD3_ok : CO Tryz.prog stepD3_k := co_meth (S := SR1) (i := 0) (ps := [.ref 27]) (rs := [.sh .b]) (spec := fun m xs => stepD3 m xs.1) fun m xs out h => by
  cases m with
  | alloc x => exact via_ok (S := SR1) (ps := [.ref 27]) (rs := [.sh .b]) (c := 35) (mk := MV.alloc) (fun _ => rfl) rfl (fun _ _ _ _ => by kernel_rfl) tableAllocateStep_ok h
  | publish x => exact via_ok (S := SR1) (ps := [.ref 27]) (rs := [.sh .b]) (c := 50) (mk := MV.publish) (fun _ => rfl) rfl (fun _ _ _ _ => by kernel_rfl) tablePublishStep_ok h
  | claim x => exact via_ok (S := SR1) (ps := [.ref 27]) (rs := [.sh .b]) (c := 45) (mk := MV.claim) (fun _ => rfl) rfl (fun _ _ _ _ => by kernel_rfl) tableClaimStep_ok h
  | attempt x => exact via_ok (S := SR1) (ps := [.ref 27]) (rs := [.sh .b]) (c := 34) (mk := MV.attempt) (fun _ => rfl) rfl (fun _ _ _ _ => by kernel_rfl) lockAttemptStep_ok h
  | release x => exact via_ok (S := SR1) (ps := [.ref 27]) (rs := [.sh .b]) (c := 37) (mk := MV.release) (fun _ => rfl) rfl (fun _ _ _ _ => by kernel_rfl) lockReleaseStep_ok h
  | opush x => exact via_ok (S := SR1) (ps := [.ref 27]) (rs := [.sh .b]) (c := 53) (mk := MV.opush) (fun _ => rfl) rfl (fun _ _ _ _ => by kernel_rfl) ownerPushStep_ok h
  | opop x => exact via_ok (S := SR1) (ps := [.ref 27]) (rs := [.sh .b]) (c := 52) (mk := MV.opop) (fun _ => rfl) rfl (fun _ _ _ _ => by kernel_rfl) ownerPopStep_ok h
  | steal x => exact via_ok (S := SR1) (ps := [.ref 27]) (rs := [.sh .b]) (c := 42) (mk := MV.steal) (fun _ => rfl) rfl (fun _ _ _ _ => by kernel_rfl) thiefStealStep_ok h
  | set x => exact via_ok (S := SR1) (ps := [.ref 27]) (rs := [.sh .b]) (c := 54) (mk := MV.set) (fun _ => rfl) rfl (fun _ _ _ _ => by kernel_rfl) bitmapSetStep_ok h
  | reset x => exact via_ok (S := SR1) (ps := [.ref 27]) (rs := [.sh .b]) (c := 43) (mk := MV.reset) (fun _ => rfl) rfl (fun _ _ _ _ => by kernel_rfl) bitmapResetStep_ok h
  | insert x => exact via_ok (S := SR1) (ps := [.ref 27]) (rs := [.sh .b]) (c := 36) (mk := MV.insert) (fun _ => rfl) rfl (fun _ _ _ _ => by kernel_rfl) injectorInsertStep_ok h
  | remove x => exact via_ok (S := SR1) (ps := [.ref 27]) (rs := [.sh .b]) (c := 51) (mk := MV.remove) (fun _ => rfl) rfl (fun _ _ _ _ => by kernel_rfl) injectorRemoveStep_ok h
  | sleep x => exact via_ok (S := SR1) (ps := [.ref 27]) (rs := [.sh .b]) (c := 32) (mk := MV.sleep) (fun _ => rfl) rfl (fun _ _ _ _ => by kernel_rfl) parkSleepStep_ok h
  | wake x => exact via_ok (S := SR1) (ps := [.ref 27]) (rs := [.sh .b]) (c := 38) (mk := MV.wake) (fun _ => rfl) rfl (fun _ _ _ _ => by kernel_rfl) parkWakeStep_ok h
  | raise x => exact via_ok (S := SR1) (ps := [.ref 27]) (rs := [.sh .b]) (c := 55) (mk := MV.raise) (fun _ => rfl) rfl (fun _ _ _ _ => by kernel_rfl) boostRaiseStep_ok h
  | probe x => exact via_ok (S := SR1) (ps := [.ref 27]) (rs := [.sh .b]) (c := 46) (mk := MV.probe) (fun _ => rfl) rfl (fun _ _ _ _ => by kernel_rfl) probeProbeStep_ok h
  | lpush x => exact via_ok (S := SR1) (ps := [.ref 27]) (rs := [.sh .b]) (c := 47) (mk := MV.lpush) (fun _ => rfl) rfl (fun _ _ _ _ => by kernel_rfl) levelsPushStep_ok h
  | lpop x => exact via_ok (S := SR1) (ps := [.ref 27]) (rs := [.sh .b]) (c := 44) (mk := MV.lpop) (fun _ => rfl) rfl (fun _ _ _ _ => by kernel_rfl) levelsPopStep_ok h
  | walk x => exact via_ok (S := SR1) (ps := [.ref 27]) (rs := [.sh .b]) (c := 48) (mk := MV.walk) (fun _ => rfl) rfl (fun _ _ _ _ => by kernel_rfl) boostWalkStep_ok h
  | take x => exact via_ok (S := SR1) (ps := [.ref 27]) (rs := [.sh .b]) (c := 39) (mk := MV.take) (fun _ => rfl) rfl (fun _ _ _ _ => by kernel_rfl) takeTakeStep_ok h
  | sweep x => exact via_ok (S := SR1) (ps := [.ref 27]) (rs := [.sh .b]) (c := 40) (mk := MV.sweep) (fun _ => rfl) rfl (fun _ _ _ _ => by kernel_rfl) agingSweepStep_ok h
  | enter x => exact via_ok (S := SR1) (ps := [.ref 27]) (rs := [.sh .b]) (c := 49) (mk := MV.enter) (fun _ => rfl) rfl (fun _ _ _ _ => by kernel_rfl) tableEnterStep_ok h
  | drain x => exact via_ok (S := SR1) (ps := [.ref 27]) (rs := [.sh .b]) (c := 41) (mk := MV.drain) (fun _ => rfl) rfl (fun _ _ _ _ => by kernel_rfl) drainDrainStep_ok h
  | run x => exact via_ok (S := SR1) (ps := [.ref 27]) (rs := [.sh .b]) (c := 33) (mk := MV.run) (fun _ => rfl) rfl (fun _ _ _ _ => by kernel_rfl) runnerRunStep_ok h
  | _ => cases h
noncomputable def resultD3 (m : MV) : Option ((Int × Int × Unit) × (MV × Unit)) :=
 match m with
 | .alloc x => some ((x.o.code, x.o.value, ()), (MV.alloc x, ()))
 | .publish x => some ((x.o.code, x.o.value, ()), (MV.publish x, ()))
 | .claim x => some ((x.o.code, x.o.value, ()), (MV.claim x, ()))
 | .attempt x => some ((x.o.code, x.o.value, ()), (MV.attempt x, ()))
 | .release x => some ((x.o.code, x.o.value, ()), (MV.release x, ()))
 | .opush x => some ((x.o.code, x.o.value, ()), (MV.opush x, ()))
 | .opop x => some ((x.o.code, x.o.value, ()), (MV.opop x, ()))
 | .steal x => some ((x.o.code, x.o.value, ()), (MV.steal x, ()))
 | .set x => some ((x.o.code, x.o.value, ()), (MV.set x, ()))
 | .reset x => some ((x.o.code, x.o.value, ()), (MV.reset x, ()))
 | .insert x => some ((x.o.code, x.o.value, ()), (MV.insert x, ()))
 | .remove x => some ((x.o.code, x.o.value, ()), (MV.remove x, ()))
 | .sleep x => some ((x.o.code, x.o.value, ()), (MV.sleep x, ()))
 | .wake x => some ((x.o.code, x.o.value, ()), (MV.wake x, ()))
 | .raise x => some ((x.o.code, x.o.value, ()), (MV.raise x, ()))
 | .probe x => some ((x.o.code, x.o.value, ()), (MV.probe x, ()))
 | .lpush x => some ((x.o.code, x.o.value, ()), (MV.lpush x, ()))
 | .lpop x => some ((x.o.code, x.o.value, ()), (MV.lpop x, ()))
 | .walk x => some ((x.o.code, x.o.value, ()), (MV.walk x, ()))
 | .take x => some ((x.o.code, x.o.value, ()), (MV.take x, ()))
 | .sweep x => some ((x.o.code, x.o.value, ()), (MV.sweep x, ()))
 | .enter x => some ((x.o.code, x.o.value, ()), (MV.enter x, ()))
 | .drain x => some ((x.o.code, x.o.value, ()), (MV.drain x, ()))
 | .run x => some ((x.o.code, x.o.value, ()), (MV.run x, ()))
 | _ => none
noncomputable abbrev resultD3_k : Con SR1 := ⟨1000000001, [.mch], [.sh sI_, .sh sI_], fun x => resultD3 x.1⟩
theorem resultD3_ok : CO Tryz.prog resultD3_k := co_meth (S := SR1) (i := 1) (ps := []) (rs := [.sh sI_, .sh sI_]) (spec := fun m _ => resultD3 m) fun m xs out h => by
  cases m with
  | alloc x => exact via_ok (S := SR1) (ps := []) (rs := [.sh sI_, .sh sI_]) (c := 35) (mk := MV.alloc) (f := 172) (sp := fun x => some ((x.1.o.code, x.1.o.value, ()), (x.1, ()))) (fun _ => rfl) rfl (fun _ _ _ _ => by kernel_rfl) (co_like [pResult_k] ⟨pResult_ok, trivial⟩ fun x => by kernel_rfl) h
  | publish x => exact via_ok (S := SR1) (ps := []) (rs := [.sh sI_, .sh sI_]) (c := 50) (mk := MV.publish) (f := 172) (sp := fun x => some ((x.1.o.code, x.1.o.value, ()), (x.1, ()))) (fun _ => rfl) rfl (fun _ _ _ _ => by kernel_rfl) (co_like [pResult_k] ⟨pResult_ok, trivial⟩ fun x => by kernel_rfl) h
  | claim x => exact via_ok (S := SR1) (ps := []) (rs := [.sh sI_, .sh sI_]) (c := 45) (mk := MV.claim) (f := 172) (sp := fun x => some ((x.1.o.code, x.1.o.value, ()), (x.1, ()))) (fun _ => rfl) rfl (fun _ _ _ _ => by kernel_rfl) (co_like [pResult_k] ⟨pResult_ok, trivial⟩ fun x => by kernel_rfl) h
  | attempt x => exact via_ok (S := SR1) (ps := []) (rs := [.sh sI_, .sh sI_]) (c := 34) (mk := MV.attempt) (f := 172) (sp := fun x => some ((x.1.o.code, x.1.o.value, ()), (x.1, ()))) (fun _ => rfl) rfl (fun _ _ _ _ => by kernel_rfl) (co_like [pResult_k] ⟨pResult_ok, trivial⟩ fun x => by kernel_rfl) h
  | release x => exact via_ok (S := SR1) (ps := []) (rs := [.sh sI_, .sh sI_]) (c := 37) (mk := MV.release) (f := 172) (sp := fun x => some ((x.1.o.code, x.1.o.value, ()), (x.1, ()))) (fun _ => rfl) rfl (fun _ _ _ _ => by kernel_rfl) (co_like [pResult_k] ⟨pResult_ok, trivial⟩ fun x => by kernel_rfl) h
  | opush x => exact via_ok (S := SR1) (ps := []) (rs := [.sh sI_, .sh sI_]) (c := 53) (mk := MV.opush) (f := 172) (sp := fun x => some ((x.1.o.code, x.1.o.value, ()), (x.1, ()))) (fun _ => rfl) rfl (fun _ _ _ _ => by kernel_rfl) (co_like [pResult_k] ⟨pResult_ok, trivial⟩ fun x => by kernel_rfl) h
  | opop x => exact via_ok (S := SR1) (ps := []) (rs := [.sh sI_, .sh sI_]) (c := 52) (mk := MV.opop) (f := 172) (sp := fun x => some ((x.1.o.code, x.1.o.value, ()), (x.1, ()))) (fun _ => rfl) rfl (fun _ _ _ _ => by kernel_rfl) (co_like [pResult_k] ⟨pResult_ok, trivial⟩ fun x => by kernel_rfl) h
  | steal x => exact via_ok (S := SR1) (ps := []) (rs := [.sh sI_, .sh sI_]) (c := 42) (mk := MV.steal) (f := 172) (sp := fun x => some ((x.1.o.code, x.1.o.value, ()), (x.1, ()))) (fun _ => rfl) rfl (fun _ _ _ _ => by kernel_rfl) (co_like [pResult_k] ⟨pResult_ok, trivial⟩ fun x => by kernel_rfl) h
  | set x => exact via_ok (S := SR1) (ps := []) (rs := [.sh sI_, .sh sI_]) (c := 54) (mk := MV.set) (f := 172) (sp := fun x => some ((x.1.o.code, x.1.o.value, ()), (x.1, ()))) (fun _ => rfl) rfl (fun _ _ _ _ => by kernel_rfl) (co_like [pResult_k] ⟨pResult_ok, trivial⟩ fun x => by kernel_rfl) h
  | reset x => exact via_ok (S := SR1) (ps := []) (rs := [.sh sI_, .sh sI_]) (c := 43) (mk := MV.reset) (f := 172) (sp := fun x => some ((x.1.o.code, x.1.o.value, ()), (x.1, ()))) (fun _ => rfl) rfl (fun _ _ _ _ => by kernel_rfl) (co_like [pResult_k] ⟨pResult_ok, trivial⟩ fun x => by kernel_rfl) h
  | insert x => exact via_ok (S := SR1) (ps := []) (rs := [.sh sI_, .sh sI_]) (c := 36) (mk := MV.insert) (f := 172) (sp := fun x => some ((x.1.o.code, x.1.o.value, ()), (x.1, ()))) (fun _ => rfl) rfl (fun _ _ _ _ => by kernel_rfl) (co_like [pResult_k] ⟨pResult_ok, trivial⟩ fun x => by kernel_rfl) h
  | remove x => exact via_ok (S := SR1) (ps := []) (rs := [.sh sI_, .sh sI_]) (c := 51) (mk := MV.remove) (f := 172) (sp := fun x => some ((x.1.o.code, x.1.o.value, ()), (x.1, ()))) (fun _ => rfl) rfl (fun _ _ _ _ => by kernel_rfl) (co_like [pResult_k] ⟨pResult_ok, trivial⟩ fun x => by kernel_rfl) h
  | sleep x => exact via_ok (S := SR1) (ps := []) (rs := [.sh sI_, .sh sI_]) (c := 32) (mk := MV.sleep) (f := 172) (sp := fun x => some ((x.1.o.code, x.1.o.value, ()), (x.1, ()))) (fun _ => rfl) rfl (fun _ _ _ _ => by kernel_rfl) (co_like [pResult_k] ⟨pResult_ok, trivial⟩ fun x => by kernel_rfl) h
  | wake x => exact via_ok (S := SR1) (ps := []) (rs := [.sh sI_, .sh sI_]) (c := 38) (mk := MV.wake) (f := 172) (sp := fun x => some ((x.1.o.code, x.1.o.value, ()), (x.1, ()))) (fun _ => rfl) rfl (fun _ _ _ _ => by kernel_rfl) (co_like [pResult_k] ⟨pResult_ok, trivial⟩ fun x => by kernel_rfl) h
  | raise x => exact via_ok (S := SR1) (ps := []) (rs := [.sh sI_, .sh sI_]) (c := 55) (mk := MV.raise) (f := 172) (sp := fun x => some ((x.1.o.code, x.1.o.value, ()), (x.1, ()))) (fun _ => rfl) rfl (fun _ _ _ _ => by kernel_rfl) (co_like [pResult_k] ⟨pResult_ok, trivial⟩ fun x => by kernel_rfl) h
  | probe x => exact via_ok (S := SR1) (ps := []) (rs := [.sh sI_, .sh sI_]) (c := 46) (mk := MV.probe) (f := 172) (sp := fun x => some ((x.1.o.code, x.1.o.value, ()), (x.1, ()))) (fun _ => rfl) rfl (fun _ _ _ _ => by kernel_rfl) (co_like [pResult_k] ⟨pResult_ok, trivial⟩ fun x => by kernel_rfl) h
  | lpush x => exact via_ok (S := SR1) (ps := []) (rs := [.sh sI_, .sh sI_]) (c := 47) (mk := MV.lpush) (f := 172) (sp := fun x => some ((x.1.o.code, x.1.o.value, ()), (x.1, ()))) (fun _ => rfl) rfl (fun _ _ _ _ => by kernel_rfl) (co_like [pResult_k] ⟨pResult_ok, trivial⟩ fun x => by kernel_rfl) h
  | lpop x => exact via_ok (S := SR1) (ps := []) (rs := [.sh sI_, .sh sI_]) (c := 44) (mk := MV.lpop) (f := 172) (sp := fun x => some ((x.1.o.code, x.1.o.value, ()), (x.1, ()))) (fun _ => rfl) rfl (fun _ _ _ _ => by kernel_rfl) (co_like [pResult_k] ⟨pResult_ok, trivial⟩ fun x => by kernel_rfl) h
  | walk x => exact via_ok (S := SR1) (ps := []) (rs := [.sh sI_, .sh sI_]) (c := 48) (mk := MV.walk) (f := 172) (sp := fun x => some ((x.1.o.code, x.1.o.value, ()), (x.1, ()))) (fun _ => rfl) rfl (fun _ _ _ _ => by kernel_rfl) (co_like [pResult_k] ⟨pResult_ok, trivial⟩ fun x => by kernel_rfl) h
  | take x => exact via_ok (S := SR1) (ps := []) (rs := [.sh sI_, .sh sI_]) (c := 39) (mk := MV.take) (f := 172) (sp := fun x => some ((x.1.o.code, x.1.o.value, ()), (x.1, ()))) (fun _ => rfl) rfl (fun _ _ _ _ => by kernel_rfl) (co_like [pResult_k] ⟨pResult_ok, trivial⟩ fun x => by kernel_rfl) h
  | sweep x => exact via_ok (S := SR1) (ps := []) (rs := [.sh sI_, .sh sI_]) (c := 40) (mk := MV.sweep) (f := 172) (sp := fun x => some ((x.1.o.code, x.1.o.value, ()), (x.1, ()))) (fun _ => rfl) rfl (fun _ _ _ _ => by kernel_rfl) (co_like [pResult_k] ⟨pResult_ok, trivial⟩ fun x => by kernel_rfl) h
  | enter x => exact via_ok (S := SR1) (ps := []) (rs := [.sh sI_, .sh sI_]) (c := 49) (mk := MV.enter) (f := 172) (sp := fun x => some ((x.1.o.code, x.1.o.value, ()), (x.1, ()))) (fun _ => rfl) rfl (fun _ _ _ _ => by kernel_rfl) (co_like [pResult_k] ⟨pResult_ok, trivial⟩ fun x => by kernel_rfl) h
  | drain x => exact via_ok (S := SR1) (ps := []) (rs := [.sh sI_, .sh sI_]) (c := 41) (mk := MV.drain) (f := 172) (sp := fun x => some ((x.1.o.code, x.1.o.value, ()), (x.1, ()))) (fun _ => rfl) rfl (fun _ _ _ _ => by kernel_rfl) (co_like [pResult_k] ⟨pResult_ok, trivial⟩ fun x => by kernel_rfl) h
  | run x => exact via_ok (S := SR1) (ps := []) (rs := [.sh sI_, .sh sI_]) (c := 33) (mk := MV.run) (f := 172) (sp := fun x => some ((x.1.o.code, x.1.o.value, ()), (x.1, ()))) (fun _ => rfl) rfl (fun _ _ _ _ => by kernel_rfl) (co_like [pResult_k] ⟨pResult_ok, trivial⟩ fun x => by kernel_rfl) h
  | _ => cases h
noncomputable def clientClientOver (y0 : (ClientV MV)) : Option ((Bool × Unit) × ((ClientV MV) × Unit)) :=
 some ((decide (((y0.subs.length : Nat) : Int) ≤ y0.i), ()), (y0, ()))
noncomputable abbrev clientClientOver_k : Con SR1 := ⟨145, [.ref 30], [.sh .b], fun x => clientClientOver x.1⟩
theorem clientClientOver_ok : CO Tryz.prog clientClientOver_k := co_fn mixed Tryz.func145 [] trivial [] trivial (fun _ => []) [] fun x => by kernel_rfl
noncomputable def lockAcquire (y0 : Int) : Option ((MV × Unit) × (Unit)) :=
 some ((MV.attempt (⟨⟨false, 0, 0⟩, y0, false⟩ : AttemptV), ()), (()))
noncomputable abbrev lockAcquire_k : Con SR1 := ⟨208, [.sh sI_], [.sh .mach], fun x => lockAcquire x.1⟩
theorem lockAcquire_ok : CO Tryz.prog lockAcquire_k := co_fn mixed Tryz.func208 [] trivial [] trivial (fun _ => []) [] fun x => by kernel_rfl
noncomputable def injectorInsert (y0 : Int) (y1 : Int) : Option ((MV × Unit) × (Unit)) :=
 some ((MV.insert (⟨⟨false, 0, 0⟩, y0, y1, 1, 0, 0, 0, 0⟩ : InsertV), ()), (()))
noncomputable abbrev injectorInsert_k : Con SR1 := ⟨209, [.sh sI_, .sh sI_], [.sh .mach], fun x => injectorInsert x.1 x.2.1⟩
theorem injectorInsert_ok : CO Tryz.prog injectorInsert_k := co_fn mixed Tryz.func209 [] trivial [] trivial (fun _ => []) [] fun x => by kernel_rfl
noncomputable def clientClientMachines (y0 : (ClientV MV)) : Option ((MV × Unit) × ((ClientV MV) × Unit)) :=
 if 0 ≤ y0.i ∧ y0.i < ((y0.subs.length : Nat) : Int) then
  if ((atK4 y0.subs y0.i).prog) = ((atK4 y0.subs y0.i).prog) then
   if ((atK4 y0.subs y0.i).level) = ((atK4 y0.subs y0.i).level) then
   if ((atK4 y0.subs y0.i).deadline) = ((atK4 y0.subs y0.i).deadline) then
   if y0.i = y0.i then
   (lockAcquire y0.me).bind fun r1 =>
   if y0.line = y0.line then
   if ((atK4 y0.subs y0.i).level) = ((atK4 y0.subs y0.i).level) then
   if y0.me = y0.me then
   if y0.id = y0.id then
   if ((atK4 y0.subs y0.i).deadline) = ((atK4 y0.subs y0.i).deadline) then
   (tableAllocate).bind fun r2 =>
   if y0.line = y0.line then
   if ((atK4 y0.subs y0.i).level) = ((atK4 y0.subs y0.i).level) then
   if y0.me = y0.me then
   if y0.id = y0.id then
   if ((atK4 y0.subs y0.i).deadline) = ((atK4 y0.subs y0.i).deadline) then
   (injectorInsert ((atK4 y0.subs y0.i).deadline) y0.id).bind fun r3 =>
   if y0.line = y0.line then
   if ((atK4 y0.subs y0.i).level) = ((atK4 y0.subs y0.i).level) then
   if y0.me = y0.me then
   (lockRelease).bind fun r4 =>
   if y0.line = y0.line then
   if ((atK4 y0.subs y0.i).level) = ((atK4 y0.subs y0.i).level) then
   if y0.me = y0.me then
   (parkWake y0.me ((atK4 y0.subs y0.i).level)).bind fun r5 =>
   if y0.line = y0.line then
   if y0.line = y0.line then
   if 0 ≤ wi (y0.line - 1) ∧ wi (y0.line - 1) < ((([r1.1.1, MV.nil, r2.1.1, MV.nil, MV.nil, r3.1.1, MV.nil, r4.1.1, r5.1.1] : List MV).length : Nat) : Int) then
   some ((atK28 ([r1.1.1, MV.nil, r2.1.1, MV.nil, MV.nil, r3.1.1, MV.nil, r4.1.1, r5.1.1]) (wi (y0.line - 1)), ()), (y0, ()))
   else none
   else none
   else none
   else none
   else none
   else none
   else none
   else none
   else none
   else none
   else none
   else none
   else none
   else none
   else none
   else none
   else none
   else none
   else none
   else none
   else none
   else none
  else none
 else none
noncomputable abbrev clientClientMachines_k : Con SR1 := ⟨205, [.ref 30], [.sh .mach], fun x => clientClientMachines x.1⟩
theorem clientClientMachines_ok : CO Tryz.prog clientClientMachines_k := co_fn mixed Tryz.func205 [lockAcquire_k, tableAllocate_k, injectorInsert_k, lockRelease_k, parkWake_k] ⟨lockAcquire_ok, tableAllocate_ok, injectorInsert_ok, lockRelease_ok, parkWake_ok, trivial⟩ [] trivial (fun _ => []) [] fun x => by kernel_rfl
noncomputable def clientClientTo (y0 : (ClientV MV)) (y1 : Int) : Option ((Bool × Unit) × ((ClientV MV) × Unit)) :=
 some ((false, ()), (({ y0 with line := y1, inside := MV.nil, fresh := true } : (ClientV MV)), ()))
noncomputable abbrev clientClientTo_k : Con SR1 := ⟨215, [.ref 30, .sh sI_], [.sh .b], fun x => clientClientTo x.1 x.2.1⟩
theorem clientClientTo_ok : CO Tryz.prog clientClientTo_k := co_fn mixed Tryz.func215 [] trivial [] trivial (fun _ => []) [] fun x => by kernel_rfl
noncomputable def clientClientReject (y0 : (ClientV MV)) (y1 : EnvP) (y2 : Int) : Option ((Bool × Unit) × ((ClientV MV) × EnvP × Unit)) :=
 (pEmit y1 (⟨2, y0.me, 0, y0.i, y2⟩ : Ev)).bind fun r1 =>
 (clientClientTo y0 8).bind fun r2 =>
 some ((r2.1.1, ()), (r2.2.1, r1.2.1, ()))
noncomputable abbrev clientClientReject_k : Con SR1 := ⟨212, [.ref 30, .ref 27, .sh sI_], [.sh .b], fun x => clientClientReject x.1 x.2.1 x.2.2.1⟩
theorem clientClientReject_ok : CO Tryz.prog clientClientReject_k := co_fn mixed Tryz.func212 [pEmit_k, clientClientTo_k] ⟨pEmit_ok, clientClientTo_ok, trivial⟩ [] trivial (fun _ => []) [] fun x => by kernel_rfl
end Go.Proofs.YtgiagoeoifgliaaGreat
