/- The program's machines in the evaluator's form. -/
import Derived.Test.YtclaldommncdbaaGreatIqan
set_option linter.all false
namespace Go.Proofs.YtclaldommncdbaaGreat
open Go Go.RowKit
set_option maxRecDepth 100000
variable [Tb]
noncomputable def aaK (y0 : (RunV MV)) (y1 : EnvP) : Option ((Bool × Unit) × ((RunV MV) × EnvP × Unit)) :=
 if 0 ≤ wi (((y0.stack.length : Nat) : Int) - 1) ∧ wi (((y0.stack.length : Nat) : Int) - 1) < ((y0.stack.length : Nat) : Int) then
  if y0.line = 9 then
   if 0 ≤ wi (((y0.stack.length : Nat) : Int) - 1) ∧ wi (((y0.stack.length : Nat) : Int) - 1) < ((y0.stack.length : Nat) : Int) then
   if 0 ≤ aae y0.stack (wi (((y0.stack.length : Nat) : Int) - 1)) ∧ aae y0.stack (wi (((y0.stack.length : Nat) : Int) - 1)) < ((y1.recs.length : Nat) : Int) then
   if 0 ≤ wi (((y0.stack.length : Nat) : Int) - 1) ∧ wi (((y0.stack.length : Nat) : Int) - 1) < ((y0.stack.length : Nat) : Int) then
   if 0 ≤ aae y0.stack (wi (((y0.stack.length : Nat) : Int) - 1)) ∧ aae y0.stack (wi (((y0.stack.length : Nat) : Int) - 1)) < ((y1.recs.length : Nat) : Int) then
   if ((aab y1.recs (aae y0.stack (wi (((y0.stack.length : Nat) : Int) - 1)))).prog) < 0 then
   if 0 ≤ wi (((y0.stack.length : Nat) : Int) - 1) ∧ wi (((y0.stack.length : Nat) : Int) - 1) < ((y0.stack.length : Nat) : Int) then
   if 0 ≤ aae y0.stack (wi (((y0.stack.length : Nat) : Int) - 1)) ∧ aae y0.stack (wi (((y0.stack.length : Nat) : Int) - 1)) < ((y1.recs.length : Nat) : Int) then
   none
   else none
   else none
   else
   if ((y1.c.progs.length : Nat) : Int) ≤ ((aab y1.recs (aae y0.stack (wi (((y0.stack.length : Nat) : Int) - 1)))).prog) then
   if 0 ≤ wi (((y0.stack.length : Nat) : Int) - 1) ∧ wi (((y0.stack.length : Nat) : Int) - 1) < ((y0.stack.length : Nat) : Int) then
   if 0 ≤ aae y0.stack (wi (((y0.stack.length : Nat) : Int) - 1)) ∧ aae y0.stack (wi (((y0.stack.length : Nat) : Int) - 1)) < ((y1.recs.length : Nat) : Int) then
   none
   else none
   else none
   else
   if 0 ≤ (aab y1.recs (aae y0.stack (wi (((y0.stack.length : Nat) : Int) - 1)))).prog ∧ (aab y1.recs (aae y0.stack (wi (((y0.stack.length : Nat) : Int) - 1)))).prog < ((y1.c.progs.length : Nat) : Int) then
   if 0 ≤ wi (((y0.stack.length : Nat) : Int) - 1) ∧ wi (((y0.stack.length : Nat) : Int) - 1) < ((y0.stack.length : Nat) : Int) then
   if 0 ≤ aae y0.stack (wi (((y0.stack.length : Nat) : Int) - 1)) ∧ aae y0.stack (wi (((y0.stack.length : Nat) : Int) - 1)) < ((y1.recs.length : Nat) : Int) then
   if 0 ≤ (aab y1.recs (aae y0.stack (wi (((y0.stack.length : Nat) : Int) - 1)))).pc ∧ (aab y1.recs (aae y0.stack (wi (((y0.stack.length : Nat) : Int) - 1)))).pc < (((atL [] y1.c.progs ((aab y1.recs (aae y0.stack (wi (((y0.stack.length : Nat) : Int) - 1)))).prog)).length : Nat) : Int) then
   if 0 ≤ (aco (atL [] y1.c.progs ((aab y1.recs (aae y0.stack (wi (((y0.stack.length : Nat) : Int) - 1)))).prog)) ((aab y1.recs (aae y0.stack (wi (((y0.stack.length : Nat) : Int) - 1)))).pc)).a ∧ (aco (atL [] y1.c.progs ((aab y1.recs (aae y0.stack (wi (((y0.stack.length : Nat) : Int) - 1)))).prog)) ((aab y1.recs (aae y0.stack (wi (((y0.stack.length : Nat) : Int) - 1)))).pc)).a < ((((aab y1.recs (aae y0.stack (wi (((y0.stack.length : Nat) : Int) - 1)))).kids).length : Nat) : Int) then
   (aiU y1.l (aae y0.stack (wi (((y0.stack.length : Nat) : Int) - 1)))).bind fun r1 =>
   (aa2 y1.m r1.1.1 (wu (wi ((aae ((aab y1.recs (aae y0.stack (wi (((y0.stack.length : Nat) : Int) - 1)))).kids) ((aco (atL [] y1.c.progs ((aab y1.recs (aae y0.stack (wi (((y0.stack.length : Nat) : Int) - 1)))).prog)) ((aab y1.recs (aae y0.stack (wi (((y0.stack.length : Nat) : Int) - 1)))).pc)).a)) + 1)))).bind fun r2 =>
   (aac ({ y0 with child := aae ((aab y1.recs (aae y0.stack (wi (((y0.stack.length : Nat) : Int) - 1)))).kids) ((aco (atL [] y1.c.progs ((aab y1.recs (aae y0.stack (wi (((y0.stack.length : Nat) : Int) - 1)))).prog)) ((aab y1.recs (aae y0.stack (wi (((y0.stack.length : Nat) : Int) - 1)))).pc)).a) } : (RunV MV)) (wi (y0.line + 1)) MV.nil).bind fun r3 =>
   some ((r3.1.1, ()), (r3.2.1, ({ y1 with m := r2.2.1, recs := ((y1.recs.set (aae y0.stack (wi (((y0.stack.length : Nat) : Int) - 1))).toNat (aab y1.recs (aae y0.stack (wi (((y0.stack.length : Nat) : Int) - 1))))).set (aae y0.stack (wi (((y0.stack.length : Nat) : Int) - 1))).toNat ({ aab (y1.recs.set (aae y0.stack (wi (((y0.stack.length : Nat) : Int) - 1))).toNat (aab y1.recs (aae y0.stack (wi (((y0.stack.length : Nat) : Int) - 1))))) (aae y0.stack (wi (((y0.stack.length : Nat) : Int) - 1))) with pc := wi (((aab (y1.recs.set (aae y0.stack (wi (((y0.stack.length : Nat) : Int) - 1))).toNat (aab y1.recs (aae y0.stack (wi (((y0.stack.length : Nat) : Int) - 1))))) (aae y0.stack (wi (((y0.stack.length : Nat) : Int) - 1)))).pc) + 1) } : RecP)).set (aae y0.stack (wi (((y0.stack.length : Nat) : Int) - 1))).toNat ({ aab ((y1.recs.set (aae y0.stack (wi (((y0.stack.length : Nat) : Int) - 1))).toNat (aab y1.recs (aae y0.stack (wi (((y0.stack.length : Nat) : Int) - 1))))).set (aae y0.stack (wi (((y0.stack.length : Nat) : Int) - 1))).toNat ({ aab (y1.recs.set (aae y0.stack (wi (((y0.stack.length : Nat) : Int) - 1))).toNat (aab y1.recs (aae y0.stack (wi (((y0.stack.length : Nat) : Int) - 1))))) (aae y0.stack (wi (((y0.stack.length : Nat) : Int) - 1))) with pc := wi (((aab (y1.recs.set (aae y0.stack (wi (((y0.stack.length : Nat) : Int) - 1))).toNat (aab y1.recs (aae y0.stack (wi (((y0.stack.length : Nat) : Int) - 1))))) (aae y0.stack (wi (((y0.stack.length : Nat) : Int) - 1)))).pc) + 1) } : RecP)) (aae y0.stack (wi (((y0.stack.length : Nat) : Int) - 1))) with waiting := aae ((aab y1.recs (aae y0.stack (wi (((y0.stack.length : Nat) : Int) - 1)))).kids) ((aco (atL [] y1.c.progs ((aab y1.recs (aae y0.stack (wi (((y0.stack.length : Nat) : Int) - 1)))).prog)) ((aab y1.recs (aae y0.stack (wi (((y0.stack.length : Nat) : Int) - 1)))).pc)).a) } : RecP) } : EnvP), ()))
   else none
   else none
   else none
   else none
   else none
   else none
   else none
   else none
   else none
  else
  if y0.line = 10 then
   (adV y1.l (aae y0.stack (wi (((y0.stack.length : Nat) : Int) - 1)))).bind fun r4 =>
   (aa2 y1.m r4.1.1 3).bind fun r5 =>
   (aac y0 (wi (y0.line + 1)) MV.nil).bind fun r6 =>
   some ((r6.1.1, ()), (r6.2.1, ({ y1 with m := r5.2.1 } : EnvP), ()))
  else
  if y0.line = 11 then
   (am4 y1.l y0.child).bind fun r7 =>
   (ary y1.m r7.1.1 0 (wu (wi ((aae y0.stack (wi (((y0.stack.length : Nat) : Int) - 1))) + 1)))).bind fun r8 =>
   if (!r8.1.1) = true then
   (aac y0 14 MV.nil).bind fun r9 =>
   some ((r9.1.1, ()), (r9.2.1, ({ y1 with m := r8.2.1 } : EnvP), ()))
   else
   (aaJ y0 ({ y1 with m := r8.2.1 } : EnvP) (⟨6, 0, aae y0.stack (wi (((y0.stack.length : Nat) : Int) - 1)), y0.child, 0⟩ : Ev)).bind fun r10 =>
   (aac r10.2.1 (wi (r10.2.1.line + 1)) MV.nil).bind fun r11 =>
   some ((r11.1.1, ()), (r11.2.1, r10.2.2.1, ()))
  else
  if y0.line = 12 then
   (ae5 y1.l (aae y0.stack (wi (((y0.stack.length : Nat) : Int) - 1)))).bind fun r12 =>
   (acv y1.m r12.1.1).bind fun r13 =>
   (ajf y0.worker y0.child (wi (r13.1.1))).bind fun r14 =>
   (aac ({ y0 with level := wi (r13.1.1) } : (RunV MV)) 13 r14.1.1).bind fun r15 =>
   some ((r15.1.1, ()), (r15.2.1, ({ y1 with m := r13.2.1 } : EnvP), ()))
  else
  if y0.line = 13 then
   (ae3 y0.inside y1).bind fun r16 =>
   if (!r16.1.1) = true then
   some ((false, ()), (({ y0 with inside := r16.2.1 } : (RunV MV)), r16.2.2.1, ()))
   else
   (aaJ ({ y0 with inside := r16.2.1 } : (RunV MV)) r16.2.2.1 (⟨7, 0, aae y0.stack (wi (((y0.stack.length : Nat) : Int) - 1)), 0, y0.level⟩ : Ev)).bind fun r17 =>
   (aat r17.2.1).bind fun r18 =>
   some ((r18.1.1, ()), (r18.2.1, r17.2.2.1, ()))
  else
  if y0.line = 14 then
   (adV y1.l (aae y0.stack (wi (((y0.stack.length : Nat) : Int) - 1)))).bind fun r19 =>
   (aa2 y1.m r19.1.1 2).bind fun r20 =>
   (aac y0 (wi (y0.line + 1)) MV.nil).bind fun r21 =>
   some ((r21.1.1, ()), (r21.2.1, ({ y1 with m := r20.2.1 } : EnvP), ()))
  else
  (aiU y1.l (aae y0.stack (wi (((y0.stack.length : Nat) : Int) - 1)))).bind fun r22 =>
  (aa2 y1.m r22.1.1 0).bind fun r23 =>
  if 0 ≤ wi (((y0.stack.length : Nat) : Int) - 1) ∧ wi (((y0.stack.length : Nat) : Int) - 1) < ((y0.stack.length : Nat) : Int) then
   if 0 ≤ aae y0.stack (wi (((y0.stack.length : Nat) : Int) - 1)) ∧ aae y0.stack (wi (((y0.stack.length : Nat) : Int) - 1)) < ((y1.recs.length : Nat) : Int) then
   (aaJ y0 ({ y1 with m := r23.2.1, recs := y1.recs.set (aae y0.stack (wi (((y0.stack.length : Nat) : Int) - 1))).toNat ({ aab y1.recs (aae y0.stack (wi (((y0.stack.length : Nat) : Int) - 1))) with waiting := (-1) } : RecP) } : EnvP) (⟨8, 0, aae y0.stack (wi (((y0.stack.length : Nat) : Int) - 1)), y0.child, 0⟩ : Ev)).bind fun r24 =>
   (aac r24.2.1 0 MV.nil).bind fun r25 =>
   some ((r25.1.1, ()), (r25.2.1, r24.2.2.1, ()))
   else none
  else none
 else none
noncomputable abbrev aiN : Con SR1 := ⟨199, [.ref 33, .ref 27], [.sh .b], fun x => aaK x.1 x.2.1⟩
theorem amX (y0 : (RunV MV)) (y1 : EnvP) : agD y0 y1 = aaK y0 y1 := by
  unfold agD aaK
  simp only [if_true, arl, amq]
theorem amW : CO Tryz.prog aiN := aCU akL fun x out hx => (show ahn.spec x = some out from (amX x.1 x.2.1).trans hx)
noncomputable def ahe (y0 : Int) (y1 : Int) : Option ((MV × Unit) × (Unit)) :=
 some ((MV.enter (⟨⟨false, 0, 0⟩, y0, y1, 0, 1, MV.nil⟩ : (EnterV MV)), ()), (()))
noncomputable abbrev amC : Con SR1 := ⟨211, [.sh sI_, .sh sI_], [.sh .mach], fun x => ahe x.1 x.2.1⟩
theorem apW : CO Tryz.prog amC := aaq aap Tryz.func211 [] trivial [] trivial (fun _ => []) [] fun x => by kernel_rfl
noncomputable def afk (y0 : (RunV MV)) (y1 : EnvP) : Option ((Bool × Unit) × ((RunV MV) × EnvP × Unit)) :=
 agr (
  if 0 ≤ wi (((y0.stack.length : Nat) : Int) - 1) ∧ wi (((y0.stack.length : Nat) : Int) - 1) < ((y0.stack.length : Nat) : Int) then
   if y1.l.workers = y1.l.workers then
   if y1.l.levels = y1.l.levels then
   if y1.l.classes = y1.l.classes then
   if y1.l.tasks = y1.l.tasks then
   if y1.l.deque = y1.l.deque then
   if y1.l.heap = y1.l.heap then
   if y1.l.sleepers = y1.l.sleepers then
   if y1.l.epochs = y1.l.epochs then
   if y1.l.bitmaps = y1.l.bitmaps then
   if y1.l.queues = y1.l.queues then
   if y1.l.table = y1.l.table then
   if y1.l.workers = y1.l.workers then
   if y1.l.levels = y1.l.levels then
   if y1.l.classes = y1.l.classes then
   if y1.l.tasks = y1.l.tasks then
   if y1.l.deque = y1.l.deque then
   if y1.l.heap = y1.l.heap then
   if y1.l.sleepers = y1.l.sleepers then
   if y1.l.epochs = y1.l.epochs then
   if y1.l.bitmaps = y1.l.bitmaps then
   if y1.l.queues = y1.l.queues then
   if y1.l.table = y1.l.table then
   if y0.line = 16 then
   (adV y1.l (aae y0.stack (wi (((y0.stack.length : Nat) : Int) - 1)))).bind fun r29 =>
   (aa2 y1.m r29.1.1 4).bind fun r30 =>
   (aac y0 17 MV.nil).bind fun r31 =>
   some ((r31.1.1, ()), (r31.2.1, ({ y1 with m := r30.2.1 } : EnvP), ()))
   else
   if y0.line = 17 then
   (am4 y1.l (aae y0.stack (wi (((y0.stack.length : Nat) : Int) - 1)))).bind fun r32 =>
   (ary y1.m r32.1.1 0 4294967296).bind fun r33 =>
   (aaJ y0 ({ y1 with m := r33.2.1 } : EnvP) (⟨10, 0, aae y0.stack (wi (((y0.stack.length : Nat) : Int) - 1)), 0, 0⟩ : Ev)).bind fun r34 =>
   if r33.1.1 = true then
   (aat r34.2.1).bind fun r35 =>
   some ((r35.1.1, ()), (r35.2.1, r34.2.2.1, ()))
   else
   (aac r34.2.1 18 MV.nil).bind fun r36 =>
   some ((r36.1.1, ()), (r36.2.1, r34.2.2.1, ()))
   else
   if y0.line = 18 then
   (am4 y1.l (aae y0.stack (wi (((y0.stack.length : Nat) : Int) - 1)))).bind fun r37 =>
   (acv y1.m r37.1.1).bind fun r38 =>
   if (wi ((wi (r38.1.1)) - 1)) < 0 then
   (aat ({ y0 with waiter := wi ((wi (r38.1.1)) - 1) } : (RunV MV))).bind fun r39 =>
   some ((r39.1.1, ()), (r39.2.1, ({ y1 with m := r38.2.1 } : EnvP), ()))
   else
   if y1.c.tasks ≤ (wi ((wi (r38.1.1)) - 1)) then
   (aat ({ y0 with waiter := wi ((wi (r38.1.1)) - 1) } : (RunV MV))).bind fun r40 =>
   some ((r40.1.1, ()), (r40.2.1, ({ y1 with m := r38.2.1 } : EnvP), ()))
   else
   (ahe y0.worker (wi ((wi (r38.1.1)) - 1))).bind fun r41 =>
   (aac ({ y0 with waiter := wi ((wi (r38.1.1)) - 1) } : (RunV MV)) 19 r41.1.1).bind fun r42 =>
   some ((r42.1.1, ()), (r42.2.1, ({ y1 with m := r38.2.1 } : EnvP), ()))
   else
   (ae3 y0.inside y1).bind fun r43 =>
   if (!r43.1.1) = true then
   some ((false, ()), (({ y0 with inside := r43.2.1 } : (RunV MV)), r43.2.2.1, ()))
   else
   (adI r43.2.1).bind fun r44 =>
   if y0.line = 19 then
   if r44.1.1 = 3 then
   (acu y0.worker y0.waiter).bind fun r45 =>
   (aac ({ y0 with inside := r44.2.1 } : (RunV MV)) 21 r45.1.1).bind fun r46 =>
   some ((r46.1.1, ()), (r46.2.1, r43.2.2.1, ()))
   else
   if y0.line = 19 then
   (acV y0.worker r44.1.2.1).bind fun r47 =>
   (aac ({ y0 with inside := r44.2.1 } : (RunV MV)) 20 r47.1.1).bind fun r48 =>
   some ((r48.1.1, ()), (r48.2.1, r43.2.2.1, ()))
   else
   if y0.line = 21 then
   if r44.1.1 = 1 then
   if 0 ≤ wi (((y0.stack.length : Nat) : Int) - 1) ∧ wi (((y0.stack.length : Nat) : Int) - 1) < ((y0.stack.length : Nat) : Int) then
   (aac ({ y0 with stack := y0.stack.set (wi (((y0.stack.length : Nat) : Int) - 1)).toNat y0.waiter, inside := r44.2.1 } : (RunV MV)) 0 MV.nil).bind fun r49 =>
   some ((r49.1.1, ()), (r49.2.1, r43.2.2.1, ()))
   else none
   else
   (aat ({ y0 with inside := r44.2.1 } : (RunV MV))).bind fun r50 =>
   some ((r50.1.1, ()), (r50.2.1, r43.2.2.1, ()))
   else
   (aat ({ y0 with inside := r44.2.1 } : (RunV MV))).bind fun r51 =>
   some ((r51.1.1, ()), (r51.2.1, r43.2.2.1, ()))
   else
   if y0.line = 19 then
   (acV y0.worker r44.1.2.1).bind fun r52 =>
   (aac ({ y0 with inside := r44.2.1 } : (RunV MV)) 20 r52.1.1).bind fun r53 =>
   some ((r53.1.1, ()), (r53.2.1, r43.2.2.1, ()))
   else
   if y0.line = 21 then
   if r44.1.1 = 1 then
   if 0 ≤ wi (((y0.stack.length : Nat) : Int) - 1) ∧ wi (((y0.stack.length : Nat) : Int) - 1) < ((y0.stack.length : Nat) : Int) then
   (aac ({ y0 with stack := y0.stack.set (wi (((y0.stack.length : Nat) : Int) - 1)).toNat y0.waiter, inside := r44.2.1 } : (RunV MV)) 0 MV.nil).bind fun r54 =>
   some ((r54.1.1, ()), (r54.2.1, r43.2.2.1, ()))
   else none
   else
   (aat ({ y0 with inside := r44.2.1 } : (RunV MV))).bind fun r55 =>
   some ((r55.1.1, ()), (r55.2.1, r43.2.2.1, ()))
   else
   (aat ({ y0 with inside := r44.2.1 } : (RunV MV))).bind fun r56 =>
   some ((r56.1.1, ()), (r56.2.1, r43.2.2.1, ()))
   else none
   else none
   else none
   else none
   else none
   else none
   else none
   else none
   else none
   else none
   else none
   else none
   else none
   else none
   else none
   else none
   else none
   else none
   else none
   else none
   else none
   else none
  else none
 ) (
  if y1.l.workers = y1.l.workers then
   if y1.l.levels = y1.l.levels then
   if y1.l.classes = y1.l.classes then
   if y1.l.tasks = y1.l.tasks then
   if y1.l.deque = y1.l.deque then
   if y1.l.heap = y1.l.heap then
   if y1.l.sleepers = y1.l.sleepers then
   if y1.l.epochs = y1.l.epochs then
   if y1.l.bitmaps = y1.l.bitmaps then
   if y1.l.queues = y1.l.queues then
   if y1.l.table = y1.l.table then
   if 0 ≤ wi (((y0.stack.length : Nat) : Int) - 1) ∧ wi (((y0.stack.length : Nat) : Int) - 1) < ((y0.stack.length : Nat) : Int) then
   if y1.l.workers = y1.l.workers then
   if y1.l.levels = y1.l.levels then
   if y1.l.classes = y1.l.classes then
   if y1.l.tasks = y1.l.tasks then
   if y1.l.deque = y1.l.deque then
   if y1.l.heap = y1.l.heap then
   if y1.l.sleepers = y1.l.sleepers then
   if y1.l.epochs = y1.l.epochs then
   if y1.l.bitmaps = y1.l.bitmaps then
   if y1.l.queues = y1.l.queues then
   if y1.l.table = y1.l.table then
   if y0.line = 16 then
   (adV y1.l (aae y0.stack (wi (((y0.stack.length : Nat) : Int) - 1)))).bind fun r1 =>
   (aa2 y1.m r1.1.1 4).bind fun r2 =>
   (aac y0 17 MV.nil).bind fun r3 =>
   some ((r3.1.1, ()), (r3.2.1, ({ y1 with m := r2.2.1 } : EnvP), ()))
   else
   if y0.line = 17 then
   (am4 y1.l (aae y0.stack (wi (((y0.stack.length : Nat) : Int) - 1)))).bind fun r4 =>
   (ary y1.m r4.1.1 0 4294967296).bind fun r5 =>
   (aaJ y0 ({ y1 with m := r5.2.1 } : EnvP) (⟨10, 0, aae y0.stack (wi (((y0.stack.length : Nat) : Int) - 1)), 0, 0⟩ : Ev)).bind fun r6 =>
   if r5.1.1 = true then
   (aat r6.2.1).bind fun r7 =>
   some ((r7.1.1, ()), (r7.2.1, r6.2.2.1, ()))
   else
   (aac r6.2.1 18 MV.nil).bind fun r8 =>
   some ((r8.1.1, ()), (r8.2.1, r6.2.2.1, ()))
   else
   if y0.line = 18 then
   (am4 y1.l (aae y0.stack (wi (((y0.stack.length : Nat) : Int) - 1)))).bind fun r9 =>
   (acv y1.m r9.1.1).bind fun r10 =>
   if (wi ((wi (r10.1.1)) - 1)) < 0 then
   (aat ({ y0 with waiter := wi ((wi (r10.1.1)) - 1) } : (RunV MV))).bind fun r11 =>
   some ((r11.1.1, ()), (r11.2.1, ({ y1 with m := r10.2.1 } : EnvP), ()))
   else
   if y1.c.tasks ≤ (wi ((wi (r10.1.1)) - 1)) then
   (aat ({ y0 with waiter := wi ((wi (r10.1.1)) - 1) } : (RunV MV))).bind fun r12 =>
   some ((r12.1.1, ()), (r12.2.1, ({ y1 with m := r10.2.1 } : EnvP), ()))
   else
   (ahe y0.worker (wi ((wi (r10.1.1)) - 1))).bind fun r13 =>
   (aac ({ y0 with waiter := wi ((wi (r10.1.1)) - 1) } : (RunV MV)) 19 r13.1.1).bind fun r14 =>
   some ((r14.1.1, ()), (r14.2.1, ({ y1 with m := r10.2.1 } : EnvP), ()))
   else
   (ae3 y0.inside y1).bind fun r15 =>
   if (!r15.1.1) = true then
   some ((false, ()), (({ y0 with inside := r15.2.1 } : (RunV MV)), r15.2.2.1, ()))
   else
   (adI r15.2.1).bind fun r16 =>
   if y0.line = 19 then
   if r16.1.1 = 3 then
   (acu y0.worker y0.waiter).bind fun r17 =>
   (aac ({ y0 with inside := r16.2.1 } : (RunV MV)) 21 r17.1.1).bind fun r18 =>
   some ((r18.1.1, ()), (r18.2.1, r15.2.2.1, ()))
   else
   if y0.line = 19 then
   (acV y0.worker r16.1.2.1).bind fun r19 =>
   (aac ({ y0 with inside := r16.2.1 } : (RunV MV)) 20 r19.1.1).bind fun r20 =>
   some ((r20.1.1, ()), (r20.2.1, r15.2.2.1, ()))
   else
   if y0.line = 21 then
   if r16.1.1 = 1 then
   if 0 ≤ wi (((y0.stack.length : Nat) : Int) - 1) ∧ wi (((y0.stack.length : Nat) : Int) - 1) < ((y0.stack.length : Nat) : Int) then
   (aac ({ y0 with stack := y0.stack.set (wi (((y0.stack.length : Nat) : Int) - 1)).toNat y0.waiter, inside := r16.2.1 } : (RunV MV)) 0 MV.nil).bind fun r21 =>
   some ((r21.1.1, ()), (r21.2.1, r15.2.2.1, ()))
   else none
   else
   (aat ({ y0 with inside := r16.2.1 } : (RunV MV))).bind fun r22 =>
   some ((r22.1.1, ()), (r22.2.1, r15.2.2.1, ()))
   else
   (aat ({ y0 with inside := r16.2.1 } : (RunV MV))).bind fun r23 =>
   some ((r23.1.1, ()), (r23.2.1, r15.2.2.1, ()))
   else
   if y0.line = 19 then
   (acV y0.worker r16.1.2.1).bind fun r24 =>
   (aac ({ y0 with inside := r16.2.1 } : (RunV MV)) 20 r24.1.1).bind fun r25 =>
   some ((r25.1.1, ()), (r25.2.1, r15.2.2.1, ()))
   else
   if y0.line = 21 then
   if r16.1.1 = 1 then
   if 0 ≤ wi (((y0.stack.length : Nat) : Int) - 1) ∧ wi (((y0.stack.length : Nat) : Int) - 1) < ((y0.stack.length : Nat) : Int) then
   (aac ({ y0 with stack := y0.stack.set (wi (((y0.stack.length : Nat) : Int) - 1)).toNat y0.waiter, inside := r16.2.1 } : (RunV MV)) 0 MV.nil).bind fun r26 =>
   some ((r26.1.1, ()), (r26.2.1, r15.2.2.1, ()))
   else none
   else
   (aat ({ y0 with inside := r16.2.1 } : (RunV MV))).bind fun r27 =>
   some ((r27.1.1, ()), (r27.2.1, r15.2.2.1, ()))
   else
   (aat ({ y0 with inside := r16.2.1 } : (RunV MV))).bind fun r28 =>
   some ((r28.1.1, ()), (r28.2.1, r15.2.2.1, ()))
   else none
   else none
   else none
   else none
   else none
   else none
   else none
   else none
   else none
   else none
   else none
   else none
   else none
   else none
   else none
   else none
   else none
   else none
   else none
   else none
   else none
   else none
  else none
 )
noncomputable abbrev agE : Con SR1 := ⟨200, [.ref 33, .ref 27], [.sh .b], fun x => afk x.1 x.2.1⟩
noncomputable def ajM : List (Nat × Func) := [(195, Tryz.f195)]
theorem ajN : CO Tryz.prog agE := aaq aap Tryz.func200 [afF, adK, adp, att, ak6, adU, af2, acz, amC, ane, alU, afN, ahs] ⟨aeT, ade, adD, auY, ai0, aep, ahm, abL, apW, anS, an2, agj, ahQ, trivial⟩ ajM ⟨Tryz.func195, trivial⟩ (fun _ => []) [] fun x => by kernel_rfl
noncomputable def aav (y0 : (RunV MV)) (y1 : EnvP) : Option ((Bool × Unit) × ((RunV MV) × EnvP × Unit)) :=
 if 0 ≤ wi (((y0.stack.length : Nat) : Int) - 1) ∧ wi (((y0.stack.length : Nat) : Int) - 1) < ((y0.stack.length : Nat) : Int) then
  if y0.line = 16 then
   (adV y1.l (aae y0.stack (wi (((y0.stack.length : Nat) : Int) - 1)))).bind fun r1 =>
   (aa2 y1.m r1.1.1 4).bind fun r2 =>
   (aac y0 17 MV.nil).bind fun r3 =>
   some ((r3.1.1, ()), (r3.2.1, ({ y1 with m := r2.2.1 } : EnvP), ()))
  else
  if y0.line = 17 then
   (am4 y1.l (aae y0.stack (wi (((y0.stack.length : Nat) : Int) - 1)))).bind fun r4 =>
   (ary y1.m r4.1.1 0 4294967296).bind fun r5 =>
   (aaJ y0 ({ y1 with m := r5.2.1 } : EnvP) (⟨10, 0, aae y0.stack (wi (((y0.stack.length : Nat) : Int) - 1)), 0, 0⟩ : Ev)).bind fun r6 =>
   if r5.1.1 = true then
   (aat r6.2.1).bind fun r7 =>
   some ((r7.1.1, ()), (r7.2.1, r6.2.2.1, ()))
   else
   (aac r6.2.1 18 MV.nil).bind fun r8 =>
   some ((r8.1.1, ()), (r8.2.1, r6.2.2.1, ()))
  else
  if y0.line = 18 then
   (am4 y1.l (aae y0.stack (wi (((y0.stack.length : Nat) : Int) - 1)))).bind fun r9 =>
   (acv y1.m r9.1.1).bind fun r10 =>
   if (wi ((wi (r10.1.1)) - 1)) < 0 then
   (aat ({ y0 with waiter := wi ((wi (r10.1.1)) - 1) } : (RunV MV))).bind fun r11 =>
   some ((r11.1.1, ()), (r11.2.1, ({ y1 with m := r10.2.1 } : EnvP), ()))
   else
   if y1.c.tasks ≤ (wi ((wi (r10.1.1)) - 1)) then
   (aat ({ y0 with waiter := wi ((wi (r10.1.1)) - 1) } : (RunV MV))).bind fun r12 =>
   some ((r12.1.1, ()), (r12.2.1, ({ y1 with m := r10.2.1 } : EnvP), ()))
   else
   (ahe y0.worker (wi ((wi (r10.1.1)) - 1))).bind fun r13 =>
   (aac ({ y0 with waiter := wi ((wi (r10.1.1)) - 1) } : (RunV MV)) 19 r13.1.1).bind fun r14 =>
   some ((r14.1.1, ()), (r14.2.1, ({ y1 with m := r10.2.1 } : EnvP), ()))
  else
  (ae3 y0.inside y1).bind fun r15 =>
  if (!r15.1.1) = true then
   some ((false, ()), (({ y0 with inside := r15.2.1 } : (RunV MV)), r15.2.2.1, ()))
  else
  (adI r15.2.1).bind fun r16 =>
  if y0.line = 19 then
   if r16.1.1 = 3 then
   (acu y0.worker y0.waiter).bind fun r17 =>
   (aac ({ y0 with inside := r16.2.1 } : (RunV MV)) 21 r17.1.1).bind fun r18 =>
   some ((r18.1.1, ()), (r18.2.1, r15.2.2.1, ()))
   else
   if y0.line = 19 then
   (acV y0.worker r16.1.2.1).bind fun r19 =>
   (aac ({ y0 with inside := r16.2.1 } : (RunV MV)) 20 r19.1.1).bind fun r20 =>
   some ((r20.1.1, ()), (r20.2.1, r15.2.2.1, ()))
   else
   if y0.line = 21 then
   if r16.1.1 = 1 then
   if 0 ≤ wi (((y0.stack.length : Nat) : Int) - 1) ∧ wi (((y0.stack.length : Nat) : Int) - 1) < ((y0.stack.length : Nat) : Int) then
   (aac ({ y0 with stack := y0.stack.set (wi (((y0.stack.length : Nat) : Int) - 1)).toNat y0.waiter, inside := r16.2.1 } : (RunV MV)) 0 MV.nil).bind fun r21 =>
   some ((r21.1.1, ()), (r21.2.1, r15.2.2.1, ()))
   else none
   else
   (aat ({ y0 with inside := r16.2.1 } : (RunV MV))).bind fun r22 =>
   some ((r22.1.1, ()), (r22.2.1, r15.2.2.1, ()))
   else
   (aat ({ y0 with inside := r16.2.1 } : (RunV MV))).bind fun r23 =>
   some ((r23.1.1, ()), (r23.2.1, r15.2.2.1, ()))
  else
  if y0.line = 19 then
   (acV y0.worker r16.1.2.1).bind fun r24 =>
   (aac ({ y0 with inside := r16.2.1 } : (RunV MV)) 20 r24.1.1).bind fun r25 =>
   some ((r25.1.1, ()), (r25.2.1, r15.2.2.1, ()))
  else
  if y0.line = 21 then
   if r16.1.1 = 1 then
   if 0 ≤ wi (((y0.stack.length : Nat) : Int) - 1) ∧ wi (((y0.stack.length : Nat) : Int) - 1) < ((y0.stack.length : Nat) : Int) then
   (aac ({ y0 with stack := y0.stack.set (wi (((y0.stack.length : Nat) : Int) - 1)).toNat y0.waiter, inside := r16.2.1 } : (RunV MV)) 0 MV.nil).bind fun r26 =>
   some ((r26.1.1, ()), (r26.2.1, r15.2.2.1, ()))
   else none
   else
   (aat ({ y0 with inside := r16.2.1 } : (RunV MV))).bind fun r27 =>
   some ((r27.1.1, ()), (r27.2.1, r15.2.2.1, ()))
  else
  (aat ({ y0 with inside := r16.2.1 } : (RunV MV))).bind fun r28 =>
  some ((r28.1.1, ()), (r28.2.1, r15.2.2.1, ()))
 else none
noncomputable abbrev aho : Con SR1 := ⟨200, [.ref 33, .ref 27], [.sh .b], fun x => aav x.1 x.2.1⟩
theorem akN (y0 : (RunV MV)) (y1 : EnvP) : afk y0 y1 = aav y0 y1 := by
  unfold afk aav
  simp only [if_true, arl, amq]
theorem akM : CO Tryz.prog aho := aCU ajN fun x out hx => (show agE.spec x = some out from (akN x.1 x.2.1).trans hx)
noncomputable def abm (y0 : (RunV MV)) (y1 : EnvP) : Option ((Bool × Unit) × ((RunV MV) × EnvP × Unit)) :=
 (aaA y0.o).bind fun r1 =>
 if r1.1.1 = true then
  some ((true, ()), (({ y0 with o := r1.2.1 } : (RunV MV)), y1, ()))
 else
 if 0 ≤ wi (((y0.stack.length : Nat) : Int) - 1) ∧ wi (((y0.stack.length : Nat) : Int) - 1) < ((y0.stack.length : Nat) : Int) then
  if (aae y0.stack (wi (((y0.stack.length : Nat) : Int) - 1))) < 0 then
   (abf r1.2.1 4 0).bind fun r2 =>
   some ((r2.1.1, ()), (({ y0 with o := r2.2.1 } : (RunV MV)), y1, ()))
  else
  if y1.c.tasks ≤ (aae y0.stack (wi (((y0.stack.length : Nat) : Int) - 1))) then
   (abf r1.2.1 4 0).bind fun r3 =>
   some ((r3.1.1, ()), (({ y0 with o := r3.2.1 } : (RunV MV)), y1, ()))
  else
  if ((y1.recs.length : Nat) : Int) ≤ (aae y0.stack (wi (((y0.stack.length : Nat) : Int) - 1))) then
   (abf r1.2.1 4 0).bind fun r4 =>
   some ((r4.1.1, ()), (({ y0 with o := r4.2.1 } : (RunV MV)), y1, ()))
  else
  if y0.line = 0 then
   (aeR ({ y0 with o := r1.2.1 } : (RunV MV)) y1).bind fun r5 =>
   if r5.1.1 = 4 then
   (aeP).bind fun r6 =>
   if r5.1.1 = 1 then
   (aaI ({ r5.2.1 with line := r5.1.1, inside := r6.1.1 } : (RunV MV)) r5.2.2.1).bind fun r7 =>
   some ((r7.1.1, ()), (r7.2.1, r7.2.2.1, ()))
   else
   if r5.1.1 = 2 then
   (aaI ({ r5.2.1 with line := r5.1.1, inside := r6.1.1 } : (RunV MV)) r5.2.2.1).bind fun r8 =>
   some ((r8.1.1, ()), (r8.2.1, r8.2.2.1, ()))
   else
   if r5.1.1 = 3 then
   (aaI ({ r5.2.1 with line := r5.1.1, inside := r6.1.1 } : (RunV MV)) r5.2.2.1).bind fun r9 =>
   some ((r9.1.1, ()), (r9.2.1, r9.2.2.1, ()))
   else
   if 4 ≤ r5.1.1 then
   if r5.1.1 ≤ 8 then
   (abi ({ r5.2.1 with line := r5.1.1, inside := r6.1.1 } : (RunV MV)) r5.2.2.1).bind fun r10 =>
   some ((r10.1.1, ()), (r10.2.1, r10.2.2.1, ()))
   else
   if 9 ≤ r5.1.1 then
   if r5.1.1 ≤ 15 then
   (aaK ({ r5.2.1 with line := r5.1.1, inside := r6.1.1 } : (RunV MV)) r5.2.2.1).bind fun r11 =>
   some ((r11.1.1, ()), (r11.2.1, r11.2.2.1, ()))
   else
   (aav ({ r5.2.1 with line := r5.1.1, inside := r6.1.1 } : (RunV MV)) r5.2.2.1).bind fun r12 =>
   some ((r12.1.1, ()), (r12.2.1, r12.2.2.1, ()))
   else
   (aav ({ r5.2.1 with line := r5.1.1, inside := r6.1.1 } : (RunV MV)) r5.2.2.1).bind fun r13 =>
   some ((r13.1.1, ()), (r13.2.1, r13.2.2.1, ()))
   else
   if 9 ≤ r5.1.1 then
   if r5.1.1 ≤ 15 then
   (aaK ({ r5.2.1 with line := r5.1.1, inside := r6.1.1 } : (RunV MV)) r5.2.2.1).bind fun r14 =>
   some ((r14.1.1, ()), (r14.2.1, r14.2.2.1, ()))
   else
   (aav ({ r5.2.1 with line := r5.1.1, inside := r6.1.1 } : (RunV MV)) r5.2.2.1).bind fun r15 =>
   some ((r15.1.1, ()), (r15.2.1, r15.2.2.1, ()))
   else
   (aav ({ r5.2.1 with line := r5.1.1, inside := r6.1.1 } : (RunV MV)) r5.2.2.1).bind fun r16 =>
   some ((r16.1.1, ()), (r16.2.1, r16.2.2.1, ()))
   else
   if r5.1.1 = 1 then
   (aaI ({ r5.2.1 with line := r5.1.1 } : (RunV MV)) r5.2.2.1).bind fun r17 =>
   some ((r17.1.1, ()), (r17.2.1, r17.2.2.1, ()))
   else
   if r5.1.1 = 2 then
   (aaI ({ r5.2.1 with line := r5.1.1 } : (RunV MV)) r5.2.2.1).bind fun r18 =>
   some ((r18.1.1, ()), (r18.2.1, r18.2.2.1, ()))
   else
   if r5.1.1 = 3 then
   (aaI ({ r5.2.1 with line := r5.1.1 } : (RunV MV)) r5.2.2.1).bind fun r19 =>
   some ((r19.1.1, ()), (r19.2.1, r19.2.2.1, ()))
   else
   if 4 ≤ r5.1.1 then
   if r5.1.1 ≤ 8 then
   (abi ({ r5.2.1 with line := r5.1.1 } : (RunV MV)) r5.2.2.1).bind fun r20 =>
   some ((r20.1.1, ()), (r20.2.1, r20.2.2.1, ()))
   else
   if 9 ≤ r5.1.1 then
   if r5.1.1 ≤ 15 then
   (aaK ({ r5.2.1 with line := r5.1.1 } : (RunV MV)) r5.2.2.1).bind fun r21 =>
   some ((r21.1.1, ()), (r21.2.1, r21.2.2.1, ()))
   else
   (aav ({ r5.2.1 with line := r5.1.1 } : (RunV MV)) r5.2.2.1).bind fun r22 =>
   some ((r22.1.1, ()), (r22.2.1, r22.2.2.1, ()))
   else
   (aav ({ r5.2.1 with line := r5.1.1 } : (RunV MV)) r5.2.2.1).bind fun r23 =>
   some ((r23.1.1, ()), (r23.2.1, r23.2.2.1, ()))
   else
   if 9 ≤ r5.1.1 then
   if r5.1.1 ≤ 15 then
   (aaK ({ r5.2.1 with line := r5.1.1 } : (RunV MV)) r5.2.2.1).bind fun r24 =>
   some ((r24.1.1, ()), (r24.2.1, r24.2.2.1, ()))
   else
   (aav ({ r5.2.1 with line := r5.1.1 } : (RunV MV)) r5.2.2.1).bind fun r25 =>
   some ((r25.1.1, ()), (r25.2.1, r25.2.2.1, ()))
   else
   (aav ({ r5.2.1 with line := r5.1.1 } : (RunV MV)) r5.2.2.1).bind fun r26 =>
   some ((r26.1.1, ()), (r26.2.1, r26.2.2.1, ()))
  else
  if y0.line = 1 then
   (aaI ({ y0 with o := r1.2.1 } : (RunV MV)) y1).bind fun r27 =>
   some ((r27.1.1, ()), (r27.2.1, r27.2.2.1, ()))
  else
  if y0.line = 2 then
   (aaI ({ y0 with o := r1.2.1 } : (RunV MV)) y1).bind fun r28 =>
   some ((r28.1.1, ()), (r28.2.1, r28.2.2.1, ()))
  else
  if y0.line = 3 then
   (aaI ({ y0 with o := r1.2.1 } : (RunV MV)) y1).bind fun r29 =>
   some ((r29.1.1, ()), (r29.2.1, r29.2.2.1, ()))
  else
  if 4 ≤ y0.line then
   if y0.line ≤ 8 then
   (abi ({ y0 with o := r1.2.1 } : (RunV MV)) y1).bind fun r30 =>
   some ((r30.1.1, ()), (r30.2.1, r30.2.2.1, ()))
   else
   if 9 ≤ y0.line then
   if y0.line ≤ 15 then
   (aaK ({ y0 with o := r1.2.1 } : (RunV MV)) y1).bind fun r31 =>
   some ((r31.1.1, ()), (r31.2.1, r31.2.2.1, ()))
   else
   (aav ({ y0 with o := r1.2.1 } : (RunV MV)) y1).bind fun r32 =>
   some ((r32.1.1, ()), (r32.2.1, r32.2.2.1, ()))
   else
   (aav ({ y0 with o := r1.2.1 } : (RunV MV)) y1).bind fun r33 =>
   some ((r33.1.1, ()), (r33.2.1, r33.2.2.1, ()))
  else
  if 9 ≤ y0.line then
   if y0.line ≤ 15 then
   (aaK ({ y0 with o := r1.2.1 } : (RunV MV)) y1).bind fun r34 =>
   some ((r34.1.1, ()), (r34.2.1, r34.2.2.1, ()))
   else
   (aav ({ y0 with o := r1.2.1 } : (RunV MV)) y1).bind fun r35 =>
   some ((r35.1.1, ()), (r35.2.1, r35.2.2.1, ()))
  else
  (aav ({ y0 with o := r1.2.1 } : (RunV MV)) y1).bind fun r36 =>
  some ((r36.1.1, ()), (r36.2.1, r36.2.2.1, ()))
 else none
noncomputable abbrev anX : Con SR1 := ⟨194, [.ref 33, .ref 27], [.sh .b], fun x => abm x.1 x.2.1⟩
noncomputable def amU : List (Nat × Func) := [(195, Tryz.f195)]
theorem amV : CO Tryz.prog anX := aaq aap Tryz.func194 [abn, acA, ahp, agz, ahl, ail, aiN, aho] ⟨aa6, aby, akP, aij, akJ, alR, amW, akM, trivial⟩ amU ⟨Tryz.func195, trivial⟩ (fun _ => []) [] fun x => by kernel_rfl
noncomputable def adR (m : MV) (e : EnvP) : Option ((Bool × Unit) × (MV × EnvP × Unit)) :=
 match m with
 | .alloc x => (abP x e).bind fun o => some (o.1, (MV.alloc o.2.1, o.2.2))
 | .publish x => (abK x e).bind fun o => some (o.1, (MV.publish o.2.1, o.2.2))
 | .claim x => (ac2 x e).bind fun o => some (o.1, (MV.claim o.2.1, o.2.2))
 | .attempt x => (acE x e).bind fun o => some (o.1, (MV.attempt o.2.1, o.2.2))
 | .release x => (acD x e).bind fun o => some (o.1, (MV.release o.2.1, o.2.2))
 | .opush x => (adr x e).bind fun o => some (o.1, (MV.opush o.2.1, o.2.2))
 | .opop x => (adW x e).bind fun o => some (o.1, (MV.opop o.2.1, o.2.2))
 | .steal x => (ac1 x e).bind fun o => some (o.1, (MV.steal o.2.1, o.2.2))
 | .set x => (adt x e).bind fun o => some (o.1, (MV.set o.2.1, o.2.2))
 | .reset x => (acI x e).bind fun o => some (o.1, (MV.reset o.2.1, o.2.2))
 | .insert x => (abF x e).bind fun o => some (o.1, (MV.insert o.2.1, o.2.2))
 | .remove x => (abE x e).bind fun o => some (o.1, (MV.remove o.2.1, o.2.2))
 | .sleep x => (acW x e).bind fun o => some (o.1, (MV.sleep o.2.1, o.2.2))
 | .wake x => (adl x e).bind fun o => some (o.1, (MV.wake o.2.1, o.2.2))
 | .raise x => (acr x e).bind fun o => some (o.1, (MV.raise o.2.1, o.2.2))
 | .probe x => (abj x e).bind fun o => some (o.1, (MV.probe o.2.1, o.2.2))
 | .lpush x => (acq x e).bind fun o => some (o.1, (MV.lpush o.2.1, o.2.2))
 | .lpop x => (acX x e).bind fun o => some (o.1, (MV.lpop o.2.1, o.2.2))
 | .walk x => (abX x e).bind fun o => some (o.1, (MV.walk o.2.1, o.2.2))
 | .take x => (aeG x e).bind fun o => some (o.1, (MV.take o.2.1, o.2.2))
 | .sweep x => (aaG x e).bind fun o => some (o.1, (MV.sweep o.2.1, o.2.2))
 | .enter x => (abU x e).bind fun o => some (o.1, (MV.enter o.2.1, o.2.2))
 | .drain x => (abl x e).bind fun o => some (o.1, (MV.drain o.2.1, o.2.2))
 | .run x => (abm x e).bind fun o => some (o.1, (MV.run o.2.1, o.2.2))
 | _ => none
noncomputable abbrev apX : Con SR1 := ⟨1000000000, [.mch, .ref 27], [.sh .b], fun x => adR x.1 x.2.1⟩
theorem arK : CO Tryz.prog apX := ai9 (S := SR1) (i := 0) (ps := [.ref 27]) (rs := [.sh .b]) (spec := fun m xs => adR m xs.1) fun m xs out h => by
  cases m with
  | alloc x => exact aai (S := SR1) (ps := [.ref 27]) (rs := [.sh .b]) (c := 35) (mk := MV.alloc) (fun _ => rfl) rfl (fun _ _ _ _ => by kernel_rfl) ac7 h
  | publish x => exact aai (S := SR1) (ps := [.ref 27]) (rs := [.sh .b]) (c := 50) (mk := MV.publish) (fun _ => rfl) rfl (fun _ _ _ _ => by kernel_rfl) adn h
  | claim x => exact aai (S := SR1) (ps := [.ref 27]) (rs := [.sh .b]) (c := 45) (mk := MV.claim) (fun _ => rfl) rfl (fun _ _ _ _ => by kernel_rfl) ad5 h
  | attempt x => exact aai (S := SR1) (ps := [.ref 27]) (rs := [.sh .b]) (c := 34) (mk := MV.attempt) (fun _ => rfl) rfl (fun _ _ _ _ => by kernel_rfl) adM h
  | release x => exact aai (S := SR1) (ps := [.ref 27]) (rs := [.sh .b]) (c := 37) (mk := MV.release) (fun _ => rfl) rfl (fun _ _ _ _ => by kernel_rfl) adL h
  | opush x => exact aai (S := SR1) (ps := [.ref 27]) (rs := [.sh .b]) (c := 53) (mk := MV.opush) (fun _ => rfl) rfl (fun _ _ _ _ => by kernel_rfl) aet h
  | opop x => exact aai (S := SR1) (ps := [.ref 27]) (rs := [.sh .b]) (c := 52) (mk := MV.opop) (fun _ => rfl) rfl (fun _ _ _ _ => by kernel_rfl) aeV h
  | steal x => exact aai (S := SR1) (ps := [.ref 27]) (rs := [.sh .b]) (c := 42) (mk := MV.steal) (fun _ => rfl) rfl (fun _ _ _ _ => by kernel_rfl) ad4 h
  | set x => exact aai (S := SR1) (ps := [.ref 27]) (rs := [.sh .b]) (c := 54) (mk := MV.set) (fun _ => rfl) rfl (fun _ _ _ _ => by kernel_rfl) aew h
  | reset x => exact aai (S := SR1) (ps := [.ref 27]) (rs := [.sh .b]) (c := 43) (mk := MV.reset) (fun _ => rfl) rfl (fun _ _ _ _ => by kernel_rfl) adO h
  | insert x => exact aai (S := SR1) (ps := [.ref 27]) (rs := [.sh .b]) (c := 36) (mk := MV.insert) (fun _ => rfl) rfl (fun _ _ _ _ => by kernel_rfl) ac0 h
  | remove x => exact aai (S := SR1) (ps := [.ref 27]) (rs := [.sh .b]) (c := 51) (mk := MV.remove) (fun _ => rfl) rfl (fun _ _ _ _ => by kernel_rfl) acZ h
  | sleep x => exact aai (S := SR1) (ps := [.ref 27]) (rs := [.sh .b]) (c := 32) (mk := MV.sleep) (fun _ => rfl) rfl (fun _ _ _ _ => by kernel_rfl) aer h
  | wake x => exact aai (S := SR1) (ps := [.ref 27]) (rs := [.sh .b]) (c := 38) (mk := MV.wake) (fun _ => rfl) rfl (fun _ _ _ _ => by kernel_rfl) aeS h
  | raise x => exact aai (S := SR1) (ps := [.ref 27]) (rs := [.sh .b]) (c := 55) (mk := MV.raise) (fun _ => rfl) rfl (fun _ _ _ _ => by kernel_rfl) aeb h
  | probe x => exact aai (S := SR1) (ps := [.ref 27]) (rs := [.sh .b]) (c := 46) (mk := MV.probe) (fun _ => rfl) rfl (fun _ _ _ _ => by kernel_rfl) ad6 h
  | lpush x => exact aai (S := SR1) (ps := [.ref 27]) (rs := [.sh .b]) (c := 47) (mk := MV.lpush) (fun _ => rfl) rfl (fun _ _ _ _ => by kernel_rfl) afq h
  | lpop x => exact aai (S := SR1) (ps := [.ref 27]) (rs := [.sh .b]) (c := 44) (mk := MV.lpop) (fun _ => rfl) rfl (fun _ _ _ _ => by kernel_rfl) af4 h
  | walk x => exact aai (S := SR1) (ps := [.ref 27]) (rs := [.sh .b]) (c := 48) (mk := MV.walk) (fun _ => rfl) rfl (fun _ _ _ _ => by kernel_rfl) ait h
  | take x => exact aai (S := SR1) (ps := [.ref 27]) (rs := [.sh .b]) (c := 39) (mk := MV.take) (fun _ => rfl) rfl (fun _ _ _ _ => by kernel_rfl) aiI h
  | sweep x => exact aai (S := SR1) (ps := [.ref 27]) (rs := [.sh .b]) (c := 40) (mk := MV.sweep) (fun _ => rfl) rfl (fun _ _ _ _ => by kernel_rfl) ahI h
  | enter x => exact aai (S := SR1) (ps := [.ref 27]) (rs := [.sh .b]) (c := 49) (mk := MV.enter) (fun _ => rfl) rfl (fun _ _ _ _ => by kernel_rfl) ahd h
  | drain x => exact aai (S := SR1) (ps := [.ref 27]) (rs := [.sh .b]) (c := 41) (mk := MV.drain) (fun _ => rfl) rfl (fun _ _ _ _ => by kernel_rfl) ahz h
  | run x => exact aai (S := SR1) (ps := [.ref 27]) (rs := [.sh .b]) (c := 33) (mk := MV.run) (fun _ => rfl) rfl (fun _ _ _ _ => by kernel_rfl) amV h
  | _ => cases h
noncomputable def abB (m : MV) : Option ((Int × Int × Unit) × (MV × Unit)) :=
 match m with
 | .alloc x => some ((x.o.code, x.o.value, ()), (MV.alloc x, ()))
 | .publish x => some ((x.o.code, x.o.value, ()), (MV.publish x, ()))
 | .claim x => some ((x.o.code, x.o.value, ()), (MV.claim x, ()))
 | .attempt x => some ((x.o.code, x.o.value, ()), (MV.attempt x, ()))
 | .release x => some ((x.o.code, x.o.value, ()), (MV.release x, ()))
 | .opush x => some ((x.o.code, x.o.value, ()), (MV.opush x, ()))
 | .opop x => some ((x.o.code, x.o.value, ()), (MV.opop x, ()))
 | .steal x => some ((x.o.code, x.o.value, ()), (MV.steal x, ()))
 | .set x => some ((x.o.code, x.o.value, ()), (MV.set x, ()))
 | .reset x => some ((x.o.code, x.o.value, ()), (MV.reset x, ()))
 | .insert x => some ((x.o.code, x.o.value, ()), (MV.insert x, ()))
 | .remove x => some ((x.o.code, x.o.value, ()), (MV.remove x, ()))
 | .sleep x => some ((x.o.code, x.o.value, ()), (MV.sleep x, ()))
 | .wake x => some ((x.o.code, x.o.value, ()), (MV.wake x, ()))
 | .raise x => some ((x.o.code, x.o.value, ()), (MV.raise x, ()))
 | .probe x => some ((x.o.code, x.o.value, ()), (MV.probe x, ()))
 | .lpush x => some ((x.o.code, x.o.value, ()), (MV.lpush x, ()))
 | .lpop x => some ((x.o.code, x.o.value, ()), (MV.lpop x, ()))
 | .walk x => some ((x.o.code, x.o.value, ()), (MV.walk x, ()))
 | .take x => some ((x.o.code, x.o.value, ()), (MV.take x, ()))
 | .sweep x => some ((x.o.code, x.o.value, ()), (MV.sweep x, ()))
 | .enter x => some ((x.o.code, x.o.value, ()), (MV.enter x, ()))
 | .drain x => some ((x.o.code, x.o.value, ()), (MV.drain x, ()))
 | .run x => some ((x.o.code, x.o.value, ()), (MV.run x, ()))
 | _ => none
noncomputable abbrev alT : Con SR1 := ⟨1000000001, [.mch], [.sh sI_, .sh sI_], fun x => abB x.1⟩
theorem an1 : CO Tryz.prog alT := ai9 (S := SR1) (i := 1) (ps := []) (rs := [.sh sI_, .sh sI_]) (spec := fun m _ => abB m) fun m xs out h => by
  cases m with
  | alloc x => exact aai (S := SR1) (ps := []) (rs := [.sh sI_, .sh sI_]) (c := 35) (mk := MV.alloc) (f := 133) (sp := fun x => some ((x.1.o.code, x.1.o.value, ()), (x.1, ()))) (fun _ => rfl) rfl (fun _ _ _ _ => by kernel_rfl) (aar [aah] ⟨aad, trivial⟩ fun x => by kernel_rfl) h
  | publish x => exact aai (S := SR1) (ps := []) (rs := [.sh sI_, .sh sI_]) (c := 50) (mk := MV.publish) (f := 133) (sp := fun x => some ((x.1.o.code, x.1.o.value, ()), (x.1, ()))) (fun _ => rfl) rfl (fun _ _ _ _ => by kernel_rfl) (aar [aah] ⟨aad, trivial⟩ fun x => by kernel_rfl) h
  | claim x => exact aai (S := SR1) (ps := []) (rs := [.sh sI_, .sh sI_]) (c := 45) (mk := MV.claim) (f := 133) (sp := fun x => some ((x.1.o.code, x.1.o.value, ()), (x.1, ()))) (fun _ => rfl) rfl (fun _ _ _ _ => by kernel_rfl) (aar [aah] ⟨aad, trivial⟩ fun x => by kernel_rfl) h
  | attempt x => exact aai (S := SR1) (ps := []) (rs := [.sh sI_, .sh sI_]) (c := 34) (mk := MV.attempt) (f := 133) (sp := fun x => some ((x.1.o.code, x.1.o.value, ()), (x.1, ()))) (fun _ => rfl) rfl (fun _ _ _ _ => by kernel_rfl) (aar [aah] ⟨aad, trivial⟩ fun x => by kernel_rfl) h
  | release x => exact aai (S := SR1) (ps := []) (rs := [.sh sI_, .sh sI_]) (c := 37) (mk := MV.release) (f := 133) (sp := fun x => some ((x.1.o.code, x.1.o.value, ()), (x.1, ()))) (fun _ => rfl) rfl (fun _ _ _ _ => by kernel_rfl) (aar [aah] ⟨aad, trivial⟩ fun x => by kernel_rfl) h
  | opush x => exact aai (S := SR1) (ps := []) (rs := [.sh sI_, .sh sI_]) (c := 53) (mk := MV.opush) (f := 133) (sp := fun x => some ((x.1.o.code, x.1.o.value, ()), (x.1, ()))) (fun _ => rfl) rfl (fun _ _ _ _ => by kernel_rfl) (aar [aah] ⟨aad, trivial⟩ fun x => by kernel_rfl) h
  | opop x => exact aai (S := SR1) (ps := []) (rs := [.sh sI_, .sh sI_]) (c := 52) (mk := MV.opop) (f := 133) (sp := fun x => some ((x.1.o.code, x.1.o.value, ()), (x.1, ()))) (fun _ => rfl) rfl (fun _ _ _ _ => by kernel_rfl) (aar [aah] ⟨aad, trivial⟩ fun x => by kernel_rfl) h
  | steal x => exact aai (S := SR1) (ps := []) (rs := [.sh sI_, .sh sI_]) (c := 42) (mk := MV.steal) (f := 133) (sp := fun x => some ((x.1.o.code, x.1.o.value, ()), (x.1, ()))) (fun _ => rfl) rfl (fun _ _ _ _ => by kernel_rfl) (aar [aah] ⟨aad, trivial⟩ fun x => by kernel_rfl) h
  | set x => exact aai (S := SR1) (ps := []) (rs := [.sh sI_, .sh sI_]) (c := 54) (mk := MV.set) (f := 133) (sp := fun x => some ((x.1.o.code, x.1.o.value, ()), (x.1, ()))) (fun _ => rfl) rfl (fun _ _ _ _ => by kernel_rfl) (aar [aah] ⟨aad, trivial⟩ fun x => by kernel_rfl) h
  | reset x => exact aai (S := SR1) (ps := []) (rs := [.sh sI_, .sh sI_]) (c := 43) (mk := MV.reset) (f := 133) (sp := fun x => some ((x.1.o.code, x.1.o.value, ()), (x.1, ()))) (fun _ => rfl) rfl (fun _ _ _ _ => by kernel_rfl) (aar [aah] ⟨aad, trivial⟩ fun x => by kernel_rfl) h
  | insert x => exact aai (S := SR1) (ps := []) (rs := [.sh sI_, .sh sI_]) (c := 36) (mk := MV.insert) (f := 133) (sp := fun x => some ((x.1.o.code, x.1.o.value, ()), (x.1, ()))) (fun _ => rfl) rfl (fun _ _ _ _ => by kernel_rfl) (aar [aah] ⟨aad, trivial⟩ fun x => by kernel_rfl) h
  | remove x => exact aai (S := SR1) (ps := []) (rs := [.sh sI_, .sh sI_]) (c := 51) (mk := MV.remove) (f := 133) (sp := fun x => some ((x.1.o.code, x.1.o.value, ()), (x.1, ()))) (fun _ => rfl) rfl (fun _ _ _ _ => by kernel_rfl) (aar [aah] ⟨aad, trivial⟩ fun x => by kernel_rfl) h
  | sleep x => exact aai (S := SR1) (ps := []) (rs := [.sh sI_, .sh sI_]) (c := 32) (mk := MV.sleep) (f := 133) (sp := fun x => some ((x.1.o.code, x.1.o.value, ()), (x.1, ()))) (fun _ => rfl) rfl (fun _ _ _ _ => by kernel_rfl) (aar [aah] ⟨aad, trivial⟩ fun x => by kernel_rfl) h
  | wake x => exact aai (S := SR1) (ps := []) (rs := [.sh sI_, .sh sI_]) (c := 38) (mk := MV.wake) (f := 133) (sp := fun x => some ((x.1.o.code, x.1.o.value, ()), (x.1, ()))) (fun _ => rfl) rfl (fun _ _ _ _ => by kernel_rfl) (aar [aah] ⟨aad, trivial⟩ fun x => by kernel_rfl) h
  | raise x => exact aai (S := SR1) (ps := []) (rs := [.sh sI_, .sh sI_]) (c := 55) (mk := MV.raise) (f := 133) (sp := fun x => some ((x.1.o.code, x.1.o.value, ()), (x.1, ()))) (fun _ => rfl) rfl (fun _ _ _ _ => by kernel_rfl) (aar [aah] ⟨aad, trivial⟩ fun x => by kernel_rfl) h
  | probe x => exact aai (S := SR1) (ps := []) (rs := [.sh sI_, .sh sI_]) (c := 46) (mk := MV.probe) (f := 133) (sp := fun x => some ((x.1.o.code, x.1.o.value, ()), (x.1, ()))) (fun _ => rfl) rfl (fun _ _ _ _ => by kernel_rfl) (aar [aah] ⟨aad, trivial⟩ fun x => by kernel_rfl) h
  | lpush x => exact aai (S := SR1) (ps := []) (rs := [.sh sI_, .sh sI_]) (c := 47) (mk := MV.lpush) (f := 133) (sp := fun x => some ((x.1.o.code, x.1.o.value, ()), (x.1, ()))) (fun _ => rfl) rfl (fun _ _ _ _ => by kernel_rfl) (aar [aah] ⟨aad, trivial⟩ fun x => by kernel_rfl) h
  | lpop x => exact aai (S := SR1) (ps := []) (rs := [.sh sI_, .sh sI_]) (c := 44) (mk := MV.lpop) (f := 133) (sp := fun x => some ((x.1.o.code, x.1.o.value, ()), (x.1, ()))) (fun _ => rfl) rfl (fun _ _ _ _ => by kernel_rfl) (aar [aah] ⟨aad, trivial⟩ fun x => by kernel_rfl) h
  | walk x => exact aai (S := SR1) (ps := []) (rs := [.sh sI_, .sh sI_]) (c := 48) (mk := MV.walk) (f := 133) (sp := fun x => some ((x.1.o.code, x.1.o.value, ()), (x.1, ()))) (fun _ => rfl) rfl (fun _ _ _ _ => by kernel_rfl) (aar [aah] ⟨aad, trivial⟩ fun x => by kernel_rfl) h
  | take x => exact aai (S := SR1) (ps := []) (rs := [.sh sI_, .sh sI_]) (c := 39) (mk := MV.take) (f := 133) (sp := fun x => some ((x.1.o.code, x.1.o.value, ()), (x.1, ()))) (fun _ => rfl) rfl (fun _ _ _ _ => by kernel_rfl) (aar [aah] ⟨aad, trivial⟩ fun x => by kernel_rfl) h
  | sweep x => exact aai (S := SR1) (ps := []) (rs := [.sh sI_, .sh sI_]) (c := 40) (mk := MV.sweep) (f := 133) (sp := fun x => some ((x.1.o.code, x.1.o.value, ()), (x.1, ()))) (fun _ => rfl) rfl (fun _ _ _ _ => by kernel_rfl) (aar [aah] ⟨aad, trivial⟩ fun x => by kernel_rfl) h
  | enter x => exact aai (S := SR1) (ps := []) (rs := [.sh sI_, .sh sI_]) (c := 49) (mk := MV.enter) (f := 133) (sp := fun x => some ((x.1.o.code, x.1.o.value, ()), (x.1, ()))) (fun _ => rfl) rfl (fun _ _ _ _ => by kernel_rfl) (aar [aah] ⟨aad, trivial⟩ fun x => by kernel_rfl) h
  | drain x => exact aai (S := SR1) (ps := []) (rs := [.sh sI_, .sh sI_]) (c := 41) (mk := MV.drain) (f := 133) (sp := fun x => some ((x.1.o.code, x.1.o.value, ()), (x.1, ()))) (fun _ => rfl) rfl (fun _ _ _ _ => by kernel_rfl) (aar [aah] ⟨aad, trivial⟩ fun x => by kernel_rfl) h
  | run x => exact aai (S := SR1) (ps := []) (rs := [.sh sI_, .sh sI_]) (c := 33) (mk := MV.run) (f := 133) (sp := fun x => some ((x.1.o.code, x.1.o.value, ()), (x.1, ()))) (fun _ => rfl) rfl (fun _ _ _ _ => by kernel_rfl) (aar [aah] ⟨aad, trivial⟩ fun x => by kernel_rfl) h
  | _ => cases h
noncomputable def aay (y0 : (ClientV MV)) : Option ((Bool × Unit) × ((ClientV MV) × Unit)) :=
 some ((decide (((y0.subs.length : Nat) : Int) ≤ y0.i), ()), (y0, ()))
noncomputable abbrev adN : Con SR1 := ⟨48, [.ref 30], [.sh .b], fun x => aay x.1⟩
theorem aeC : CO Tryz.prog adN := aaq aap Tryz.func48 [] trivial [] trivial (fun _ => []) [] fun x => by kernel_rfl
noncomputable def akj (y0 : Int) : Option ((MV × Unit) × (Unit)) :=
 some ((MV.attempt (⟨⟨false, 0, 0⟩, y0, false⟩ : AttemptV), ()), (()))
noncomputable abbrev alh : Con SR1 := ⟨90, [.sh sI_], [.sh .mach], fun x => akj x.1⟩
theorem apc : CO Tryz.prog alh := aaq aap Tryz.func90 [] trivial [] trivial (fun _ => []) [] fun x => by kernel_rfl
noncomputable def ag6 (y0 : Int) (y1 : Int) : Option ((MV × Unit) × (Unit)) :=
 some ((MV.insert (⟨⟨false, 0, 0⟩, y0, y1, 1, 0, 0, 0, 0⟩ : InsertV), ()), (()))
noncomputable abbrev air : Con SR1 := ⟨92, [.sh sI_, .sh sI_], [.sh .mach], fun x => ag6 x.1 x.2.1⟩
theorem amk : CO Tryz.prog air := aaq aap Tryz.func92 [] trivial [] trivial (fun _ => []) [] fun x => by kernel_rfl
noncomputable def ac9 (y0 : (ClientV MV)) : Option ((MV × Unit) × ((ClientV MV) × Unit)) :=
 if 0 ≤ y0.i ∧ y0.i < ((y0.subs.length : Nat) : Int) then
  if ((abY y0.subs y0.i).prog) = ((abY y0.subs y0.i).prog) then
   if ((abY y0.subs y0.i).level) = ((abY y0.subs y0.i).level) then
   if ((abY y0.subs y0.i).deadline) = ((abY y0.subs y0.i).deadline) then
   if y0.i = y0.i then
   (akj y0.me).bind fun r1 =>
   if y0.line = y0.line then
   if ((abY y0.subs y0.i).level) = ((abY y0.subs y0.i).level) then
   if y0.me = y0.me then
   if y0.id = y0.id then
   if ((abY y0.subs y0.i).deadline) = ((abY y0.subs y0.i).deadline) then
   (aeP).bind fun r2 =>
   if y0.line = y0.line then
   if ((abY y0.subs y0.i).level) = ((abY y0.subs y0.i).level) then
   if y0.me = y0.me then
   if y0.id = y0.id then
   if ((abY y0.subs y0.i).deadline) = ((abY y0.subs y0.i).deadline) then
   (ag6 ((abY y0.subs y0.i).deadline) y0.id).bind fun r3 =>
   if y0.line = y0.line then
   if ((abY y0.subs y0.i).level) = ((abY y0.subs y0.i).level) then
   if y0.me = y0.me then
   (afp).bind fun r4 =>
   if y0.line = y0.line then
   if ((abY y0.subs y0.i).level) = ((abY y0.subs y0.i).level) then
   if y0.me = y0.me then
   (acV y0.me ((abY y0.subs y0.i).level)).bind fun r5 =>
   if y0.line = y0.line then
   if y0.line = y0.line then
   if 0 ≤ wi (y0.line - 1) ∧ wi (y0.line - 1) < ((([r1.1.1, MV.nil, r2.1.1, MV.nil, MV.nil, r3.1.1, MV.nil, r4.1.1, r5.1.1] : List MV).length : Nat) : Int) then
   some ((aF1 ([r1.1.1, MV.nil, r2.1.1, MV.nil, MV.nil, r3.1.1, MV.nil, r4.1.1, r5.1.1]) (wi (y0.line - 1)), ()), (y0, ()))
   else none
   else none
   else none
   else none
   else none
   else none
   else none
   else none
   else none
   else none
   else none
   else none
   else none
   else none
   else none
   else none
   else none
   else none
   else none
   else none
   else none
   else none
  else none
 else none
noncomputable abbrev ae6 : Con SR1 := ⟨87, [.ref 30], [.sh .mach], fun x => ac9 x.1⟩
theorem ah9 : CO Tryz.prog ae6 := aaq aap Tryz.func87 [alh, agz, air, ahW, ahs] ⟨apc, aij, amk, aj4, ahQ, trivial⟩ [] trivial (fun _ => []) [] fun x => by kernel_rfl
noncomputable def aao (y0 : (ClientV MV)) (y1 : Int) : Option ((Bool × Unit) × ((ClientV MV) × Unit)) :=
 some ((false, ()), (({ y0 with line := y1, inside := MV.nil, fresh := true } : (ClientV MV)), ()))
noncomputable abbrev adz : Con SR1 := ⟨102, [.ref 30, .sh sI_], [.sh .b], fun x => aao x.1 x.2.1⟩
theorem aea : CO Tryz.prog adz := aaq aap Tryz.func102 [] trivial [] trivial (fun _ => []) [] fun x => by kernel_rfl
noncomputable def abG (y0 : (ClientV MV)) (y1 : EnvP) (y2 : Int) : Option ((Bool × Unit) × ((ClientV MV) × EnvP × Unit)) :=
 (aee y1 (⟨2, y0.me, 0, y0.i, y2⟩ : Ev)).bind fun r1 =>
 (aao y0 8).bind fun r2 =>
 some ((r2.1.1, ()), (r2.2.1, r1.2.1, ()))
noncomputable abbrev aeh : Con SR1 := ⟨97, [.ref 30, .ref 27, .sh sI_], [.sh .b], fun x => abG x.1 x.2.1 x.2.2.1⟩
theorem afY : CO Tryz.prog aeh := aaq aap Tryz.func97 [afn, adz] ⟨aes, aea, trivial⟩ [] trivial (fun _ => []) [] fun x => by kernel_rfl
end Go.Proofs.YtclaldommncdbaaGreat
