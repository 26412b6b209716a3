/- The program's machines in the evaluator's form. -/
import Derived.Test.YtgiagoeoifgliaaGreatBqam
set_option linter.all false
namespace Go.Proofs.YtgiagoeoifgliaaGreat
open Go Go.RowKit
set_option maxRecDepth 100000
variable [Tb]
noncomputable def runnerRunSimple (y0 : (RunV MV)) (y1 : EnvP) : Option ((Bool × Unit) × ((RunV MV) × EnvP × Unit)) :=
 if 0 ≤ wi (((y0.stack.length : Nat) : Int) - 1) ∧ wi (((y0.stack.length : Nat) : Int) - 1) < ((y0.stack.length : Nat) : Int) then
  if 0 ≤ atK1 y0.stack (wi (((y0.stack.length : Nat) : Int) - 1)) ∧ atK1 y0.stack (wi (((y0.stack.length : Nat) : Int) - 1)) < ((y1.recs.length : Nat) : Int) then
   if y0.line = 1 then
   if 0 ≤ wi (((y0.stack.length : Nat) : Int) - 1) ∧ wi (((y0.stack.length : Nat) : Int) - 1) < ((y0.stack.length : Nat) : Int) then
   if y1.l.workers = y1.l.workers then
   if y1.l.levels = y1.l.levels then
   if y1.l.classes = y1.l.classes then
   if y1.l.tasks = y1.l.tasks then
   if y1.l.deque = y1.l.deque then
   if y1.l.heap = y1.l.heap then
   if y1.l.sleepers = y1.l.sleepers then
   if y1.l.epochs = y1.l.epochs then
   if y1.l.bitmaps = y1.l.bitmaps then
   if y1.l.queues = y1.l.queues then
   if y1.l.table = y1.l.table then
   (pWaits y1.l (atK1 y0.stack (wi (((y0.stack.length : Nat) : Int) - 1)))).bind fun r1 =>
   (pStore y1.m r1.1.1 0).bind fun r2 =>
   (runnerRunTo y0 0 MV.nil).bind fun r3 =>
   some ((r3.1.1, ()), (r3.2.1, ({ y1 with m := r2.2.1, recs := y1.recs.set (atK1 y0.stack (wi (((y0.stack.length : Nat) : Int) - 1))).toNat ({ atK26 y1.recs (atK1 y0.stack (wi (((y0.stack.length : Nat) : Int) - 1))) with waiting := (-1) } : RecP) } : EnvP), ()))
   else none
   else none
   else none
   else none
   else none
   else none
   else none
   else none
   else none
   else none
   else none
   else none
   else
   if y0.line = 2 then
   if ((atK26 y1.recs (atK1 y0.stack (wi (((y0.stack.length : Nat) : Int) - 1)))).left) = 0 then
   if 0 ≤ wi (((y0.stack.length : Nat) : Int) - 1) ∧ wi (((y0.stack.length : Nat) : Int) - 1) < ((y0.stack.length : Nat) : Int) then
   if 0 ≤ atK1 y0.stack (wi (((y0.stack.length : Nat) : Int) - 1)) ∧ atK1 y0.stack (wi (((y0.stack.length : Nat) : Int) - 1)) < ((y1.recs.length : Nat) : Int) then
   if ((atK26 y1.recs (atK1 y0.stack (wi (((y0.stack.length : Nat) : Int) - 1)))).prog) < 0 then
   if 0 ≤ wi (((y0.stack.length : Nat) : Int) - 1) ∧ wi (((y0.stack.length : Nat) : Int) - 1) < ((y0.stack.length : Nat) : Int) then
   if 0 ≤ atK1 y0.stack (wi (((y0.stack.length : Nat) : Int) - 1)) ∧ atK1 y0.stack (wi (((y0.stack.length : Nat) : Int) - 1)) < ((y1.recs.length : Nat) : Int) then
   none
   else none
   else none
   else
   if ((y1.c.progs.length : Nat) : Int) ≤ ((atK26 y1.recs (atK1 y0.stack (wi (((y0.stack.length : Nat) : Int) - 1)))).prog) then
   if 0 ≤ wi (((y0.stack.length : Nat) : Int) - 1) ∧ wi (((y0.stack.length : Nat) : Int) - 1) < ((y0.stack.length : Nat) : Int) then
   if 0 ≤ atK1 y0.stack (wi (((y0.stack.length : Nat) : Int) - 1)) ∧ atK1 y0.stack (wi (((y0.stack.length : Nat) : Int) - 1)) < ((y1.recs.length : Nat) : Int) then
   none
   else none
   else none
   else
   if 0 ≤ (atK26 y1.recs (atK1 y0.stack (wi (((y0.stack.length : Nat) : Int) - 1)))).prog ∧ (atK26 y1.recs (atK1 y0.stack (wi (((y0.stack.length : Nat) : Int) - 1)))).prog < ((y1.c.progs.length : Nat) : Int) then
   if 0 ≤ wi (((y0.stack.length : Nat) : Int) - 1) ∧ wi (((y0.stack.length : Nat) : Int) - 1) < ((y0.stack.length : Nat) : Int) then
   if 0 ≤ atK1 y0.stack (wi (((y0.stack.length : Nat) : Int) - 1)) ∧ atK1 y0.stack (wi (((y0.stack.length : Nat) : Int) - 1)) < ((y1.recs.length : Nat) : Int) then
   if 0 ≤ (atK26 y1.recs (atK1 y0.stack (wi (((y0.stack.length : Nat) : Int) - 1)))).pc ∧ (atK26 y1.recs (atK1 y0.stack (wi (((y0.stack.length : Nat) : Int) - 1)))).pc < (((atL [] y1.c.progs ((atK26 y1.recs (atK1 y0.stack (wi (((y0.stack.length : Nat) : Int) - 1)))).prog)).length : Nat) : Int) then
   if ((atK26 ((y1.recs.set (atK1 y0.stack (wi (((y0.stack.length : Nat) : Int) - 1))).toNat ({ atK26 y1.recs (atK1 y0.stack (wi (((y0.stack.length : Nat) : Int) - 1))) with left := (atK3 (atL [] y1.c.progs ((atK26 y1.recs (atK1 y0.stack (wi (((y0.stack.length : Nat) : Int) - 1)))).prog)) ((atK26 y1.recs (atK1 y0.stack (wi (((y0.stack.length : Nat) : Int) - 1)))).pc)).a } : RecP)).set (atK1 y0.stack (wi (((y0.stack.length : Nat) : Int) - 1))).toNat ({ atK26 (y1.recs.set (atK1 y0.stack (wi (((y0.stack.length : Nat) : Int) - 1))).toNat ({ atK26 y1.recs (atK1 y0.stack (wi (((y0.stack.length : Nat) : Int) - 1))) with left := (atK3 (atL [] y1.c.progs ((atK26 y1.recs (atK1 y0.stack (wi (((y0.stack.length : Nat) : Int) - 1)))).prog)) ((atK26 y1.recs (atK1 y0.stack (wi (((y0.stack.length : Nat) : Int) - 1)))).pc)).a } : RecP)) (atK1 y0.stack (wi (((y0.stack.length : Nat) : Int) - 1))) with left := wi (((atK26 (y1.recs.set (atK1 y0.stack (wi (((y0.stack.length : Nat) : Int) - 1))).toNat ({ atK26 y1.recs (atK1 y0.stack (wi (((y0.stack.length : Nat) : Int) - 1))) with left := (atK3 (atL [] y1.c.progs ((atK26 y1.recs (atK1 y0.stack (wi (((y0.stack.length : Nat) : Int) - 1)))).prog)) ((atK26 y1.recs (atK1 y0.stack (wi (((y0.stack.length : Nat) : Int) - 1)))).pc)).a } : RecP)) (atK1 y0.stack (wi (((y0.stack.length : Nat) : Int) - 1)))).left) - 1) } : RecP)) (atK1 y0.stack (wi (((y0.stack.length : Nat) : Int) - 1)))).left) = 0 then
   (runnerRunTo y0 0 MV.nil).bind fun r4 =>
   some ((r4.1.1, ()), (r4.2.1, ({ y1 with recs := ((y1.recs.set (atK1 y0.stack (wi (((y0.stack.length : Nat) : Int) - 1))).toNat ({ atK26 y1.recs (atK1 y0.stack (wi (((y0.stack.length : Nat) : Int) - 1))) with left := (atK3 (atL [] y1.c.progs ((atK26 y1.recs (atK1 y0.stack (wi (((y0.stack.length : Nat) : Int) - 1)))).prog)) ((atK26 y1.recs (atK1 y0.stack (wi (((y0.stack.length : Nat) : Int) - 1)))).pc)).a } : RecP)).set (atK1 y0.stack (wi (((y0.stack.length : Nat) : Int) - 1))).toNat ({ atK26 (y1.recs.set (atK1 y0.stack (wi (((y0.stack.length : Nat) : Int) - 1))).toNat ({ atK26 y1.recs (atK1 y0.stack (wi (((y0.stack.length : Nat) : Int) - 1))) with left := (atK3 (atL [] y1.c.progs ((atK26 y1.recs (atK1 y0.stack (wi (((y0.stack.length : Nat) : Int) - 1)))).prog)) ((atK26 y1.recs (atK1 y0.stack (wi (((y0.stack.length : Nat) : Int) - 1)))).pc)).a } : RecP)) (atK1 y0.stack (wi (((y0.stack.length : Nat) : Int) - 1))) with left := wi (((atK26 (y1.recs.set (atK1 y0.stack (wi (((y0.stack.length : Nat) : Int) - 1))).toNat ({ atK26 y1.recs (atK1 y0.stack (wi (((y0.stack.length : Nat) : Int) - 1))) with left := (atK3 (atL [] y1.c.progs ((atK26 y1.recs (atK1 y0.stack (wi (((y0.stack.length : Nat) : Int) - 1)))).prog)) ((atK26 y1.recs (atK1 y0.stack (wi (((y0.stack.length : Nat) : Int) - 1)))).pc)).a } : RecP)) (atK1 y0.stack (wi (((y0.stack.length : Nat) : Int) - 1)))).left) - 1) } : RecP)).set (atK1 y0.stack (wi (((y0.stack.length : Nat) : Int) - 1))).toNat ({ atK26 ((y1.recs.set (atK1 y0.stack (wi (((y0.stack.length : Nat) : Int) - 1))).toNat ({ atK26 y1.recs (atK1 y0.stack (wi (((y0.stack.length : Nat) : Int) - 1))) with left := (atK3 (atL [] y1.c.progs ((atK26 y1.recs (atK1 y0.stack (wi (((y0.stack.length : Nat) : Int) - 1)))).prog)) ((atK26 y1.recs (atK1 y0.stack (wi (((y0.stack.length : Nat) : Int) - 1)))).pc)).a } : RecP)).set (atK1 y0.stack (wi (((y0.stack.length : Nat) : Int) - 1))).toNat ({ atK26 (y1.recs.set (atK1 y0.stack (wi (((y0.stack.length : Nat) : Int) - 1))).toNat ({ atK26 y1.recs (atK1 y0.stack (wi (((y0.stack.length : Nat) : Int) - 1))) with left := (atK3 (atL [] y1.c.progs ((atK26 y1.recs (atK1 y0.stack (wi (((y0.stack.length : Nat) : Int) - 1)))).prog)) ((atK26 y1.recs (atK1 y0.stack (wi (((y0.stack.length : Nat) : Int) - 1)))).pc)).a } : RecP)) (atK1 y0.stack (wi (((y0.stack.length : Nat) : Int) - 1))) with left := wi (((atK26 (y1.recs.set (atK1 y0.stack (wi (((y0.stack.length : Nat) : Int) - 1))).toNat ({ atK26 y1.recs (atK1 y0.stack (wi (((y0.stack.length : Nat) : Int) - 1))) with left := (atK3 (atL [] y1.c.progs ((atK26 y1.recs (atK1 y0.stack (wi (((y0.stack.length : Nat) : Int) - 1)))).prog)) ((atK26 y1.recs (atK1 y0.stack (wi (((y0.stack.length : Nat) : Int) - 1)))).pc)).a } : RecP)) (atK1 y0.stack (wi (((y0.stack.length : Nat) : Int) - 1)))).left) - 1) } : RecP)) (atK1 y0.stack (wi (((y0.stack.length : Nat) : Int) - 1))) with pc := wi (((atK26 ((y1.recs.set (atK1 y0.stack (wi (((y0.stack.length : Nat) : Int) - 1))).toNat ({ atK26 y1.recs (atK1 y0.stack (wi (((y0.stack.length : Nat) : Int) - 1))) with left := (atK3 (atL [] y1.c.progs ((atK26 y1.recs (atK1 y0.stack (wi (((y0.stack.length : Nat) : Int) - 1)))).prog)) ((atK26 y1.recs (atK1 y0.stack (wi (((y0.stack.length : Nat) : Int) - 1)))).pc)).a } : RecP)).set (atK1 y0.stack (wi (((y0.stack.length : Nat) : Int) - 1))).toNat ({ atK26 (y1.recs.set (atK1 y0.stack (wi (((y0.stack.length : Nat) : Int) - 1))).toNat ({ atK26 y1.recs (atK1 y0.stack (wi (((y0.stack.length : Nat) : Int) - 1))) with left := (atK3 (atL [] y1.c.progs ((atK26 y1.recs (atK1 y0.stack (wi (((y0.stack.length : Nat) : Int) - 1)))).prog)) ((atK26 y1.recs (atK1 y0.stack (wi (((y0.stack.length : Nat) : Int) - 1)))).pc)).a } : RecP)) (atK1 y0.stack (wi (((y0.stack.length : Nat) : Int) - 1))) with left := wi (((atK26 (y1.recs.set (atK1 y0.stack (wi (((y0.stack.length : Nat) : Int) - 1))).toNat ({ atK26 y1.recs (atK1 y0.stack (wi (((y0.stack.length : Nat) : Int) - 1))) with left := (atK3 (atL [] y1.c.progs ((atK26 y1.recs (atK1 y0.stack (wi (((y0.stack.length : Nat) : Int) - 1)))).prog)) ((atK26 y1.recs (atK1 y0.stack (wi (((y0.stack.length : Nat) : Int) - 1)))).pc)).a } : RecP)) (atK1 y0.stack (wi (((y0.stack.length : Nat) : Int) - 1)))).left) - 1) } : RecP)) (atK1 y0.stack (wi (((y0.stack.length : Nat) : Int) - 1)))).pc) + 1) } : RecP) } : EnvP), ()))
   else
   (runnerRunTo y0 0 MV.nil).bind fun r5 =>
   some ((r5.1.1, ()), (r5.2.1, ({ y1 with recs := (y1.recs.set (atK1 y0.stack (wi (((y0.stack.length : Nat) : Int) - 1))).toNat ({ atK26 y1.recs (atK1 y0.stack (wi (((y0.stack.length : Nat) : Int) - 1))) with left := (atK3 (atL [] y1.c.progs ((atK26 y1.recs (atK1 y0.stack (wi (((y0.stack.length : Nat) : Int) - 1)))).prog)) ((atK26 y1.recs (atK1 y0.stack (wi (((y0.stack.length : Nat) : Int) - 1)))).pc)).a } : RecP)).set (atK1 y0.stack (wi (((y0.stack.length : Nat) : Int) - 1))).toNat ({ atK26 (y1.recs.set (atK1 y0.stack (wi (((y0.stack.length : Nat) : Int) - 1))).toNat ({ atK26 y1.recs (atK1 y0.stack (wi (((y0.stack.length : Nat) : Int) - 1))) with left := (atK3 (atL [] y1.c.progs ((atK26 y1.recs (atK1 y0.stack (wi (((y0.stack.length : Nat) : Int) - 1)))).prog)) ((atK26 y1.recs (atK1 y0.stack (wi (((y0.stack.length : Nat) : Int) - 1)))).pc)).a } : RecP)) (atK1 y0.stack (wi (((y0.stack.length : Nat) : Int) - 1))) with left := wi (((atK26 (y1.recs.set (atK1 y0.stack (wi (((y0.stack.length : Nat) : Int) - 1))).toNat ({ atK26 y1.recs (atK1 y0.stack (wi (((y0.stack.length : Nat) : Int) - 1))) with left := (atK3 (atL [] y1.c.progs ((atK26 y1.recs (atK1 y0.stack (wi (((y0.stack.length : Nat) : Int) - 1)))).prog)) ((atK26 y1.recs (atK1 y0.stack (wi (((y0.stack.length : Nat) : Int) - 1)))).pc)).a } : RecP)) (atK1 y0.stack (wi (((y0.stack.length : Nat) : Int) - 1)))).left) - 1) } : RecP) } : EnvP), ()))
   else none
   else none
   else none
   else none
   else none
   else none
   else
   if ((atK26 (y1.recs.set (atK1 y0.stack (wi (((y0.stack.length : Nat) : Int) - 1))).toNat ({ atK26 y1.recs (atK1 y0.stack (wi (((y0.stack.length : Nat) : Int) - 1))) with left := wi (((atK26 y1.recs (atK1 y0.stack (wi (((y0.stack.length : Nat) : Int) - 1)))).left) - 1) } : RecP)) (atK1 y0.stack (wi (((y0.stack.length : Nat) : Int) - 1)))).left) = 0 then
   (runnerRunTo y0 0 MV.nil).bind fun r6 =>
   some ((r6.1.1, ()), (r6.2.1, ({ y1 with recs := (y1.recs.set (atK1 y0.stack (wi (((y0.stack.length : Nat) : Int) - 1))).toNat ({ atK26 y1.recs (atK1 y0.stack (wi (((y0.stack.length : Nat) : Int) - 1))) with left := wi (((atK26 y1.recs (atK1 y0.stack (wi (((y0.stack.length : Nat) : Int) - 1)))).left) - 1) } : RecP)).set (atK1 y0.stack (wi (((y0.stack.length : Nat) : Int) - 1))).toNat ({ atK26 (y1.recs.set (atK1 y0.stack (wi (((y0.stack.length : Nat) : Int) - 1))).toNat ({ atK26 y1.recs (atK1 y0.stack (wi (((y0.stack.length : Nat) : Int) - 1))) with left := wi (((atK26 y1.recs (atK1 y0.stack (wi (((y0.stack.length : Nat) : Int) - 1)))).left) - 1) } : RecP)) (atK1 y0.stack (wi (((y0.stack.length : Nat) : Int) - 1))) with pc := wi (((atK26 (y1.recs.set (atK1 y0.stack (wi (((y0.stack.length : Nat) : Int) - 1))).toNat ({ atK26 y1.recs (atK1 y0.stack (wi (((y0.stack.length : Nat) : Int) - 1))) with left := wi (((atK26 y1.recs (atK1 y0.stack (wi (((y0.stack.length : Nat) : Int) - 1)))).left) - 1) } : RecP)) (atK1 y0.stack (wi (((y0.stack.length : Nat) : Int) - 1)))).pc) + 1) } : RecP) } : EnvP), ()))
   else
   (runnerRunTo y0 0 MV.nil).bind fun r7 =>
   some ((r7.1.1, ()), (r7.2.1, ({ y1 with recs := y1.recs.set (atK1 y0.stack (wi (((y0.stack.length : Nat) : Int) - 1))).toNat ({ atK26 y1.recs (atK1 y0.stack (wi (((y0.stack.length : Nat) : Int) - 1))) with left := wi (((atK26 y1.recs (atK1 y0.stack (wi (((y0.stack.length : Nat) : Int) - 1)))).left) - 1) } : RecP) } : EnvP), ()))
   else
   (runnerRunTo y0 0 MV.nil).bind fun r8 =>
   some ((r8.1.1, ()), (r8.2.1, ({ y1 with recs := y1.recs.set (atK1 y0.stack (wi (((y0.stack.length : Nat) : Int) - 1))).toNat ({ atK26 y1.recs (atK1 y0.stack (wi (((y0.stack.length : Nat) : Int) - 1))) with pc := wi (((atK26 y1.recs (atK1 y0.stack (wi (((y0.stack.length : Nat) : Int) - 1)))).pc) + 1) } : RecP) } : EnvP), ()))
  else none
 else none
noncomputable abbrev runnerRunSimple_k : Con SR1 := ⟨177, [.ref 33, .ref 27], [.sh .b], fun x => runnerRunSimple x.1 x.2.1⟩
noncomputable def runnerRunSimple_tb : List (Nat × Func) := [(181, Tryz.f181), (174, Tryz.f174), (185, Tryz.f185), (182, Tryz.f182)]
theorem runnerRunSimple_ok : CO Tryz.prog runnerRunSimple_k := co_fn mixed Tryz.func177 [pWaits_k, pStore_k, runnerRunTo_k] ⟨pWaits_ok, pStore_ok, runnerRunTo_ok, trivial⟩ runnerRunSimple_tb ⟨Tryz.func181, Tryz.func174, Tryz.func185, Tryz.func182, trivial⟩ (fun _ => []) [] fun x => by kernel_rfl
noncomputable def runnerRunEmit (y0 : (RunV MV)) (y1 : EnvP) (y2 : Ev) : Option ((Unit) × ((RunV MV) × EnvP × Unit)) :=
 (pEmit y1 ({ y2 with worker := y0.worker } : Ev)).bind fun r1 =>
 some ((()), (y0, r1.2.1, ()))
noncomputable abbrev runnerRunEmit_k : Con SR1 := ⟨188, [.ref 33, .ref 27, .val 2], [], fun x => runnerRunEmit x.1 x.2.1 x.2.2.1⟩
theorem runnerRunEmit_ok : CO Tryz.prog runnerRunEmit_k := co_fn mixed Tryz.func188 [pEmit_k] ⟨pEmit_ok, trivial⟩ [] trivial (fun _ => []) [] fun x => by kernel_rfl
noncomputable def tablePublish (y0 : Int) (y1 : Int) : Option ((MV × Unit) × (Unit)) :=
 some ((MV.publish (⟨⟨false, 0, 0⟩, y0, y1, 1⟩ : PublishV), ()), (()))
noncomputable abbrev tablePublish_k : Con SR1 := ⟨59, [.sh sI_, .sh sI_], [.sh .mach], fun x => tablePublish x.1 x.2.1⟩
theorem tablePublish_ok : CO Tryz.prog tablePublish_k := co_fn mixed Tryz.func59 [] trivial [] trivial (fun _ => []) [] fun x => by kernel_rfl
noncomputable def runnerRunAllocated (y0 : (RunV MV)) (y1 : EnvP) (y2 : Int) (y3 : Int) : Option ((Bool × Unit) × ((RunV MV) × EnvP × Unit)) :=
 if 0 ≤ wi (((y0.stack.length : Nat) : Int) - 1) ∧ wi (((y0.stack.length : Nat) : Int) - 1) < ((y0.stack.length : Nat) : Int) then
  if 0 ≤ atK1 y0.stack (wi (((y0.stack.length : Nat) : Int) - 1)) ∧ atK1 y0.stack (wi (((y0.stack.length : Nat) : Int) - 1)) < ((y1.recs.length : Nat) : Int) then
   if 0 ≤ wi (((y0.stack.length : Nat) : Int) - 1) ∧ wi (((y0.stack.length : Nat) : Int) - 1) < ((y0.stack.length : Nat) : Int) then
   if 0 ≤ atK1 y0.stack (wi (((y0.stack.length : Nat) : Int) - 1)) ∧ atK1 y0.stack (wi (((y0.stack.length : Nat) : Int) - 1)) < ((y1.recs.length : Nat) : Int) then
   if ((atK26 y1.recs (atK1 y0.stack (wi (((y0.stack.length : Nat) : Int) - 1)))).prog) < 0 then
   if 0 ≤ wi (((y0.stack.length : Nat) : Int) - 1) ∧ wi (((y0.stack.length : Nat) : Int) - 1) < ((y0.stack.length : Nat) : Int) then
   if 0 ≤ atK1 y0.stack (wi (((y0.stack.length : Nat) : Int) - 1)) ∧ atK1 y0.stack (wi (((y0.stack.length : Nat) : Int) - 1)) < ((y1.recs.length : Nat) : Int) then
   none
   else none
   else none
   else
   if ((y1.c.progs.length : Nat) : Int) ≤ ((atK26 y1.recs (atK1 y0.stack (wi (((y0.stack.length : Nat) : Int) - 1)))).prog) then
   if 0 ≤ wi (((y0.stack.length : Nat) : Int) - 1) ∧ wi (((y0.stack.length : Nat) : Int) - 1) < ((y0.stack.length : Nat) : Int) then
   if 0 ≤ atK1 y0.stack (wi (((y0.stack.length : Nat) : Int) - 1)) ∧ atK1 y0.stack (wi (((y0.stack.length : Nat) : Int) - 1)) < ((y1.recs.length : Nat) : Int) then
   none
   else none
   else none
   else
   if 0 ≤ (atK26 y1.recs (atK1 y0.stack (wi (((y0.stack.length : Nat) : Int) - 1)))).prog ∧ (atK26 y1.recs (atK1 y0.stack (wi (((y0.stack.length : Nat) : Int) - 1)))).prog < ((y1.c.progs.length : Nat) : Int) then
   if 0 ≤ wi (((y0.stack.length : Nat) : Int) - 1) ∧ wi (((y0.stack.length : Nat) : Int) - 1) < ((y0.stack.length : Nat) : Int) then
   if 0 ≤ atK1 y0.stack (wi (((y0.stack.length : Nat) : Int) - 1)) ∧ atK1 y0.stack (wi (((y0.stack.length : Nat) : Int) - 1)) < ((y1.recs.length : Nat) : Int) then
   if 0 ≤ (atK26 y1.recs (atK1 y0.stack (wi (((y0.stack.length : Nat) : Int) - 1)))).pc ∧ (atK26 y1.recs (atK1 y0.stack (wi (((y0.stack.length : Nat) : Int) - 1)))).pc < (((atL [] y1.c.progs ((atK26 y1.recs (atK1 y0.stack (wi (((y0.stack.length : Nat) : Int) - 1)))).prog)).length : Nat) : Int) then
   if y2 = 3 then
   if (((((atK26 (y1.recs.set (atK1 y0.stack (wi (((y0.stack.length : Nat) : Int) - 1))).toNat ({ atK26 y1.recs (atK1 y0.stack (wi (((y0.stack.length : Nat) : Int) - 1))) with pc := wi (((atK26 y1.recs (atK1 y0.stack (wi (((y0.stack.length : Nat) : Int) - 1)))).pc) + 1) } : RecP)) (atK1 y0.stack (wi (((y0.stack.length : Nat) : Int) - 1)))).kids).length + ([(-1)] : List Int).length : Nat)) : Int) < 1000000000000 then
   if 0 ≤ wi (((y0.stack.length : Nat) : Int) - 1) ∧ wi (((y0.stack.length : Nat) : Int) - 1) < ((y0.stack.length : Nat) : Int) then
   (runnerRunEmit y0 ({ y1 with recs := (y1.recs.set (atK1 y0.stack (wi (((y0.stack.length : Nat) : Int) - 1))).toNat ({ atK26 y1.recs (atK1 y0.stack (wi (((y0.stack.length : Nat) : Int) - 1))) with pc := wi (((atK26 y1.recs (atK1 y0.stack (wi (((y0.stack.length : Nat) : Int) - 1)))).pc) + 1) } : RecP)).set (atK1 y0.stack (wi (((y0.stack.length : Nat) : Int) - 1))).toNat ({ atK26 (y1.recs.set (atK1 y0.stack (wi (((y0.stack.length : Nat) : Int) - 1))).toNat ({ atK26 y1.recs (atK1 y0.stack (wi (((y0.stack.length : Nat) : Int) - 1))) with pc := wi (((atK26 y1.recs (atK1 y0.stack (wi (((y0.stack.length : Nat) : Int) - 1)))).pc) + 1) } : RecP)) (atK1 y0.stack (wi (((y0.stack.length : Nat) : Int) - 1))) with kids := ((atK26 (y1.recs.set (atK1 y0.stack (wi (((y0.stack.length : Nat) : Int) - 1))).toNat ({ atK26 y1.recs (atK1 y0.stack (wi (((y0.stack.length : Nat) : Int) - 1))) with pc := wi (((atK26 y1.recs (atK1 y0.stack (wi (((y0.stack.length : Nat) : Int) - 1)))).pc) + 1) } : RecP)) (atK1 y0.stack (wi (((y0.stack.length : Nat) : Int) - 1)))).kids) ++ ([(-1)]) } : RecP) } : EnvP) (⟨4, 0, atK1 y0.stack (wi (((y0.stack.length : Nat) : Int) - 1)), 0, 0⟩ : Ev)).bind fun r1 =>
   (runnerRunTo r1.2.1 0 MV.nil).bind fun r2 =>
   some ((r2.1.1, ()), (r2.2.1, r1.2.2.1, ()))
   else none
   else none
   else
   if (((((atK26 (y1.recs.set (atK1 y0.stack (wi (((y0.stack.length : Nat) : Int) - 1))).toNat ({ atK26 y1.recs (atK1 y0.stack (wi (((y0.stack.length : Nat) : Int) - 1))) with pc := wi (((atK26 y1.recs (atK1 y0.stack (wi (((y0.stack.length : Nat) : Int) - 1)))).pc) + 1) } : RecP)) (atK1 y0.stack (wi (((y0.stack.length : Nat) : Int) - 1)))).kids).length + ([y3] : List Int).length : Nat)) : Int) < 1000000000000 then
   if 0 ≤ wi (((y0.stack.length : Nat) : Int) - 1) ∧ wi (((y0.stack.length : Nat) : Int) - 1) < ((y0.stack.length : Nat) : Int) then
   if ((atK3 (atL [] y1.c.progs ((atK26 y1.recs (atK1 y0.stack (wi (((y0.stack.length : Nat) : Int) - 1)))).prog)) ((atK26 y1.recs (atK1 y0.stack (wi (((y0.stack.length : Nat) : Int) - 1)))).pc)).a) = ((atK3 (atL [] y1.c.progs ((atK26 y1.recs (atK1 y0.stack (wi (((y0.stack.length : Nat) : Int) - 1)))).prog)) ((atK26 y1.recs (atK1 y0.stack (wi (((y0.stack.length : Nat) : Int) - 1)))).pc)).a) then
   if 0 ≤ y3 ∧ y3 < ((((y1.recs.set (atK1 y0.stack (wi (((y0.stack.length : Nat) : Int) - 1))).toNat ({ atK26 y1.recs (atK1 y0.stack (wi (((y0.stack.length : Nat) : Int) - 1))) with pc := wi (((atK26 y1.recs (atK1 y0.stack (wi (((y0.stack.length : Nat) : Int) - 1)))).pc) + 1) } : RecP)).set (atK1 y0.stack (wi (((y0.stack.length : Nat) : Int) - 1))).toNat ({ atK26 (y1.recs.set (atK1 y0.stack (wi (((y0.stack.length : Nat) : Int) - 1))).toNat ({ atK26 y1.recs (atK1 y0.stack (wi (((y0.stack.length : Nat) : Int) - 1))) with pc := wi (((atK26 y1.recs (atK1 y0.stack (wi (((y0.stack.length : Nat) : Int) - 1)))).pc) + 1) } : RecP)) (atK1 y0.stack (wi (((y0.stack.length : Nat) : Int) - 1))) with kids := ((atK26 (y1.recs.set (atK1 y0.stack (wi (((y0.stack.length : Nat) : Int) - 1))).toNat ({ atK26 y1.recs (atK1 y0.stack (wi (((y0.stack.length : Nat) : Int) - 1))) with pc := wi (((atK26 y1.recs (atK1 y0.stack (wi (((y0.stack.length : Nat) : Int) - 1)))).pc) + 1) } : RecP)) (atK1 y0.stack (wi (((y0.stack.length : Nat) : Int) - 1)))).kids) ++ ([y3]) } : RecP)).length : Nat) : Int) then
   if ((atK3 (atL [] y1.c.progs ((atK26 y1.recs (atK1 y0.stack (wi (((y0.stack.length : Nat) : Int) - 1)))).prog)) ((atK26 y1.recs (atK1 y0.stack (wi (((y0.stack.length : Nat) : Int) - 1)))).pc)).b) = ((atK3 (atL [] y1.c.progs ((atK26 y1.recs (atK1 y0.stack (wi (((y0.stack.length : Nat) : Int) - 1)))).prog)) ((atK26 y1.recs (atK1 y0.stack (wi (((y0.stack.length : Nat) : Int) - 1)))).pc)).b) then
   (tablePublish y3 ((atK3 (atL [] y1.c.progs ((atK26 y1.recs (atK1 y0.stack (wi (((y0.stack.length : Nat) : Int) - 1)))).prog)) ((atK26 y1.recs (atK1 y0.stack (wi (((y0.stack.length : Nat) : Int) - 1)))).pc)).b)).bind fun r3 =>
   (runnerRunTo ({ y0 with id := y3, level := (atK3 (atL [] y1.c.progs ((atK26 y1.recs (atK1 y0.stack (wi (((y0.stack.length : Nat) : Int) - 1)))).prog)) ((atK26 y1.recs (atK1 y0.stack (wi (((y0.stack.length : Nat) : Int) - 1)))).pc)).b } : (RunV MV)) 5 r3.1.1).bind fun r4 =>
   some ((r4.1.1, ()), (r4.2.1, ({ y1 with recs := ((y1.recs.set (atK1 y0.stack (wi (((y0.stack.length : Nat) : Int) - 1))).toNat ({ atK26 y1.recs (atK1 y0.stack (wi (((y0.stack.length : Nat) : Int) - 1))) with pc := wi (((atK26 y1.recs (atK1 y0.stack (wi (((y0.stack.length : Nat) : Int) - 1)))).pc) + 1) } : RecP)).set (atK1 y0.stack (wi (((y0.stack.length : Nat) : Int) - 1))).toNat ({ atK26 (y1.recs.set (atK1 y0.stack (wi (((y0.stack.length : Nat) : Int) - 1))).toNat ({ atK26 y1.recs (atK1 y0.stack (wi (((y0.stack.length : Nat) : Int) - 1))) with pc := wi (((atK26 y1.recs (atK1 y0.stack (wi (((y0.stack.length : Nat) : Int) - 1)))).pc) + 1) } : RecP)) (atK1 y0.stack (wi (((y0.stack.length : Nat) : Int) - 1))) with kids := ((atK26 (y1.recs.set (atK1 y0.stack (wi (((y0.stack.length : Nat) : Int) - 1))).toNat ({ atK26 y1.recs (atK1 y0.stack (wi (((y0.stack.length : Nat) : Int) - 1))) with pc := wi (((atK26 y1.recs (atK1 y0.stack (wi (((y0.stack.length : Nat) : Int) - 1)))).pc) + 1) } : RecP)) (atK1 y0.stack (wi (((y0.stack.length : Nat) : Int) - 1)))).kids) ++ ([y3]) } : RecP)).set y3.toNat (⟨(atK3 (atL [] y1.c.progs ((atK26 y1.recs (atK1 y0.stack (wi (((y0.stack.length : Nat) : Int) - 1)))).prog)) ((atK26 y1.recs (atK1 y0.stack (wi (((y0.stack.length : Nat) : Int) - 1)))).pc)).a, atK1 y0.stack (wi (((y0.stack.length : Nat) : Int) - 1)), 0, 0, (-1), [], false⟩ : RecP) } : EnvP), ()))
   else none
   else none
   else none
   else none
   else none
   else none
   else none
   else none
   else none
   else none
   else none
  else none
 else none
noncomputable abbrev runnerRunAllocated_k : Con SR1 := ⟨187, [.ref 33, .ref 27, .sh sI_, .sh sI_], [.sh .b], fun x => runnerRunAllocated x.1 x.2.1 x.2.2.1 x.2.2.2.1⟩
noncomputable def runnerRunAllocated_tb : List (Nat × Func) := [(181, Tryz.f181), (174, Tryz.f174), (185, Tryz.f185), (182, Tryz.f182)]
theorem runnerRunAllocated_ok : CO Tryz.prog runnerRunAllocated_k := co_fn mixed Tryz.func187 [runnerRunEmit_k, runnerRunTo_k, tablePublish_k] ⟨runnerRunEmit_ok, runnerRunTo_ok, tablePublish_ok, trivial⟩ runnerRunAllocated_tb ⟨Tryz.func181, Tryz.func174, Tryz.func185, Tryz.func182, trivial⟩ (fun _ => []) [(8, .close)] fun x => by kernel_rfl
noncomputable def runnerRunSpawn (y0 : (RunV MV)) (y1 : EnvP) : Option ((Bool × Unit) × ((RunV MV) × EnvP × Unit)) :=
 (stepD2 y0.inside y1).bind fun r1 =>
 if (!r1.1.1) = true then
  some ((false, ()), (({ y0 with inside := r1.2.1 } : (RunV MV)), r1.2.2.1, ()))
 else
 (resultD2 r1.2.1).bind fun r2 =>
 if y0.line = 4 then
  (runnerRunAllocated ({ y0 with inside := r2.2.1 } : (RunV MV)) r1.2.2.1 r2.1.1 r2.1.2.1).bind fun r3 =>
  some ((r3.1.1, ()), (r3.2.1, r3.2.2.1, ()))
 else
 if y0.line = 5 then
  if 0 ≤ wi (((y0.stack.length : Nat) : Int) - 1) ∧ wi (((y0.stack.length : Nat) : Int) - 1) < ((y0.stack.length : Nat) : Int) then
   if y0.level = y0.level then
   if y0.id = y0.id then
   (runnerRunEmit ({ y0 with inside := r2.2.1 } : (RunV MV)) r1.2.2.1 (⟨3, 0, y0.id, atK1 y0.stack (wi (((y0.stack.length : Nat) : Int) - 1)), y0.level⟩ : Ev)).bind fun r4 =>
   (levelsPush r4.2.1.worker r4.2.1.level r4.2.1.id).bind fun r5 =>
   (runnerRunTo r4.2.1 6 r5.1.1).bind fun r6 =>
   some ((r6.1.1, ()), (r6.2.1, r4.2.2.1, ()))
   else none
   else none
  else none
 else
 if y0.line = 6 then
  if r2.1.1 = 3 then
   (tableClaim y0.worker y0.id).bind fun r7 =>
   (runnerRunTo ({ y0 with inside := r2.2.1 } : (RunV MV)) 8 r7.1.1).bind fun r8 =>
   some ((r8.1.1, ()), (r8.2.1, r1.2.2.1, ()))
  else
  (parkWake y0.worker y0.level).bind fun r9 =>
  (runnerRunTo ({ y0 with inside := r2.2.1 } : (RunV MV)) 7 r9.1.1).bind fun r10 =>
  some ((r10.1.1, ()), (r10.2.1, r1.2.2.1, ()))
 else
 if y0.line = 8 then
  if r2.1.1 = 1 then
   if (((y0.stack.length + ([y0.id] : List Int).length : Nat)) : Int) < 1000000000000 then
   (runnerRunTo ({ y0 with stack := y0.stack ++ ([y0.id]), inside := r2.2.1 } : (RunV MV)) 0 MV.nil).bind fun r11 =>
   some ((r11.1.1, ()), (r11.2.1, r1.2.2.1, ()))
   else none
  else
  (runnerRunTo ({ y0 with inside := r2.2.1 } : (RunV MV)) 0 MV.nil).bind fun r12 =>
  some ((r12.1.1, ()), (r12.2.1, r1.2.2.1, ()))
 else
 (runnerRunTo ({ y0 with inside := r2.2.1 } : (RunV MV)) 0 MV.nil).bind fun r13 =>
 some ((r13.1.1, ()), (r13.2.1, r1.2.2.1, ()))
noncomputable abbrev runnerRunSpawn_k : Con SR1 := ⟨178, [.ref 33, .ref 27], [.sh .b], fun x => runnerRunSpawn x.1 x.2.1⟩
noncomputable def runnerRunSpawn_tb : List (Nat × Func) := [(174, Tryz.f174)]
theorem runnerRunSpawn_ok : CO Tryz.prog runnerRunSpawn_k := co_fn mixed Tryz.func178 [stepD2_k, resultD2_k, runnerRunAllocated_k, runnerRunEmit_k, levelsPush_k, runnerRunTo_k, tableClaim_k, parkWake_k] ⟨stepD2_ok, resultD2_ok, runnerRunAllocated_ok, runnerRunEmit_ok, levelsPush_ok, runnerRunTo_ok, tableClaim_ok, parkWake_ok, trivial⟩ runnerRunSpawn_tb ⟨Tryz.func174, trivial⟩ (fun _ => []) [] fun x => by kernel_rfl
noncomputable def boostWalk (y0 : Int) (y1 : Int) (y2 : Int) : Option ((MV × Unit) × (Unit)) :=
 some ((MV.walk (⟨⟨false, 0, 0⟩, y0, y1, y2, 1, MV.nil⟩ : (WalkV MV)), ()), (()))
noncomputable abbrev boostWalk_k : Con SR1 := ⟨195, [.sh sI_, .sh sI_, .sh sI_], [.sh .mach], fun x => boostWalk x.1 x.2.1 x.2.2.1⟩
theorem boostWalk_ok : CO Tryz.prog boostWalk_k := co_fn mixed Tryz.func195 [] trivial [] trivial (fun _ => []) [] fun x => by kernel_rfl
noncomputable def runnerRunLeave (y0 : (RunV MV)) : Option ((Bool × Unit) × ((RunV MV) × Unit)) :=
 if 0 ≤ wi (((y0.stack.length : Nat) : Int) - 1) ∧ wi (((y0.stack.length : Nat) : Int) - 1) ≤ ((y0.stack.length : Nat) : Int) then
  if (((y0.stack.take (wi (((y0.stack.length : Nat) : Int) - 1) : Int).toNat).length : Nat) : Int) = 0 then
   (pEnd y0.o 0 0).bind fun r1 =>
   some ((r1.1.1, ()), (({ y0 with o := r1.2.1, stack := y0.stack.take (wi (((y0.stack.length : Nat) : Int) - 1) : Int).toNat } : (RunV MV)), ()))
  else
  (runnerRunTo ({ y0 with stack := y0.stack.take (wi (((y0.stack.length : Nat) : Int) - 1) : Int).toNat } : (RunV MV)) 0 MV.nil).bind fun r2 =>
  some ((r2.1.1, ()), (r2.2.1, ()))
 else none
noncomputable abbrev runnerRunLeave_k : Con SR1 := ⟨196, [.ref 33], [.sh .b], fun x => runnerRunLeave x.1⟩
theorem runnerRunLeave_ok : CO Tryz.prog runnerRunLeave_k := co_fn mixed Tryz.func196 [pEnd_k, runnerRunTo_k] ⟨pEnd_ok, runnerRunTo_ok, trivial⟩ [] trivial (fun _ => []) [] fun x => by kernel_rfl
noncomputable def runnerRunJoin_a (y0 : (RunV MV)) (y1 : EnvP) : Option ((Bool × Unit) × ((RunV MV) × EnvP × Unit)) :=
 agr (
  if 0 ≤ wi (((y0.stack.length : Nat) : Int) - 1) ∧ wi (((y0.stack.length : Nat) : Int) - 1) < ((y0.stack.length : Nat) : Int) then
   if y1.l.workers = y1.l.workers then
   if y1.l.levels = y1.l.levels then
   if y1.l.classes = y1.l.classes then
   if y1.l.tasks = y1.l.tasks then
   if y1.l.deque = y1.l.deque then
   if y1.l.heap = y1.l.heap then
   if y1.l.sleepers = y1.l.sleepers then
   if y1.l.epochs = y1.l.epochs then
   if y1.l.bitmaps = y1.l.bitmaps then
   if y1.l.queues = y1.l.queues then
   if y1.l.table = y1.l.table then
   if y1.l.workers = y1.l.workers then
   if y1.l.levels = y1.l.levels then
   if y1.l.classes = y1.l.classes then
   if y1.l.tasks = y1.l.tasks then
   if y1.l.deque = y1.l.deque then
   if y1.l.heap = y1.l.heap then
   if y1.l.sleepers = y1.l.sleepers then
   if y1.l.epochs = y1.l.epochs then
   if y1.l.bitmaps = y1.l.bitmaps then
   if y1.l.queues = y1.l.queues then
   if y1.l.table = y1.l.table then
   if y0.line = 9 then
   if 0 ≤ wi (((y0.stack.length : Nat) : Int) - 1) ∧ wi (((y0.stack.length : Nat) : Int) - 1) < ((y0.stack.length : Nat) : Int) then
   if 0 ≤ atK1 y0.stack (wi (((y0.stack.length : Nat) : Int) - 1)) ∧ atK1 y0.stack (wi (((y0.stack.length : Nat) : Int) - 1)) < ((y1.recs.length : Nat) : Int) then
   if 0 ≤ wi (((y0.stack.length : Nat) : Int) - 1) ∧ wi (((y0.stack.length : Nat) : Int) - 1) < ((y0.stack.length : Nat) : Int) then
   if 0 ≤ atK1 y0.stack (wi (((y0.stack.length : Nat) : Int) - 1)) ∧ atK1 y0.stack (wi (((y0.stack.length : Nat) : Int) - 1)) < ((y1.recs.length : Nat) : Int) then
   if (atK1 y0.stack (wi (((y0.stack.length : Nat) : Int) - 1))) = (atK1 y0.stack (wi (((y0.stack.length : Nat) : Int) - 1))) then
   if ((atK26 y1.recs (atK1 y0.stack (wi (((y0.stack.length : Nat) : Int) - 1)))).prog) < 0 then
   if 0 ≤ wi (((y0.stack.length : Nat) : Int) - 1) ∧ wi (((y0.stack.length : Nat) : Int) - 1) < ((y0.stack.length : Nat) : Int) then
   if 0 ≤ atK1 y0.stack (wi (((y0.stack.length : Nat) : Int) - 1)) ∧ atK1 y0.stack (wi (((y0.stack.length : Nat) : Int) - 1)) < ((y1.recs.length : Nat) : Int) then
   if (atK1 y0.stack (wi (((y0.stack.length : Nat) : Int) - 1))) = (atK1 y0.stack (wi (((y0.stack.length : Nat) : Int) - 1))) then
   none
   else none
   else none
   else none
   else
   if ((y1.c.progs.length : Nat) : Int) ≤ ((atK26 y1.recs (atK1 y0.stack (wi (((y0.stack.length : Nat) : Int) - 1)))).prog) then
   if 0 ≤ wi (((y0.stack.length : Nat) : Int) - 1) ∧ wi (((y0.stack.length : Nat) : Int) - 1) < ((y0.stack.length : Nat) : Int) then
   if 0 ≤ atK1 y0.stack (wi (((y0.stack.length : Nat) : Int) - 1)) ∧ atK1 y0.stack (wi (((y0.stack.length : Nat) : Int) - 1)) < ((y1.recs.length : Nat) : Int) then
   if (atK1 y0.stack (wi (((y0.stack.length : Nat) : Int) - 1))) = (atK1 y0.stack (wi (((y0.stack.length : Nat) : Int) - 1))) then
   none
   else none
   else none
   else none
   else
   if 0 ≤ (atK26 y1.recs (atK1 y0.stack (wi (((y0.stack.length : Nat) : Int) - 1)))).prog ∧ (atK26 y1.recs (atK1 y0.stack (wi (((y0.stack.length : Nat) : Int) - 1)))).prog < ((y1.c.progs.length : Nat) : Int) then
   if 0 ≤ wi (((y0.stack.length : Nat) : Int) - 1) ∧ wi (((y0.stack.length : Nat) : Int) - 1) < ((y0.stack.length : Nat) : Int) then
   if 0 ≤ atK1 y0.stack (wi (((y0.stack.length : Nat) : Int) - 1)) ∧ atK1 y0.stack (wi (((y0.stack.length : Nat) : Int) - 1)) < ((y1.recs.length : Nat) : Int) then
   if (atK1 y0.stack (wi (((y0.stack.length : Nat) : Int) - 1))) = (atK1 y0.stack (wi (((y0.stack.length : Nat) : Int) - 1))) then
   if 0 ≤ (atK26 y1.recs (atK1 y0.stack (wi (((y0.stack.length : Nat) : Int) - 1)))).pc ∧ (atK26 y1.recs (atK1 y0.stack (wi (((y0.stack.length : Nat) : Int) - 1)))).pc < (((atL [] y1.c.progs ((atK26 y1.recs (atK1 y0.stack (wi (((y0.stack.length : Nat) : Int) - 1)))).prog)).length : Nat) : Int) then
   if 0 ≤ (atK3 (atL [] y1.c.progs ((atK26 y1.recs (atK1 y0.stack (wi (((y0.stack.length : Nat) : Int) - 1)))).prog)) ((atK26 y1.recs (atK1 y0.stack (wi (((y0.stack.length : Nat) : Int) - 1)))).pc)).a ∧ (atK3 (atL [] y1.c.progs ((atK26 y1.recs (atK1 y0.stack (wi (((y0.stack.length : Nat) : Int) - 1)))).prog)) ((atK26 y1.recs (atK1 y0.stack (wi (((y0.stack.length : Nat) : Int) - 1)))).pc)).a < ((((atK26 y1.recs (atK1 y0.stack (wi (((y0.stack.length : Nat) : Int) - 1)))).kids).length : Nat) : Int) then
   (pWaits y1.l (atK1 y0.stack (wi (((y0.stack.length : Nat) : Int) - 1)))).bind fun r26 =>
   if (atK1 ((atK26 y1.recs (atK1 y0.stack (wi (((y0.stack.length : Nat) : Int) - 1)))).kids) ((atK3 (atL [] y1.c.progs ((atK26 y1.recs (atK1 y0.stack (wi (((y0.stack.length : Nat) : Int) - 1)))).prog)) ((atK26 y1.recs (atK1 y0.stack (wi (((y0.stack.length : Nat) : Int) - 1)))).pc)).a)) = (atK1 ((atK26 y1.recs (atK1 y0.stack (wi (((y0.stack.length : Nat) : Int) - 1)))).kids) ((atK3 (atL [] y1.c.progs ((atK26 y1.recs (atK1 y0.stack (wi (((y0.stack.length : Nat) : Int) - 1)))).prog)) ((atK26 y1.recs (atK1 y0.stack (wi (((y0.stack.length : Nat) : Int) - 1)))).pc)).a)) then
   (pStore y1.m r26.1.1 (wu (wi ((atK1 ((atK26 y1.recs (atK1 y0.stack (wi (((y0.stack.length : Nat) : Int) - 1)))).kids) ((atK3 (atL [] y1.c.progs ((atK26 y1.recs (atK1 y0.stack (wi (((y0.stack.length : Nat) : Int) - 1)))).prog)) ((atK26 y1.recs (atK1 y0.stack (wi (((y0.stack.length : Nat) : Int) - 1)))).pc)).a)) + 1)))).bind fun r27 =>
   (runnerRunTo ({ y0 with child := atK1 ((atK26 y1.recs (atK1 y0.stack (wi (((y0.stack.length : Nat) : Int) - 1)))).kids) ((atK3 (atL [] y1.c.progs ((atK26 y1.recs (atK1 y0.stack (wi (((y0.stack.length : Nat) : Int) - 1)))).prog)) ((atK26 y1.recs (atK1 y0.stack (wi (((y0.stack.length : Nat) : Int) - 1)))).pc)).a) } : (RunV MV)) (wi (y0.line + 1)) MV.nil).bind fun r28 =>
   some ((r28.1.1, ()), (r28.2.1, ({ y1 with m := r27.2.1, recs := ((y1.recs.set (atK1 y0.stack (wi (((y0.stack.length : Nat) : Int) - 1))).toNat (atK26 y1.recs (atK1 y0.stack (wi (((y0.stack.length : Nat) : Int) - 1))))).set (atK1 y0.stack (wi (((y0.stack.length : Nat) : Int) - 1))).toNat ({ atK26 (y1.recs.set (atK1 y0.stack (wi (((y0.stack.length : Nat) : Int) - 1))).toNat (atK26 y1.recs (atK1 y0.stack (wi (((y0.stack.length : Nat) : Int) - 1))))) (atK1 y0.stack (wi (((y0.stack.length : Nat) : Int) - 1))) with pc := wi (((atK26 (y1.recs.set (atK1 y0.stack (wi (((y0.stack.length : Nat) : Int) - 1))).toNat (atK26 y1.recs (atK1 y0.stack (wi (((y0.stack.length : Nat) : Int) - 1))))) (atK1 y0.stack (wi (((y0.stack.length : Nat) : Int) - 1)))).pc) + 1) } : RecP)).set (atK1 y0.stack (wi (((y0.stack.length : Nat) : Int) - 1))).toNat ({ atK26 ((y1.recs.set (atK1 y0.stack (wi (((y0.stack.length : Nat) : Int) - 1))).toNat (atK26 y1.recs (atK1 y0.stack (wi (((y0.stack.length : Nat) : Int) - 1))))).set (atK1 y0.stack (wi (((y0.stack.length : Nat) : Int) - 1))).toNat ({ atK26 (y1.recs.set (atK1 y0.stack (wi (((y0.stack.length : Nat) : Int) - 1))).toNat (atK26 y1.recs (atK1 y0.stack (wi (((y0.stack.length : Nat) : Int) - 1))))) (atK1 y0.stack (wi (((y0.stack.length : Nat) : Int) - 1))) with pc := wi (((atK26 (y1.recs.set (atK1 y0.stack (wi (((y0.stack.length : Nat) : Int) - 1))).toNat (atK26 y1.recs (atK1 y0.stack (wi (((y0.stack.length : Nat) : Int) - 1))))) (atK1 y0.stack (wi (((y0.stack.length : Nat) : Int) - 1)))).pc) + 1) } : RecP)) (atK1 y0.stack (wi (((y0.stack.length : Nat) : Int) - 1))) with waiting := atK1 ((atK26 y1.recs (atK1 y0.stack (wi (((y0.stack.length : Nat) : Int) - 1)))).kids) ((atK3 (atL [] y1.c.progs ((atK26 y1.recs (atK1 y0.stack (wi (((y0.stack.length : Nat) : Int) - 1)))).prog)) ((atK26 y1.recs (atK1 y0.stack (wi (((y0.stack.length : Nat) : Int) - 1)))).pc)).a) } : RecP) } : EnvP), ()))
   else none
   else none
   else none
   else none
   else none
   else none
   else none
   else none
   else none
   else none
   else none
   else none
   else
   if y0.line = 10 then
   (pState y1.l (atK1 y0.stack (wi (((y0.stack.length : Nat) : Int) - 1)))).bind fun r29 =>
   (pStore y1.m r29.1.1 3).bind fun r30 =>
   (runnerRunTo y0 (wi (y0.line + 1)) MV.nil).bind fun r31 =>
   some ((r31.1.1, ()), (r31.2.1, ({ y1 with m := r30.2.1 } : EnvP), ()))
   else
   if y0.line = 11 then
   (pJoin y1.l y0.child).bind fun r32 =>
   (pCAS y1.m r32.1.1 0 (wu (wi ((atK1 y0.stack (wi (((y0.stack.length : Nat) : Int) - 1))) + 1)))).bind fun r33 =>
   if (!r33.1.1) = true then
   (runnerRunTo y0 14 MV.nil).bind fun r34 =>
   some ((r34.1.1, ()), (r34.2.1, ({ y1 with m := r33.2.1 } : EnvP), ()))
   else
   (runnerRunEmit y0 ({ y1 with m := r33.2.1 } : EnvP) (⟨6, 0, atK1 y0.stack (wi (((y0.stack.length : Nat) : Int) - 1)), y0.child, 0⟩ : Ev)).bind fun r35 =>
   (runnerRunTo r35.2.1 (wi (r35.2.1.line + 1)) MV.nil).bind fun r36 =>
   some ((r36.1.1, ()), (r36.2.1, r35.2.2.1, ()))
   else
   if y0.line = 12 then
   (pLevel y1.l (atK1 y0.stack (wi (((y0.stack.length : Nat) : Int) - 1)))).bind fun r37 =>
   (pLoad y1.m r37.1.1).bind fun r38 =>
   (boostWalk y0.worker y0.child (wi (r38.1.1))).bind fun r39 =>
   (runnerRunTo ({ y0 with level := wi (r38.1.1) } : (RunV MV)) 13 r39.1.1).bind fun r40 =>
   some ((r40.1.1, ()), (r40.2.1, ({ y1 with m := r38.2.1 } : EnvP), ()))
   else
   if y0.line = 13 then
   (stepD2 y0.inside y1).bind fun r41 =>
   if (!r41.1.1) = true then
   some ((false, ()), (({ y0 with inside := r41.2.1 } : (RunV MV)), r41.2.2.1, ()))
   else
   (runnerRunEmit ({ y0 with inside := r41.2.1 } : (RunV MV)) r41.2.2.1 (⟨7, 0, atK1 y0.stack (wi (((y0.stack.length : Nat) : Int) - 1)), 0, y0.level⟩ : Ev)).bind fun r42 =>
   (runnerRunLeave r42.2.1).bind fun r43 =>
   some ((r43.1.1, ()), (r43.2.1, r42.2.2.1, ()))
   else
   if y0.line = 14 then
   (pState y1.l (atK1 y0.stack (wi (((y0.stack.length : Nat) : Int) - 1)))).bind fun r44 =>
   (pStore y1.m r44.1.1 2).bind fun r45 =>
   (runnerRunTo y0 (wi (y0.line + 1)) MV.nil).bind fun r46 =>
   some ((r46.1.1, ()), (r46.2.1, ({ y1 with m := r45.2.1 } : EnvP), ()))
   else
   (pWaits y1.l (atK1 y0.stack (wi (((y0.stack.length : Nat) : Int) - 1)))).bind fun r47 =>
   (pStore y1.m r47.1.1 0).bind fun r48 =>
   if 0 ≤ wi (((y0.stack.length : Nat) : Int) - 1) ∧ wi (((y0.stack.length : Nat) : Int) - 1) < ((y0.stack.length : Nat) : Int) then
   if 0 ≤ atK1 y0.stack (wi (((y0.stack.length : Nat) : Int) - 1)) ∧ atK1 y0.stack (wi (((y0.stack.length : Nat) : Int) - 1)) < ((y1.recs.length : Nat) : Int) then
   (runnerRunEmit y0 ({ y1 with m := r48.2.1, recs := y1.recs.set (atK1 y0.stack (wi (((y0.stack.length : Nat) : Int) - 1))).toNat ({ atK26 y1.recs (atK1 y0.stack (wi (((y0.stack.length : Nat) : Int) - 1))) with waiting := (-1) } : RecP) } : EnvP) (⟨8, 0, atK1 y0.stack (wi (((y0.stack.length : Nat) : Int) - 1)), y0.child, 0⟩ : Ev)).bind fun r49 =>
   (runnerRunTo r49.2.1 0 MV.nil).bind fun r50 =>
   some ((r50.1.1, ()), (r50.2.1, r49.2.2.1, ()))
   else none
   else none
   else none
   else none
   else none
   else none
   else none
   else none
   else none
   else none
   else none
   else none
   else none
   else none
   else none
   else none
   else none
   else none
   else none
   else none
   else none
   else none
   else none
   else none
  else none
 ) (
  if y1.l.workers = y1.l.workers then
   if y1.l.levels = y1.l.levels then
   if y1.l.classes = y1.l.classes then
   if y1.l.tasks = y1.l.tasks then
   if y1.l.deque = y1.l.deque then
   if y1.l.heap = y1.l.heap then
   if y1.l.sleepers = y1.l.sleepers then
   if y1.l.epochs = y1.l.epochs then
   if y1.l.bitmaps = y1.l.bitmaps then
   if y1.l.queues = y1.l.queues then
   if y1.l.table = y1.l.table then
   if 0 ≤ wi (((y0.stack.length : Nat) : Int) - 1) ∧ wi (((y0.stack.length : Nat) : Int) - 1) < ((y0.stack.length : Nat) : Int) then
   if y1.l.workers = y1.l.workers then
   if y1.l.levels = y1.l.levels then
   if y1.l.classes = y1.l.classes then
   if y1.l.tasks = y1.l.tasks then
   if y1.l.deque = y1.l.deque then
   if y1.l.heap = y1.l.heap then
   if y1.l.sleepers = y1.l.sleepers then
   if y1.l.epochs = y1.l.epochs then
   if y1.l.bitmaps = y1.l.bitmaps then
   if y1.l.queues = y1.l.queues then
   if y1.l.table = y1.l.table then
   if y0.line = 9 then
   if 0 ≤ wi (((y0.stack.length : Nat) : Int) - 1) ∧ wi (((y0.stack.length : Nat) : Int) - 1) < ((y0.stack.length : Nat) : Int) then
   if 0 ≤ atK1 y0.stack (wi (((y0.stack.length : Nat) : Int) - 1)) ∧ atK1 y0.stack (wi (((y0.stack.length : Nat) : Int) - 1)) < ((y1.recs.length : Nat) : Int) then
   if 0 ≤ wi (((y0.stack.length : Nat) : Int) - 1) ∧ wi (((y0.stack.length : Nat) : Int) - 1) < ((y0.stack.length : Nat) : Int) then
   if 0 ≤ atK1 y0.stack (wi (((y0.stack.length : Nat) : Int) - 1)) ∧ atK1 y0.stack (wi (((y0.stack.length : Nat) : Int) - 1)) < ((y1.recs.length : Nat) : Int) then
   if (atK1 y0.stack (wi (((y0.stack.length : Nat) : Int) - 1))) = (atK1 y0.stack (wi (((y0.stack.length : Nat) : Int) - 1))) then
   if ((atK26 y1.recs (atK1 y0.stack (wi (((y0.stack.length : Nat) : Int) - 1)))).prog) < 0 then
   if 0 ≤ wi (((y0.stack.length : Nat) : Int) - 1) ∧ wi (((y0.stack.length : Nat) : Int) - 1) < ((y0.stack.length : Nat) : Int) then
   if 0 ≤ atK1 y0.stack (wi (((y0.stack.length : Nat) : Int) - 1)) ∧ atK1 y0.stack (wi (((y0.stack.length : Nat) : Int) - 1)) < ((y1.recs.length : Nat) : Int) then
   if (atK1 y0.stack (wi (((y0.stack.length : Nat) : Int) - 1))) = (atK1 y0.stack (wi (((y0.stack.length : Nat) : Int) - 1))) then
   none
   else none
   else none
   else none
   else
   if ((y1.c.progs.length : Nat) : Int) ≤ ((atK26 y1.recs (atK1 y0.stack (wi (((y0.stack.length : Nat) : Int) - 1)))).prog) then
   if 0 ≤ wi (((y0.stack.length : Nat) : Int) - 1) ∧ wi (((y0.stack.length : Nat) : Int) - 1) < ((y0.stack.length : Nat) : Int) then
   if 0 ≤ atK1 y0.stack (wi (((y0.stack.length : Nat) : Int) - 1)) ∧ atK1 y0.stack (wi (((y0.stack.length : Nat) : Int) - 1)) < ((y1.recs.length : Nat) : Int) then
   if (atK1 y0.stack (wi (((y0.stack.length : Nat) : Int) - 1))) = (atK1 y0.stack (wi (((y0.stack.length : Nat) : Int) - 1))) then
   none
   else none
   else none
   else none
   else
   if 0 ≤ (atK26 y1.recs (atK1 y0.stack (wi (((y0.stack.length : Nat) : Int) - 1)))).prog ∧ (atK26 y1.recs (atK1 y0.stack (wi (((y0.stack.length : Nat) : Int) - 1)))).prog < ((y1.c.progs.length : Nat) : Int) then
   if 0 ≤ wi (((y0.stack.length : Nat) : Int) - 1) ∧ wi (((y0.stack.length : Nat) : Int) - 1) < ((y0.stack.length : Nat) : Int) then
   if 0 ≤ atK1 y0.stack (wi (((y0.stack.length : Nat) : Int) - 1)) ∧ atK1 y0.stack (wi (((y0.stack.length : Nat) : Int) - 1)) < ((y1.recs.length : Nat) : Int) then
   if (atK1 y0.stack (wi (((y0.stack.length : Nat) : Int) - 1))) = (atK1 y0.stack (wi (((y0.stack.length : Nat) : Int) - 1))) then
   if 0 ≤ (atK26 y1.recs (atK1 y0.stack (wi (((y0.stack.length : Nat) : Int) - 1)))).pc ∧ (atK26 y1.recs (atK1 y0.stack (wi (((y0.stack.length : Nat) : Int) - 1)))).pc < (((atL [] y1.c.progs ((atK26 y1.recs (atK1 y0.stack (wi (((y0.stack.length : Nat) : Int) - 1)))).prog)).length : Nat) : Int) then
   if 0 ≤ (atK3 (atL [] y1.c.progs ((atK26 y1.recs (atK1 y0.stack (wi (((y0.stack.length : Nat) : Int) - 1)))).prog)) ((atK26 y1.recs (atK1 y0.stack (wi (((y0.stack.length : Nat) : Int) - 1)))).pc)).a ∧ (atK3 (atL [] y1.c.progs ((atK26 y1.recs (atK1 y0.stack (wi (((y0.stack.length : Nat) : Int) - 1)))).prog)) ((atK26 y1.recs (atK1 y0.stack (wi (((y0.stack.length : Nat) : Int) - 1)))).pc)).a < ((((atK26 y1.recs (atK1 y0.stack (wi (((y0.stack.length : Nat) : Int) - 1)))).kids).length : Nat) : Int) then
   (pWaits y1.l (atK1 y0.stack (wi (((y0.stack.length : Nat) : Int) - 1)))).bind fun r1 =>
   if (atK1 ((atK26 y1.recs (atK1 y0.stack (wi (((y0.stack.length : Nat) : Int) - 1)))).kids) ((atK3 (atL [] y1.c.progs ((atK26 y1.recs (atK1 y0.stack (wi (((y0.stack.length : Nat) : Int) - 1)))).prog)) ((atK26 y1.recs (atK1 y0.stack (wi (((y0.stack.length : Nat) : Int) - 1)))).pc)).a)) = (atK1 ((atK26 y1.recs (atK1 y0.stack (wi (((y0.stack.length : Nat) : Int) - 1)))).kids) ((atK3 (atL [] y1.c.progs ((atK26 y1.recs (atK1 y0.stack (wi (((y0.stack.length : Nat) : Int) - 1)))).prog)) ((atK26 y1.recs (atK1 y0.stack (wi (((y0.stack.length : Nat) : Int) - 1)))).pc)).a)) then
   (pStore y1.m r1.1.1 (wu (wi ((atK1 ((atK26 y1.recs (atK1 y0.stack (wi (((y0.stack.length : Nat) : Int) - 1)))).kids) ((atK3 (atL [] y1.c.progs ((atK26 y1.recs (atK1 y0.stack (wi (((y0.stack.length : Nat) : Int) - 1)))).prog)) ((atK26 y1.recs (atK1 y0.stack (wi (((y0.stack.length : Nat) : Int) - 1)))).pc)).a)) + 1)))).bind fun r2 =>
   (runnerRunTo ({ y0 with child := atK1 ((atK26 y1.recs (atK1 y0.stack (wi (((y0.stack.length : Nat) : Int) - 1)))).kids) ((atK3 (atL [] y1.c.progs ((atK26 y1.recs (atK1 y0.stack (wi (((y0.stack.length : Nat) : Int) - 1)))).prog)) ((atK26 y1.recs (atK1 y0.stack (wi (((y0.stack.length : Nat) : Int) - 1)))).pc)).a) } : (RunV MV)) (wi (y0.line + 1)) MV.nil).bind fun r3 =>
   some ((r3.1.1, ()), (r3.2.1, ({ y1 with m := r2.2.1, recs := ((y1.recs.set (atK1 y0.stack (wi (((y0.stack.length : Nat) : Int) - 1))).toNat (atK26 y1.recs (atK1 y0.stack (wi (((y0.stack.length : Nat) : Int) - 1))))).set (atK1 y0.stack (wi (((y0.stack.length : Nat) : Int) - 1))).toNat ({ atK26 (y1.recs.set (atK1 y0.stack (wi (((y0.stack.length : Nat) : Int) - 1))).toNat (atK26 y1.recs (atK1 y0.stack (wi (((y0.stack.length : Nat) : Int) - 1))))) (atK1 y0.stack (wi (((y0.stack.length : Nat) : Int) - 1))) with pc := wi (((atK26 (y1.recs.set (atK1 y0.stack (wi (((y0.stack.length : Nat) : Int) - 1))).toNat (atK26 y1.recs (atK1 y0.stack (wi (((y0.stack.length : Nat) : Int) - 1))))) (atK1 y0.stack (wi (((y0.stack.length : Nat) : Int) - 1)))).pc) + 1) } : RecP)).set (atK1 y0.stack (wi (((y0.stack.length : Nat) : Int) - 1))).toNat ({ atK26 ((y1.recs.set (atK1 y0.stack (wi (((y0.stack.length : Nat) : Int) - 1))).toNat (atK26 y1.recs (atK1 y0.stack (wi (((y0.stack.length : Nat) : Int) - 1))))).set (atK1 y0.stack (wi (((y0.stack.length : Nat) : Int) - 1))).toNat ({ atK26 (y1.recs.set (atK1 y0.stack (wi (((y0.stack.length : Nat) : Int) - 1))).toNat (atK26 y1.recs (atK1 y0.stack (wi (((y0.stack.length : Nat) : Int) - 1))))) (atK1 y0.stack (wi (((y0.stack.length : Nat) : Int) - 1))) with pc := wi (((atK26 (y1.recs.set (atK1 y0.stack (wi (((y0.stack.length : Nat) : Int) - 1))).toNat (atK26 y1.recs (atK1 y0.stack (wi (((y0.stack.length : Nat) : Int) - 1))))) (atK1 y0.stack (wi (((y0.stack.length : Nat) : Int) - 1)))).pc) + 1) } : RecP)) (atK1 y0.stack (wi (((y0.stack.length : Nat) : Int) - 1))) with waiting := atK1 ((atK26 y1.recs (atK1 y0.stack (wi (((y0.stack.length : Nat) : Int) - 1)))).kids) ((atK3 (atL [] y1.c.progs ((atK26 y1.recs (atK1 y0.stack (wi (((y0.stack.length : Nat) : Int) - 1)))).prog)) ((atK26 y1.recs (atK1 y0.stack (wi (((y0.stack.length : Nat) : Int) - 1)))).pc)).a) } : RecP) } : EnvP), ()))
   else none
   else none
   else none
   else none
   else none
   else none
   else none
   else none
   else none
   else none
   else none
   else none
   else
   if y0.line = 10 then
   (pState y1.l (atK1 y0.stack (wi (((y0.stack.length : Nat) : Int) - 1)))).bind fun r4 =>
   (pStore y1.m r4.1.1 3).bind fun r5 =>
   (runnerRunTo y0 (wi (y0.line + 1)) MV.nil).bind fun r6 =>
   some ((r6.1.1, ()), (r6.2.1, ({ y1 with m := r5.2.1 } : EnvP), ()))
   else
   if y0.line = 11 then
   (pJoin y1.l y0.child).bind fun r7 =>
   (pCAS y1.m r7.1.1 0 (wu (wi ((atK1 y0.stack (wi (((y0.stack.length : Nat) : Int) - 1))) + 1)))).bind fun r8 =>
   if (!r8.1.1) = true then
   (runnerRunTo y0 14 MV.nil).bind fun r9 =>
   some ((r9.1.1, ()), (r9.2.1, ({ y1 with m := r8.2.1 } : EnvP), ()))
   else
   (runnerRunEmit y0 ({ y1 with m := r8.2.1 } : EnvP) (⟨6, 0, atK1 y0.stack (wi (((y0.stack.length : Nat) : Int) - 1)), y0.child, 0⟩ : Ev)).bind fun r10 =>
   (runnerRunTo r10.2.1 (wi (r10.2.1.line + 1)) MV.nil).bind fun r11 =>
   some ((r11.1.1, ()), (r11.2.1, r10.2.2.1, ()))
   else
   if y0.line = 12 then
   (pLevel y1.l (atK1 y0.stack (wi (((y0.stack.length : Nat) : Int) - 1)))).bind fun r12 =>
   (pLoad y1.m r12.1.1).bind fun r13 =>
   (boostWalk y0.worker y0.child (wi (r13.1.1))).bind fun r14 =>
   (runnerRunTo ({ y0 with level := wi (r13.1.1) } : (RunV MV)) 13 r14.1.1).bind fun r15 =>
   some ((r15.1.1, ()), (r15.2.1, ({ y1 with m := r13.2.1 } : EnvP), ()))
   else
   if y0.line = 13 then
   (stepD2 y0.inside y1).bind fun r16 =>
   if (!r16.1.1) = true then
   some ((false, ()), (({ y0 with inside := r16.2.1 } : (RunV MV)), r16.2.2.1, ()))
   else
   (runnerRunEmit ({ y0 with inside := r16.2.1 } : (RunV MV)) r16.2.2.1 (⟨7, 0, atK1 y0.stack (wi (((y0.stack.length : Nat) : Int) - 1)), 0, y0.level⟩ : Ev)).bind fun r17 =>
   (runnerRunLeave r17.2.1).bind fun r18 =>
   some ((r18.1.1, ()), (r18.2.1, r17.2.2.1, ()))
   else
   if y0.line = 14 then
   (pState y1.l (atK1 y0.stack (wi (((y0.stack.length : Nat) : Int) - 1)))).bind fun r19 =>
   (pStore y1.m r19.1.1 2).bind fun r20 =>
   (runnerRunTo y0 (wi (y0.line + 1)) MV.nil).bind fun r21 =>
   some ((r21.1.1, ()), (r21.2.1, ({ y1 with m := r20.2.1 } : EnvP), ()))
   else
   (pWaits y1.l (atK1 y0.stack (wi (((y0.stack.length : Nat) : Int) - 1)))).bind fun r22 =>
   (pStore y1.m r22.1.1 0).bind fun r23 =>
   if 0 ≤ wi (((y0.stack.length : Nat) : Int) - 1) ∧ wi (((y0.stack.length : Nat) : Int) - 1) < ((y0.stack.length : Nat) : Int) then
   if 0 ≤ atK1 y0.stack (wi (((y0.stack.length : Nat) : Int) - 1)) ∧ atK1 y0.stack (wi (((y0.stack.length : Nat) : Int) - 1)) < ((y1.recs.length : Nat) : Int) then
   (runnerRunEmit y0 ({ y1 with m := r23.2.1, recs := y1.recs.set (atK1 y0.stack (wi (((y0.stack.length : Nat) : Int) - 1))).toNat ({ atK26 y1.recs (atK1 y0.stack (wi (((y0.stack.length : Nat) : Int) - 1))) with waiting := (-1) } : RecP) } : EnvP) (⟨8, 0, atK1 y0.stack (wi (((y0.stack.length : Nat) : Int) - 1)), y0.child, 0⟩ : Ev)).bind fun r24 =>
   (runnerRunTo r24.2.1 0 MV.nil).bind fun r25 =>
   some ((r25.1.1, ()), (r25.2.1, r24.2.2.1, ()))
   else none
   else none
   else none
   else none
   else none
   else none
   else none
   else none
   else none
   else none
   else none
   else none
   else none
   else none
   else none
   else none
   else none
   else none
   else none
   else none
   else none
   else none
   else none
   else none
  else none
 )
noncomputable abbrev runnerRunJoin_a_k : Con SR1 := ⟨179, [.ref 33, .ref 27], [.sh .b], fun x => runnerRunJoin_a x.1 x.2.1⟩
noncomputable def runnerRunJoin_a_tb : List (Nat × Func) := [(174, Tryz.f174), (181, Tryz.f181), (185, Tryz.f185), (182, Tryz.f182)]
theorem runnerRunJoin_a_ok : CO Tryz.prog runnerRunJoin_a_k := co_fn mixed Tryz.func179 [pWaits_k, pStore_k, runnerRunTo_k, pState_k, pJoin_k, pCAS_k, runnerRunEmit_k, pLevel_k, pLoad_k, boostWalk_k, stepD2_k, runnerRunLeave_k] ⟨pWaits_ok, pStore_ok, runnerRunTo_ok, pState_ok, pJoin_ok, pCAS_ok, runnerRunEmit_ok, pLevel_ok, pLoad_ok, boostWalk_ok, stepD2_ok, runnerRunLeave_ok, trivial⟩ runnerRunJoin_a_tb ⟨Tryz.func174, Tryz.func181, Tryz.func185, Tryz.func182, trivial⟩ (fun _ => []) [] fun x => by kernel_rfl
end Go.Proofs.YtgiagoeoifgliaaGreat
