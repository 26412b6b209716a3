/- The program's machines in the evaluator's form. -/
import Derived.Test.YtclaldommncdbaaGreatIqam
set_option linter.all false
namespace Go.Proofs.YtclaldommncdbaaGreat
open Go Go.RowKit
set_option maxRecDepth 100000
variable [Tb]
noncomputable def aaI (y0 : (RunV MV)) (y1 : EnvP) : Option ((Bool × Unit) × ((RunV MV) × EnvP × Unit)) :=
 if 0 ≤ wi (((y0.stack.length : Nat) : Int) - 1) ∧ wi (((y0.stack.length : Nat) : Int) - 1) < ((y0.stack.length : Nat) : Int) then
  if 0 ≤ aae y0.stack (wi (((y0.stack.length : Nat) : Int) - 1)) ∧ aae y0.stack (wi (((y0.stack.length : Nat) : Int) - 1)) < ((y1.recs.length : Nat) : Int) then
   if y0.line = 1 then
   if 0 ≤ wi (((y0.stack.length : Nat) : Int) - 1) ∧ wi (((y0.stack.length : Nat) : Int) - 1) < ((y0.stack.length : Nat) : Int) then
   if y1.l.workers = y1.l.workers then
   if y1.l.levels = y1.l.levels then
   if y1.l.classes = y1.l.classes then
   if y1.l.tasks = y1.l.tasks then
   if y1.l.deque = y1.l.deque then
   if y1.l.heap = y1.l.heap then
   if y1.l.sleepers = y1.l.sleepers then
   if y1.l.epochs = y1.l.epochs then
   if y1.l.bitmaps = y1.l.bitmaps then
   if y1.l.queues = y1.l.queues then
   if y1.l.table = y1.l.table then
   (aiU y1.l (aae y0.stack (wi (((y0.stack.length : Nat) : Int) - 1)))).bind fun r1 =>
   (aa2 y1.m r1.1.1 0).bind fun r2 =>
   (aac y0 0 MV.nil).bind fun r3 =>
   some ((r3.1.1, ()), (r3.2.1, ({ y1 with m := r2.2.1, recs := y1.recs.set (aae y0.stack (wi (((y0.stack.length : Nat) : Int) - 1))).toNat ({ aab y1.recs (aae y0.stack (wi (((y0.stack.length : Nat) : Int) - 1))) with waiting := (-1) } : RecP) } : EnvP), ()))
   else none
   else none
   else none
   else none
   else none
   else none
   else none
   else none
   else none
   else none
   else none
   else none
   else
   if y0.line = 2 then
   if ((aab y1.recs (aae y0.stack (wi (((y0.stack.length : Nat) : Int) - 1)))).left) = 0 then
   if 0 ≤ wi (((y0.stack.length : Nat) : Int) - 1) ∧ wi (((y0.stack.length : Nat) : Int) - 1) < ((y0.stack.length : Nat) : Int) then
   if 0 ≤ aae y0.stack (wi (((y0.stack.length : Nat) : Int) - 1)) ∧ aae y0.stack (wi (((y0.stack.length : Nat) : Int) - 1)) < ((y1.recs.length : Nat) : Int) then
   if ((aab y1.recs (aae y0.stack (wi (((y0.stack.length : Nat) : Int) - 1)))).prog) < 0 then
   if 0 ≤ wi (((y0.stack.length : Nat) : Int) - 1) ∧ wi (((y0.stack.length : Nat) : Int) - 1) < ((y0.stack.length : Nat) : Int) then
   if 0 ≤ aae y0.stack (wi (((y0.stack.length : Nat) : Int) - 1)) ∧ aae y0.stack (wi (((y0.stack.length : Nat) : Int) - 1)) < ((y1.recs.length : Nat) : Int) then
   none
   else none
   else none
   else
   if ((y1.c.progs.length : Nat) : Int) ≤ ((aab y1.recs (aae y0.stack (wi (((y0.stack.length : Nat) : Int) - 1)))).prog) then
   if 0 ≤ wi (((y0.stack.length : Nat) : Int) - 1) ∧ wi (((y0.stack.length : Nat) : Int) - 1) < ((y0.stack.length : Nat) : Int) then
   if 0 ≤ aae y0.stack (wi (((y0.stack.length : Nat) : Int) - 1)) ∧ aae y0.stack (wi (((y0.stack.length : Nat) : Int) - 1)) < ((y1.recs.length : Nat) : Int) then
   none
   else none
   else none
   else
   if 0 ≤ (aab y1.recs (aae y0.stack (wi (((y0.stack.length : Nat) : Int) - 1)))).prog ∧ (aab y1.recs (aae y0.stack (wi (((y0.stack.length : Nat) : Int) - 1)))).prog < ((y1.c.progs.length : Nat) : Int) then
   if 0 ≤ wi (((y0.stack.length : Nat) : Int) - 1) ∧ wi (((y0.stack.length : Nat) : Int) - 1) < ((y0.stack.length : Nat) : Int) then
   if 0 ≤ aae y0.stack (wi (((y0.stack.length : Nat) : Int) - 1)) ∧ aae y0.stack (wi (((y0.stack.length : Nat) : Int) - 1)) < ((y1.recs.length : Nat) : Int) then
   if 0 ≤ (aab y1.recs (aae y0.stack (wi (((y0.stack.length : Nat) : Int) - 1)))).pc ∧ (aab y1.recs (aae y0.stack (wi (((y0.stack.length : Nat) : Int) - 1)))).pc < (((atL [] y1.c.progs ((aab y1.recs (aae y0.stack (wi (((y0.stack.length : Nat) : Int) - 1)))).prog)).length : Nat) : Int) then
   if ((aab ((y1.recs.set (aae y0.stack (wi (((y0.stack.length : Nat) : Int) - 1))).toNat ({ aab y1.recs (aae y0.stack (wi (((y0.stack.length : Nat) : Int) - 1))) with left := (aco (atL [] y1.c.progs ((aab y1.recs (aae y0.stack (wi (((y0.stack.length : Nat) : Int) - 1)))).prog)) ((aab y1.recs (aae y0.stack (wi (((y0.stack.length : Nat) : Int) - 1)))).pc)).a } : RecP)).set (aae y0.stack (wi (((y0.stack.length : Nat) : Int) - 1))).toNat ({ aab (y1.recs.set (aae y0.stack (wi (((y0.stack.length : Nat) : Int) - 1))).toNat ({ aab y1.recs (aae y0.stack (wi (((y0.stack.length : Nat) : Int) - 1))) with left := (aco (atL [] y1.c.progs ((aab y1.recs (aae y0.stack (wi (((y0.stack.length : Nat) : Int) - 1)))).prog)) ((aab y1.recs (aae y0.stack (wi (((y0.stack.length : Nat) : Int) - 1)))).pc)).a } : RecP)) (aae y0.stack (wi (((y0.stack.length : Nat) : Int) - 1))) with left := wi (((aab (y1.recs.set (aae y0.stack (wi (((y0.stack.length : Nat) : Int) - 1))).toNat ({ aab y1.recs (aae y0.stack (wi (((y0.stack.length : Nat) : Int) - 1))) with left := (aco (atL [] y1.c.progs ((aab y1.recs (aae y0.stack (wi (((y0.stack.length : Nat) : Int) - 1)))).prog)) ((aab y1.recs (aae y0.stack (wi (((y0.stack.length : Nat) : Int) - 1)))).pc)).a } : RecP)) (aae y0.stack (wi (((y0.stack.length : Nat) : Int) - 1)))).left) - 1) } : RecP)) (aae y0.stack (wi (((y0.stack.length : Nat) : Int) - 1)))).left) = 0 then
   (aac y0 0 MV.nil).bind fun r4 =>
   some ((r4.1.1, ()), (r4.2.1, ({ y1 with recs := ((y1.recs.set (aae y0.stack (wi (((y0.stack.length : Nat) : Int) - 1))).toNat ({ aab y1.recs (aae y0.stack (wi (((y0.stack.length : Nat) : Int) - 1))) with left := (aco (atL [] y1.c.progs ((aab y1.recs (aae y0.stack (wi (((y0.stack.length : Nat) : Int) - 1)))).prog)) ((aab y1.recs (aae y0.stack (wi (((y0.stack.length : Nat) : Int) - 1)))).pc)).a } : RecP)).set (aae y0.stack (wi (((y0.stack.length : Nat) : Int) - 1))).toNat ({ aab (y1.recs.set (aae y0.stack (wi (((y0.stack.length : Nat) : Int) - 1))).toNat ({ aab y1.recs (aae y0.stack (wi (((y0.stack.length : Nat) : Int) - 1))) with left := (aco (atL [] y1.c.progs ((aab y1.recs (aae y0.stack (wi (((y0.stack.length : Nat) : Int) - 1)))).prog)) ((aab y1.recs (aae y0.stack (wi (((y0.stack.length : Nat) : Int) - 1)))).pc)).a } : RecP)) (aae y0.stack (wi (((y0.stack.length : Nat) : Int) - 1))) with left := wi (((aab (y1.recs.set (aae y0.stack (wi (((y0.stack.length : Nat) : Int) - 1))).toNat ({ aab y1.recs (aae y0.stack (wi (((y0.stack.length : Nat) : Int) - 1))) with left := (aco (atL [] y1.c.progs ((aab y1.recs (aae y0.stack (wi (((y0.stack.length : Nat) : Int) - 1)))).prog)) ((aab y1.recs (aae y0.stack (wi (((y0.stack.length : Nat) : Int) - 1)))).pc)).a } : RecP)) (aae y0.stack (wi (((y0.stack.length : Nat) : Int) - 1)))).left) - 1) } : RecP)).set (aae y0.stack (wi (((y0.stack.length : Nat) : Int) - 1))).toNat ({ aab ((y1.recs.set (aae y0.stack (wi (((y0.stack.length : Nat) : Int) - 1))).toNat ({ aab y1.recs (aae y0.stack (wi (((y0.stack.length : Nat) : Int) - 1))) with left := (aco (atL [] y1.c.progs ((aab y1.recs (aae y0.stack (wi (((y0.stack.length : Nat) : Int) - 1)))).prog)) ((aab y1.recs (aae y0.stack (wi (((y0.stack.length : Nat) : Int) - 1)))).pc)).a } : RecP)).set (aae y0.stack (wi (((y0.stack.length : Nat) : Int) - 1))).toNat ({ aab (y1.recs.set (aae y0.stack (wi (((y0.stack.length : Nat) : Int) - 1))).toNat ({ aab y1.recs (aae y0.stack (wi (((y0.stack.length : Nat) : Int) - 1))) with left := (aco (atL [] y1.c.progs ((aab y1.recs (aae y0.stack (wi (((y0.stack.length : Nat) : Int) - 1)))).prog)) ((aab y1.recs (aae y0.stack (wi (((y0.stack.length : Nat) : Int) - 1)))).pc)).a } : RecP)) (aae y0.stack (wi (((y0.stack.length : Nat) : Int) - 1))) with left := wi (((aab (y1.recs.set (aae y0.stack (wi (((y0.stack.length : Nat) : Int) - 1))).toNat ({ aab y1.recs (aae y0.stack (wi (((y0.stack.length : Nat) : Int) - 1))) with left := (aco (atL [] y1.c.progs ((aab y1.recs (aae y0.stack (wi (((y0.stack.length : Nat) : Int) - 1)))).prog)) ((aab y1.recs (aae y0.stack (wi (((y0.stack.length : Nat) : Int) - 1)))).pc)).a } : RecP)) (aae y0.stack (wi (((y0.stack.length : Nat) : Int) - 1)))).left) - 1) } : RecP)) (aae y0.stack (wi (((y0.stack.length : Nat) : Int) - 1))) with pc := wi (((aab ((y1.recs.set (aae y0.stack (wi (((y0.stack.length : Nat) : Int) - 1))).toNat ({ aab y1.recs (aae y0.stack (wi (((y0.stack.length : Nat) : Int) - 1))) with left := (aco (atL [] y1.c.progs ((aab y1.recs (aae y0.stack (wi (((y0.stack.length : Nat) : Int) - 1)))).prog)) ((aab y1.recs (aae y0.stack (wi (((y0.stack.length : Nat) : Int) - 1)))).pc)).a } : RecP)).set (aae y0.stack (wi (((y0.stack.length : Nat) : Int) - 1))).toNat ({ aab (y1.recs.set (aae y0.stack (wi (((y0.stack.length : Nat) : Int) - 1))).toNat ({ aab y1.recs (aae y0.stack (wi (((y0.stack.length : Nat) : Int) - 1))) with left := (aco (atL [] y1.c.progs ((aab y1.recs (aae y0.stack (wi (((y0.stack.length : Nat) : Int) - 1)))).prog)) ((aab y1.recs (aae y0.stack (wi (((y0.stack.length : Nat) : Int) - 1)))).pc)).a } : RecP)) (aae y0.stack (wi (((y0.stack.length : Nat) : Int) - 1))) with left := wi (((aab (y1.recs.set (aae y0.stack (wi (((y0.stack.length : Nat) : Int) - 1))).toNat ({ aab y1.recs (aae y0.stack (wi (((y0.stack.length : Nat) : Int) - 1))) with left := (aco (atL [] y1.c.progs ((aab y1.recs (aae y0.stack (wi (((y0.stack.length : Nat) : Int) - 1)))).prog)) ((aab y1.recs (aae y0.stack (wi (((y0.stack.length : Nat) : Int) - 1)))).pc)).a } : RecP)) (aae y0.stack (wi (((y0.stack.length : Nat) : Int) - 1)))).left) - 1) } : RecP)) (aae y0.stack (wi (((y0.stack.length : Nat) : Int) - 1)))).pc) + 1) } : RecP) } : EnvP), ()))
   else
   (aac y0 0 MV.nil).bind fun r5 =>
   some ((r5.1.1, ()), (r5.2.1, ({ y1 with recs := (y1.recs.set (aae y0.stack (wi (((y0.stack.length : Nat) : Int) - 1))).toNat ({ aab y1.recs (aae y0.stack (wi (((y0.stack.length : Nat) : Int) - 1))) with left := (aco (atL [] y1.c.progs ((aab y1.recs (aae y0.stack (wi (((y0.stack.length : Nat) : Int) - 1)))).prog)) ((aab y1.recs (aae y0.stack (wi (((y0.stack.length : Nat) : Int) - 1)))).pc)).a } : RecP)).set (aae y0.stack (wi (((y0.stack.length : Nat) : Int) - 1))).toNat ({ aab (y1.recs.set (aae y0.stack (wi (((y0.stack.length : Nat) : Int) - 1))).toNat ({ aab y1.recs (aae y0.stack (wi (((y0.stack.length : Nat) : Int) - 1))) with left := (aco (atL [] y1.c.progs ((aab y1.recs (aae y0.stack (wi (((y0.stack.length : Nat) : Int) - 1)))).prog)) ((aab y1.recs (aae y0.stack (wi (((y0.stack.length : Nat) : Int) - 1)))).pc)).a } : RecP)) (aae y0.stack (wi (((y0.stack.length : Nat) : Int) - 1))) with left := wi (((aab (y1.recs.set (aae y0.stack (wi (((y0.stack.length : Nat) : Int) - 1))).toNat ({ aab y1.recs (aae y0.stack (wi (((y0.stack.length : Nat) : Int) - 1))) with left := (aco (atL [] y1.c.progs ((aab y1.recs (aae y0.stack (wi (((y0.stack.length : Nat) : Int) - 1)))).prog)) ((aab y1.recs (aae y0.stack (wi (((y0.stack.length : Nat) : Int) - 1)))).pc)).a } : RecP)) (aae y0.stack (wi (((y0.stack.length : Nat) : Int) - 1)))).left) - 1) } : RecP) } : EnvP), ()))
   else none
   else none
   else none
   else none
   else none
   else none
   else
   if ((aab (y1.recs.set (aae y0.stack (wi (((y0.stack.length : Nat) : Int) - 1))).toNat ({ aab y1.recs (aae y0.stack (wi (((y0.stack.length : Nat) : Int) - 1))) with left := wi (((aab y1.recs (aae y0.stack (wi (((y0.stack.length : Nat) : Int) - 1)))).left) - 1) } : RecP)) (aae y0.stack (wi (((y0.stack.length : Nat) : Int) - 1)))).left) = 0 then
   (aac y0 0 MV.nil).bind fun r6 =>
   some ((r6.1.1, ()), (r6.2.1, ({ y1 with recs := (y1.recs.set (aae y0.stack (wi (((y0.stack.length : Nat) : Int) - 1))).toNat ({ aab y1.recs (aae y0.stack (wi (((y0.stack.length : Nat) : Int) - 1))) with left := wi (((aab y1.recs (aae y0.stack (wi (((y0.stack.length : Nat) : Int) - 1)))).left) - 1) } : RecP)).set (aae y0.stack (wi (((y0.stack.length : Nat) : Int) - 1))).toNat ({ aab (y1.recs.set (aae y0.stack (wi (((y0.stack.length : Nat) : Int) - 1))).toNat ({ aab y1.recs (aae y0.stack (wi (((y0.stack.length : Nat) : Int) - 1))) with left := wi (((aab y1.recs (aae y0.stack (wi (((y0.stack.length : Nat) : Int) - 1)))).left) - 1) } : RecP)) (aae y0.stack (wi (((y0.stack.length : Nat) : Int) - 1))) with pc := wi (((aab (y1.recs.set (aae y0.stack (wi (((y0.stack.length : Nat) : Int) - 1))).toNat ({ aab y1.recs (aae y0.stack (wi (((y0.stack.length : Nat) : Int) - 1))) with left := wi (((aab y1.recs (aae y0.stack (wi (((y0.stack.length : Nat) : Int) - 1)))).left) - 1) } : RecP)) (aae y0.stack (wi (((y0.stack.length : Nat) : Int) - 1)))).pc) + 1) } : RecP) } : EnvP), ()))
   else
   (aac y0 0 MV.nil).bind fun r7 =>
   some ((r7.1.1, ()), (r7.2.1, ({ y1 with recs := y1.recs.set (aae y0.stack (wi (((y0.stack.length : Nat) : Int) - 1))).toNat ({ aab y1.recs (aae y0.stack (wi (((y0.stack.length : Nat) : Int) - 1))) with left := wi (((aab y1.recs (aae y0.stack (wi (((y0.stack.length : Nat) : Int) - 1)))).left) - 1) } : RecP) } : EnvP), ()))
   else
   (aac y0 0 MV.nil).bind fun r8 =>
   some ((r8.1.1, ()), (r8.2.1, ({ y1 with recs := y1.recs.set (aae y0.stack (wi (((y0.stack.length : Nat) : Int) - 1))).toNat ({ aab y1.recs (aae y0.stack (wi (((y0.stack.length : Nat) : Int) - 1))) with pc := wi (((aab y1.recs (aae y0.stack (wi (((y0.stack.length : Nat) : Int) - 1)))).pc) + 1) } : RecP) } : EnvP), ()))
  else none
 else none
noncomputable abbrev ahl : Con SR1 := ⟨197, [.ref 33, .ref 27], [.sh .b], fun x => aaI x.1 x.2.1⟩
noncomputable def akI : List (Nat × Func) := [(201, Tryz.f201), (195, Tryz.f195), (204, Tryz.f204), (202, Tryz.f202)]
theorem akJ : CO Tryz.prog ahl := aaq aap Tryz.func197 [anj, adK, adp] ⟨aoa, ade, adD, trivial⟩ akI ⟨Tryz.func201, Tryz.func195, Tryz.func204, Tryz.func202, trivial⟩ (fun _ => []) [] fun x => by kernel_rfl
noncomputable def aaJ (y0 : (RunV MV)) (y1 : EnvP) (y2 : Ev) : Option ((Unit) × ((RunV MV) × EnvP × Unit)) :=
 (aee y1 ({ y2 with worker := y0.worker } : Ev)).bind fun r1 =>
 some ((()), (y0, r1.2.1, ()))
noncomputable abbrev adU : Con SR1 := ⟨207, [.ref 33, .ref 27, .val 2], [], fun x => aaJ x.1 x.2.1 x.2.2.1⟩
theorem aep : CO Tryz.prog adU := aaq aap Tryz.func207 [afn] ⟨aes, trivial⟩ [] trivial (fun _ => []) [] fun x => by kernel_rfl
noncomputable def aiJ (y0 : Int) (y1 : Int) : Option ((MV × Unit) × (Unit)) :=
 some ((MV.publish (⟨⟨false, 0, 0⟩, y0, y1, 1⟩ : PublishV), ()), (()))
noncomputable abbrev ajW : Con SR1 := ⟨212, [.sh sI_, .sh sI_], [.sh .mach], fun x => aiJ x.1 x.2.1⟩
theorem anQ : CO Tryz.prog ajW := aaq aap Tryz.func212 [] trivial [] trivial (fun _ => []) [] fun x => by kernel_rfl
noncomputable def ab9 (y0 : (RunV MV)) (y1 : EnvP) (y2 : Int) (y3 : Int) : Option ((Bool × Unit) × ((RunV MV) × EnvP × Unit)) :=
 if 0 ≤ wi (((y0.stack.length : Nat) : Int) - 1) ∧ wi (((y0.stack.length : Nat) : Int) - 1) < ((y0.stack.length : Nat) : Int) then
  if 0 ≤ aae y0.stack (wi (((y0.stack.length : Nat) : Int) - 1)) ∧ aae y0.stack (wi (((y0.stack.length : Nat) : Int) - 1)) < ((y1.recs.length : Nat) : Int) then
   if 0 ≤ wi (((y0.stack.length : Nat) : Int) - 1) ∧ wi (((y0.stack.length : Nat) : Int) - 1) < ((y0.stack.length : Nat) : Int) then
   if 0 ≤ aae y0.stack (wi (((y0.stack.length : Nat) : Int) - 1)) ∧ aae y0.stack (wi (((y0.stack.length : Nat) : Int) - 1)) < ((y1.recs.length : Nat) : Int) then
   if ((aab y1.recs (aae y0.stack (wi (((y0.stack.length : Nat) : Int) - 1)))).prog) < 0 then
   if 0 ≤ wi (((y0.stack.length : Nat) : Int) - 1) ∧ wi (((y0.stack.length : Nat) : Int) - 1) < ((y0.stack.length : Nat) : Int) then
   if 0 ≤ aae y0.stack (wi (((y0.stack.length : Nat) : Int) - 1)) ∧ aae y0.stack (wi (((y0.stack.length : Nat) : Int) - 1)) < ((y1.recs.length : Nat) : Int) then
   none
   else none
   else none
   else
   if ((y1.c.progs.length : Nat) : Int) ≤ ((aab y1.recs (aae y0.stack (wi (((y0.stack.length : Nat) : Int) - 1)))).prog) then
   if 0 ≤ wi (((y0.stack.length : Nat) : Int) - 1) ∧ wi (((y0.stack.length : Nat) : Int) - 1) < ((y0.stack.length : Nat) : Int) then
   if 0 ≤ aae y0.stack (wi (((y0.stack.length : Nat) : Int) - 1)) ∧ aae y0.stack (wi (((y0.stack.length : Nat) : Int) - 1)) < ((y1.recs.length : Nat) : Int) then
   none
   else none
   else none
   else
   if 0 ≤ (aab y1.recs (aae y0.stack (wi (((y0.stack.length : Nat) : Int) - 1)))).prog ∧ (aab y1.recs (aae y0.stack (wi (((y0.stack.length : Nat) : Int) - 1)))).prog < ((y1.c.progs.length : Nat) : Int) then
   if 0 ≤ wi (((y0.stack.length : Nat) : Int) - 1) ∧ wi (((y0.stack.length : Nat) : Int) - 1) < ((y0.stack.length : Nat) : Int) then
   if 0 ≤ aae y0.stack (wi (((y0.stack.length : Nat) : Int) - 1)) ∧ aae y0.stack (wi (((y0.stack.length : Nat) : Int) - 1)) < ((y1.recs.length : Nat) : Int) then
   if 0 ≤ (aab y1.recs (aae y0.stack (wi (((y0.stack.length : Nat) : Int) - 1)))).pc ∧ (aab y1.recs (aae y0.stack (wi (((y0.stack.length : Nat) : Int) - 1)))).pc < (((atL [] y1.c.progs ((aab y1.recs (aae y0.stack (wi (((y0.stack.length : Nat) : Int) - 1)))).prog)).length : Nat) : Int) then
   if y2 = 3 then
   if (((((aab (y1.recs.set (aae y0.stack (wi (((y0.stack.length : Nat) : Int) - 1))).toNat ({ aab y1.recs (aae y0.stack (wi (((y0.stack.length : Nat) : Int) - 1))) with pc := wi (((aab y1.recs (aae y0.stack (wi (((y0.stack.length : Nat) : Int) - 1)))).pc) + 1) } : RecP)) (aae y0.stack (wi (((y0.stack.length : Nat) : Int) - 1)))).kids).length + ([(-1)] : List Int).length : Nat)) : Int) < 1000000000000 then
   if 0 ≤ wi (((y0.stack.length : Nat) : Int) - 1) ∧ wi (((y0.stack.length : Nat) : Int) - 1) < ((y0.stack.length : Nat) : Int) then
   (aaJ y0 ({ y1 with recs := (y1.recs.set (aae y0.stack (wi (((y0.stack.length : Nat) : Int) - 1))).toNat ({ aab y1.recs (aae y0.stack (wi (((y0.stack.length : Nat) : Int) - 1))) with pc := wi (((aab y1.recs (aae y0.stack (wi (((y0.stack.length : Nat) : Int) - 1)))).pc) + 1) } : RecP)).set (aae y0.stack (wi (((y0.stack.length : Nat) : Int) - 1))).toNat ({ aab (y1.recs.set (aae y0.stack (wi (((y0.stack.length : Nat) : Int) - 1))).toNat ({ aab y1.recs (aae y0.stack (wi (((y0.stack.length : Nat) : Int) - 1))) with pc := wi (((aab y1.recs (aae y0.stack (wi (((y0.stack.length : Nat) : Int) - 1)))).pc) + 1) } : RecP)) (aae y0.stack (wi (((y0.stack.length : Nat) : Int) - 1))) with kids := ((aab (y1.recs.set (aae y0.stack (wi (((y0.stack.length : Nat) : Int) - 1))).toNat ({ aab y1.recs (aae y0.stack (wi (((y0.stack.length : Nat) : Int) - 1))) with pc := wi (((aab y1.recs (aae y0.stack (wi (((y0.stack.length : Nat) : Int) - 1)))).pc) + 1) } : RecP)) (aae y0.stack (wi (((y0.stack.length : Nat) : Int) - 1)))).kids) ++ ([(-1)]) } : RecP) } : EnvP) (⟨4, 0, aae y0.stack (wi (((y0.stack.length : Nat) : Int) - 1)), 0, 0⟩ : Ev)).bind fun r1 =>
   (aac r1.2.1 0 MV.nil).bind fun r2 =>
   some ((r2.1.1, ()), (r2.2.1, r1.2.2.1, ()))
   else none
   else none
   else
   if (((((aab (y1.recs.set (aae y0.stack (wi (((y0.stack.length : Nat) : Int) - 1))).toNat ({ aab y1.recs (aae y0.stack (wi (((y0.stack.length : Nat) : Int) - 1))) with pc := wi (((aab y1.recs (aae y0.stack (wi (((y0.stack.length : Nat) : Int) - 1)))).pc) + 1) } : RecP)) (aae y0.stack (wi (((y0.stack.length : Nat) : Int) - 1)))).kids).length + ([y3] : List Int).length : Nat)) : Int) < 1000000000000 then
   if 0 ≤ wi (((y0.stack.length : Nat) : Int) - 1) ∧ wi (((y0.stack.length : Nat) : Int) - 1) < ((y0.stack.length : Nat) : Int) then
   if ((aco (atL [] y1.c.progs ((aab y1.recs (aae y0.stack (wi (((y0.stack.length : Nat) : Int) - 1)))).prog)) ((aab y1.recs (aae y0.stack (wi (((y0.stack.length : Nat) : Int) - 1)))).pc)).a) = ((aco (atL [] y1.c.progs ((aab y1.recs (aae y0.stack (wi (((y0.stack.length : Nat) : Int) - 1)))).prog)) ((aab y1.recs (aae y0.stack (wi (((y0.stack.length : Nat) : Int) - 1)))).pc)).a) then
   if 0 ≤ y3 ∧ y3 < ((((y1.recs.set (aae y0.stack (wi (((y0.stack.length : Nat) : Int) - 1))).toNat ({ aab y1.recs (aae y0.stack (wi (((y0.stack.length : Nat) : Int) - 1))) with pc := wi (((aab y1.recs (aae y0.stack (wi (((y0.stack.length : Nat) : Int) - 1)))).pc) + 1) } : RecP)).set (aae y0.stack (wi (((y0.stack.length : Nat) : Int) - 1))).toNat ({ aab (y1.recs.set (aae y0.stack (wi (((y0.stack.length : Nat) : Int) - 1))).toNat ({ aab y1.recs (aae y0.stack (wi (((y0.stack.length : Nat) : Int) - 1))) with pc := wi (((aab y1.recs (aae y0.stack (wi (((y0.stack.length : Nat) : Int) - 1)))).pc) + 1) } : RecP)) (aae y0.stack (wi (((y0.stack.length : Nat) : Int) - 1))) with kids := ((aab (y1.recs.set (aae y0.stack (wi (((y0.stack.length : Nat) : Int) - 1))).toNat ({ aab y1.recs (aae y0.stack (wi (((y0.stack.length : Nat) : Int) - 1))) with pc := wi (((aab y1.recs (aae y0.stack (wi (((y0.stack.length : Nat) : Int) - 1)))).pc) + 1) } : RecP)) (aae y0.stack (wi (((y0.stack.length : Nat) : Int) - 1)))).kids) ++ ([y3]) } : RecP)).length : Nat) : Int) then
   if ((aco (atL [] y1.c.progs ((aab y1.recs (aae y0.stack (wi (((y0.stack.length : Nat) : Int) - 1)))).prog)) ((aab y1.recs (aae y0.stack (wi (((y0.stack.length : Nat) : Int) - 1)))).pc)).b) = ((aco (atL [] y1.c.progs ((aab y1.recs (aae y0.stack (wi (((y0.stack.length : Nat) : Int) - 1)))).prog)) ((aab y1.recs (aae y0.stack (wi (((y0.stack.length : Nat) : Int) - 1)))).pc)).b) then
   (aiJ y3 ((aco (atL [] y1.c.progs ((aab y1.recs (aae y0.stack (wi (((y0.stack.length : Nat) : Int) - 1)))).prog)) ((aab y1.recs (aae y0.stack (wi (((y0.stack.length : Nat) : Int) - 1)))).pc)).b)).bind fun r3 =>
   (aac ({ y0 with id := y3, level := (aco (atL [] y1.c.progs ((aab y1.recs (aae y0.stack (wi (((y0.stack.length : Nat) : Int) - 1)))).prog)) ((aab y1.recs (aae y0.stack (wi (((y0.stack.length : Nat) : Int) - 1)))).pc)).b } : (RunV MV)) 5 r3.1.1).bind fun r4 =>
   some ((r4.1.1, ()), (r4.2.1, ({ y1 with recs := ((y1.recs.set (aae y0.stack (wi (((y0.stack.length : Nat) : Int) - 1))).toNat ({ aab y1.recs (aae y0.stack (wi (((y0.stack.length : Nat) : Int) - 1))) with pc := wi (((aab y1.recs (aae y0.stack (wi (((y0.stack.length : Nat) : Int) - 1)))).pc) + 1) } : RecP)).set (aae y0.stack (wi (((y0.stack.length : Nat) : Int) - 1))).toNat ({ aab (y1.recs.set (aae y0.stack (wi (((y0.stack.length : Nat) : Int) - 1))).toNat ({ aab y1.recs (aae y0.stack (wi (((y0.stack.length : Nat) : Int) - 1))) with pc := wi (((aab y1.recs (aae y0.stack (wi (((y0.stack.length : Nat) : Int) - 1)))).pc) + 1) } : RecP)) (aae y0.stack (wi (((y0.stack.length : Nat) : Int) - 1))) with kids := ((aab (y1.recs.set (aae y0.stack (wi (((y0.stack.length : Nat) : Int) - 1))).toNat ({ aab y1.recs (aae y0.stack (wi (((y0.stack.length : Nat) : Int) - 1))) with pc := wi (((aab y1.recs (aae y0.stack (wi (((y0.stack.length : Nat) : Int) - 1)))).pc) + 1) } : RecP)) (aae y0.stack (wi (((y0.stack.length : Nat) : Int) - 1)))).kids) ++ ([y3]) } : RecP)).set y3.toNat (⟨(aco (atL [] y1.c.progs ((aab y1.recs (aae y0.stack (wi (((y0.stack.length : Nat) : Int) - 1)))).prog)) ((aab y1.recs (aae y0.stack (wi (((y0.stack.length : Nat) : Int) - 1)))).pc)).a, aae y0.stack (wi (((y0.stack.length : Nat) : Int) - 1)), 0, 0, (-1), [], false⟩ : RecP) } : EnvP), ()))
   else none
   else none
   else none
   else none
   else none
   else none
   else none
   else none
   else none
   else none
   else none
  else none
 else none
noncomputable abbrev agb : Con SR1 := ⟨206, [.ref 33, .ref 27, .sh sI_, .sh sI_], [.sh .b], fun x => ab9 x.1 x.2.1 x.2.2.1 x.2.2.2.1⟩
noncomputable def aiO : List (Nat × Func) := [(201, Tryz.f201), (195, Tryz.f195), (204, Tryz.f204), (202, Tryz.f202)]
theorem aiP : CO Tryz.prog agb := aaq aap Tryz.func206 [adU, adp, ajW] ⟨aep, adD, anQ, trivial⟩ aiO ⟨Tryz.func201, Tryz.func195, Tryz.func204, Tryz.func202, trivial⟩ (fun _ => []) [(8, .close)] fun x => by kernel_rfl
noncomputable def abi (y0 : (RunV MV)) (y1 : EnvP) : Option ((Bool × Unit) × ((RunV MV) × EnvP × Unit)) :=
 (ae3 y0.inside y1).bind fun r1 =>
 if (!r1.1.1) = true then
  some ((false, ()), (({ y0 with inside := r1.2.1 } : (RunV MV)), r1.2.2.1, ()))
 else
 (adI r1.2.1).bind fun r2 =>
 if y0.line = 4 then
  (ab9 ({ y0 with inside := r2.2.1 } : (RunV MV)) r1.2.2.1 r2.1.1 r2.1.2.1).bind fun r3 =>
  some ((r3.1.1, ()), (r3.2.1, r3.2.2.1, ()))
 else
 if y0.line = 5 then
  if 0 ≤ wi (((y0.stack.length : Nat) : Int) - 1) ∧ wi (((y0.stack.length : Nat) : Int) - 1) < ((y0.stack.length : Nat) : Int) then
   if y0.level = y0.level then
   if y0.id = y0.id then
   (aaJ ({ y0 with inside := r2.2.1 } : (RunV MV)) r1.2.2.1 (⟨3, 0, y0.id, aae y0.stack (wi (((y0.stack.length : Nat) : Int) - 1)), y0.level⟩ : Ev)).bind fun r4 =>
   (acw r4.2.1.worker r4.2.1.level r4.2.1.id).bind fun r5 =>
   (aac r4.2.1 6 r5.1.1).bind fun r6 =>
   some ((r6.1.1, ()), (r6.2.1, r4.2.2.1, ()))
   else none
   else none
  else none
 else
 if y0.line = 6 then
  if r2.1.1 = 3 then
   (acu y0.worker y0.id).bind fun r7 =>
   (aac ({ y0 with inside := r2.2.1 } : (RunV MV)) 8 r7.1.1).bind fun r8 =>
   some ((r8.1.1, ()), (r8.2.1, r1.2.2.1, ()))
  else
  (acV y0.worker y0.level).bind fun r9 =>
  (aac ({ y0 with inside := r2.2.1 } : (RunV MV)) 7 r9.1.1).bind fun r10 =>
  some ((r10.1.1, ()), (r10.2.1, r1.2.2.1, ()))
 else
 if y0.line = 8 then
  if r2.1.1 = 1 then
   if (((y0.stack.length + ([y0.id] : List Int).length : Nat)) : Int) < 1000000000000 then
   (aac ({ y0 with stack := y0.stack ++ ([y0.id]), inside := r2.2.1 } : (RunV MV)) 0 MV.nil).bind fun r11 =>
   some ((r11.1.1, ()), (r11.2.1, r1.2.2.1, ()))
   else none
  else
  (aac ({ y0 with inside := r2.2.1 } : (RunV MV)) 0 MV.nil).bind fun r12 =>
  some ((r12.1.1, ()), (r12.2.1, r1.2.2.1, ()))
 else
 (aac ({ y0 with inside := r2.2.1 } : (RunV MV)) 0 MV.nil).bind fun r13 =>
 some ((r13.1.1, ()), (r13.2.1, r1.2.2.1, ()))
noncomputable abbrev ail : Con SR1 := ⟨198, [.ref 33, .ref 27], [.sh .b], fun x => abi x.1 x.2.1⟩
noncomputable def alQ : List (Nat × Func) := [(195, Tryz.f195)]
theorem alR : CO Tryz.prog ail := aaq aap Tryz.func198 [ane, alU, agb, adU, aeJ, adp, afN, ahs] ⟨anS, an2, aiP, aep, aeX, adD, agj, ahQ, trivial⟩ alQ ⟨Tryz.func195, trivial⟩ (fun _ => []) [] fun x => by kernel_rfl
noncomputable def ajf (y0 : Int) (y1 : Int) (y2 : Int) : Option ((MV × Unit) × (Unit)) :=
 some ((MV.walk (⟨⟨false, 0, 0⟩, y0, y1, y2, 1, MV.nil⟩ : (WalkV MV)), ()), (()))
noncomputable abbrev aoU : Con SR1 := ⟨209, [.sh sI_, .sh sI_, .sh sI_], [.sh .mach], fun x => ajf x.1 x.2.1 x.2.2.1⟩
theorem asT : CO Tryz.prog aoU := aaq aap Tryz.func209 [] trivial [] trivial (fun _ => []) [] fun x => by kernel_rfl
noncomputable def aat (y0 : (RunV MV)) : Option ((Bool × Unit) × ((RunV MV) × Unit)) :=
 if 0 ≤ wi (((y0.stack.length : Nat) : Int) - 1) ∧ wi (((y0.stack.length : Nat) : Int) - 1) ≤ ((y0.stack.length : Nat) : Int) then
  if (((y0.stack.take (wi (((y0.stack.length : Nat) : Int) - 1) : Int).toNat).length : Nat) : Int) = 0 then
   (abf y0.o 0 0).bind fun r1 =>
   some ((r1.1.1, ()), (({ y0 with o := r1.2.1, stack := y0.stack.take (wi (((y0.stack.length : Nat) : Int) - 1) : Int).toNat } : (RunV MV)), ()))
  else
  (aac ({ y0 with stack := y0.stack.take (wi (((y0.stack.length : Nat) : Int) - 1) : Int).toNat } : (RunV MV)) 0 MV.nil).bind fun r2 =>
  some ((r2.1.1, ()), (r2.2.1, ()))
 else none
noncomputable abbrev af2 : Con SR1 := ⟨210, [.ref 33], [.sh .b], fun x => aat x.1⟩
theorem ahm : CO Tryz.prog af2 := aaq aap Tryz.func210 [acA, adp] ⟨aby, adD, trivial⟩ [] trivial (fun _ => []) [] fun x => by kernel_rfl
noncomputable def agD (y0 : (RunV MV)) (y1 : EnvP) : Option ((Bool × Unit) × ((RunV MV) × EnvP × Unit)) :=
 agr (
  if 0 ≤ wi (((y0.stack.length : Nat) : Int) - 1) ∧ wi (((y0.stack.length : Nat) : Int) - 1) < ((y0.stack.length : Nat) : Int) then
   if y1.l.workers = y1.l.workers then
   if y1.l.levels = y1.l.levels then
   if y1.l.classes = y1.l.classes then
   if y1.l.tasks = y1.l.tasks then
   if y1.l.deque = y1.l.deque then
   if y1.l.heap = y1.l.heap then
   if y1.l.sleepers = y1.l.sleepers then
   if y1.l.epochs = y1.l.epochs then
   if y1.l.bitmaps = y1.l.bitmaps then
   if y1.l.queues = y1.l.queues then
   if y1.l.table = y1.l.table then
   if y1.l.workers = y1.l.workers then
   if y1.l.levels = y1.l.levels then
   if y1.l.classes = y1.l.classes then
   if y1.l.tasks = y1.l.tasks then
   if y1.l.deque = y1.l.deque then
   if y1.l.heap = y1.l.heap then
   if y1.l.sleepers = y1.l.sleepers then
   if y1.l.epochs = y1.l.epochs then
   if y1.l.bitmaps = y1.l.bitmaps then
   if y1.l.queues = y1.l.queues then
   if y1.l.table = y1.l.table then
   if y0.line = 9 then
   if 0 ≤ wi (((y0.stack.length : Nat) : Int) - 1) ∧ wi (((y0.stack.length : Nat) : Int) - 1) < ((y0.stack.length : Nat) : Int) then
   if 0 ≤ aae y0.stack (wi (((y0.stack.length : Nat) : Int) - 1)) ∧ aae y0.stack (wi (((y0.stack.length : Nat) : Int) - 1)) < ((y1.recs.length : Nat) : Int) then
   if 0 ≤ wi (((y0.stack.length : Nat) : Int) - 1) ∧ wi (((y0.stack.length : Nat) : Int) - 1) < ((y0.stack.length : Nat) : Int) then
   if 0 ≤ aae y0.stack (wi (((y0.stack.length : Nat) : Int) - 1)) ∧ aae y0.stack (wi (((y0.stack.length : Nat) : Int) - 1)) < ((y1.recs.length : Nat) : Int) then
   if (aae y0.stack (wi (((y0.stack.length : Nat) : Int) - 1))) = (aae y0.stack (wi (((y0.stack.length : Nat) : Int) - 1))) then
   if ((aab y1.recs (aae y0.stack (wi (((y0.stack.length : Nat) : Int) - 1)))).prog) < 0 then
   if 0 ≤ wi (((y0.stack.length : Nat) : Int) - 1) ∧ wi (((y0.stack.length : Nat) : Int) - 1) < ((y0.stack.length : Nat) : Int) then
   if 0 ≤ aae y0.stack (wi (((y0.stack.length : Nat) : Int) - 1)) ∧ aae y0.stack (wi (((y0.stack.length : Nat) : Int) - 1)) < ((y1.recs.length : Nat) : Int) then
   if (aae y0.stack (wi (((y0.stack.length : Nat) : Int) - 1))) = (aae y0.stack (wi (((y0.stack.length : Nat) : Int) - 1))) then
   none
   else none
   else none
   else none
   else
   if ((y1.c.progs.length : Nat) : Int) ≤ ((aab y1.recs (aae y0.stack (wi (((y0.stack.length : Nat) : Int) - 1)))).prog) then
   if 0 ≤ wi (((y0.stack.length : Nat) : Int) - 1) ∧ wi (((y0.stack.length : Nat) : Int) - 1) < ((y0.stack.length : Nat) : Int) then
   if 0 ≤ aae y0.stack (wi (((y0.stack.length : Nat) : Int) - 1)) ∧ aae y0.stack (wi (((y0.stack.length : Nat) : Int) - 1)) < ((y1.recs.length : Nat) : Int) then
   if (aae y0.stack (wi (((y0.stack.length : Nat) : Int) - 1))) = (aae y0.stack (wi (((y0.stack.length : Nat) : Int) - 1))) then
   none
   else none
   else none
   else none
   else
   if 0 ≤ (aab y1.recs (aae y0.stack (wi (((y0.stack.length : Nat) : Int) - 1)))).prog ∧ (aab y1.recs (aae y0.stack (wi (((y0.stack.length : Nat) : Int) - 1)))).prog < ((y1.c.progs.length : Nat) : Int) then
   if 0 ≤ wi (((y0.stack.length : Nat) : Int) - 1) ∧ wi (((y0.stack.length : Nat) : Int) - 1) < ((y0.stack.length : Nat) : Int) then
   if 0 ≤ aae y0.stack (wi (((y0.stack.length : Nat) : Int) - 1)) ∧ aae y0.stack (wi (((y0.stack.length : Nat) : Int) - 1)) < ((y1.recs.length : Nat) : Int) then
   if (aae y0.stack (wi (((y0.stack.length : Nat) : Int) - 1))) = (aae y0.stack (wi (((y0.stack.length : Nat) : Int) - 1))) then
   if 0 ≤ (aab y1.recs (aae y0.stack (wi (((y0.stack.length : Nat) : Int) - 1)))).pc ∧ (aab y1.recs (aae y0.stack (wi (((y0.stack.length : Nat) : Int) - 1)))).pc < (((atL [] y1.c.progs ((aab y1.recs (aae y0.stack (wi (((y0.stack.length : Nat) : Int) - 1)))).prog)).length : Nat) : Int) then
   if 0 ≤ (aco (atL [] y1.c.progs ((aab y1.recs (aae y0.stack (wi (((y0.stack.length : Nat) : Int) - 1)))).prog)) ((aab y1.recs (aae y0.stack (wi (((y0.stack.length : Nat) : Int) - 1)))).pc)).a ∧ (aco (atL [] y1.c.progs ((aab y1.recs (aae y0.stack (wi (((y0.stack.length : Nat) : Int) - 1)))).prog)) ((aab y1.recs (aae y0.stack (wi (((y0.stack.length : Nat) : Int) - 1)))).pc)).a < ((((aab y1.recs (aae y0.stack (wi (((y0.stack.length : Nat) : Int) - 1)))).kids).length : Nat) : Int) then
   (aiU y1.l (aae y0.stack (wi (((y0.stack.length : Nat) : Int) - 1)))).bind fun r26 =>
   if (aae ((aab y1.recs (aae y0.stack (wi (((y0.stack.length : Nat) : Int) - 1)))).kids) ((aco (atL [] y1.c.progs ((aab y1.recs (aae y0.stack (wi (((y0.stack.length : Nat) : Int) - 1)))).prog)) ((aab y1.recs (aae y0.stack (wi (((y0.stack.length : Nat) : Int) - 1)))).pc)).a)) = (aae ((aab y1.recs (aae y0.stack (wi (((y0.stack.length : Nat) : Int) - 1)))).kids) ((aco (atL [] y1.c.progs ((aab y1.recs (aae y0.stack (wi (((y0.stack.length : Nat) : Int) - 1)))).prog)) ((aab y1.recs (aae y0.stack (wi (((y0.stack.length : Nat) : Int) - 1)))).pc)).a)) then
   (aa2 y1.m r26.1.1 (wu (wi ((aae ((aab y1.recs (aae y0.stack (wi (((y0.stack.length : Nat) : Int) - 1)))).kids) ((aco (atL [] y1.c.progs ((aab y1.recs (aae y0.stack (wi (((y0.stack.length : Nat) : Int) - 1)))).prog)) ((aab y1.recs (aae y0.stack (wi (((y0.stack.length : Nat) : Int) - 1)))).pc)).a)) + 1)))).bind fun r27 =>
   (aac ({ y0 with child := aae ((aab y1.recs (aae y0.stack (wi (((y0.stack.length : Nat) : Int) - 1)))).kids) ((aco (atL [] y1.c.progs ((aab y1.recs (aae y0.stack (wi (((y0.stack.length : Nat) : Int) - 1)))).prog)) ((aab y1.recs (aae y0.stack (wi (((y0.stack.length : Nat) : Int) - 1)))).pc)).a) } : (RunV MV)) (wi (y0.line + 1)) MV.nil).bind fun r28 =>
   some ((r28.1.1, ()), (r28.2.1, ({ y1 with m := r27.2.1, recs := ((y1.recs.set (aae y0.stack (wi (((y0.stack.length : Nat) : Int) - 1))).toNat (aab y1.recs (aae y0.stack (wi (((y0.stack.length : Nat) : Int) - 1))))).set (aae y0.stack (wi (((y0.stack.length : Nat) : Int) - 1))).toNat ({ aab (y1.recs.set (aae y0.stack (wi (((y0.stack.length : Nat) : Int) - 1))).toNat (aab y1.recs (aae y0.stack (wi (((y0.stack.length : Nat) : Int) - 1))))) (aae y0.stack (wi (((y0.stack.length : Nat) : Int) - 1))) with pc := wi (((aab (y1.recs.set (aae y0.stack (wi (((y0.stack.length : Nat) : Int) - 1))).toNat (aab y1.recs (aae y0.stack (wi (((y0.stack.length : Nat) : Int) - 1))))) (aae y0.stack (wi (((y0.stack.length : Nat) : Int) - 1)))).pc) + 1) } : RecP)).set (aae y0.stack (wi (((y0.stack.length : Nat) : Int) - 1))).toNat ({ aab ((y1.recs.set (aae y0.stack (wi (((y0.stack.length : Nat) : Int) - 1))).toNat (aab y1.recs (aae y0.stack (wi (((y0.stack.length : Nat) : Int) - 1))))).set (aae y0.stack (wi (((y0.stack.length : Nat) : Int) - 1))).toNat ({ aab (y1.recs.set (aae y0.stack (wi (((y0.stack.length : Nat) : Int) - 1))).toNat (aab y1.recs (aae y0.stack (wi (((y0.stack.length : Nat) : Int) - 1))))) (aae y0.stack (wi (((y0.stack.length : Nat) : Int) - 1))) with pc := wi (((aab (y1.recs.set (aae y0.stack (wi (((y0.stack.length : Nat) : Int) - 1))).toNat (aab y1.recs (aae y0.stack (wi (((y0.stack.length : Nat) : Int) - 1))))) (aae y0.stack (wi (((y0.stack.length : Nat) : Int) - 1)))).pc) + 1) } : RecP)) (aae y0.stack (wi (((y0.stack.length : Nat) : Int) - 1))) with waiting := aae ((aab y1.recs (aae y0.stack (wi (((y0.stack.length : Nat) : Int) - 1)))).kids) ((aco (atL [] y1.c.progs ((aab y1.recs (aae y0.stack (wi (((y0.stack.length : Nat) : Int) - 1)))).prog)) ((aab y1.recs (aae y0.stack (wi (((y0.stack.length : Nat) : Int) - 1)))).pc)).a) } : RecP) } : EnvP), ()))
   else none
   else none
   else none
   else none
   else none
   else none
   else none
   else none
   else none
   else none
   else none
   else none
   else
   if y0.line = 10 then
   (adV y1.l (aae y0.stack (wi (((y0.stack.length : Nat) : Int) - 1)))).bind fun r29 =>
   (aa2 y1.m r29.1.1 3).bind fun r30 =>
   (aac y0 (wi (y0.line + 1)) MV.nil).bind fun r31 =>
   some ((r31.1.1, ()), (r31.2.1, ({ y1 with m := r30.2.1 } : EnvP), ()))
   else
   if y0.line = 11 then
   (am4 y1.l y0.child).bind fun r32 =>
   (ary y1.m r32.1.1 0 (wu (wi ((aae y0.stack (wi (((y0.stack.length : Nat) : Int) - 1))) + 1)))).bind fun r33 =>
   if (!r33.1.1) = true then
   (aac y0 14 MV.nil).bind fun r34 =>
   some ((r34.1.1, ()), (r34.2.1, ({ y1 with m := r33.2.1 } : EnvP), ()))
   else
   (aaJ y0 ({ y1 with m := r33.2.1 } : EnvP) (⟨6, 0, aae y0.stack (wi (((y0.stack.length : Nat) : Int) - 1)), y0.child, 0⟩ : Ev)).bind fun r35 =>
   (aac r35.2.1 (wi (r35.2.1.line + 1)) MV.nil).bind fun r36 =>
   some ((r36.1.1, ()), (r36.2.1, r35.2.2.1, ()))
   else
   if y0.line = 12 then
   (ae5 y1.l (aae y0.stack (wi (((y0.stack.length : Nat) : Int) - 1)))).bind fun r37 =>
   (acv y1.m r37.1.1).bind fun r38 =>
   (ajf y0.worker y0.child (wi (r38.1.1))).bind fun r39 =>
   (aac ({ y0 with level := wi (r38.1.1) } : (RunV MV)) 13 r39.1.1).bind fun r40 =>
   some ((r40.1.1, ()), (r40.2.1, ({ y1 with m := r38.2.1 } : EnvP), ()))
   else
   if y0.line = 13 then
   (ae3 y0.inside y1).bind fun r41 =>
   if (!r41.1.1) = true then
   some ((false, ()), (({ y0 with inside := r41.2.1 } : (RunV MV)), r41.2.2.1, ()))
   else
   (aaJ ({ y0 with inside := r41.2.1 } : (RunV MV)) r41.2.2.1 (⟨7, 0, aae y0.stack (wi (((y0.stack.length : Nat) : Int) - 1)), 0, y0.level⟩ : Ev)).bind fun r42 =>
   (aat r42.2.1).bind fun r43 =>
   some ((r43.1.1, ()), (r43.2.1, r42.2.2.1, ()))
   else
   if y0.line = 14 then
   (adV y1.l (aae y0.stack (wi (((y0.stack.length : Nat) : Int) - 1)))).bind fun r44 =>
   (aa2 y1.m r44.1.1 2).bind fun r45 =>
   (aac y0 (wi (y0.line + 1)) MV.nil).bind fun r46 =>
   some ((r46.1.1, ()), (r46.2.1, ({ y1 with m := r45.2.1 } : EnvP), ()))
   else
   (aiU y1.l (aae y0.stack (wi (((y0.stack.length : Nat) : Int) - 1)))).bind fun r47 =>
   (aa2 y1.m r47.1.1 0).bind fun r48 =>
   if 0 ≤ wi (((y0.stack.length : Nat) : Int) - 1) ∧ wi (((y0.stack.length : Nat) : Int) - 1) < ((y0.stack.length : Nat) : Int) then
   if 0 ≤ aae y0.stack (wi (((y0.stack.length : Nat) : Int) - 1)) ∧ aae y0.stack (wi (((y0.stack.length : Nat) : Int) - 1)) < ((y1.recs.length : Nat) : Int) then
   (aaJ y0 ({ y1 with m := r48.2.1, recs := y1.recs.set (aae y0.stack (wi (((y0.stack.length : Nat) : Int) - 1))).toNat ({ aab y1.recs (aae y0.stack (wi (((y0.stack.length : Nat) : Int) - 1))) with waiting := (-1) } : RecP) } : EnvP) (⟨8, 0, aae y0.stack (wi (((y0.stack.length : Nat) : Int) - 1)), y0.child, 0⟩ : Ev)).bind fun r49 =>
   (aac r49.2.1 0 MV.nil).bind fun r50 =>
   some ((r50.1.1, ()), (r50.2.1, r49.2.2.1, ()))
   else none
   else none
   else none
   else none
   else none
   else none
   else none
   else none
   else none
   else none
   else none
   else none
   else none
   else none
   else none
   else none
   else none
   else none
   else none
   else none
   else none
   else none
   else none
   else none
  else none
 ) (
  if y1.l.workers = y1.l.workers then
   if y1.l.levels = y1.l.levels then
   if y1.l.classes = y1.l.classes then
   if y1.l.tasks = y1.l.tasks then
   if y1.l.deque = y1.l.deque then
   if y1.l.heap = y1.l.heap then
   if y1.l.sleepers = y1.l.sleepers then
   if y1.l.epochs = y1.l.epochs then
   if y1.l.bitmaps = y1.l.bitmaps then
   if y1.l.queues = y1.l.queues then
   if y1.l.table = y1.l.table then
   if 0 ≤ wi (((y0.stack.length : Nat) : Int) - 1) ∧ wi (((y0.stack.length : Nat) : Int) - 1) < ((y0.stack.length : Nat) : Int) then
   if y1.l.workers = y1.l.workers then
   if y1.l.levels = y1.l.levels then
   if y1.l.classes = y1.l.classes then
   if y1.l.tasks = y1.l.tasks then
   if y1.l.deque = y1.l.deque then
   if y1.l.heap = y1.l.heap then
   if y1.l.sleepers = y1.l.sleepers then
   if y1.l.epochs = y1.l.epochs then
   if y1.l.bitmaps = y1.l.bitmaps then
   if y1.l.queues = y1.l.queues then
   if y1.l.table = y1.l.table then
   if y0.line = 9 then
   if 0 ≤ wi (((y0.stack.length : Nat) : Int) - 1) ∧ wi (((y0.stack.length : Nat) : Int) - 1) < ((y0.stack.length : Nat) : Int) then
   if 0 ≤ aae y0.stack (wi (((y0.stack.length : Nat) : Int) - 1)) ∧ aae y0.stack (wi (((y0.stack.length : Nat) : Int) - 1)) < ((y1.recs.length : Nat) : Int) then
   if 0 ≤ wi (((y0.stack.length : Nat) : Int) - 1) ∧ wi (((y0.stack.length : Nat) : Int) - 1) < ((y0.stack.length : Nat) : Int) then
   if 0 ≤ aae y0.stack (wi (((y0.stack.length : Nat) : Int) - 1)) ∧ aae y0.stack (wi (((y0.stack.length : Nat) : Int) - 1)) < ((y1.recs.length : Nat) : Int) then
   if (aae y0.stack (wi (((y0.stack.length : Nat) : Int) - 1))) = (aae y0.stack (wi (((y0.stack.length : Nat) : Int) - 1))) then
   if ((aab y1.recs (aae y0.stack (wi (((y0.stack.length : Nat) : Int) - 1)))).prog) < 0 then
   if 0 ≤ wi (((y0.stack.length : Nat) : Int) - 1) ∧ wi (((y0.stack.length : Nat) : Int) - 1) < ((y0.stack.length : Nat) : Int) then
   if 0 ≤ aae y0.stack (wi (((y0.stack.length : Nat) : Int) - 1)) ∧ aae y0.stack (wi (((y0.stack.length : Nat) : Int) - 1)) < ((y1.recs.length : Nat) : Int) then
   if (aae y0.stack (wi (((y0.stack.length : Nat) : Int) - 1))) = (aae y0.stack (wi (((y0.stack.length : Nat) : Int) - 1))) then
   none
   else none
   else none
   else none
   else
   if ((y1.c.progs.length : Nat) : Int) ≤ ((aab y1.recs (aae y0.stack (wi (((y0.stack.length : Nat) : Int) - 1)))).prog) then
   if 0 ≤ wi (((y0.stack.length : Nat) : Int) - 1) ∧ wi (((y0.stack.length : Nat) : Int) - 1) < ((y0.stack.length : Nat) : Int) then
   if 0 ≤ aae y0.stack (wi (((y0.stack.length : Nat) : Int) - 1)) ∧ aae y0.stack (wi (((y0.stack.length : Nat) : Int) - 1)) < ((y1.recs.length : Nat) : Int) then
   if (aae y0.stack (wi (((y0.stack.length : Nat) : Int) - 1))) = (aae y0.stack (wi (((y0.stack.length : Nat) : Int) - 1))) then
   none
   else none
   else none
   else none
   else
   if 0 ≤ (aab y1.recs (aae y0.stack (wi (((y0.stack.length : Nat) : Int) - 1)))).prog ∧ (aab y1.recs (aae y0.stack (wi (((y0.stack.length : Nat) : Int) - 1)))).prog < ((y1.c.progs.length : Nat) : Int) then
   if 0 ≤ wi (((y0.stack.length : Nat) : Int) - 1) ∧ wi (((y0.stack.length : Nat) : Int) - 1) < ((y0.stack.length : Nat) : Int) then
   if 0 ≤ aae y0.stack (wi (((y0.stack.length : Nat) : Int) - 1)) ∧ aae y0.stack (wi (((y0.stack.length : Nat) : Int) - 1)) < ((y1.recs.length : Nat) : Int) then
   if (aae y0.stack (wi (((y0.stack.length : Nat) : Int) - 1))) = (aae y0.stack (wi (((y0.stack.length : Nat) : Int) - 1))) then
   if 0 ≤ (aab y1.recs (aae y0.stack (wi (((y0.stack.length : Nat) : Int) - 1)))).pc ∧ (aab y1.recs (aae y0.stack (wi (((y0.stack.length : Nat) : Int) - 1)))).pc < (((atL [] y1.c.progs ((aab y1.recs (aae y0.stack (wi (((y0.stack.length : Nat) : Int) - 1)))).prog)).length : Nat) : Int) then
   if 0 ≤ (aco (atL [] y1.c.progs ((aab y1.recs (aae y0.stack (wi (((y0.stack.length : Nat) : Int) - 1)))).prog)) ((aab y1.recs (aae y0.stack (wi (((y0.stack.length : Nat) : Int) - 1)))).pc)).a ∧ (aco (atL [] y1.c.progs ((aab y1.recs (aae y0.stack (wi (((y0.stack.length : Nat) : Int) - 1)))).prog)) ((aab y1.recs (aae y0.stack (wi (((y0.stack.length : Nat) : Int) - 1)))).pc)).a < ((((aab y1.recs (aae y0.stack (wi (((y0.stack.length : Nat) : Int) - 1)))).kids).length : Nat) : Int) then
   (aiU y1.l (aae y0.stack (wi (((y0.stack.length : Nat) : Int) - 1)))).bind fun r1 =>
   if (aae ((aab y1.recs (aae y0.stack (wi (((y0.stack.length : Nat) : Int) - 1)))).kids) ((aco (atL [] y1.c.progs ((aab y1.recs (aae y0.stack (wi (((y0.stack.length : Nat) : Int) - 1)))).prog)) ((aab y1.recs (aae y0.stack (wi (((y0.stack.length : Nat) : Int) - 1)))).pc)).a)) = (aae ((aab y1.recs (aae y0.stack (wi (((y0.stack.length : Nat) : Int) - 1)))).kids) ((aco (atL [] y1.c.progs ((aab y1.recs (aae y0.stack (wi (((y0.stack.length : Nat) : Int) - 1)))).prog)) ((aab y1.recs (aae y0.stack (wi (((y0.stack.length : Nat) : Int) - 1)))).pc)).a)) then
   (aa2 y1.m r1.1.1 (wu (wi ((aae ((aab y1.recs (aae y0.stack (wi (((y0.stack.length : Nat) : Int) - 1)))).kids) ((aco (atL [] y1.c.progs ((aab y1.recs (aae y0.stack (wi (((y0.stack.length : Nat) : Int) - 1)))).prog)) ((aab y1.recs (aae y0.stack (wi (((y0.stack.length : Nat) : Int) - 1)))).pc)).a)) + 1)))).bind fun r2 =>
   (aac ({ y0 with child := aae ((aab y1.recs (aae y0.stack (wi (((y0.stack.length : Nat) : Int) - 1)))).kids) ((aco (atL [] y1.c.progs ((aab y1.recs (aae y0.stack (wi (((y0.stack.length : Nat) : Int) - 1)))).prog)) ((aab y1.recs (aae y0.stack (wi (((y0.stack.length : Nat) : Int) - 1)))).pc)).a) } : (RunV MV)) (wi (y0.line + 1)) MV.nil).bind fun r3 =>
   some ((r3.1.1, ()), (r3.2.1, ({ y1 with m := r2.2.1, recs := ((y1.recs.set (aae y0.stack (wi (((y0.stack.length : Nat) : Int) - 1))).toNat (aab y1.recs (aae y0.stack (wi (((y0.stack.length : Nat) : Int) - 1))))).set (aae y0.stack (wi (((y0.stack.length : Nat) : Int) - 1))).toNat ({ aab (y1.recs.set (aae y0.stack (wi (((y0.stack.length : Nat) : Int) - 1))).toNat (aab y1.recs (aae y0.stack (wi (((y0.stack.length : Nat) : Int) - 1))))) (aae y0.stack (wi (((y0.stack.length : Nat) : Int) - 1))) with pc := wi (((aab (y1.recs.set (aae y0.stack (wi (((y0.stack.length : Nat) : Int) - 1))).toNat (aab y1.recs (aae y0.stack (wi (((y0.stack.length : Nat) : Int) - 1))))) (aae y0.stack (wi (((y0.stack.length : Nat) : Int) - 1)))).pc) + 1) } : RecP)).set (aae y0.stack (wi (((y0.stack.length : Nat) : Int) - 1))).toNat ({ aab ((y1.recs.set (aae y0.stack (wi (((y0.stack.length : Nat) : Int) - 1))).toNat (aab y1.recs (aae y0.stack (wi (((y0.stack.length : Nat) : Int) - 1))))).set (aae y0.stack (wi (((y0.stack.length : Nat) : Int) - 1))).toNat ({ aab (y1.recs.set (aae y0.stack (wi (((y0.stack.length : Nat) : Int) - 1))).toNat (aab y1.recs (aae y0.stack (wi (((y0.stack.length : Nat) : Int) - 1))))) (aae y0.stack (wi (((y0.stack.length : Nat) : Int) - 1))) with pc := wi (((aab (y1.recs.set (aae y0.stack (wi (((y0.stack.length : Nat) : Int) - 1))).toNat (aab y1.recs (aae y0.stack (wi (((y0.stack.length : Nat) : Int) - 1))))) (aae y0.stack (wi (((y0.stack.length : Nat) : Int) - 1)))).pc) + 1) } : RecP)) (aae y0.stack (wi (((y0.stack.length : Nat) : Int) - 1))) with waiting := aae ((aab y1.recs (aae y0.stack (wi (((y0.stack.length : Nat) : Int) - 1)))).kids) ((aco (atL [] y1.c.progs ((aab y1.recs (aae y0.stack (wi (((y0.stack.length : Nat) : Int) - 1)))).prog)) ((aab y1.recs (aae y0.stack (wi (((y0.stack.length : Nat) : Int) - 1)))).pc)).a) } : RecP) } : EnvP), ()))
   else none
   else none
   else none
   else none
   else none
   else none
   else none
   else none
   else none
   else none
   else none
   else none
   else
   if y0.line = 10 then
   (adV y1.l (aae y0.stack (wi (((y0.stack.length : Nat) : Int) - 1)))).bind fun r4 =>
   (aa2 y1.m r4.1.1 3).bind fun r5 =>
   (aac y0 (wi (y0.line + 1)) MV.nil).bind fun r6 =>
   some ((r6.1.1, ()), (r6.2.1, ({ y1 with m := r5.2.1 } : EnvP), ()))
   else
   if y0.line = 11 then
   (am4 y1.l y0.child).bind fun r7 =>
   (ary y1.m r7.1.1 0 (wu (wi ((aae y0.stack (wi (((y0.stack.length : Nat) : Int) - 1))) + 1)))).bind fun r8 =>
   if (!r8.1.1) = true then
   (aac y0 14 MV.nil).bind fun r9 =>
   some ((r9.1.1, ()), (r9.2.1, ({ y1 with m := r8.2.1 } : EnvP), ()))
   else
   (aaJ y0 ({ y1 with m := r8.2.1 } : EnvP) (⟨6, 0, aae y0.stack (wi (((y0.stack.length : Nat) : Int) - 1)), y0.child, 0⟩ : Ev)).bind fun r10 =>
   (aac r10.2.1 (wi (r10.2.1.line + 1)) MV.nil).bind fun r11 =>
   some ((r11.1.1, ()), (r11.2.1, r10.2.2.1, ()))
   else
   if y0.line = 12 then
   (ae5 y1.l (aae y0.stack (wi (((y0.stack.length : Nat) : Int) - 1)))).bind fun r12 =>
   (acv y1.m r12.1.1).bind fun r13 =>
   (ajf y0.worker y0.child (wi (r13.1.1))).bind fun r14 =>
   (aac ({ y0 with level := wi (r13.1.1) } : (RunV MV)) 13 r14.1.1).bind fun r15 =>
   some ((r15.1.1, ()), (r15.2.1, ({ y1 with m := r13.2.1 } : EnvP), ()))
   else
   if y0.line = 13 then
   (ae3 y0.inside y1).bind fun r16 =>
   if (!r16.1.1) = true then
   some ((false, ()), (({ y0 with inside := r16.2.1 } : (RunV MV)), r16.2.2.1, ()))
   else
   (aaJ ({ y0 with inside := r16.2.1 } : (RunV MV)) r16.2.2.1 (⟨7, 0, aae y0.stack (wi (((y0.stack.length : Nat) : Int) - 1)), 0, y0.level⟩ : Ev)).bind fun r17 =>
   (aat r17.2.1).bind fun r18 =>
   some ((r18.1.1, ()), (r18.2.1, r17.2.2.1, ()))
   else
   if y0.line = 14 then
   (adV y1.l (aae y0.stack (wi (((y0.stack.length : Nat) : Int) - 1)))).bind fun r19 =>
   (aa2 y1.m r19.1.1 2).bind fun r20 =>
   (aac y0 (wi (y0.line + 1)) MV.nil).bind fun r21 =>
   some ((r21.1.1, ()), (r21.2.1, ({ y1 with m := r20.2.1 } : EnvP), ()))
   else
   (aiU y1.l (aae y0.stack (wi (((y0.stack.length : Nat) : Int) - 1)))).bind fun r22 =>
   (aa2 y1.m r22.1.1 0).bind fun r23 =>
   if 0 ≤ wi (((y0.stack.length : Nat) : Int) - 1) ∧ wi (((y0.stack.length : Nat) : Int) - 1) < ((y0.stack.length : Nat) : Int) then
   if 0 ≤ aae y0.stack (wi (((y0.stack.length : Nat) : Int) - 1)) ∧ aae y0.stack (wi (((y0.stack.length : Nat) : Int) - 1)) < ((y1.recs.length : Nat) : Int) then
   (aaJ y0 ({ y1 with m := r23.2.1, recs := y1.recs.set (aae y0.stack (wi (((y0.stack.length : Nat) : Int) - 1))).toNat ({ aab y1.recs (aae y0.stack (wi (((y0.stack.length : Nat) : Int) - 1))) with waiting := (-1) } : RecP) } : EnvP) (⟨8, 0, aae y0.stack (wi (((y0.stack.length : Nat) : Int) - 1)), y0.child, 0⟩ : Ev)).bind fun r24 =>
   (aac r24.2.1 0 MV.nil).bind fun r25 =>
   some ((r25.1.1, ()), (r25.2.1, r24.2.2.1, ()))
   else none
   else none
   else none
   else none
   else none
   else none
   else none
   else none
   else none
   else none
   else none
   else none
   else none
   else none
   else none
   else none
   else none
   else none
   else none
   else none
   else none
   else none
   else none
   else none
  else none
 )
noncomputable abbrev ahn : Con SR1 := ⟨199, [.ref 33, .ref 27], [.sh .b], fun x => agD x.1 x.2.1⟩
noncomputable def akK : List (Nat × Func) := [(195, Tryz.f195), (201, Tryz.f201), (204, Tryz.f204), (202, Tryz.f202)]
theorem akL : CO Tryz.prog ahn := aaq aap Tryz.func199 [anj, adK, adp, afF, att, ak6, adU, agm, acz, aoU, ane, af2] ⟨aoa, ade, adD, aeT, auY, ai0, aep, afP, abL, asT, anS, ahm, trivial⟩ akK ⟨Tryz.func195, Tryz.func201, Tryz.func204, Tryz.func202, trivial⟩ (fun _ => []) [] fun x => by kernel_rfl
end Go.Proofs.YtclaldommncdbaaGreat
