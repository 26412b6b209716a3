/- The program's machines in the evaluator's form. The program's machines in the evaluator's form. The program's machines in the evaluator's form: all. Walks: runner.Stack. runner.Stack in the evaluator's form. -/
import Derived.Test.YtlcelajkhklkbaaGreatAqam
import Derived.Test.YtlcelajkhklkbaaGreatRows
import Derived.Test.YtlcelajkhklkbaaGreatAqaa
import Derived.WalkKit
import Derived.Test.YtlcelajkhklkbaaGreatAqaj
set_option linter.all false
namespace Go.Proofs.YtlcelajkhklkbaaGreat
section
open Go Go.RowKit
set_option maxRecDepth 100000
variable [Tb]
noncomputable def aby (y0 : (RunV MV)) (y1 : EnvP) (y2 : Int) (y3 : Int) : Option ((Bool × Unit) × ((RunV MV) × EnvP × Unit)) :=
 if 0 ≤ wi (((y0.stack.length : Nat) : Int) - 1) ∧ wi (((y0.stack.length : Nat) : Int) - 1) < ((y0.stack.length : Nat) : Int) then
  if 0 ≤ aaf y0.stack (wi (((y0.stack.length : Nat) : Int) - 1)) ∧ aaf y0.stack (wi (((y0.stack.length : Nat) : Int) - 1)) < ((y1.recs.length : Nat) : Int) then
   if 0 ≤ wi (((y0.stack.length : Nat) : Int) - 1) ∧ wi (((y0.stack.length : Nat) : Int) - 1) < ((y0.stack.length : Nat) : Int) then
   if 0 ≤ aaf y0.stack (wi (((y0.stack.length : Nat) : Int) - 1)) ∧ aaf y0.stack (wi (((y0.stack.length : Nat) : Int) - 1)) < ((y1.recs.length : Nat) : Int) then
   if ((aad y1.recs (aaf y0.stack (wi (((y0.stack.length : Nat) : Int) - 1)))).prog) < 0 then
   if 0 ≤ wi (((y0.stack.length : Nat) : Int) - 1) ∧ wi (((y0.stack.length : Nat) : Int) - 1) < ((y0.stack.length : Nat) : Int) then
   if 0 ≤ aaf y0.stack (wi (((y0.stack.length : Nat) : Int) - 1)) ∧ aaf y0.stack (wi (((y0.stack.length : Nat) : Int) - 1)) < ((y1.recs.length : Nat) : Int) then
   none
   else none
   else none
   else
   if ((y1.c.progs.length : Nat) : Int) ≤ ((aad y1.recs (aaf y0.stack (wi (((y0.stack.length : Nat) : Int) - 1)))).prog) then
   if 0 ≤ wi (((y0.stack.length : Nat) : Int) - 1) ∧ wi (((y0.stack.length : Nat) : Int) - 1) < ((y0.stack.length : Nat) : Int) then
   if 0 ≤ aaf y0.stack (wi (((y0.stack.length : Nat) : Int) - 1)) ∧ aaf y0.stack (wi (((y0.stack.length : Nat) : Int) - 1)) < ((y1.recs.length : Nat) : Int) then
   none
   else none
   else none
   else
   if 0 ≤ (aad y1.recs (aaf y0.stack (wi (((y0.stack.length : Nat) : Int) - 1)))).prog ∧ (aad y1.recs (aaf y0.stack (wi (((y0.stack.length : Nat) : Int) - 1)))).prog < ((y1.c.progs.length : Nat) : Int) then
   if 0 ≤ wi (((y0.stack.length : Nat) : Int) - 1) ∧ wi (((y0.stack.length : Nat) : Int) - 1) < ((y0.stack.length : Nat) : Int) then
   if 0 ≤ aaf y0.stack (wi (((y0.stack.length : Nat) : Int) - 1)) ∧ aaf y0.stack (wi (((y0.stack.length : Nat) : Int) - 1)) < ((y1.recs.length : Nat) : Int) then
   if 0 ≤ (aad y1.recs (aaf y0.stack (wi (((y0.stack.length : Nat) : Int) - 1)))).pc ∧ (aad y1.recs (aaf y0.stack (wi (((y0.stack.length : Nat) : Int) - 1)))).pc < (((atL [] y1.c.progs ((aad y1.recs (aaf y0.stack (wi (((y0.stack.length : Nat) : Int) - 1)))).prog)).length : Nat) : Int) then
   if y2 = 3 then
   if (((((aad (y1.recs.set (aaf y0.stack (wi (((y0.stack.length : Nat) : Int) - 1))).toNat ({ aad y1.recs (aaf y0.stack (wi (((y0.stack.length : Nat) : Int) - 1))) with pc := wi (((aad y1.recs (aaf y0.stack (wi (((y0.stack.length : Nat) : Int) - 1)))).pc) + 1) } : RecP)) (aaf y0.stack (wi (((y0.stack.length : Nat) : Int) - 1)))).kids).length + ([(-1)] : List Int).length : Nat)) : Int) < 1000000000000 then
   if 0 ≤ wi (((y0.stack.length : Nat) : Int) - 1) ∧ wi (((y0.stack.length : Nat) : Int) - 1) < ((y0.stack.length : Nat) : Int) then
   (aaC y0 ({ y1 with recs := (y1.recs.set (aaf y0.stack (wi (((y0.stack.length : Nat) : Int) - 1))).toNat ({ aad y1.recs (aaf y0.stack (wi (((y0.stack.length : Nat) : Int) - 1))) with pc := wi (((aad y1.recs (aaf y0.stack (wi (((y0.stack.length : Nat) : Int) - 1)))).pc) + 1) } : RecP)).set (aaf y0.stack (wi (((y0.stack.length : Nat) : Int) - 1))).toNat ({ aad (y1.recs.set (aaf y0.stack (wi (((y0.stack.length : Nat) : Int) - 1))).toNat ({ aad y1.recs (aaf y0.stack (wi (((y0.stack.length : Nat) : Int) - 1))) with pc := wi (((aad y1.recs (aaf y0.stack (wi (((y0.stack.length : Nat) : Int) - 1)))).pc) + 1) } : RecP)) (aaf y0.stack (wi (((y0.stack.length : Nat) : Int) - 1))) with kids := ((aad (y1.recs.set (aaf y0.stack (wi (((y0.stack.length : Nat) : Int) - 1))).toNat ({ aad y1.recs (aaf y0.stack (wi (((y0.stack.length : Nat) : Int) - 1))) with pc := wi (((aad y1.recs (aaf y0.stack (wi (((y0.stack.length : Nat) : Int) - 1)))).pc) + 1) } : RecP)) (aaf y0.stack (wi (((y0.stack.length : Nat) : Int) - 1)))).kids) ++ ([(-1)]) } : RecP) } : EnvP) (⟨4, 0, aaf y0.stack (wi (((y0.stack.length : Nat) : Int) - 1)), 0, 0⟩ : Ev)).bind fun r1 =>
   (aae r1.2.1 0 MV.nil).bind fun r2 =>
   some ((r2.1.1, ()), (r2.2.1, r1.2.2.1, ()))
   else none
   else none
   else
   if (((((aad (y1.recs.set (aaf y0.stack (wi (((y0.stack.length : Nat) : Int) - 1))).toNat ({ aad y1.recs (aaf y0.stack (wi (((y0.stack.length : Nat) : Int) - 1))) with pc := wi (((aad y1.recs (aaf y0.stack (wi (((y0.stack.length : Nat) : Int) - 1)))).pc) + 1) } : RecP)) (aaf y0.stack (wi (((y0.stack.length : Nat) : Int) - 1)))).kids).length + ([y3] : List Int).length : Nat)) : Int) < 1000000000000 then
   if 0 ≤ wi (((y0.stack.length : Nat) : Int) - 1) ∧ wi (((y0.stack.length : Nat) : Int) - 1) < ((y0.stack.length : Nat) : Int) then
   if ((abb (atL [] y1.c.progs ((aad y1.recs (aaf y0.stack (wi (((y0.stack.length : Nat) : Int) - 1)))).prog)) ((aad y1.recs (aaf y0.stack (wi (((y0.stack.length : Nat) : Int) - 1)))).pc)).a) = ((abb (atL [] y1.c.progs ((aad y1.recs (aaf y0.stack (wi (((y0.stack.length : Nat) : Int) - 1)))).prog)) ((aad y1.recs (aaf y0.stack (wi (((y0.stack.length : Nat) : Int) - 1)))).pc)).a) then
   if 0 ≤ y3 ∧ y3 < ((((y1.recs.set (aaf y0.stack (wi (((y0.stack.length : Nat) : Int) - 1))).toNat ({ aad y1.recs (aaf y0.stack (wi (((y0.stack.length : Nat) : Int) - 1))) with pc := wi (((aad y1.recs (aaf y0.stack (wi (((y0.stack.length : Nat) : Int) - 1)))).pc) + 1) } : RecP)).set (aaf y0.stack (wi (((y0.stack.length : Nat) : Int) - 1))).toNat ({ aad (y1.recs.set (aaf y0.stack (wi (((y0.stack.length : Nat) : Int) - 1))).toNat ({ aad y1.recs (aaf y0.stack (wi (((y0.stack.length : Nat) : Int) - 1))) with pc := wi (((aad y1.recs (aaf y0.stack (wi (((y0.stack.length : Nat) : Int) - 1)))).pc) + 1) } : RecP)) (aaf y0.stack (wi (((y0.stack.length : Nat) : Int) - 1))) with kids := ((aad (y1.recs.set (aaf y0.stack (wi (((y0.stack.length : Nat) : Int) - 1))).toNat ({ aad y1.recs (aaf y0.stack (wi (((y0.stack.length : Nat) : Int) - 1))) with pc := wi (((aad y1.recs (aaf y0.stack (wi (((y0.stack.length : Nat) : Int) - 1)))).pc) + 1) } : RecP)) (aaf y0.stack (wi (((y0.stack.length : Nat) : Int) - 1)))).kids) ++ ([y3]) } : RecP)).length : Nat) : Int) then
   if ((abb (atL [] y1.c.progs ((aad y1.recs (aaf y0.stack (wi (((y0.stack.length : Nat) : Int) - 1)))).prog)) ((aad y1.recs (aaf y0.stack (wi (((y0.stack.length : Nat) : Int) - 1)))).pc)).b) = ((abb (atL [] y1.c.progs ((aad y1.recs (aaf y0.stack (wi (((y0.stack.length : Nat) : Int) - 1)))).prog)) ((aad y1.recs (aaf y0.stack (wi (((y0.stack.length : Nat) : Int) - 1)))).pc)).b) then
   (afP y3 ((abb (atL [] y1.c.progs ((aad y1.recs (aaf y0.stack (wi (((y0.stack.length : Nat) : Int) - 1)))).prog)) ((aad y1.recs (aaf y0.stack (wi (((y0.stack.length : Nat) : Int) - 1)))).pc)).b)).bind fun r3 =>
   (aae ({ y0 with id := y3, level := (abb (atL [] y1.c.progs ((aad y1.recs (aaf y0.stack (wi (((y0.stack.length : Nat) : Int) - 1)))).prog)) ((aad y1.recs (aaf y0.stack (wi (((y0.stack.length : Nat) : Int) - 1)))).pc)).b } : (RunV MV)) 5 r3.1.1).bind fun r4 =>
   some ((r4.1.1, ()), (r4.2.1, ({ y1 with recs := ((y1.recs.set (aaf y0.stack (wi (((y0.stack.length : Nat) : Int) - 1))).toNat ({ aad y1.recs (aaf y0.stack (wi (((y0.stack.length : Nat) : Int) - 1))) with pc := wi (((aad y1.recs (aaf y0.stack (wi (((y0.stack.length : Nat) : Int) - 1)))).pc) + 1) } : RecP)).set (aaf y0.stack (wi (((y0.stack.length : Nat) : Int) - 1))).toNat ({ aad (y1.recs.set (aaf y0.stack (wi (((y0.stack.length : Nat) : Int) - 1))).toNat ({ aad y1.recs (aaf y0.stack (wi (((y0.stack.length : Nat) : Int) - 1))) with pc := wi (((aad y1.recs (aaf y0.stack (wi (((y0.stack.length : Nat) : Int) - 1)))).pc) + 1) } : RecP)) (aaf y0.stack (wi (((y0.stack.length : Nat) : Int) - 1))) with kids := ((aad (y1.recs.set (aaf y0.stack (wi (((y0.stack.length : Nat) : Int) - 1))).toNat ({ aad y1.recs (aaf y0.stack (wi (((y0.stack.length : Nat) : Int) - 1))) with pc := wi (((aad y1.recs (aaf y0.stack (wi (((y0.stack.length : Nat) : Int) - 1)))).pc) + 1) } : RecP)) (aaf y0.stack (wi (((y0.stack.length : Nat) : Int) - 1)))).kids) ++ ([y3]) } : RecP)).set y3.toNat (⟨(abb (atL [] y1.c.progs ((aad y1.recs (aaf y0.stack (wi (((y0.stack.length : Nat) : Int) - 1)))).prog)) ((aad y1.recs (aaf y0.stack (wi (((y0.stack.length : Nat) : Int) - 1)))).pc)).a, aaf y0.stack (wi (((y0.stack.length : Nat) : Int) - 1)), 0, 0, (-1), [], false⟩ : RecP) } : EnvP), ()))
   else none
   else none
   else none
   else none
   else none
   else none
   else none
   else none
   else none
   else none
   else none
  else none
 else none
noncomputable abbrev aeO : Con SR1 := ⟨143, [.ref 32, .ref 27, .sh sI_, .sh sI_], [.sh .b], fun x => aby x.1 x.2.1 x.2.2.1 x.2.2.2.1⟩
noncomputable def ahO : List (Nat × Func) := [(138, Tryz.f138), (131, Tryz.f131), (141, Tryz.f141), (139, Tryz.f139)]
theorem ahP : CO Tryz.prog aeO := aas aar Tryz.func143 [ac1, acu, af1] ⟨adA, acE, ahK, trivial⟩ ahO ⟨Tryz.func138, Tryz.func131, Tryz.func141, Tryz.func139, trivial⟩ (fun _ => []) [(8, .close)] fun x => by kernel_rfl
noncomputable def aa2 (y0 : (RunV MV)) (y1 : EnvP) : Option ((Bool × Unit) × ((RunV MV) × EnvP × Unit)) :=
 (ad8 y0.inside y1).bind fun r1 =>
 if (!r1.1.1) = true then
  some ((false, ()), (({ y0 with inside := r1.2.1 } : (RunV MV)), r1.2.2.1, ()))
 else
 (acK r1.2.1).bind fun r2 =>
 if y0.line = 4 then
  (aby ({ y0 with inside := r2.2.1 } : (RunV MV)) r1.2.2.1 r2.1.1 r2.1.2.1).bind fun r3 =>
  some ((r3.1.1, ()), (r3.2.1, r3.2.2.1, ()))
 else
 if y0.line = 5 then
  if 0 ≤ wi (((y0.stack.length : Nat) : Int) - 1) ∧ wi (((y0.stack.length : Nat) : Int) - 1) < ((y0.stack.length : Nat) : Int) then
   if y0.level = y0.level then
   if y0.id = y0.id then
   (aaC ({ y0 with inside := r2.2.1 } : (RunV MV)) r1.2.2.1 (⟨3, 0, y0.id, aaf y0.stack (wi (((y0.stack.length : Nat) : Int) - 1)), y0.level⟩ : Ev)).bind fun r4 =>
   (ack r4.2.1.worker r4.2.1.level r4.2.1.id).bind fun r5 =>
   (aae r4.2.1 6 r5.1.1).bind fun r6 =>
   some ((r6.1.1, ()), (r6.2.1, r4.2.2.1, ()))
   else none
   else none
  else none
 else
 if y0.line = 6 then
  if r2.1.1 = 3 then
   (acD y0.worker y0.id).bind fun r7 =>
   (aae ({ y0 with inside := r2.2.1 } : (RunV MV)) 8 r7.1.1).bind fun r8 =>
   some ((r8.1.1, ()), (r8.2.1, r1.2.2.1, ()))
  else
  (acL y0.worker y0.level).bind fun r9 =>
  (aae ({ y0 with inside := r2.2.1 } : (RunV MV)) 7 r9.1.1).bind fun r10 =>
  some ((r10.1.1, ()), (r10.2.1, r1.2.2.1, ()))
 else
 if y0.line = 8 then
  if r2.1.1 = 1 then
   if (((y0.stack.length + ([y0.id] : List Int).length : Nat)) : Int) < 1000000000000 then
   (aae ({ y0 with stack := y0.stack ++ ([y0.id]), inside := r2.2.1 } : (RunV MV)) 0 MV.nil).bind fun r11 =>
   some ((r11.1.1, ()), (r11.2.1, r1.2.2.1, ()))
   else none
  else
  (aae ({ y0 with inside := r2.2.1 } : (RunV MV)) 0 MV.nil).bind fun r12 =>
  some ((r12.1.1, ()), (r12.2.1, r1.2.2.1, ()))
 else
 (aae ({ y0 with inside := r2.2.1 } : (RunV MV)) 0 MV.nil).bind fun r13 =>
 some ((r13.1.1, ()), (r13.2.1, r1.2.2.1, ()))
noncomputable abbrev ahj : Con SR1 := ⟨135, [.ref 32, .ref 27], [.sh .b], fun x => aa2 x.1 x.2.1⟩
noncomputable def aj6 : List (Nat × Func) := [(131, Tryz.f131)]
theorem aj7 : CO Tryz.prog ahj := aas aar Tryz.func135 [ala, aka, aeO, ac1, adM, acu, aev, aii] ⟨alu, alC, ahP, adA, adY, acE, aeX, aiO, trivial⟩ aj6 ⟨Tryz.func131, trivial⟩ (fun _ => []) [] fun x => by kernel_rfl
noncomputable def ah6 (y0 : Int) (y1 : Int) (y2 : Int) : Option ((MV × Unit) × (Unit)) :=
 some ((MV.walk (⟨⟨false, 0, 0⟩, y0, y1, y2, 1, MV.nil⟩ : (WalkV MV)), ()), (()))
noncomputable abbrev amq : Con SR1 := ⟨152, [.sh sI_, .sh sI_, .sh sI_], [.sh .mach], fun x => ah6 x.1 x.2.1 x.2.2.1⟩
theorem apj : CO Tryz.prog amq := aas aar Tryz.func152 [] trivial [] trivial (fun _ => []) [] fun x => by kernel_rfl
noncomputable def aaq (y0 : (RunV MV)) : Option ((Bool × Unit) × ((RunV MV) × Unit)) :=
 if 0 ≤ wi (((y0.stack.length : Nat) : Int) - 1) ∧ wi (((y0.stack.length : Nat) : Int) - 1) ≤ ((y0.stack.length : Nat) : Int) then
  if (((y0.stack.take (wi (((y0.stack.length : Nat) : Int) - 1) : Int).toNat).length : Nat) : Int) = 0 then
   (abH y0.o 0 0).bind fun r1 =>
   some ((r1.1.1, ()), (({ y0 with o := r1.2.1, stack := y0.stack.take (wi (((y0.stack.length : Nat) : Int) - 1) : Int).toNat } : (RunV MV)), ()))
  else
  (aae ({ y0 with stack := y0.stack.take (wi (((y0.stack.length : Nat) : Int) - 1) : Int).toNat } : (RunV MV)) 0 MV.nil).bind fun r2 =>
  some ((r2.1.1, ()), (r2.2.1, ()))
 else none
noncomputable abbrev aeI : Con SR1 := ⟨153, [.ref 32], [.sh .b], fun x => aaq x.1⟩
theorem ags : CO Tryz.prog aeI := aas aar Tryz.func153 [abS, acu] ⟨abd, acE, trivial⟩ [] trivial (fun _ => []) [] fun x => by kernel_rfl
noncomputable def afo (y0 : (RunV MV)) (y1 : EnvP) : Option ((Bool × Unit) × ((RunV MV) × EnvP × Unit)) :=
 agr (
  if 0 ≤ wi (((y0.stack.length : Nat) : Int) - 1) ∧ wi (((y0.stack.length : Nat) : Int) - 1) < ((y0.stack.length : Nat) : Int) then
   if y1.l.workers = y1.l.workers then
   if y1.l.levels = y1.l.levels then
   if y1.l.classes = y1.l.classes then
   if y1.l.tasks = y1.l.tasks then
   if y1.l.deque = y1.l.deque then
   if y1.l.heap = y1.l.heap then
   if y1.l.sleepers = y1.l.sleepers then
   if y1.l.epochs = y1.l.epochs then
   if y1.l.bitmaps = y1.l.bitmaps then
   if y1.l.queues = y1.l.queues then
   if y1.l.table = y1.l.table then
   if y1.l.workers = y1.l.workers then
   if y1.l.levels = y1.l.levels then
   if y1.l.classes = y1.l.classes then
   if y1.l.tasks = y1.l.tasks then
   if y1.l.deque = y1.l.deque then
   if y1.l.heap = y1.l.heap then
   if y1.l.sleepers = y1.l.sleepers then
   if y1.l.epochs = y1.l.epochs then
   if y1.l.bitmaps = y1.l.bitmaps then
   if y1.l.queues = y1.l.queues then
   if y1.l.table = y1.l.table then
   if y0.line = 9 then
   if 0 ≤ wi (((y0.stack.length : Nat) : Int) - 1) ∧ wi (((y0.stack.length : Nat) : Int) - 1) < ((y0.stack.length : Nat) : Int) then
   if 0 ≤ aaf y0.stack (wi (((y0.stack.length : Nat) : Int) - 1)) ∧ aaf y0.stack (wi (((y0.stack.length : Nat) : Int) - 1)) < ((y1.recs.length : Nat) : Int) then
   if 0 ≤ wi (((y0.stack.length : Nat) : Int) - 1) ∧ wi (((y0.stack.length : Nat) : Int) - 1) < ((y0.stack.length : Nat) : Int) then
   if 0 ≤ aaf y0.stack (wi (((y0.stack.length : Nat) : Int) - 1)) ∧ aaf y0.stack (wi (((y0.stack.length : Nat) : Int) - 1)) < ((y1.recs.length : Nat) : Int) then
   if (aaf y0.stack (wi (((y0.stack.length : Nat) : Int) - 1))) = (aaf y0.stack (wi (((y0.stack.length : Nat) : Int) - 1))) then
   if ((aad y1.recs (aaf y0.stack (wi (((y0.stack.length : Nat) : Int) - 1)))).prog) < 0 then
   if 0 ≤ wi (((y0.stack.length : Nat) : Int) - 1) ∧ wi (((y0.stack.length : Nat) : Int) - 1) < ((y0.stack.length : Nat) : Int) then
   if 0 ≤ aaf y0.stack (wi (((y0.stack.length : Nat) : Int) - 1)) ∧ aaf y0.stack (wi (((y0.stack.length : Nat) : Int) - 1)) < ((y1.recs.length : Nat) : Int) then
   if (aaf y0.stack (wi (((y0.stack.length : Nat) : Int) - 1))) = (aaf y0.stack (wi (((y0.stack.length : Nat) : Int) - 1))) then
   none
   else none
   else none
   else none
   else
   if ((y1.c.progs.length : Nat) : Int) ≤ ((aad y1.recs (aaf y0.stack (wi (((y0.stack.length : Nat) : Int) - 1)))).prog) then
   if 0 ≤ wi (((y0.stack.length : Nat) : Int) - 1) ∧ wi (((y0.stack.length : Nat) : Int) - 1) < ((y0.stack.length : Nat) : Int) then
   if 0 ≤ aaf y0.stack (wi (((y0.stack.length : Nat) : Int) - 1)) ∧ aaf y0.stack (wi (((y0.stack.length : Nat) : Int) - 1)) < ((y1.recs.length : Nat) : Int) then
   if (aaf y0.stack (wi (((y0.stack.length : Nat) : Int) - 1))) = (aaf y0.stack (wi (((y0.stack.length : Nat) : Int) - 1))) then
   none
   else none
   else none
   else none
   else
   if 0 ≤ (aad y1.recs (aaf y0.stack (wi (((y0.stack.length : Nat) : Int) - 1)))).prog ∧ (aad y1.recs (aaf y0.stack (wi (((y0.stack.length : Nat) : Int) - 1)))).prog < ((y1.c.progs.length : Nat) : Int) then
   if 0 ≤ wi (((y0.stack.length : Nat) : Int) - 1) ∧ wi (((y0.stack.length : Nat) : Int) - 1) < ((y0.stack.length : Nat) : Int) then
   if 0 ≤ aaf y0.stack (wi (((y0.stack.length : Nat) : Int) - 1)) ∧ aaf y0.stack (wi (((y0.stack.length : Nat) : Int) - 1)) < ((y1.recs.length : Nat) : Int) then
   if (aaf y0.stack (wi (((y0.stack.length : Nat) : Int) - 1))) = (aaf y0.stack (wi (((y0.stack.length : Nat) : Int) - 1))) then
   if 0 ≤ (aad y1.recs (aaf y0.stack (wi (((y0.stack.length : Nat) : Int) - 1)))).pc ∧ (aad y1.recs (aaf y0.stack (wi (((y0.stack.length : Nat) : Int) - 1)))).pc < (((atL [] y1.c.progs ((aad y1.recs (aaf y0.stack (wi (((y0.stack.length : Nat) : Int) - 1)))).prog)).length : Nat) : Int) then
   if 0 ≤ (abb (atL [] y1.c.progs ((aad y1.recs (aaf y0.stack (wi (((y0.stack.length : Nat) : Int) - 1)))).prog)) ((aad y1.recs (aaf y0.stack (wi (((y0.stack.length : Nat) : Int) - 1)))).pc)).a ∧ (abb (atL [] y1.c.progs ((aad y1.recs (aaf y0.stack (wi (((y0.stack.length : Nat) : Int) - 1)))).prog)) ((aad y1.recs (aaf y0.stack (wi (((y0.stack.length : Nat) : Int) - 1)))).pc)).a < ((((aad y1.recs (aaf y0.stack (wi (((y0.stack.length : Nat) : Int) - 1)))).kids).length : Nat) : Int) then
   (ahT y1.l (aaf y0.stack (wi (((y0.stack.length : Nat) : Int) - 1)))).bind fun r26 =>
   if (aaf ((aad y1.recs (aaf y0.stack (wi (((y0.stack.length : Nat) : Int) - 1)))).kids) ((abb (atL [] y1.c.progs ((aad y1.recs (aaf y0.stack (wi (((y0.stack.length : Nat) : Int) - 1)))).prog)) ((aad y1.recs (aaf y0.stack (wi (((y0.stack.length : Nat) : Int) - 1)))).pc)).a)) = (aaf ((aad y1.recs (aaf y0.stack (wi (((y0.stack.length : Nat) : Int) - 1)))).kids) ((abb (atL [] y1.c.progs ((aad y1.recs (aaf y0.stack (wi (((y0.stack.length : Nat) : Int) - 1)))).prog)) ((aad y1.recs (aaf y0.stack (wi (((y0.stack.length : Nat) : Int) - 1)))).pc)).a)) then
   (abf y1.m r26.1.1 (wu (wi ((aaf ((aad y1.recs (aaf y0.stack (wi (((y0.stack.length : Nat) : Int) - 1)))).kids) ((abb (atL [] y1.c.progs ((aad y1.recs (aaf y0.stack (wi (((y0.stack.length : Nat) : Int) - 1)))).prog)) ((aad y1.recs (aaf y0.stack (wi (((y0.stack.length : Nat) : Int) - 1)))).pc)).a)) + 1)))).bind fun r27 =>
   (aae ({ y0 with child := aaf ((aad y1.recs (aaf y0.stack (wi (((y0.stack.length : Nat) : Int) - 1)))).kids) ((abb (atL [] y1.c.progs ((aad y1.recs (aaf y0.stack (wi (((y0.stack.length : Nat) : Int) - 1)))).prog)) ((aad y1.recs (aaf y0.stack (wi (((y0.stack.length : Nat) : Int) - 1)))).pc)).a) } : (RunV MV)) (wi (y0.line + 1)) MV.nil).bind fun r28 =>
   some ((r28.1.1, ()), (r28.2.1, ({ y1 with m := r27.2.1, recs := ((y1.recs.set (aaf y0.stack (wi (((y0.stack.length : Nat) : Int) - 1))).toNat (aad y1.recs (aaf y0.stack (wi (((y0.stack.length : Nat) : Int) - 1))))).set (aaf y0.stack (wi (((y0.stack.length : Nat) : Int) - 1))).toNat ({ aad (y1.recs.set (aaf y0.stack (wi (((y0.stack.length : Nat) : Int) - 1))).toNat (aad y1.recs (aaf y0.stack (wi (((y0.stack.length : Nat) : Int) - 1))))) (aaf y0.stack (wi (((y0.stack.length : Nat) : Int) - 1))) with pc := wi (((aad (y1.recs.set (aaf y0.stack (wi (((y0.stack.length : Nat) : Int) - 1))).toNat (aad y1.recs (aaf y0.stack (wi (((y0.stack.length : Nat) : Int) - 1))))) (aaf y0.stack (wi (((y0.stack.length : Nat) : Int) - 1)))).pc) + 1) } : RecP)).set (aaf y0.stack (wi (((y0.stack.length : Nat) : Int) - 1))).toNat ({ aad ((y1.recs.set (aaf y0.stack (wi (((y0.stack.length : Nat) : Int) - 1))).toNat (aad y1.recs (aaf y0.stack (wi (((y0.stack.length : Nat) : Int) - 1))))).set (aaf y0.stack (wi (((y0.stack.length : Nat) : Int) - 1))).toNat ({ aad (y1.recs.set (aaf y0.stack (wi (((y0.stack.length : Nat) : Int) - 1))).toNat (aad y1.recs (aaf y0.stack (wi (((y0.stack.length : Nat) : Int) - 1))))) (aaf y0.stack (wi (((y0.stack.length : Nat) : Int) - 1))) with pc := wi (((aad (y1.recs.set (aaf y0.stack (wi (((y0.stack.length : Nat) : Int) - 1))).toNat (aad y1.recs (aaf y0.stack (wi (((y0.stack.length : Nat) : Int) - 1))))) (aaf y0.stack (wi (((y0.stack.length : Nat) : Int) - 1)))).pc) + 1) } : RecP)) (aaf y0.stack (wi (((y0.stack.length : Nat) : Int) - 1))) with waiting := aaf ((aad y1.recs (aaf y0.stack (wi (((y0.stack.length : Nat) : Int) - 1)))).kids) ((abb (atL [] y1.c.progs ((aad y1.recs (aaf y0.stack (wi (((y0.stack.length : Nat) : Int) - 1)))).prog)) ((aad y1.recs (aaf y0.stack (wi (((y0.stack.length : Nat) : Int) - 1)))).pc)).a) } : RecP) } : EnvP), ()))
   else none
   else none
   else none
   else none
   else none
   else none
   else none
   else none
   else none
   else none
   else none
   else none
   else
   if y0.line = 10 then
   (aex y1.l (aaf y0.stack (wi (((y0.stack.length : Nat) : Int) - 1)))).bind fun r29 =>
   (abf y1.m r29.1.1 3).bind fun r30 =>
   (aae y0 (wi (y0.line + 1)) MV.nil).bind fun r31 =>
   some ((r31.1.1, ()), (r31.2.1, ({ y1 with m := r30.2.1 } : EnvP), ()))
   else
   if y0.line = 11 then
   (ak1 y1.l y0.child).bind fun r32 =>
   (aog y1.m r32.1.1 0 (wu (wi ((aaf y0.stack (wi (((y0.stack.length : Nat) : Int) - 1))) + 1)))).bind fun r33 =>
   if (!r33.1.1) = true then
   (aae y0 14 MV.nil).bind fun r34 =>
   some ((r34.1.1, ()), (r34.2.1, ({ y1 with m := r33.2.1 } : EnvP), ()))
   else
   (aaC y0 ({ y1 with m := r33.2.1 } : EnvP) (⟨6, 0, aaf y0.stack (wi (((y0.stack.length : Nat) : Int) - 1)), y0.child, 0⟩ : Ev)).bind fun r35 =>
   (aae r35.2.1 (wi (r35.2.1.line + 1)) MV.nil).bind fun r36 =>
   some ((r36.1.1, ()), (r36.2.1, r35.2.2.1, ()))
   else
   if y0.line = 12 then
   (afw y1.l (aaf y0.stack (wi (((y0.stack.length : Nat) : Int) - 1)))).bind fun r37 =>
   (acb y1.m r37.1.1).bind fun r38 =>
   (ah6 y0.worker y0.child (wi (r38.1.1))).bind fun r39 =>
   (aae ({ y0 with level := wi (r38.1.1) } : (RunV MV)) 13 r39.1.1).bind fun r40 =>
   some ((r40.1.1, ()), (r40.2.1, ({ y1 with m := r38.2.1 } : EnvP), ()))
   else
   if y0.line = 13 then
   (ad8 y0.inside y1).bind fun r41 =>
   if (!r41.1.1) = true then
   some ((false, ()), (({ y0 with inside := r41.2.1 } : (RunV MV)), r41.2.2.1, ()))
   else
   (aaC ({ y0 with inside := r41.2.1 } : (RunV MV)) r41.2.2.1 (⟨7, 0, aaf y0.stack (wi (((y0.stack.length : Nat) : Int) - 1)), 0, y0.level⟩ : Ev)).bind fun r42 =>
   (aaq r42.2.1).bind fun r43 =>
   some ((r43.1.1, ()), (r43.2.1, r42.2.2.1, ()))
   else
   if y0.line = 14 then
   (aex y1.l (aaf y0.stack (wi (((y0.stack.length : Nat) : Int) - 1)))).bind fun r44 =>
   (abf y1.m r44.1.1 2).bind fun r45 =>
   (aae y0 (wi (y0.line + 1)) MV.nil).bind fun r46 =>
   some ((r46.1.1, ()), (r46.2.1, ({ y1 with m := r45.2.1 } : EnvP), ()))
   else
   (ahT y1.l (aaf y0.stack (wi (((y0.stack.length : Nat) : Int) - 1)))).bind fun r47 =>
   (abf y1.m r47.1.1 0).bind fun r48 =>
   if 0 ≤ wi (((y0.stack.length : Nat) : Int) - 1) ∧ wi (((y0.stack.length : Nat) : Int) - 1) < ((y0.stack.length : Nat) : Int) then
   if 0 ≤ aaf y0.stack (wi (((y0.stack.length : Nat) : Int) - 1)) ∧ aaf y0.stack (wi (((y0.stack.length : Nat) : Int) - 1)) < ((y1.recs.length : Nat) : Int) then
   (aaC y0 ({ y1 with m := r48.2.1, recs := y1.recs.set (aaf y0.stack (wi (((y0.stack.length : Nat) : Int) - 1))).toNat ({ aad y1.recs (aaf y0.stack (wi (((y0.stack.length : Nat) : Int) - 1))) with waiting := (-1) } : RecP) } : EnvP) (⟨8, 0, aaf y0.stack (wi (((y0.stack.length : Nat) : Int) - 1)), y0.child, 0⟩ : Ev)).bind fun r49 =>
   (aae r49.2.1 0 MV.nil).bind fun r50 =>
   some ((r50.1.1, ()), (r50.2.1, r49.2.2.1, ()))
   else none
   else none
   else none
   else none
   else none
   else none
   else none
   else none
   else none
   else none
   else none
   else none
   else none
   else none
   else none
   else none
   else none
   else none
   else none
   else none
   else none
   else none
   else none
   else none
  else none
 ) (
  if y1.l.workers = y1.l.workers then
   if y1.l.levels = y1.l.levels then
   if y1.l.classes = y1.l.classes then
   if y1.l.tasks = y1.l.tasks then
   if y1.l.deque = y1.l.deque then
   if y1.l.heap = y1.l.heap then
   if y1.l.sleepers = y1.l.sleepers then
   if y1.l.epochs = y1.l.epochs then
   if y1.l.bitmaps = y1.l.bitmaps then
   if y1.l.queues = y1.l.queues then
   if y1.l.table = y1.l.table then
   if 0 ≤ wi (((y0.stack.length : Nat) : Int) - 1) ∧ wi (((y0.stack.length : Nat) : Int) - 1) < ((y0.stack.length : Nat) : Int) then
   if y1.l.workers = y1.l.workers then
   if y1.l.levels = y1.l.levels then
   if y1.l.classes = y1.l.classes then
   if y1.l.tasks = y1.l.tasks then
   if y1.l.deque = y1.l.deque then
   if y1.l.heap = y1.l.heap then
   if y1.l.sleepers = y1.l.sleepers then
   if y1.l.epochs = y1.l.epochs then
   if y1.l.bitmaps = y1.l.bitmaps then
   if y1.l.queues = y1.l.queues then
   if y1.l.table = y1.l.table then
   if y0.line = 9 then
   if 0 ≤ wi (((y0.stack.length : Nat) : Int) - 1) ∧ wi (((y0.stack.length : Nat) : Int) - 1) < ((y0.stack.length : Nat) : Int) then
   if 0 ≤ aaf y0.stack (wi (((y0.stack.length : Nat) : Int) - 1)) ∧ aaf y0.stack (wi (((y0.stack.length : Nat) : Int) - 1)) < ((y1.recs.length : Nat) : Int) then
   if 0 ≤ wi (((y0.stack.length : Nat) : Int) - 1) ∧ wi (((y0.stack.length : Nat) : Int) - 1) < ((y0.stack.length : Nat) : Int) then
   if 0 ≤ aaf y0.stack (wi (((y0.stack.length : Nat) : Int) - 1)) ∧ aaf y0.stack (wi (((y0.stack.length : Nat) : Int) - 1)) < ((y1.recs.length : Nat) : Int) then
   if (aaf y0.stack (wi (((y0.stack.length : Nat) : Int) - 1))) = (aaf y0.stack (wi (((y0.stack.length : Nat) : Int) - 1))) then
   if ((aad y1.recs (aaf y0.stack (wi (((y0.stack.length : Nat) : Int) - 1)))).prog) < 0 then
   if 0 ≤ wi (((y0.stack.length : Nat) : Int) - 1) ∧ wi (((y0.stack.length : Nat) : Int) - 1) < ((y0.stack.length : Nat) : Int) then
   if 0 ≤ aaf y0.stack (wi (((y0.stack.length : Nat) : Int) - 1)) ∧ aaf y0.stack (wi (((y0.stack.length : Nat) : Int) - 1)) < ((y1.recs.length : Nat) : Int) then
   if (aaf y0.stack (wi (((y0.stack.length : Nat) : Int) - 1))) = (aaf y0.stack (wi (((y0.stack.length : Nat) : Int) - 1))) then
   none
   else none
   else none
   else none
   else
   if ((y1.c.progs.length : Nat) : Int) ≤ ((aad y1.recs (aaf y0.stack (wi (((y0.stack.length : Nat) : Int) - 1)))).prog) then
   if 0 ≤ wi (((y0.stack.length : Nat) : Int) - 1) ∧ wi (((y0.stack.length : Nat) : Int) - 1) < ((y0.stack.length : Nat) : Int) then
   if 0 ≤ aaf y0.stack (wi (((y0.stack.length : Nat) : Int) - 1)) ∧ aaf y0.stack (wi (((y0.stack.length : Nat) : Int) - 1)) < ((y1.recs.length : Nat) : Int) then
   if (aaf y0.stack (wi (((y0.stack.length : Nat) : Int) - 1))) = (aaf y0.stack (wi (((y0.stack.length : Nat) : Int) - 1))) then
   none
   else none
   else none
   else none
   else
   if 0 ≤ (aad y1.recs (aaf y0.stack (wi (((y0.stack.length : Nat) : Int) - 1)))).prog ∧ (aad y1.recs (aaf y0.stack (wi (((y0.stack.length : Nat) : Int) - 1)))).prog < ((y1.c.progs.length : Nat) : Int) then
   if 0 ≤ wi (((y0.stack.length : Nat) : Int) - 1) ∧ wi (((y0.stack.length : Nat) : Int) - 1) < ((y0.stack.length : Nat) : Int) then
   if 0 ≤ aaf y0.stack (wi (((y0.stack.length : Nat) : Int) - 1)) ∧ aaf y0.stack (wi (((y0.stack.length : Nat) : Int) - 1)) < ((y1.recs.length : Nat) : Int) then
   if (aaf y0.stack (wi (((y0.stack.length : Nat) : Int) - 1))) = (aaf y0.stack (wi (((y0.stack.length : Nat) : Int) - 1))) then
   if 0 ≤ (aad y1.recs (aaf y0.stack (wi (((y0.stack.length : Nat) : Int) - 1)))).pc ∧ (aad y1.recs (aaf y0.stack (wi (((y0.stack.length : Nat) : Int) - 1)))).pc < (((atL [] y1.c.progs ((aad y1.recs (aaf y0.stack (wi (((y0.stack.length : Nat) : Int) - 1)))).prog)).length : Nat) : Int) then
   if 0 ≤ (abb (atL [] y1.c.progs ((aad y1.recs (aaf y0.stack (wi (((y0.stack.length : Nat) : Int) - 1)))).prog)) ((aad y1.recs (aaf y0.stack (wi (((y0.stack.length : Nat) : Int) - 1)))).pc)).a ∧ (abb (atL [] y1.c.progs ((aad y1.recs (aaf y0.stack (wi (((y0.stack.length : Nat) : Int) - 1)))).prog)) ((aad y1.recs (aaf y0.stack (wi (((y0.stack.length : Nat) : Int) - 1)))).pc)).a < ((((aad y1.recs (aaf y0.stack (wi (((y0.stack.length : Nat) : Int) - 1)))).kids).length : Nat) : Int) then
   (ahT y1.l (aaf y0.stack (wi (((y0.stack.length : Nat) : Int) - 1)))).bind fun r1 =>
   if (aaf ((aad y1.recs (aaf y0.stack (wi (((y0.stack.length : Nat) : Int) - 1)))).kids) ((abb (atL [] y1.c.progs ((aad y1.recs (aaf y0.stack (wi (((y0.stack.length : Nat) : Int) - 1)))).prog)) ((aad y1.recs (aaf y0.stack (wi (((y0.stack.length : Nat) : Int) - 1)))).pc)).a)) = (aaf ((aad y1.recs (aaf y0.stack (wi (((y0.stack.length : Nat) : Int) - 1)))).kids) ((abb (atL [] y1.c.progs ((aad y1.recs (aaf y0.stack (wi (((y0.stack.length : Nat) : Int) - 1)))).prog)) ((aad y1.recs (aaf y0.stack (wi (((y0.stack.length : Nat) : Int) - 1)))).pc)).a)) then
   (abf y1.m r1.1.1 (wu (wi ((aaf ((aad y1.recs (aaf y0.stack (wi (((y0.stack.length : Nat) : Int) - 1)))).kids) ((abb (atL [] y1.c.progs ((aad y1.recs (aaf y0.stack (wi (((y0.stack.length : Nat) : Int) - 1)))).prog)) ((aad y1.recs (aaf y0.stack (wi (((y0.stack.length : Nat) : Int) - 1)))).pc)).a)) + 1)))).bind fun r2 =>
   (aae ({ y0 with child := aaf ((aad y1.recs (aaf y0.stack (wi (((y0.stack.length : Nat) : Int) - 1)))).kids) ((abb (atL [] y1.c.progs ((aad y1.recs (aaf y0.stack (wi (((y0.stack.length : Nat) : Int) - 1)))).prog)) ((aad y1.recs (aaf y0.stack (wi (((y0.stack.length : Nat) : Int) - 1)))).pc)).a) } : (RunV MV)) (wi (y0.line + 1)) MV.nil).bind fun r3 =>
   some ((r3.1.1, ()), (r3.2.1, ({ y1 with m := r2.2.1, recs := ((y1.recs.set (aaf y0.stack (wi (((y0.stack.length : Nat) : Int) - 1))).toNat (aad y1.recs (aaf y0.stack (wi (((y0.stack.length : Nat) : Int) - 1))))).set (aaf y0.stack (wi (((y0.stack.length : Nat) : Int) - 1))).toNat ({ aad (y1.recs.set (aaf y0.stack (wi (((y0.stack.length : Nat) : Int) - 1))).toNat (aad y1.recs (aaf y0.stack (wi (((y0.stack.length : Nat) : Int) - 1))))) (aaf y0.stack (wi (((y0.stack.length : Nat) : Int) - 1))) with pc := wi (((aad (y1.recs.set (aaf y0.stack (wi (((y0.stack.length : Nat) : Int) - 1))).toNat (aad y1.recs (aaf y0.stack (wi (((y0.stack.length : Nat) : Int) - 1))))) (aaf y0.stack (wi (((y0.stack.length : Nat) : Int) - 1)))).pc) + 1) } : RecP)).set (aaf y0.stack (wi (((y0.stack.length : Nat) : Int) - 1))).toNat ({ aad ((y1.recs.set (aaf y0.stack (wi (((y0.stack.length : Nat) : Int) - 1))).toNat (aad y1.recs (aaf y0.stack (wi (((y0.stack.length : Nat) : Int) - 1))))).set (aaf y0.stack (wi (((y0.stack.length : Nat) : Int) - 1))).toNat ({ aad (y1.recs.set (aaf y0.stack (wi (((y0.stack.length : Nat) : Int) - 1))).toNat (aad y1.recs (aaf y0.stack (wi (((y0.stack.length : Nat) : Int) - 1))))) (aaf y0.stack (wi (((y0.stack.length : Nat) : Int) - 1))) with pc := wi (((aad (y1.recs.set (aaf y0.stack (wi (((y0.stack.length : Nat) : Int) - 1))).toNat (aad y1.recs (aaf y0.stack (wi (((y0.stack.length : Nat) : Int) - 1))))) (aaf y0.stack (wi (((y0.stack.length : Nat) : Int) - 1)))).pc) + 1) } : RecP)) (aaf y0.stack (wi (((y0.stack.length : Nat) : Int) - 1))) with waiting := aaf ((aad y1.recs (aaf y0.stack (wi (((y0.stack.length : Nat) : Int) - 1)))).kids) ((abb (atL [] y1.c.progs ((aad y1.recs (aaf y0.stack (wi (((y0.stack.length : Nat) : Int) - 1)))).prog)) ((aad y1.recs (aaf y0.stack (wi (((y0.stack.length : Nat) : Int) - 1)))).pc)).a) } : RecP) } : EnvP), ()))
   else none
   else none
   else none
   else none
   else none
   else none
   else none
   else none
   else none
   else none
   else none
   else none
   else
   if y0.line = 10 then
   (aex y1.l (aaf y0.stack (wi (((y0.stack.length : Nat) : Int) - 1)))).bind fun r4 =>
   (abf y1.m r4.1.1 3).bind fun r5 =>
   (aae y0 (wi (y0.line + 1)) MV.nil).bind fun r6 =>
   some ((r6.1.1, ()), (r6.2.1, ({ y1 with m := r5.2.1 } : EnvP), ()))
   else
   if y0.line = 11 then
   (ak1 y1.l y0.child).bind fun r7 =>
   (aog y1.m r7.1.1 0 (wu (wi ((aaf y0.stack (wi (((y0.stack.length : Nat) : Int) - 1))) + 1)))).bind fun r8 =>
   if (!r8.1.1) = true then
   (aae y0 14 MV.nil).bind fun r9 =>
   some ((r9.1.1, ()), (r9.2.1, ({ y1 with m := r8.2.1 } : EnvP), ()))
   else
   (aaC y0 ({ y1 with m := r8.2.1 } : EnvP) (⟨6, 0, aaf y0.stack (wi (((y0.stack.length : Nat) : Int) - 1)), y0.child, 0⟩ : Ev)).bind fun r10 =>
   (aae r10.2.1 (wi (r10.2.1.line + 1)) MV.nil).bind fun r11 =>
   some ((r11.1.1, ()), (r11.2.1, r10.2.2.1, ()))
   else
   if y0.line = 12 then
   (afw y1.l (aaf y0.stack (wi (((y0.stack.length : Nat) : Int) - 1)))).bind fun r12 =>
   (acb y1.m r12.1.1).bind fun r13 =>
   (ah6 y0.worker y0.child (wi (r13.1.1))).bind fun r14 =>
   (aae ({ y0 with level := wi (r13.1.1) } : (RunV MV)) 13 r14.1.1).bind fun r15 =>
   some ((r15.1.1, ()), (r15.2.1, ({ y1 with m := r13.2.1 } : EnvP), ()))
   else
   if y0.line = 13 then
   (ad8 y0.inside y1).bind fun r16 =>
   if (!r16.1.1) = true then
   some ((false, ()), (({ y0 with inside := r16.2.1 } : (RunV MV)), r16.2.2.1, ()))
   else
   (aaC ({ y0 with inside := r16.2.1 } : (RunV MV)) r16.2.2.1 (⟨7, 0, aaf y0.stack (wi (((y0.stack.length : Nat) : Int) - 1)), 0, y0.level⟩ : Ev)).bind fun r17 =>
   (aaq r17.2.1).bind fun r18 =>
   some ((r18.1.1, ()), (r18.2.1, r17.2.2.1, ()))
   else
   if y0.line = 14 then
   (aex y1.l (aaf y0.stack (wi (((y0.stack.length : Nat) : Int) - 1)))).bind fun r19 =>
   (abf y1.m r19.1.1 2).bind fun r20 =>
   (aae y0 (wi (y0.line + 1)) MV.nil).bind fun r21 =>
   some ((r21.1.1, ()), (r21.2.1, ({ y1 with m := r20.2.1 } : EnvP), ()))
   else
   (ahT y1.l (aaf y0.stack (wi (((y0.stack.length : Nat) : Int) - 1)))).bind fun r22 =>
   (abf y1.m r22.1.1 0).bind fun r23 =>
   if 0 ≤ wi (((y0.stack.length : Nat) : Int) - 1) ∧ wi (((y0.stack.length : Nat) : Int) - 1) < ((y0.stack.length : Nat) : Int) then
   if 0 ≤ aaf y0.stack (wi (((y0.stack.length : Nat) : Int) - 1)) ∧ aaf y0.stack (wi (((y0.stack.length : Nat) : Int) - 1)) < ((y1.recs.length : Nat) : Int) then
   (aaC y0 ({ y1 with m := r23.2.1, recs := y1.recs.set (aaf y0.stack (wi (((y0.stack.length : Nat) : Int) - 1))).toNat ({ aad y1.recs (aaf y0.stack (wi (((y0.stack.length : Nat) : Int) - 1))) with waiting := (-1) } : RecP) } : EnvP) (⟨8, 0, aaf y0.stack (wi (((y0.stack.length : Nat) : Int) - 1)), y0.child, 0⟩ : Ev)).bind fun r24 =>
   (aae r24.2.1 0 MV.nil).bind fun r25 =>
   some ((r25.1.1, ()), (r25.2.1, r24.2.2.1, ()))
   else none
   else none
   else none
   else none
   else none
   else none
   else none
   else none
   else none
   else none
   else none
   else none
   else none
   else none
   else none
   else none
   else none
   else none
   else none
   else none
   else none
   else none
   else none
   else none
  else none
 )
noncomputable abbrev agt : Con SR1 := ⟨136, [.ref 32, .ref 27], [.sh .b], fun x => afo x.1 x.2.1⟩
noncomputable def ajd : List (Nat × Func) := [(131, Tryz.f131), (138, Tryz.f138), (141, Tryz.f141), (139, Tryz.f139)]
theorem aje : CO Tryz.prog agt := aas aar Tryz.func136 [ale, adC, acu, afU, apP, ajA, ac1, afV, aca, amq, ala, aeI] ⟨alK, ac2, acE, afs, aqZ, ahU, adA, afv, abz, apj, alu, ags, trivial⟩ ajd ⟨Tryz.func131, Tryz.func138, Tryz.func141, Tryz.func139, trivial⟩ (fun _ => []) [] fun x => by kernel_rfl
noncomputable def aaD (y0 : (RunV MV)) (y1 : EnvP) : Option ((Bool × Unit) × ((RunV MV) × EnvP × Unit)) :=
 if 0 ≤ wi (((y0.stack.length : Nat) : Int) - 1) ∧ wi (((y0.stack.length : Nat) : Int) - 1) < ((y0.stack.length : Nat) : Int) then
  if y0.line = 9 then
   if 0 ≤ wi (((y0.stack.length : Nat) : Int) - 1) ∧ wi (((y0.stack.length : Nat) : Int) - 1) < ((y0.stack.length : Nat) : Int) then
   if 0 ≤ aaf y0.stack (wi (((y0.stack.length : Nat) : Int) - 1)) ∧ aaf y0.stack (wi (((y0.stack.length : Nat) : Int) - 1)) < ((y1.recs.length : Nat) : Int) then
   if 0 ≤ wi (((y0.stack.length : Nat) : Int) - 1) ∧ wi (((y0.stack.length : Nat) : Int) - 1) < ((y0.stack.length : Nat) : Int) then
   if 0 ≤ aaf y0.stack (wi (((y0.stack.length : Nat) : Int) - 1)) ∧ aaf y0.stack (wi (((y0.stack.length : Nat) : Int) - 1)) < ((y1.recs.length : Nat) : Int) then
   if ((aad y1.recs (aaf y0.stack (wi (((y0.stack.length : Nat) : Int) - 1)))).prog) < 0 then
   if 0 ≤ wi (((y0.stack.length : Nat) : Int) - 1) ∧ wi (((y0.stack.length : Nat) : Int) - 1) < ((y0.stack.length : Nat) : Int) then
   if 0 ≤ aaf y0.stack (wi (((y0.stack.length : Nat) : Int) - 1)) ∧ aaf y0.stack (wi (((y0.stack.length : Nat) : Int) - 1)) < ((y1.recs.length : Nat) : Int) then
   none
   else none
   else none
   else
   if ((y1.c.progs.length : Nat) : Int) ≤ ((aad y1.recs (aaf y0.stack (wi (((y0.stack.length : Nat) : Int) - 1)))).prog) then
   if 0 ≤ wi (((y0.stack.length : Nat) : Int) - 1) ∧ wi (((y0.stack.length : Nat) : Int) - 1) < ((y0.stack.length : Nat) : Int) then
   if 0 ≤ aaf y0.stack (wi (((y0.stack.length : Nat) : Int) - 1)) ∧ aaf y0.stack (wi (((y0.stack.length : Nat) : Int) - 1)) < ((y1.recs.length : Nat) : Int) then
   none
   else none
   else none
   else
   if 0 ≤ (aad y1.recs (aaf y0.stack (wi (((y0.stack.length : Nat) : Int) - 1)))).prog ∧ (aad y1.recs (aaf y0.stack (wi (((y0.stack.length : Nat) : Int) - 1)))).prog < ((y1.c.progs.length : Nat) : Int) then
   if 0 ≤ wi (((y0.stack.length : Nat) : Int) - 1) ∧ wi (((y0.stack.length : Nat) : Int) - 1) < ((y0.stack.length : Nat) : Int) then
   if 0 ≤ aaf y0.stack (wi (((y0.stack.length : Nat) : Int) - 1)) ∧ aaf y0.stack (wi (((y0.stack.length : Nat) : Int) - 1)) < ((y1.recs.length : Nat) : Int) then
   if 0 ≤ (aad y1.recs (aaf y0.stack (wi (((y0.stack.length : Nat) : Int) - 1)))).pc ∧ (aad y1.recs (aaf y0.stack (wi (((y0.stack.length : Nat) : Int) - 1)))).pc < (((atL [] y1.c.progs ((aad y1.recs (aaf y0.stack (wi (((y0.stack.length : Nat) : Int) - 1)))).prog)).length : Nat) : Int) then
   if 0 ≤ (abb (atL [] y1.c.progs ((aad y1.recs (aaf y0.stack (wi (((y0.stack.length : Nat) : Int) - 1)))).prog)) ((aad y1.recs (aaf y0.stack (wi (((y0.stack.length : Nat) : Int) - 1)))).pc)).a ∧ (abb (atL [] y1.c.progs ((aad y1.recs (aaf y0.stack (wi (((y0.stack.length : Nat) : Int) - 1)))).prog)) ((aad y1.recs (aaf y0.stack (wi (((y0.stack.length : Nat) : Int) - 1)))).pc)).a < ((((aad y1.recs (aaf y0.stack (wi (((y0.stack.length : Nat) : Int) - 1)))).kids).length : Nat) : Int) then
   (ahT y1.l (aaf y0.stack (wi (((y0.stack.length : Nat) : Int) - 1)))).bind fun r1 =>
   (abf y1.m r1.1.1 (wu (wi ((aaf ((aad y1.recs (aaf y0.stack (wi (((y0.stack.length : Nat) : Int) - 1)))).kids) ((abb (atL [] y1.c.progs ((aad y1.recs (aaf y0.stack (wi (((y0.stack.length : Nat) : Int) - 1)))).prog)) ((aad y1.recs (aaf y0.stack (wi (((y0.stack.length : Nat) : Int) - 1)))).pc)).a)) + 1)))).bind fun r2 =>
   (aae ({ y0 with child := aaf ((aad y1.recs (aaf y0.stack (wi (((y0.stack.length : Nat) : Int) - 1)))).kids) ((abb (atL [] y1.c.progs ((aad y1.recs (aaf y0.stack (wi (((y0.stack.length : Nat) : Int) - 1)))).prog)) ((aad y1.recs (aaf y0.stack (wi (((y0.stack.length : Nat) : Int) - 1)))).pc)).a) } : (RunV MV)) (wi (y0.line + 1)) MV.nil).bind fun r3 =>
   some ((r3.1.1, ()), (r3.2.1, ({ y1 with m := r2.2.1, recs := ((y1.recs.set (aaf y0.stack (wi (((y0.stack.length : Nat) : Int) - 1))).toNat (aad y1.recs (aaf y0.stack (wi (((y0.stack.length : Nat) : Int) - 1))))).set (aaf y0.stack (wi (((y0.stack.length : Nat) : Int) - 1))).toNat ({ aad (y1.recs.set (aaf y0.stack (wi (((y0.stack.length : Nat) : Int) - 1))).toNat (aad y1.recs (aaf y0.stack (wi (((y0.stack.length : Nat) : Int) - 1))))) (aaf y0.stack (wi (((y0.stack.length : Nat) : Int) - 1))) with pc := wi (((aad (y1.recs.set (aaf y0.stack (wi (((y0.stack.length : Nat) : Int) - 1))).toNat (aad y1.recs (aaf y0.stack (wi (((y0.stack.length : Nat) : Int) - 1))))) (aaf y0.stack (wi (((y0.stack.length : Nat) : Int) - 1)))).pc) + 1) } : RecP)).set (aaf y0.stack (wi (((y0.stack.length : Nat) : Int) - 1))).toNat ({ aad ((y1.recs.set (aaf y0.stack (wi (((y0.stack.length : Nat) : Int) - 1))).toNat (aad y1.recs (aaf y0.stack (wi (((y0.stack.length : Nat) : Int) - 1))))).set (aaf y0.stack (wi (((y0.stack.length : Nat) : Int) - 1))).toNat ({ aad (y1.recs.set (aaf y0.stack (wi (((y0.stack.length : Nat) : Int) - 1))).toNat (aad y1.recs (aaf y0.stack (wi (((y0.stack.length : Nat) : Int) - 1))))) (aaf y0.stack (wi (((y0.stack.length : Nat) : Int) - 1))) with pc := wi (((aad (y1.recs.set (aaf y0.stack (wi (((y0.stack.length : Nat) : Int) - 1))).toNat (aad y1.recs (aaf y0.stack (wi (((y0.stack.length : Nat) : Int) - 1))))) (aaf y0.stack (wi (((y0.stack.length : Nat) : Int) - 1)))).pc) + 1) } : RecP)) (aaf y0.stack (wi (((y0.stack.length : Nat) : Int) - 1))) with waiting := aaf ((aad y1.recs (aaf y0.stack (wi (((y0.stack.length : Nat) : Int) - 1)))).kids) ((abb (atL [] y1.c.progs ((aad y1.recs (aaf y0.stack (wi (((y0.stack.length : Nat) : Int) - 1)))).prog)) ((aad y1.recs (aaf y0.stack (wi (((y0.stack.length : Nat) : Int) - 1)))).pc)).a) } : RecP) } : EnvP), ()))
   else none
   else none
   else none
   else none
   else none
   else none
   else none
   else none
   else none
  else
  if y0.line = 10 then
   (aex y1.l (aaf y0.stack (wi (((y0.stack.length : Nat) : Int) - 1)))).bind fun r4 =>
   (abf y1.m r4.1.1 3).bind fun r5 =>
   (aae y0 (wi (y0.line + 1)) MV.nil).bind fun r6 =>
   some ((r6.1.1, ()), (r6.2.1, ({ y1 with m := r5.2.1 } : EnvP), ()))
  else
  if y0.line = 11 then
   (ak1 y1.l y0.child).bind fun r7 =>
   (aog y1.m r7.1.1 0 (wu (wi ((aaf y0.stack (wi (((y0.stack.length : Nat) : Int) - 1))) + 1)))).bind fun r8 =>
   if (!r8.1.1) = true then
   (aae y0 14 MV.nil).bind fun r9 =>
   some ((r9.1.1, ()), (r9.2.1, ({ y1 with m := r8.2.1 } : EnvP), ()))
   else
   (aaC y0 ({ y1 with m := r8.2.1 } : EnvP) (⟨6, 0, aaf y0.stack (wi (((y0.stack.length : Nat) : Int) - 1)), y0.child, 0⟩ : Ev)).bind fun r10 =>
   (aae r10.2.1 (wi (r10.2.1.line + 1)) MV.nil).bind fun r11 =>
   some ((r11.1.1, ()), (r11.2.1, r10.2.2.1, ()))
  else
  if y0.line = 12 then
   (afw y1.l (aaf y0.stack (wi (((y0.stack.length : Nat) : Int) - 1)))).bind fun r12 =>
   (acb y1.m r12.1.1).bind fun r13 =>
   (ah6 y0.worker y0.child (wi (r13.1.1))).bind fun r14 =>
   (aae ({ y0 with level := wi (r13.1.1) } : (RunV MV)) 13 r14.1.1).bind fun r15 =>
   some ((r15.1.1, ()), (r15.2.1, ({ y1 with m := r13.2.1 } : EnvP), ()))
  else
  if y0.line = 13 then
   (ad8 y0.inside y1).bind fun r16 =>
   if (!r16.1.1) = true then
   some ((false, ()), (({ y0 with inside := r16.2.1 } : (RunV MV)), r16.2.2.1, ()))
   else
   (aaC ({ y0 with inside := r16.2.1 } : (RunV MV)) r16.2.2.1 (⟨7, 0, aaf y0.stack (wi (((y0.stack.length : Nat) : Int) - 1)), 0, y0.level⟩ : Ev)).bind fun r17 =>
   (aaq r17.2.1).bind fun r18 =>
   some ((r18.1.1, ()), (r18.2.1, r17.2.2.1, ()))
  else
  if y0.line = 14 then
   (aex y1.l (aaf y0.stack (wi (((y0.stack.length : Nat) : Int) - 1)))).bind fun r19 =>
   (abf y1.m r19.1.1 2).bind fun r20 =>
   (aae y0 (wi (y0.line + 1)) MV.nil).bind fun r21 =>
   some ((r21.1.1, ()), (r21.2.1, ({ y1 with m := r20.2.1 } : EnvP), ()))
  else
  (ahT y1.l (aaf y0.stack (wi (((y0.stack.length : Nat) : Int) - 1)))).bind fun r22 =>
  (abf y1.m r22.1.1 0).bind fun r23 =>
  if 0 ≤ wi (((y0.stack.length : Nat) : Int) - 1) ∧ wi (((y0.stack.length : Nat) : Int) - 1) < ((y0.stack.length : Nat) : Int) then
   if 0 ≤ aaf y0.stack (wi (((y0.stack.length : Nat) : Int) - 1)) ∧ aaf y0.stack (wi (((y0.stack.length : Nat) : Int) - 1)) < ((y1.recs.length : Nat) : Int) then
   (aaC y0 ({ y1 with m := r23.2.1, recs := y1.recs.set (aaf y0.stack (wi (((y0.stack.length : Nat) : Int) - 1))).toNat ({ aad y1.recs (aaf y0.stack (wi (((y0.stack.length : Nat) : Int) - 1))) with waiting := (-1) } : RecP) } : EnvP) (⟨8, 0, aaf y0.stack (wi (((y0.stack.length : Nat) : Int) - 1)), y0.child, 0⟩ : Ev)).bind fun r24 =>
   (aae r24.2.1 0 MV.nil).bind fun r25 =>
   some ((r25.1.1, ()), (r25.2.1, r24.2.2.1, ()))
   else none
  else none
 else none
noncomputable abbrev ahN : Con SR1 := ⟨136, [.ref 32, .ref 27], [.sh .b], fun x => aaD x.1 x.2.1⟩
theorem akV (y0 : (RunV MV)) (y1 : EnvP) : afo y0 y1 = aaD y0 y1 := by
  unfold afo aaD
  simp only [if_true, ahg, aei]
theorem akU : CO Tryz.prog ahN := aqd aje fun x out hx => (show agt.spec x = some out from (akV x.1 x.2.1).trans hx)
noncomputable def agk (y0 : Int) (y1 : Int) : Option ((MV × Unit) × (Unit)) :=
 some ((MV.enter (⟨⟨false, 0, 0⟩, y0, y1, 0, 1, MV.nil⟩ : (EnterV MV)), ()), (()))
noncomputable abbrev akB : Con SR1 := ⟨154, [.sh sI_, .sh sI_], [.sh .mach], fun x => agk x.1 x.2.1⟩
theorem anq : CO Tryz.prog akB := aas aar Tryz.func154 [] trivial [] trivial (fun _ => []) [] fun x => by kernel_rfl
noncomputable def aed (y0 : (RunV MV)) (y1 : EnvP) : Option ((Bool × Unit) × ((RunV MV) × EnvP × Unit)) :=
 agr (
  if 0 ≤ wi (((y0.stack.length : Nat) : Int) - 1) ∧ wi (((y0.stack.length : Nat) : Int) - 1) < ((y0.stack.length : Nat) : Int) then
   if y1.l.workers = y1.l.workers then
   if y1.l.levels = y1.l.levels then
   if y1.l.classes = y1.l.classes then
   if y1.l.tasks = y1.l.tasks then
   if y1.l.deque = y1.l.deque then
   if y1.l.heap = y1.l.heap then
   if y1.l.sleepers = y1.l.sleepers then
   if y1.l.epochs = y1.l.epochs then
   if y1.l.bitmaps = y1.l.bitmaps then
   if y1.l.queues = y1.l.queues then
   if y1.l.table = y1.l.table then
   if y1.l.workers = y1.l.workers then
   if y1.l.levels = y1.l.levels then
   if y1.l.classes = y1.l.classes then
   if y1.l.tasks = y1.l.tasks then
   if y1.l.deque = y1.l.deque then
   if y1.l.heap = y1.l.heap then
   if y1.l.sleepers = y1.l.sleepers then
   if y1.l.epochs = y1.l.epochs then
   if y1.l.bitmaps = y1.l.bitmaps then
   if y1.l.queues = y1.l.queues then
   if y1.l.table = y1.l.table then
   if y0.line = 16 then
   (aex y1.l (aaf y0.stack (wi (((y0.stack.length : Nat) : Int) - 1)))).bind fun r29 =>
   (abf y1.m r29.1.1 4).bind fun r30 =>
   (aae y0 17 MV.nil).bind fun r31 =>
   some ((r31.1.1, ()), (r31.2.1, ({ y1 with m := r30.2.1 } : EnvP), ()))
   else
   if y0.line = 17 then
   (ak1 y1.l (aaf y0.stack (wi (((y0.stack.length : Nat) : Int) - 1)))).bind fun r32 =>
   (aog y1.m r32.1.1 0 4294967296).bind fun r33 =>
   (aaC y0 ({ y1 with m := r33.2.1 } : EnvP) (⟨10, 0, aaf y0.stack (wi (((y0.stack.length : Nat) : Int) - 1)), 0, 0⟩ : Ev)).bind fun r34 =>
   if r33.1.1 = true then
   (aaq r34.2.1).bind fun r35 =>
   some ((r35.1.1, ()), (r35.2.1, r34.2.2.1, ()))
   else
   (aae r34.2.1 18 MV.nil).bind fun r36 =>
   some ((r36.1.1, ()), (r36.2.1, r34.2.2.1, ()))
   else
   if y0.line = 18 then
   (ak1 y1.l (aaf y0.stack (wi (((y0.stack.length : Nat) : Int) - 1)))).bind fun r37 =>
   (acb y1.m r37.1.1).bind fun r38 =>
   if (wi ((wi (r38.1.1)) - 1)) < 0 then
   (aaq ({ y0 with waiter := wi ((wi (r38.1.1)) - 1) } : (RunV MV))).bind fun r39 =>
   some ((r39.1.1, ()), (r39.2.1, ({ y1 with m := r38.2.1 } : EnvP), ()))
   else
   if y1.c.tasks ≤ (wi ((wi (r38.1.1)) - 1)) then
   (aaq ({ y0 with waiter := wi ((wi (r38.1.1)) - 1) } : (RunV MV))).bind fun r40 =>
   some ((r40.1.1, ()), (r40.2.1, ({ y1 with m := r38.2.1 } : EnvP), ()))
   else
   (agk y0.worker (wi ((wi (r38.1.1)) - 1))).bind fun r41 =>
   (aae ({ y0 with waiter := wi ((wi (r38.1.1)) - 1) } : (RunV MV)) 19 r41.1.1).bind fun r42 =>
   some ((r42.1.1, ()), (r42.2.1, ({ y1 with m := r38.2.1 } : EnvP), ()))
   else
   (ad8 y0.inside y1).bind fun r43 =>
   if (!r43.1.1) = true then
   some ((false, ()), (({ y0 with inside := r43.2.1 } : (RunV MV)), r43.2.2.1, ()))
   else
   (acK r43.2.1).bind fun r44 =>
   if y0.line = 19 then
   if r44.1.1 = 3 then
   (acD y0.worker y0.waiter).bind fun r45 =>
   (aae ({ y0 with inside := r44.2.1 } : (RunV MV)) 21 r45.1.1).bind fun r46 =>
   some ((r46.1.1, ()), (r46.2.1, r43.2.2.1, ()))
   else
   if y0.line = 19 then
   (acL y0.worker r44.1.2.1).bind fun r47 =>
   (aae ({ y0 with inside := r44.2.1 } : (RunV MV)) 20 r47.1.1).bind fun r48 =>
   some ((r48.1.1, ()), (r48.2.1, r43.2.2.1, ()))
   else
   if y0.line = 21 then
   if r44.1.1 = 1 then
   if 0 ≤ wi (((y0.stack.length : Nat) : Int) - 1) ∧ wi (((y0.stack.length : Nat) : Int) - 1) < ((y0.stack.length : Nat) : Int) then
   (aae ({ y0 with stack := y0.stack.set (wi (((y0.stack.length : Nat) : Int) - 1)).toNat y0.waiter, inside := r44.2.1 } : (RunV MV)) 0 MV.nil).bind fun r49 =>
   some ((r49.1.1, ()), (r49.2.1, r43.2.2.1, ()))
   else none
   else
   (aaq ({ y0 with inside := r44.2.1 } : (RunV MV))).bind fun r50 =>
   some ((r50.1.1, ()), (r50.2.1, r43.2.2.1, ()))
   else
   (aaq ({ y0 with inside := r44.2.1 } : (RunV MV))).bind fun r51 =>
   some ((r51.1.1, ()), (r51.2.1, r43.2.2.1, ()))
   else
   if y0.line = 19 then
   (acL y0.worker r44.1.2.1).bind fun r52 =>
   (aae ({ y0 with inside := r44.2.1 } : (RunV MV)) 20 r52.1.1).bind fun r53 =>
   some ((r53.1.1, ()), (r53.2.1, r43.2.2.1, ()))
   else
   if y0.line = 21 then
   if r44.1.1 = 1 then
   if 0 ≤ wi (((y0.stack.length : Nat) : Int) - 1) ∧ wi (((y0.stack.length : Nat) : Int) - 1) < ((y0.stack.length : Nat) : Int) then
   (aae ({ y0 with stack := y0.stack.set (wi (((y0.stack.length : Nat) : Int) - 1)).toNat y0.waiter, inside := r44.2.1 } : (RunV MV)) 0 MV.nil).bind fun r54 =>
   some ((r54.1.1, ()), (r54.2.1, r43.2.2.1, ()))
   else none
   else
   (aaq ({ y0 with inside := r44.2.1 } : (RunV MV))).bind fun r55 =>
   some ((r55.1.1, ()), (r55.2.1, r43.2.2.1, ()))
   else
   (aaq ({ y0 with inside := r44.2.1 } : (RunV MV))).bind fun r56 =>
   some ((r56.1.1, ()), (r56.2.1, r43.2.2.1, ()))
   else none
   else none
   else none
   else none
   else none
   else none
   else none
   else none
   else none
   else none
   else none
   else none
   else none
   else none
   else none
   else none
   else none
   else none
   else none
   else none
   else none
   else none
  else none
 ) (
  if y1.l.workers = y1.l.workers then
   if y1.l.levels = y1.l.levels then
   if y1.l.classes = y1.l.classes then
   if y1.l.tasks = y1.l.tasks then
   if y1.l.deque = y1.l.deque then
   if y1.l.heap = y1.l.heap then
   if y1.l.sleepers = y1.l.sleepers then
   if y1.l.epochs = y1.l.epochs then
   if y1.l.bitmaps = y1.l.bitmaps then
   if y1.l.queues = y1.l.queues then
   if y1.l.table = y1.l.table then
   if 0 ≤ wi (((y0.stack.length : Nat) : Int) - 1) ∧ wi (((y0.stack.length : Nat) : Int) - 1) < ((y0.stack.length : Nat) : Int) then
   if y1.l.workers = y1.l.workers then
   if y1.l.levels = y1.l.levels then
   if y1.l.classes = y1.l.classes then
   if y1.l.tasks = y1.l.tasks then
   if y1.l.deque = y1.l.deque then
   if y1.l.heap = y1.l.heap then
   if y1.l.sleepers = y1.l.sleepers then
   if y1.l.epochs = y1.l.epochs then
   if y1.l.bitmaps = y1.l.bitmaps then
   if y1.l.queues = y1.l.queues then
   if y1.l.table = y1.l.table then
   if y0.line = 16 then
   (aex y1.l (aaf y0.stack (wi (((y0.stack.length : Nat) : Int) - 1)))).bind fun r1 =>
   (abf y1.m r1.1.1 4).bind fun r2 =>
   (aae y0 17 MV.nil).bind fun r3 =>
   some ((r3.1.1, ()), (r3.2.1, ({ y1 with m := r2.2.1 } : EnvP), ()))
   else
   if y0.line = 17 then
   (ak1 y1.l (aaf y0.stack (wi (((y0.stack.length : Nat) : Int) - 1)))).bind fun r4 =>
   (aog y1.m r4.1.1 0 4294967296).bind fun r5 =>
   (aaC y0 ({ y1 with m := r5.2.1 } : EnvP) (⟨10, 0, aaf y0.stack (wi (((y0.stack.length : Nat) : Int) - 1)), 0, 0⟩ : Ev)).bind fun r6 =>
   if r5.1.1 = true then
   (aaq r6.2.1).bind fun r7 =>
   some ((r7.1.1, ()), (r7.2.1, r6.2.2.1, ()))
   else
   (aae r6.2.1 18 MV.nil).bind fun r8 =>
   some ((r8.1.1, ()), (r8.2.1, r6.2.2.1, ()))
   else
   if y0.line = 18 then
   (ak1 y1.l (aaf y0.stack (wi (((y0.stack.length : Nat) : Int) - 1)))).bind fun r9 =>
   (acb y1.m r9.1.1).bind fun r10 =>
   if (wi ((wi (r10.1.1)) - 1)) < 0 then
   (aaq ({ y0 with waiter := wi ((wi (r10.1.1)) - 1) } : (RunV MV))).bind fun r11 =>
   some ((r11.1.1, ()), (r11.2.1, ({ y1 with m := r10.2.1 } : EnvP), ()))
   else
   if y1.c.tasks ≤ (wi ((wi (r10.1.1)) - 1)) then
   (aaq ({ y0 with waiter := wi ((wi (r10.1.1)) - 1) } : (RunV MV))).bind fun r12 =>
   some ((r12.1.1, ()), (r12.2.1, ({ y1 with m := r10.2.1 } : EnvP), ()))
   else
   (agk y0.worker (wi ((wi (r10.1.1)) - 1))).bind fun r13 =>
   (aae ({ y0 with waiter := wi ((wi (r10.1.1)) - 1) } : (RunV MV)) 19 r13.1.1).bind fun r14 =>
   some ((r14.1.1, ()), (r14.2.1, ({ y1 with m := r10.2.1 } : EnvP), ()))
   else
   (ad8 y0.inside y1).bind fun r15 =>
   if (!r15.1.1) = true then
   some ((false, ()), (({ y0 with inside := r15.2.1 } : (RunV MV)), r15.2.2.1, ()))
   else
   (acK r15.2.1).bind fun r16 =>
   if y0.line = 19 then
   if r16.1.1 = 3 then
   (acD y0.worker y0.waiter).bind fun r17 =>
   (aae ({ y0 with inside := r16.2.1 } : (RunV MV)) 21 r17.1.1).bind fun r18 =>
   some ((r18.1.1, ()), (r18.2.1, r15.2.2.1, ()))
   else
   if y0.line = 19 then
   (acL y0.worker r16.1.2.1).bind fun r19 =>
   (aae ({ y0 with inside := r16.2.1 } : (RunV MV)) 20 r19.1.1).bind fun r20 =>
   some ((r20.1.1, ()), (r20.2.1, r15.2.2.1, ()))
   else
   if y0.line = 21 then
   if r16.1.1 = 1 then
   if 0 ≤ wi (((y0.stack.length : Nat) : Int) - 1) ∧ wi (((y0.stack.length : Nat) : Int) - 1) < ((y0.stack.length : Nat) : Int) then
   (aae ({ y0 with stack := y0.stack.set (wi (((y0.stack.length : Nat) : Int) - 1)).toNat y0.waiter, inside := r16.2.1 } : (RunV MV)) 0 MV.nil).bind fun r21 =>
   some ((r21.1.1, ()), (r21.2.1, r15.2.2.1, ()))
   else none
   else
   (aaq ({ y0 with inside := r16.2.1 } : (RunV MV))).bind fun r22 =>
   some ((r22.1.1, ()), (r22.2.1, r15.2.2.1, ()))
   else
   (aaq ({ y0 with inside := r16.2.1 } : (RunV MV))).bind fun r23 =>
   some ((r23.1.1, ()), (r23.2.1, r15.2.2.1, ()))
   else
   if y0.line = 19 then
   (acL y0.worker r16.1.2.1).bind fun r24 =>
   (aae ({ y0 with inside := r16.2.1 } : (RunV MV)) 20 r24.1.1).bind fun r25 =>
   some ((r25.1.1, ()), (r25.2.1, r15.2.2.1, ()))
   else
   if y0.line = 21 then
   if r16.1.1 = 1 then
   if 0 ≤ wi (((y0.stack.length : Nat) : Int) - 1) ∧ wi (((y0.stack.length : Nat) : Int) - 1) < ((y0.stack.length : Nat) : Int) then
   (aae ({ y0 with stack := y0.stack.set (wi (((y0.stack.length : Nat) : Int) - 1)).toNat y0.waiter, inside := r16.2.1 } : (RunV MV)) 0 MV.nil).bind fun r26 =>
   some ((r26.1.1, ()), (r26.2.1, r15.2.2.1, ()))
   else none
   else
   (aaq ({ y0 with inside := r16.2.1 } : (RunV MV))).bind fun r27 =>
   some ((r27.1.1, ()), (r27.2.1, r15.2.2.1, ()))
   else
   (aaq ({ y0 with inside := r16.2.1 } : (RunV MV))).bind fun r28 =>
   some ((r28.1.1, ()), (r28.2.1, r15.2.2.1, ()))
   else none
   else none
   else none
   else none
   else none
   else none
   else none
   else none
   else none
   else none
   else none
   else none
   else none
   else none
   else none
   else none
   else none
   else none
   else none
   else none
   else none
   else none
  else none
 )
noncomputable abbrev afp : Con SR1 := ⟨137, [.ref 32, .ref 27], [.sh .b], fun x => aed x.1 x.2.1⟩
noncomputable def ait : List (Nat × Func) := [(131, Tryz.f131)]
theorem aiu : CO Tryz.prog afp := aas aar Tryz.func137 [afU, adC, acu, apP, ajA, ac1, aeI, aca, akB, ala, aka, aev, aii] ⟨afs, ac2, acE, aqZ, ahU, adA, ags, abz, anq, alu, alC, aeX, aiO, trivial⟩ ait ⟨Tryz.func131, trivial⟩ (fun _ => []) [] fun x => by kernel_rfl
noncomputable def aat (y0 : (RunV MV)) (y1 : EnvP) : Option ((Bool × Unit) × ((RunV MV) × EnvP × Unit)) :=
 if 0 ≤ wi (((y0.stack.length : Nat) : Int) - 1) ∧ wi (((y0.stack.length : Nat) : Int) - 1) < ((y0.stack.length : Nat) : Int) then
  if y0.line = 16 then
   (aex y1.l (aaf y0.stack (wi (((y0.stack.length : Nat) : Int) - 1)))).bind fun r1 =>
   (abf y1.m r1.1.1 4).bind fun r2 =>
   (aae y0 17 MV.nil).bind fun r3 =>
   some ((r3.1.1, ()), (r3.2.1, ({ y1 with m := r2.2.1 } : EnvP), ()))
  else
  if y0.line = 17 then
   (ak1 y1.l (aaf y0.stack (wi (((y0.stack.length : Nat) : Int) - 1)))).bind fun r4 =>
   (aog y1.m r4.1.1 0 4294967296).bind fun r5 =>
   (aaC y0 ({ y1 with m := r5.2.1 } : EnvP) (⟨10, 0, aaf y0.stack (wi (((y0.stack.length : Nat) : Int) - 1)), 0, 0⟩ : Ev)).bind fun r6 =>
   if r5.1.1 = true then
   (aaq r6.2.1).bind fun r7 =>
   some ((r7.1.1, ()), (r7.2.1, r6.2.2.1, ()))
   else
   (aae r6.2.1 18 MV.nil).bind fun r8 =>
   some ((r8.1.1, ()), (r8.2.1, r6.2.2.1, ()))
  else
  if y0.line = 18 then
   (ak1 y1.l (aaf y0.stack (wi (((y0.stack.length : Nat) : Int) - 1)))).bind fun r9 =>
   (acb y1.m r9.1.1).bind fun r10 =>
   if (wi ((wi (r10.1.1)) - 1)) < 0 then
   (aaq ({ y0 with waiter := wi ((wi (r10.1.1)) - 1) } : (RunV MV))).bind fun r11 =>
   some ((r11.1.1, ()), (r11.2.1, ({ y1 with m := r10.2.1 } : EnvP), ()))
   else
   if y1.c.tasks ≤ (wi ((wi (r10.1.1)) - 1)) then
   (aaq ({ y0 with waiter := wi ((wi (r10.1.1)) - 1) } : (RunV MV))).bind fun r12 =>
   some ((r12.1.1, ()), (r12.2.1, ({ y1 with m := r10.2.1 } : EnvP), ()))
   else
   (agk y0.worker (wi ((wi (r10.1.1)) - 1))).bind fun r13 =>
   (aae ({ y0 with waiter := wi ((wi (r10.1.1)) - 1) } : (RunV MV)) 19 r13.1.1).bind fun r14 =>
   some ((r14.1.1, ()), (r14.2.1, ({ y1 with m := r10.2.1 } : EnvP), ()))
  else
  (ad8 y0.inside y1).bind fun r15 =>
  if (!r15.1.1) = true then
   some ((false, ()), (({ y0 with inside := r15.2.1 } : (RunV MV)), r15.2.2.1, ()))
  else
  (acK r15.2.1).bind fun r16 =>
  if y0.line = 19 then
   if r16.1.1 = 3 then
   (acD y0.worker y0.waiter).bind fun r17 =>
   (aae ({ y0 with inside := r16.2.1 } : (RunV MV)) 21 r17.1.1).bind fun r18 =>
   some ((r18.1.1, ()), (r18.2.1, r15.2.2.1, ()))
   else
   if y0.line = 19 then
   (acL y0.worker r16.1.2.1).bind fun r19 =>
   (aae ({ y0 with inside := r16.2.1 } : (RunV MV)) 20 r19.1.1).bind fun r20 =>
   some ((r20.1.1, ()), (r20.2.1, r15.2.2.1, ()))
   else
   if y0.line = 21 then
   if r16.1.1 = 1 then
   if 0 ≤ wi (((y0.stack.length : Nat) : Int) - 1) ∧ wi (((y0.stack.length : Nat) : Int) - 1) < ((y0.stack.length : Nat) : Int) then
   (aae ({ y0 with stack := y0.stack.set (wi (((y0.stack.length : Nat) : Int) - 1)).toNat y0.waiter, inside := r16.2.1 } : (RunV MV)) 0 MV.nil).bind fun r21 =>
   some ((r21.1.1, ()), (r21.2.1, r15.2.2.1, ()))
   else none
   else
   (aaq ({ y0 with inside := r16.2.1 } : (RunV MV))).bind fun r22 =>
   some ((r22.1.1, ()), (r22.2.1, r15.2.2.1, ()))
   else
   (aaq ({ y0 with inside := r16.2.1 } : (RunV MV))).bind fun r23 =>
   some ((r23.1.1, ()), (r23.2.1, r15.2.2.1, ()))
  else
  if y0.line = 19 then
   (acL y0.worker r16.1.2.1).bind fun r24 =>
   (aae ({ y0 with inside := r16.2.1 } : (RunV MV)) 20 r24.1.1).bind fun r25 =>
   some ((r25.1.1, ()), (r25.2.1, r15.2.2.1, ()))
  else
  if y0.line = 21 then
   if r16.1.1 = 1 then
   if 0 ≤ wi (((y0.stack.length : Nat) : Int) - 1) ∧ wi (((y0.stack.length : Nat) : Int) - 1) < ((y0.stack.length : Nat) : Int) then
   (aae ({ y0 with stack := y0.stack.set (wi (((y0.stack.length : Nat) : Int) - 1)).toNat y0.waiter, inside := r16.2.1 } : (RunV MV)) 0 MV.nil).bind fun r26 =>
   some ((r26.1.1, ()), (r26.2.1, r15.2.2.1, ()))
   else none
   else
   (aaq ({ y0 with inside := r16.2.1 } : (RunV MV))).bind fun r27 =>
   some ((r27.1.1, ()), (r27.2.1, r15.2.2.1, ()))
  else
  (aaq ({ y0 with inside := r16.2.1 } : (RunV MV))).bind fun r28 =>
  some ((r28.1.1, ()), (r28.2.1, r15.2.2.1, ()))
 else none
noncomputable abbrev agu : Con SR1 := ⟨137, [.ref 32, .ref 27], [.sh .b], fun x => aat x.1 x.2.1⟩
theorem ajg (y0 : (RunV MV)) (y1 : EnvP) : aed y0 y1 = aat y0 y1 := by
  unfold aed aat
  simp only [if_true, ahg, aei]
theorem ajf : CO Tryz.prog agu := aqd aiu fun x out hx => (show afp.spec x = some out from (ajg x.1 x.2.1).trans hx)
noncomputable def aaU (y0 : (RunV MV)) (y1 : EnvP) : Option ((Bool × Unit) × ((RunV MV) × EnvP × Unit)) :=
 (aaS y0.o).bind fun r1 =>
 if r1.1.1 = true then
  some ((true, ()), (({ y0 with o := r1.2.1 } : (RunV MV)), y1, ()))
 else
 if 0 ≤ wi (((y0.stack.length : Nat) : Int) - 1) ∧ wi (((y0.stack.length : Nat) : Int) - 1) < ((y0.stack.length : Nat) : Int) then
  if (aaf y0.stack (wi (((y0.stack.length : Nat) : Int) - 1))) < 0 then
   (abH r1.2.1 4 0).bind fun r2 =>
   some ((r2.1.1, ()), (({ y0 with o := r2.2.1 } : (RunV MV)), y1, ()))
  else
  if y1.c.tasks ≤ (aaf y0.stack (wi (((y0.stack.length : Nat) : Int) - 1))) then
   (abH r1.2.1 4 0).bind fun r3 =>
   some ((r3.1.1, ()), (({ y0 with o := r3.2.1 } : (RunV MV)), y1, ()))
  else
  if ((y1.recs.length : Nat) : Int) ≤ (aaf y0.stack (wi (((y0.stack.length : Nat) : Int) - 1))) then
   (abH r1.2.1 4 0).bind fun r4 =>
   some ((r4.1.1, ()), (({ y0 with o := r4.2.1 } : (RunV MV)), y1, ()))
  else
  if y0.line = 0 then
   (adS ({ y0 with o := r1.2.1 } : (RunV MV)) y1).bind fun r5 =>
   if r5.1.1 = 4 then
   (aeY).bind fun r6 =>
   if r5.1.1 = 1 then
   (aaB ({ r5.2.1 with line := r5.1.1, inside := r6.1.1 } : (RunV MV)) r5.2.2.1).bind fun r7 =>
   some ((r7.1.1, ()), (r7.2.1, r7.2.2.1, ()))
   else
   if r5.1.1 = 2 then
   (aaB ({ r5.2.1 with line := r5.1.1, inside := r6.1.1 } : (RunV MV)) r5.2.2.1).bind fun r8 =>
   some ((r8.1.1, ()), (r8.2.1, r8.2.2.1, ()))
   else
   if r5.1.1 = 3 then
   (aaB ({ r5.2.1 with line := r5.1.1, inside := r6.1.1 } : (RunV MV)) r5.2.2.1).bind fun r9 =>
   some ((r9.1.1, ()), (r9.2.1, r9.2.2.1, ()))
   else
   if 4 ≤ r5.1.1 then
   if r5.1.1 ≤ 8 then
   (aa2 ({ r5.2.1 with line := r5.1.1, inside := r6.1.1 } : (RunV MV)) r5.2.2.1).bind fun r10 =>
   some ((r10.1.1, ()), (r10.2.1, r10.2.2.1, ()))
   else
   if 9 ≤ r5.1.1 then
   if r5.1.1 ≤ 15 then
   (aaD ({ r5.2.1 with line := r5.1.1, inside := r6.1.1 } : (RunV MV)) r5.2.2.1).bind fun r11 =>
   some ((r11.1.1, ()), (r11.2.1, r11.2.2.1, ()))
   else
   (aat ({ r5.2.1 with line := r5.1.1, inside := r6.1.1 } : (RunV MV)) r5.2.2.1).bind fun r12 =>
   some ((r12.1.1, ()), (r12.2.1, r12.2.2.1, ()))
   else
   (aat ({ r5.2.1 with line := r5.1.1, inside := r6.1.1 } : (RunV MV)) r5.2.2.1).bind fun r13 =>
   some ((r13.1.1, ()), (r13.2.1, r13.2.2.1, ()))
   else
   if 9 ≤ r5.1.1 then
   if r5.1.1 ≤ 15 then
   (aaD ({ r5.2.1 with line := r5.1.1, inside := r6.1.1 } : (RunV MV)) r5.2.2.1).bind fun r14 =>
   some ((r14.1.1, ()), (r14.2.1, r14.2.2.1, ()))
   else
   (aat ({ r5.2.1 with line := r5.1.1, inside := r6.1.1 } : (RunV MV)) r5.2.2.1).bind fun r15 =>
   some ((r15.1.1, ()), (r15.2.1, r15.2.2.1, ()))
   else
   (aat ({ r5.2.1 with line := r5.1.1, inside := r6.1.1 } : (RunV MV)) r5.2.2.1).bind fun r16 =>
   some ((r16.1.1, ()), (r16.2.1, r16.2.2.1, ()))
   else
   if r5.1.1 = 1 then
   (aaB ({ r5.2.1 with line := r5.1.1 } : (RunV MV)) r5.2.2.1).bind fun r17 =>
   some ((r17.1.1, ()), (r17.2.1, r17.2.2.1, ()))
   else
   if r5.1.1 = 2 then
   (aaB ({ r5.2.1 with line := r5.1.1 } : (RunV MV)) r5.2.2.1).bind fun r18 =>
   some ((r18.1.1, ()), (r18.2.1, r18.2.2.1, ()))
   else
   if r5.1.1 = 3 then
   (aaB ({ r5.2.1 with line := r5.1.1 } : (RunV MV)) r5.2.2.1).bind fun r19 =>
   some ((r19.1.1, ()), (r19.2.1, r19.2.2.1, ()))
   else
   if 4 ≤ r5.1.1 then
   if r5.1.1 ≤ 8 then
   (aa2 ({ r5.2.1 with line := r5.1.1 } : (RunV MV)) r5.2.2.1).bind fun r20 =>
   some ((r20.1.1, ()), (r20.2.1, r20.2.2.1, ()))
   else
   if 9 ≤ r5.1.1 then
   if r5.1.1 ≤ 15 then
   (aaD ({ r5.2.1 with line := r5.1.1 } : (RunV MV)) r5.2.2.1).bind fun r21 =>
   some ((r21.1.1, ()), (r21.2.1, r21.2.2.1, ()))
   else
   (aat ({ r5.2.1 with line := r5.1.1 } : (RunV MV)) r5.2.2.1).bind fun r22 =>
   some ((r22.1.1, ()), (r22.2.1, r22.2.2.1, ()))
   else
   (aat ({ r5.2.1 with line := r5.1.1 } : (RunV MV)) r5.2.2.1).bind fun r23 =>
   some ((r23.1.1, ()), (r23.2.1, r23.2.2.1, ()))
   else
   if 9 ≤ r5.1.1 then
   if r5.1.1 ≤ 15 then
   (aaD ({ r5.2.1 with line := r5.1.1 } : (RunV MV)) r5.2.2.1).bind fun r24 =>
   some ((r24.1.1, ()), (r24.2.1, r24.2.2.1, ()))
   else
   (aat ({ r5.2.1 with line := r5.1.1 } : (RunV MV)) r5.2.2.1).bind fun r25 =>
   some ((r25.1.1, ()), (r25.2.1, r25.2.2.1, ()))
   else
   (aat ({ r5.2.1 with line := r5.1.1 } : (RunV MV)) r5.2.2.1).bind fun r26 =>
   some ((r26.1.1, ()), (r26.2.1, r26.2.2.1, ()))
  else
  if y0.line = 1 then
   (aaB ({ y0 with o := r1.2.1 } : (RunV MV)) y1).bind fun r27 =>
   some ((r27.1.1, ()), (r27.2.1, r27.2.2.1, ()))
  else
  if y0.line = 2 then
   (aaB ({ y0 with o := r1.2.1 } : (RunV MV)) y1).bind fun r28 =>
   some ((r28.1.1, ()), (r28.2.1, r28.2.2.1, ()))
  else
  if y0.line = 3 then
   (aaB ({ y0 with o := r1.2.1 } : (RunV MV)) y1).bind fun r29 =>
   some ((r29.1.1, ()), (r29.2.1, r29.2.2.1, ()))
  else
  if 4 ≤ y0.line then
   if y0.line ≤ 8 then
   (aa2 ({ y0 with o := r1.2.1 } : (RunV MV)) y1).bind fun r30 =>
   some ((r30.1.1, ()), (r30.2.1, r30.2.2.1, ()))
   else
   if 9 ≤ y0.line then
   if y0.line ≤ 15 then
   (aaD ({ y0 with o := r1.2.1 } : (RunV MV)) y1).bind fun r31 =>
   some ((r31.1.1, ()), (r31.2.1, r31.2.2.1, ()))
   else
   (aat ({ y0 with o := r1.2.1 } : (RunV MV)) y1).bind fun r32 =>
   some ((r32.1.1, ()), (r32.2.1, r32.2.2.1, ()))
   else
   (aat ({ y0 with o := r1.2.1 } : (RunV MV)) y1).bind fun r33 =>
   some ((r33.1.1, ()), (r33.2.1, r33.2.2.1, ()))
  else
  if 9 ≤ y0.line then
   if y0.line ≤ 15 then
   (aaD ({ y0 with o := r1.2.1 } : (RunV MV)) y1).bind fun r34 =>
   some ((r34.1.1, ()), (r34.2.1, r34.2.2.1, ()))
   else
   (aat ({ y0 with o := r1.2.1 } : (RunV MV)) y1).bind fun r35 =>
   some ((r35.1.1, ()), (r35.2.1, r35.2.2.1, ()))
  else
  (aat ({ y0 with o := r1.2.1 } : (RunV MV)) y1).bind fun r36 =>
  some ((r36.1.1, ()), (r36.2.1, r36.2.2.1, ()))
 else none
noncomputable abbrev alx : Con SR1 := ⟨130, [.ref 32, .ref 27], [.sh .b], fun x => aaU x.1 x.2.1⟩
noncomputable def akS : List (Nat × Func) := [(131, Tryz.f131)]
theorem akT : CO Tryz.prog alx := aas aar Tryz.func130 [aba, abS, agv, afl, agq, ahj, ahN, agu] ⟨aaY, abd, aji, ahh, ajc, aj7, akU, ajf, trivial⟩ akS ⟨Tryz.func131, trivial⟩ (fun _ => []) [] fun x => by kernel_rfl
noncomputable def afC (y0 : Cfg) : Option ((Cfg × Unit) × (Unit)) :=
 (agK y0.progs).bind fun r1 =>
 (lpF (σ := Int × (Int × Int × Int × Int × Int × Int × Int × Int × Int × List (List Ins) × List Sub × Unit) × Unit) (β := Int × (Int × Int × Int × Int × Int × Int × Int × Int × Int × List (List Ins) × List Sub × Unit) × Unit) (fun self4 x2 =>
  if x2.1 < ((r1.1.1.length : Nat) : Int) then
   if 0 ≤ x2.1 ∧ x2.1 < ((x2.2.1.2.2.2.2.2.2.2.2.2.1.length : Nat) : Int) then
   (aiq (atR x2.2.1.2.2.2.2.2.2.2.2.2.1 x2.1)).bind fun r5 =>
   if 0 ≤ x2.1 ∧ x2.1 < ((x2.2.1.2.2.2.2.2.2.2.2.2.1.length : Nat) : Int) then
   self4 (wi (x2.1 + 1), (x2.2.1.1, x2.2.1.2.1, x2.2.1.2.2.1, x2.2.1.2.2.2.1, x2.2.1.2.2.2.2.1, x2.2.1.2.2.2.2.2.1, x2.2.1.2.2.2.2.2.2.1, x2.2.1.2.2.2.2.2.2.2.1, x2.2.1.2.2.2.2.2.2.2.2.1, x2.2.1.2.2.2.2.2.2.2.2.2.1.set x2.1.toNat r5.1.1, x2.2.1.2.2.2.2.2.2.2.2.2.2.1, ()), ())
   else none
   else none
  else
  some (x2.1, (x2.2.1.1, x2.2.1.2.1, x2.2.1.2.2.1, x2.2.1.2.2.2.1, x2.2.1.2.2.2.2.1, x2.2.1.2.2.2.2.2.1, x2.2.1.2.2.2.2.2.2.1, x2.2.1.2.2.2.2.2.2.2.1, x2.2.1.2.2.2.2.2.2.2.2.1, x2.2.1.2.2.2.2.2.2.2.2.2.1, x2.2.1.2.2.2.2.2.2.2.2.2.2.1, ()), ())
 ) 18446744073709551616 (0, (y0.workers, y0.levels, y0.classes, y0.tasks, y0.deque, y0.heap, y0.batch, y0.age, y0.patience, r1.1.1, y0.subs, ()), ())).bind fun z3 =>
 (agJ z3.2.1.2.2.2.2.2.2.2.2.2.2.1).bind fun r6 =>
 some (((⟨z3.2.1.1, z3.2.1.2.1, z3.2.1.2.2.1, z3.2.1.2.2.2.1, z3.2.1.2.2.2.2.1, z3.2.1.2.2.2.2.2.1, z3.2.1.2.2.2.2.2.2.1, z3.2.1.2.2.2.2.2.2.2.1, z3.2.1.2.2.2.2.2.2.2.2.1, z3.2.1.2.2.2.2.2.2.2.2.2.1, r6.1.1⟩ : Cfg), ()), (()))
noncomputable abbrev ajR : Con SR1 := ⟨44, [.val 13], [.val 13], fun x => afC x.1⟩
theorem amM : CO Tryz.prog ajR := aas aar Tryz.func44 [aha, anc, amm] ⟨apc, aqf, apb, trivial⟩ [] trivial (fun _ => []) [(3, .loop [.rg 11 sI_, .cs 11 [sI_, sI_, sI_, sI_, sI_, sI_, sI_, sI_, sI_, (.row 18), (.ro 4)]] 18446744073709551616 0)] fun x => by kernel_rfl
noncomputable def ajN (y0 : Cfg) : Option ((LayV × Int × Unit) × (Unit)) :=
 (an7 y0).bind fun r1 =>
 if r1.1.1 ≠ 0 then
  some (((⟨0, 0, 0, 0, 0, 0, 0, 0, 0, 0, 0⟩ : LayV), r1.1.1, ()), (()))
 else
 some ((({ y0 with sleepers := wi (4 + y0.heap), epochs := wi ((wi (4 + y0.heap)) + y0.classes), bitmaps := wi ((wi ((wi (4 + y0.heap)) + y0.classes)) + y0.workers), queues := wi ((wi ((wi ((wi (4 + y0.heap)) + y0.classes)) + y0.workers)) + y0.workers), table := wi ((wi ((wi ((wi ((wi (4 + y0.heap)) + y0.classes)) + y0.workers)) + y0.workers)) + (wi ((wi (y0.workers * y0.levels)) * (wi (2 + y0.deque))))) } : LayV), 0, ()), (()))
noncomputable abbrev al4 : Con SR1 := ⟨41, [.val 13], [.val 24, .sh sI_], fun x => ajN x.1⟩
theorem ao0 : CO Tryz.prog al4 := aas aar Tryz.func41 [anf] ⟨aqj, trivial⟩ [] trivial (fun _ => []) [] fun x => by kernel_rfl
noncomputable def alV (y0 : Int) : Option ((MemV × Unit) × (Unit)) :=
 if (if 131072 < (if y0 < 0 then 0 else y0) then 131072 else (if y0 < 0 then 0 else y0)) = (if 131072 < (if y0 < 0 then 0 else y0) then 131072 else (if y0 < 0 then 0 else y0)) then
  if 0 ≤ (if 131072 < (if y0 < 0 then 0 else y0) then 131072 else (if y0 < 0 then 0 else y0)) ∧ (if 131072 < (if y0 < 0 then 0 else y0) then 131072 else (if y0 < 0 then 0 else y0)) ≤ 1099511627776 then
   some (((⟨List.replicate ((if 131072 < (if y0 < 0 then 0 else y0) then 131072 else (if y0 < 0 then 0 else y0)) : Int).toNat (0 : Int), ⟨0, 0, 0, 0⟩, 0⟩ : MemV), ()), (()))
  else none
 else none
noncomputable abbrev alU : Con SR1 := ⟨60, [.sh sI_], [.sh (.own 9)], fun x => alV x.1⟩
theorem aoW : CO Tryz.prog alU := aas aar Tryz.func60 [] trivial [] trivial (fun _ => []) [] fun x => by kernel_rfl
noncomputable def an5  : Option ((ClkV × Unit) × (Unit)) :=
 some (((⟨0, 0⟩ : ClkV), ()), (()))
noncomputable abbrev ane : Con SR1 := ⟨61, [], [.sh (.own 25)], fun x => an5 ⟩
theorem aqg : CO Tryz.prog ane := aas aar Tryz.func61 [] trivial [] trivial (fun _ => []) [] fun x => by kernel_rfl
noncomputable def ag1 (y0 : Int) : Option ((EnvP × Unit) × (Unit)) :=
 (alV y0).bind fun r1 =>
 (an5).bind fun r2 =>
 some (((⟨⟨0, 0, 0, 0, 0, 0, 0, 0, 0, [], []⟩, ⟨0, 0, 0, 0, 0, 0, 0, 0, 0, 0, 0⟩, r1.1.1, r2.1.1, [], []⟩ : EnvP), ()), (()))
noncomputable abbrev ajE : Con SR1 := ⟨42, [.sh sI_], [.sh (.own 27)], fun x => ag1 x.1⟩
theorem amK : CO Tryz.prog ajE := aas aar Tryz.func42 [alU, ane] ⟨aoW, aqg, trivial⟩ [] trivial (fun _ => []) [] fun x => by kernel_rfl
noncomputable def abp (r : CodV) (k : Int) : Option ((Int × Unit) × (CodV × Unit)) :=
 if r.at_ < ((r.inn.length : Nat) : Int) then
  if 0 ≤ r.at_ ∧ r.at_ < ((r.inn.length : Nat) : Int) then
   if k ≠ 0 then
   some (((Int.tmod (wi (agM r.inn r.at_)) k), ()), (({ r with at_ := wi (r.at_ + 1) } : CodV), ()))
   else none
  else none
 else
 some ((0, ()), (({ r with at_ := wi (r.at_ + 1) } : CodV), ()))
noncomputable abbrev amU : Con SR1 := ⟨58, [.ref 19, .sh sI_], [.sh sI_], fun x => abp x.1 x.2.1⟩
theorem apF : CO Tryz.prog amU := aas aar Tryz.func58 [] trivial [] trivial (fun _ => []) [] fun x => by kernel_rfl
noncomputable def aqR (b : List Int) : Option ((Cfg × Unit) × (Unit)) :=
 (abp (⟨b, [], 0, false⟩ : CodV) 4).bind fun r1 =>
 (abp r1.2.1 4).bind fun r2 =>
 (abp r2.2.1 (if wi (1 + r2.1.1) < 3 then wi (1 + r2.1.1) else 3)).bind fun r3 =>
 (abp r3.2.1 12).bind fun r4 =>
 (abp r4.2.1 4).bind fun r5 =>
 (abp r5.2.1 4).bind fun r6 =>
 (abp r6.2.1 (wi (1 + r5.1.1))).bind fun r7 =>
 (abp r7.2.1 6).bind fun r8 =>
 (abp r8.2.1 8).bind fun r9 =>
 (abp r9.2.1 4).bind fun r10 =>
 (lpF (σ := Int × CodV × Cfg × Unit) (β := Int × CodV × Cfg × Unit) (fun self13 x11 =>
  if x11.1 < (wi (1 + r10.1.1)) then
   (abp x11.2.1 6).bind fun r14 =>
   (lpF (σ := List Ins × Int × CodV × Unit) (β := List Ins × Int × CodV × Unit) (fun self17 x15 =>
   if 0 < x15.2.1 then
   (abp x15.2.2.1 3).bind fun r18 =>
   if r18.1.1 = 0 then
   (abp r18.2.1 4).bind fun r19 =>
   if (((x15.1.length + ([(⟨r18.1.1, wi (1 + r19.1.1), 0⟩ : Ins)] : List Ins).length : Nat)) : Int) < 1000000000000 then
   self17 (x15.1 ++ ([(⟨r18.1.1, wi (1 + r19.1.1), 0⟩ : Ins)]), wi (x15.2.1 - 1), r19.2.1, ())
   else none
   else
   if r18.1.1 = 1 then
   (abp r18.2.1 (wi (1 + r10.1.1))).bind fun r20 =>
   (abp r20.2.1 x11.2.2.1.levels).bind fun r21 =>
   if (((x15.1.length + ([(⟨r18.1.1, r20.1.1, r21.1.1⟩ : Ins)] : List Ins).length : Nat)) : Int) < 1000000000000 then
   self17 (x15.1 ++ ([(⟨r18.1.1, r20.1.1, r21.1.1⟩ : Ins)]), wi (x15.2.1 - 1), r21.2.1, ())
   else none
   else
   (abp r18.2.1 4).bind fun r22 =>
   if (((x15.1.length + ([(⟨r18.1.1, r22.1.1, 0⟩ : Ins)] : List Ins).length : Nat)) : Int) < 1000000000000 then
   self17 (x15.1 ++ ([(⟨r18.1.1, r22.1.1, 0⟩ : Ins)]), wi (x15.2.1 - 1), r22.2.1, ())
   else none
   else
   some (x15.1, x15.2.1, x15.2.2.1, ())
   ) 18446744073709551616 ([], r14.1.1, r14.2.1, ())).bind fun z16 =>
   if (((x11.2.2.1.progs.length + ([z16.1] : List (List Ins)).length : Nat)) : Int) < 100000000000 then
   self13 (wi (x11.1 + 1), z16.2.2.1, ({ x11.2.2.1 with progs := x11.2.2.1.progs ++ ([z16.1]) } : Cfg), ())
   else none
  else
  some (x11.1, x11.2.1, x11.2.2.1, ())
 ) 18446744073709551616 (0, r10.2.1, (⟨wi (1 + r1.1.1), wi (1 + r2.1.1), wi (1 + r3.1.1), wi (1 + r4.1.1), wi (1 + r5.1.1), wi (1 + r6.1.1), wi (1 + r7.1.1), r8.1.1, wi (1 + r9.1.1), [], []⟩ : Cfg), ())).bind fun z12 =>
 (abp z12.2.1 6).bind fun r23 =>
 (lpF (σ := Int × CodV × Cfg × Unit) (β := Int × CodV × Cfg × Unit) (fun self26 x24 =>
  if 0 < x24.1 then
   (abp x24.2.1 (wi (1 + r10.1.1))).bind fun r27 =>
   (abp r27.2.1 x24.2.2.1.levels).bind fun r28 =>
   (abp r28.2.1 16).bind fun r29 =>
   if (((x24.2.2.1.subs.length + ([(⟨r27.1.1, r28.1.1, r29.1.1⟩ : Sub)] : List Sub).length : Nat)) : Int) < 1000000000000 then
   self26 (wi (x24.1 - 1), r29.2.1, ({ x24.2.2.1 with subs := x24.2.2.1.subs ++ ([(⟨r27.1.1, r28.1.1, r29.1.1⟩ : Sub)]) } : Cfg), ())
   else none
  else
  some (x24.1, x24.2.1, x24.2.2.1, ())
 ) 18446744073709551616 (r23.1.1, r23.2.1, z12.2.2.1, ())).bind fun z25 =>
 some ((z25.2.2.1, ()), (()))
noncomputable abbrev amV : Con SR1 := ⟨40, [.sh (.ro 17)], [.val 13], fun x => aqR x.1⟩
theorem apG : CO Tryz.prog amV := aas aar Tryz.func40 [amU] ⟨apF, trivial⟩ [] trivial (fun _ => []) [(12, .loop [.rg 6 sI_, .rg 3 (.own 19), .rg 4 (.own 20)] 18446744073709551616 0), (16, .loop [.rg 7 (.row 3), .rg 8 sI_, .rg 3 (.own 19)] 18446744073709551616 2), (29, .loop [.rg 10 sI_, .rg 3 (.own 19), .rg 4 (.own 20)] 18446744073709551616 5)] fun x => by kernel_rfl
noncomputable def as4 (b : List Int) : Option ((Cfg × Unit) × (Unit)) :=
 (aqR b).bind fun r1 =>
 some ((r1.1.1, ()), (()))
noncomputable abbrev ao1 : Con SR1 := ⟨20, [.sh (.ro 17)], [.val 13], fun x => as4 x.1⟩
theorem arH : CO Tryz.prog ao1 := aas aar Tryz.func20 [amV] ⟨apG, trivial⟩ [] trivial (fun _ => []) [] fun x => by kernel_rfl
noncomputable def agB (y0 : Cfg) : Option ((EnvP × Int × Unit) × (Unit)) :=
 (ajN y0).bind fun r1 =>
 if r1.1.2.1 ≠ 0 then
  none
 else
 (aq3 r1.1.1).bind fun r2 =>
 (ag1 r2.1.1).bind fun r3 =>
 (afC y0).bind fun r4 =>
 if r1.1.1.workers = r1.1.1.workers then
  if r1.1.1.levels = r1.1.1.levels then
   if r1.1.1.classes = r1.1.1.classes then
   if r1.1.1.tasks = r1.1.1.tasks then
   if r1.1.1.deque = r1.1.1.deque then
   if r1.1.1.heap = r1.1.1.heap then
   if r1.1.1.sleepers = r1.1.1.sleepers then
   if r1.1.1.epochs = r1.1.1.epochs then
   if r1.1.1.bitmaps = r1.1.1.bitmaps then
   if r1.1.1.queues = r1.1.1.queues then
   if r1.1.1.table = r1.1.1.table then
   if r1.1.1.workers = r1.1.1.workers then
   if r1.1.1.levels = r1.1.1.levels then
   if r1.1.1.classes = r1.1.1.classes then
   if r1.1.1.tasks = r1.1.1.tasks then
   if r1.1.1.deque = r1.1.1.deque then
   if r1.1.1.heap = r1.1.1.heap then
   if r1.1.1.sleepers = r1.1.1.sleepers then
   if r1.1.1.epochs = r1.1.1.epochs then
   if r1.1.1.bitmaps = r1.1.1.bitmaps then
   if r1.1.1.queues = r1.1.1.queues then
   if r1.1.1.table = r1.1.1.table then
   (lpF (σ := Int × EnvP × Unit) (β := Int × EnvP × Unit) (fun self7 x5 =>
   if x5.1 < y0.tasks then
   if (((x5.2.1.recs.length + ([(⟨0, (-1), 0, 0, (-1), [], false⟩ : RecP)] : List RecP).length : Nat)) : Int) < 100000000000 then
   self7 (wi (x5.1 + 1), ({ x5.2.1 with recs := x5.2.1.recs ++ ([(⟨0, (-1), 0, 0, (-1), [], false⟩ : RecP)]) } : EnvP), ())
   else none
   else
   some (x5.1, x5.2.1, ())
   ) 18446744073709551616 (0, ({ r3.1.1 with c := r4.1.1, l := r1.1.1 } : EnvP), ())).bind fun z6 =>
   some ((z6.2.1, 0, ()), (()))
   else none
   else none
   else none
   else none
   else none
   else none
   else none
   else none
   else none
   else none
   else none
   else none
   else none
   else none
   else none
   else none
   else none
   else none
   else none
   else none
  else none
 else none
noncomputable abbrev akI : Con SR1 := ⟨21, [.val 13], [.sh (.own 27), .sh sI_], fun x => agB x.1⟩
theorem anP : CO Tryz.prog akI := aas aar Tryz.func21 [al4, aq2, ajE, ajR] ⟨ao0, asI, amK, amM, trivial⟩ [] trivial (fun _ => []) [(7, .loop [.rg 29 sI_, .rg 6 (.own 27)] 18446744073709551616 0)] fun x => by kernel_rfl
end
section
open Go Go.RowKit
set_option maxRecDepth 100000
end
section
open Go.RowKit Go.Maps
set_option maxRecDepth 100000
theorem ar8 (w : World) : (Go.underlying 86).run Tryz.prog w = .ok (.pointer 91) w := abF Tryz.underlying86
theorem ar7 (w : World) : (zeroValue 86).run Tryz.prog w = .ok (.pointer none) w := by
  obtain ⟨i, hi⟩ : ∃ i, Tryz.prog.info? 86 = some i ∧ i.zero = some (.pointer none) := ⟨_, rfl, by kernel_rfl⟩
  unfold zeroValue
  rw [aac (abA hi.1)]
  simp [hi.2]
theorem ayf (w : World) : (Instr.typeAssert .nilIface 37 86 true).run Tryz.prog w = .ok (.tuple #[.pointer none, .bool false]) w := by
  simp [Instr.typeAssert, ar8, ar7]
theorem aun (w : World) (T : TypeId) (u : Value) (h : T ≠ 86) : (Instr.typeAssert (.iface T u) 37 86 true).run Tryz.prog w = .ok (.tuple #[.pointer none, .bool false]) w := by
  simp [Instr.typeAssert, ar8, ar7, h]
theorem azQ (w : World) (u : Value) : (Instr.typeAssert (.iface 86 u) 37 86 true).run Tryz.prog w = .ok (.tuple #[u, .bool true]) w := by
  simp [Instr.typeAssert, ar8]
theorem ar5 (w : World) : Calls Tryz.prog 18 #[.nilIface] w fun e w' => e = .returned (.slice none 0 0) ∧ w' = w := by
  have q := ayf
  go_enter Tryz.func18, Tryz.ntmps18
  go_wp2
  go_ret
  exact ⟨rfl, rfl⟩
theorem apy (w : World) (T : TypeId) (u : Value) (h : T ≠ 86) : Calls Tryz.prog 18 #[.iface T u] w fun e w' => e = .returned (.slice none 0 0) ∧ w' = w := by
  have q : ∀ w, (Instr.typeAssert (.iface T u) 37 86 true).run Tryz.prog w = .ok (.tuple #[.pointer none, .bool false]) w := fun w => aun w T u h
  clear h
  go_enter Tryz.func18, Tryz.ntmps18
  go_wp2
  go_ret
  exact ⟨rfl, rfl⟩
theorem ar4 (w : World) (b o : Nat) (A : Option Addr) (cap : Nat) (xs : List Int) (h : w.cell? ⟨b, o + 4, none⟩ = some (.slice A xs.length cap)) (hx : Sl amh 1 w w.heap.size A xs) (hn : xs.length ≤ 1000000) :
    Calls Tryz.prog 18 #[.iface 86 (.pointer (some ⟨b, o, none⟩))] w (anm amh 1 3 w xs) := by
  have q : ∀ w, (Instr.typeAssert (.iface 86 (.pointer (some ⟨b, o, none⟩))) 37 86 true).run Tryz.prog w = .ok (.tuple #[.pointer (some ⟨b, o, none⟩), .bool true]) w := fun w => azQ w _
  go_enter Tryz.func18, Tryz.ntmps18
  go_wp2_with fail
  refine (apd A cap xs w hx hn).mono ?_
  rintro e w3 ⟨⟨A3, q3, rfl, hs3⟩, hb3⟩
  go_wp2
  go_ret
  exact ⟨⟨A3, q3, rfl, hs3⟩, hb3⟩
end
section
open Go Go.RowKit
variable [Tb]
set_option maxRecDepth 100000
def aiL : MV → List Int
  | .run x => x.stack
  | _ => []
noncomputable def abP (m : MV) : Option ((List Int × Unit) × (MV × Unit)) := if (aiL m).length ≤ 1000000 then some ((aiL m, ()), (m, ())) else none
noncomputable abbrev agW : Con SR1 := ⟨18, [.mch], [.sh (.row 1)], fun x => abP x.1⟩
theorem afB {F : Type} {pc : F → Value → aah} {f : F} {fs : List F} {vs : List Value} {L : List aah} {B : Nat} {w : World} (s : Sat B w (fsS pc (f :: fs) vs ++ L)) : ∃ v vs', vs = v :: vs' ∧ Sat B w (pc f v :: (fsS pc fs vs' ++ L)) := by
  cases vs with
  | nil => exact aaG s
  | cons v vs => exact ⟨v, vs, rfl, s⟩
theorem ar6 {m : MV} (hn : (aiL m).length ≤ 1000000) {B : Nat} {w : World} {v : Value} {F : aah} (hB : B ≤ w.heap.size) (hs : Sat B w (pcS SR1.kt (.mach m) v :: [F])) : Calls Tryz.prog 18 #[v] w fun e w' => ∃ u, e = .returned u ∧ Below w.heap.size w w' ∧ Sat B w' (pcS SR1.kt (.row 1 (aiL m)) u :: pcS SR1.kt (.mach m) v :: [F]) := by
  have nil : ∀ {m' : MV}, aiL m' = [] → Sat B w (pcS SR1.kt (.mach m) v :: [F]) → Sat B w (pcS SR1.kt (.row 1 (aiL m')) (.slice none 0 0) :: pcS SR1.kt (.mach m) v :: [F]) := fun h s => by
    rw [h]
    exact agV (S := SR1) (c := 1) (fun _ => rfl) (s.imp (amg 1))
  have hs0 := hs
  obtain ⟨hh, Hh, j1, j2, ja, je, h1, hL⟩ := hs
  cases m
  case nil =>
    rw [aaE] at h1
    obtain rfl : v = .nilIface := h1
    exact (ar5 w).mono fun e w' ⟨he, hw⟩ => ⟨_, he, by rw [hw]; exact Below.refl _ _, by rw [hw]; exact nil (m' := .nil) rfl hs0⟩
  case run x =>
    obtain ⟨⟨q1, q2⟩, rfl, ho⟩ := (ajF (K := SR1.kt) rfl).1 h1
    obtain ⟨vs, hst⟩ := aiQ.1 ho
    have s1 : Sat B w (pts q1 q2 vs :: (fsS (pcS SR1.kt) (SR1.kt.vw 32 x) vs ++ [F])) := (⟨hh, Hh, aao.2 ⟨j1, j2, ja, je, hst, hL⟩⟩)
    have s2 := s1.drop
    obtain ⟨v0, vs0, rfl, s3⟩ := afB s2
    obtain ⟨v1, vs1, rfl, s4⟩ := afB s3.drop
    obtain ⟨v2, vs2, rfl, s5⟩ := afB s4.drop
    obtain ⟨v3, vs3, rfl, s6⟩ := afB s5.drop
    obtain ⟨v4, vs4, rfl, s7⟩ := afB s6.drop
    have s8 : Sat B w (pcS SR1.kt (.row 1 x.stack) v4 :: _) := s7
    obtain ⟨hh', Hh', k1, k2, ka, ke, h4, hL4⟩ := s8
    rw [aaE] at h4
    obtain ⟨A, cap, rfl, hr⟩ := h4
    have s9 : Sat B w (rwS SR1.kt 1 x.stack A cap :: _) := ⟨hh', Hh', k1, k2, ka, ke, hr, hL4⟩
    have hsl := (aow (aqG (K := SR1.kt) (c := 1) rfl (by decide) s9) List.mem_cons_self).1
    have hc := (s1.cell (i := 4) (v := .slice A x.stack.length cap) rfl).2.1
    refine (ar4 w q1 q2 A cap x.stack hc hsl hn).mono fun e w' ⟨⟨A', c', he, hown⟩, hb'⟩ => ⟨_, he, hb', ?_⟩
    exact agV (S := SR1) (c := 1) (fun _ => rfl) (aiM hs0 hb' hB hown)
  all_goals
    obtain ⟨q, rfl, _⟩ := (ajF (K := SR1.kt) rfl).1 h1
    exact (apy w _ _ (Nat.ne_of_beq_eq_false (by kernel_rfl))).mono fun e w' ⟨he, hw⟩ => ⟨_, he, by rw [hw]; exact Below.refl _ _, by rw [hw]; exact nil (m' := .nil) rfl hs0⟩
theorem amF : CO Tryz.prog agW := fun x out hx B W hg vs F w hw => by
  obtain ⟨hb, hB, hs⟩ := hw
  obtain ⟨m, u⟩ := x
  have hx : abP m = some out := hx
  unfold abP at hx
  split at hx
  case isFalse => cases hx
  rename_i hn
  cases hx
  show aeD Tryz.prog agW.f _ w _
  rw [ac9 rfl]
  rcases vs with _ | ⟨v, _ | ⟨v2, vs⟩⟩
  · exact aaG hs
  · have hs0 : Sat B w (pcS SR1.kt (.mach m) v :: [F]) := hs
    exact (ar6 hn hB hs0).mono fun e w' ⟨u, he, hb', s⟩ => ⟨[u], he, hb.trans (hb'.mono hB), Nat.le_trans hB hb'.size, s⟩
  · replace hs : Sat B w (pcS SR1.kt (.mach m) v :: ([fun _ => False] ++ [F])) := hs
    exact aaG hs.drop
end
end Go.Proofs.YtlcelajkhklkbaaGreat
