/- The program's machines in the evaluator's form. The program's machines in the evaluator's form. -/
import Derived.Test.YtlcelajkhklkbaaGreatRcam
set_option linter.all false
namespace Go.Proofs.YtlcelajkhklkbaaGreat
section
open Go Go.RowKit
set_option maxRecDepth 100000
variable [Tb]
noncomputable def abc (y0 : (RunV MV)) (y1 : EnvP) (y2 : Int) (y3 : Int) : Option ((Bool × Unit) × ((RunV MV) × EnvP × Unit)) :=
 if 0 ≤ wi (((y0.stack.length : Nat) : Int) - 1) ∧ wi (((y0.stack.length : Nat) : Int) - 1) < ((y0.stack.length : Nat) : Int) then
  if 0 ≤ aae y0.stack (wi (((y0.stack.length : Nat) : Int) - 1)) ∧ aae y0.stack (wi (((y0.stack.length : Nat) : Int) - 1)) < ((y1.recs.length : Nat) : Int) then
   if 0 ≤ wi (((y0.stack.length : Nat) : Int) - 1) ∧ wi (((y0.stack.length : Nat) : Int) - 1) < ((y0.stack.length : Nat) : Int) then
   if 0 ≤ aae y0.stack (wi (((y0.stack.length : Nat) : Int) - 1)) ∧ aae y0.stack (wi (((y0.stack.length : Nat) : Int) - 1)) < ((y1.recs.length : Nat) : Int) then
   if ((aab y1.recs (aae y0.stack (wi (((y0.stack.length : Nat) : Int) - 1)))).prog) < 0 then
   if 0 ≤ wi (((y0.stack.length : Nat) : Int) - 1) ∧ wi (((y0.stack.length : Nat) : Int) - 1) < ((y0.stack.length : Nat) : Int) then
   if 0 ≤ aae y0.stack (wi (((y0.stack.length : Nat) : Int) - 1)) ∧ aae y0.stack (wi (((y0.stack.length : Nat) : Int) - 1)) < ((y1.recs.length : Nat) : Int) then
   none
   else none
   else none
   else
   if ((y1.c.progs.length : Nat) : Int) ≤ ((aab y1.recs (aae y0.stack (wi (((y0.stack.length : Nat) : Int) - 1)))).prog) then
   if 0 ≤ wi (((y0.stack.length : Nat) : Int) - 1) ∧ wi (((y0.stack.length : Nat) : Int) - 1) < ((y0.stack.length : Nat) : Int) then
   if 0 ≤ aae y0.stack (wi (((y0.stack.length : Nat) : Int) - 1)) ∧ aae y0.stack (wi (((y0.stack.length : Nat) : Int) - 1)) < ((y1.recs.length : Nat) : Int) then
   none
   else none
   else none
   else
   if 0 ≤ (aab y1.recs (aae y0.stack (wi (((y0.stack.length : Nat) : Int) - 1)))).prog ∧ (aab y1.recs (aae y0.stack (wi (((y0.stack.length : Nat) : Int) - 1)))).prog < ((y1.c.progs.length : Nat) : Int) then
   if 0 ≤ wi (((y0.stack.length : Nat) : Int) - 1) ∧ wi (((y0.stack.length : Nat) : Int) - 1) < ((y0.stack.length : Nat) : Int) then
   if 0 ≤ aae y0.stack (wi (((y0.stack.length : Nat) : Int) - 1)) ∧ aae y0.stack (wi (((y0.stack.length : Nat) : Int) - 1)) < ((y1.recs.length : Nat) : Int) then
   if 0 ≤ (aab y1.recs (aae y0.stack (wi (((y0.stack.length : Nat) : Int) - 1)))).pc ∧ (aab y1.recs (aae y0.stack (wi (((y0.stack.length : Nat) : Int) - 1)))).pc < (((atL [] y1.c.progs ((aab y1.recs (aae y0.stack (wi (((y0.stack.length : Nat) : Int) - 1)))).prog)).length : Nat) : Int) then
   if y2 = 3 then
   if (((((aab (y1.recs.set (aae y0.stack (wi (((y0.stack.length : Nat) : Int) - 1))).toNat ({ aab y1.recs (aae y0.stack (wi (((y0.stack.length : Nat) : Int) - 1))) with pc := wi (((aab y1.recs (aae y0.stack (wi (((y0.stack.length : Nat) : Int) - 1)))).pc) + 1) } : RecP)) (aae y0.stack (wi (((y0.stack.length : Nat) : Int) - 1)))).kids).length + ([(-1)] : List Int).length : Nat)) : Int) < 1000000000000 then
   if 0 ≤ wi (((y0.stack.length : Nat) : Int) - 1) ∧ wi (((y0.stack.length : Nat) : Int) - 1) < ((y0.stack.length : Nat) : Int) then
   (aaw y0 ({ y1 with recs := (y1.recs.set (aae y0.stack (wi (((y0.stack.length : Nat) : Int) - 1))).toNat ({ aab y1.recs (aae y0.stack (wi (((y0.stack.length : Nat) : Int) - 1))) with pc := wi (((aab y1.recs (aae y0.stack (wi (((y0.stack.length : Nat) : Int) - 1)))).pc) + 1) } : RecP)).set (aae y0.stack (wi (((y0.stack.length : Nat) : Int) - 1))).toNat ({ aab (y1.recs.set (aae y0.stack (wi (((y0.stack.length : Nat) : Int) - 1))).toNat ({ aab y1.recs (aae y0.stack (wi (((y0.stack.length : Nat) : Int) - 1))) with pc := wi (((aab y1.recs (aae y0.stack (wi (((y0.stack.length : Nat) : Int) - 1)))).pc) + 1) } : RecP)) (aae y0.stack (wi (((y0.stack.length : Nat) : Int) - 1))) with kids := ((aab (y1.recs.set (aae y0.stack (wi (((y0.stack.length : Nat) : Int) - 1))).toNat ({ aab y1.recs (aae y0.stack (wi (((y0.stack.length : Nat) : Int) - 1))) with pc := wi (((aab y1.recs (aae y0.stack (wi (((y0.stack.length : Nat) : Int) - 1)))).pc) + 1) } : RecP)) (aae y0.stack (wi (((y0.stack.length : Nat) : Int) - 1)))).kids) ++ ([(-1)]) } : RecP) } : EnvP) (⟨4, 0, aae y0.stack (wi (((y0.stack.length : Nat) : Int) - 1)), 0, 0⟩ : Ev)).bind fun r1 =>
   (aac r1.2.1 0 MV.nil).bind fun r2 =>
   some ((r2.1.1, ()), (r2.2.1, r1.2.2.1, ()))
   else none
   else none
   else
   if (((((aab (y1.recs.set (aae y0.stack (wi (((y0.stack.length : Nat) : Int) - 1))).toNat ({ aab y1.recs (aae y0.stack (wi (((y0.stack.length : Nat) : Int) - 1))) with pc := wi (((aab y1.recs (aae y0.stack (wi (((y0.stack.length : Nat) : Int) - 1)))).pc) + 1) } : RecP)) (aae y0.stack (wi (((y0.stack.length : Nat) : Int) - 1)))).kids).length + ([y3] : List Int).length : Nat)) : Int) < 1000000000000 then
   if 0 ≤ wi (((y0.stack.length : Nat) : Int) - 1) ∧ wi (((y0.stack.length : Nat) : Int) - 1) < ((y0.stack.length : Nat) : Int) then
   if ((aaY (atL [] y1.c.progs ((aab y1.recs (aae y0.stack (wi (((y0.stack.length : Nat) : Int) - 1)))).prog)) ((aab y1.recs (aae y0.stack (wi (((y0.stack.length : Nat) : Int) - 1)))).pc)).a) = ((aaY (atL [] y1.c.progs ((aab y1.recs (aae y0.stack (wi (((y0.stack.length : Nat) : Int) - 1)))).prog)) ((aab y1.recs (aae y0.stack (wi (((y0.stack.length : Nat) : Int) - 1)))).pc)).a) then
   if 0 ≤ y3 ∧ y3 < ((((y1.recs.set (aae y0.stack (wi (((y0.stack.length : Nat) : Int) - 1))).toNat ({ aab y1.recs (aae y0.stack (wi (((y0.stack.length : Nat) : Int) - 1))) with pc := wi (((aab y1.recs (aae y0.stack (wi (((y0.stack.length : Nat) : Int) - 1)))).pc) + 1) } : RecP)).set (aae y0.stack (wi (((y0.stack.length : Nat) : Int) - 1))).toNat ({ aab (y1.recs.set (aae y0.stack (wi (((y0.stack.length : Nat) : Int) - 1))).toNat ({ aab y1.recs (aae y0.stack (wi (((y0.stack.length : Nat) : Int) - 1))) with pc := wi (((aab y1.recs (aae y0.stack (wi (((y0.stack.length : Nat) : Int) - 1)))).pc) + 1) } : RecP)) (aae y0.stack (wi (((y0.stack.length : Nat) : Int) - 1))) with kids := ((aab (y1.recs.set (aae y0.stack (wi (((y0.stack.length : Nat) : Int) - 1))).toNat ({ aab y1.recs (aae y0.stack (wi (((y0.stack.length : Nat) : Int) - 1))) with pc := wi (((aab y1.recs (aae y0.stack (wi (((y0.stack.length : Nat) : Int) - 1)))).pc) + 1) } : RecP)) (aae y0.stack (wi (((y0.stack.length : Nat) : Int) - 1)))).kids) ++ ([y3]) } : RecP)).length : Nat) : Int) then
   if ((aaY (atL [] y1.c.progs ((aab y1.recs (aae y0.stack (wi (((y0.stack.length : Nat) : Int) - 1)))).prog)) ((aab y1.recs (aae y0.stack (wi (((y0.stack.length : Nat) : Int) - 1)))).pc)).b) = ((aaY (atL [] y1.c.progs ((aab y1.recs (aae y0.stack (wi (((y0.stack.length : Nat) : Int) - 1)))).prog)) ((aab y1.recs (aae y0.stack (wi (((y0.stack.length : Nat) : Int) - 1)))).pc)).b) then
   (aek y3 ((aaY (atL [] y1.c.progs ((aab y1.recs (aae y0.stack (wi (((y0.stack.length : Nat) : Int) - 1)))).prog)) ((aab y1.recs (aae y0.stack (wi (((y0.stack.length : Nat) : Int) - 1)))).pc)).b)).bind fun r3 =>
   (aac ({ y0 with id := y3, level := (aaY (atL [] y1.c.progs ((aab y1.recs (aae y0.stack (wi (((y0.stack.length : Nat) : Int) - 1)))).prog)) ((aab y1.recs (aae y0.stack (wi (((y0.stack.length : Nat) : Int) - 1)))).pc)).b } : (RunV MV)) 5 r3.1.1).bind fun r4 =>
   some ((r4.1.1, ()), (r4.2.1, ({ y1 with recs := ((y1.recs.set (aae y0.stack (wi (((y0.stack.length : Nat) : Int) - 1))).toNat ({ aab y1.recs (aae y0.stack (wi (((y0.stack.length : Nat) : Int) - 1))) with pc := wi (((aab y1.recs (aae y0.stack (wi (((y0.stack.length : Nat) : Int) - 1)))).pc) + 1) } : RecP)).set (aae y0.stack (wi (((y0.stack.length : Nat) : Int) - 1))).toNat ({ aab (y1.recs.set (aae y0.stack (wi (((y0.stack.length : Nat) : Int) - 1))).toNat ({ aab y1.recs (aae y0.stack (wi (((y0.stack.length : Nat) : Int) - 1))) with pc := wi (((aab y1.recs (aae y0.stack (wi (((y0.stack.length : Nat) : Int) - 1)))).pc) + 1) } : RecP)) (aae y0.stack (wi (((y0.stack.length : Nat) : Int) - 1))) with kids := ((aab (y1.recs.set (aae y0.stack (wi (((y0.stack.length : Nat) : Int) - 1))).toNat ({ aab y1.recs (aae y0.stack (wi (((y0.stack.length : Nat) : Int) - 1))) with pc := wi (((aab y1.recs (aae y0.stack (wi (((y0.stack.length : Nat) : Int) - 1)))).pc) + 1) } : RecP)) (aae y0.stack (wi (((y0.stack.length : Nat) : Int) - 1)))).kids) ++ ([y3]) } : RecP)).set y3.toNat (⟨(aaY (atL [] y1.c.progs ((aab y1.recs (aae y0.stack (wi (((y0.stack.length : Nat) : Int) - 1)))).prog)) ((aab y1.recs (aae y0.stack (wi (((y0.stack.length : Nat) : Int) - 1)))).pc)).a, aae y0.stack (wi (((y0.stack.length : Nat) : Int) - 1)), 0, 0, (-1), [], false⟩ : RecP) } : EnvP), ()))
   else none
   else none
   else none
   else none
   else none
   else none
   else none
   else none
   else none
   else none
   else none
  else none
 else none
noncomputable abbrev adL : Con SR1 := ⟨143, [.ref 32, .ref 27, .sh sI_, .sh sI_], [.sh .b], fun x => abc x.1 x.2.1 x.2.2.1 x.2.2.2.1⟩
noncomputable def af0 : List (Nat × Func) := [(138, Tryz.f138), (131, Tryz.f131), (141, Tryz.f141), (139, Tryz.f139)]
theorem af1 : CO Tryz.prog adL := aar aaq Tryz.func143 [ace, abQ, aet] ⟨acE, abZ, afW, trivial⟩ af0 ⟨Tryz.func138, Tryz.func131, Tryz.func141, Tryz.func139, trivial⟩ (fun _ => []) [(8, .close)] fun x => by kernel_rfl
noncomputable def aaR (y0 : (RunV MV)) (y1 : EnvP) : Option ((Bool × Unit) × ((RunV MV) × EnvP × Unit)) :=
 (adb y0.inside y1).bind fun r1 =>
 if (!r1.1.1) = true then
  some ((false, ()), (({ y0 with inside := r1.2.1 } : (RunV MV)), r1.2.2.1, ()))
 else
 (ab2 r1.2.1).bind fun r2 =>
 if y0.line = 4 then
  (abc ({ y0 with inside := r2.2.1 } : (RunV MV)) r1.2.2.1 r2.1.1 r2.1.2.1).bind fun r3 =>
  some ((r3.1.1, ()), (r3.2.1, r3.2.2.1, ()))
 else
 if y0.line = 5 then
  if 0 ≤ wi (((y0.stack.length : Nat) : Int) - 1) ∧ wi (((y0.stack.length : Nat) : Int) - 1) < ((y0.stack.length : Nat) : Int) then
   if y0.level = y0.level then
   if y0.id = y0.id then
   (aaw ({ y0 with inside := r2.2.1 } : (RunV MV)) r1.2.2.1 (⟨3, 0, y0.id, aae y0.stack (wi (((y0.stack.length : Nat) : Int) - 1)), y0.level⟩ : Ev)).bind fun r4 =>
   (abG r4.2.1.worker r4.2.1.level r4.2.1.id).bind fun r5 =>
   (aac r4.2.1 6 r5.1.1).bind fun r6 =>
   some ((r6.1.1, ()), (r6.2.1, r4.2.2.1, ()))
   else none
   else none
  else none
 else
 if y0.line = 6 then
  if r2.1.1 = 3 then
   (abF y0.worker y0.id).bind fun r7 =>
   (aac ({ y0 with inside := r2.2.1 } : (RunV MV)) 8 r7.1.1).bind fun r8 =>
   some ((r8.1.1, ()), (r8.2.1, r1.2.2.1, ()))
  else
  (ab3 y0.worker y0.level).bind fun r9 =>
  (aac ({ y0 with inside := r2.2.1 } : (RunV MV)) 7 r9.1.1).bind fun r10 =>
  some ((r10.1.1, ()), (r10.2.1, r1.2.2.1, ()))
 else
 if y0.line = 8 then
  if r2.1.1 = 1 then
   if (((y0.stack.length + ([y0.id] : List Int).length : Nat)) : Int) < 1000000000000 then
   (aac ({ y0 with stack := y0.stack ++ ([y0.id]), inside := r2.2.1 } : (RunV MV)) 0 MV.nil).bind fun r11 =>
   some ((r11.1.1, ()), (r11.2.1, r1.2.2.1, ()))
   else none
  else
  (aac ({ y0 with inside := r2.2.1 } : (RunV MV)) 0 MV.nil).bind fun r12 =>
  some ((r12.1.1, ()), (r12.2.1, r1.2.2.1, ()))
 else
 (aac ({ y0 with inside := r2.2.1 } : (RunV MV)) 0 MV.nil).bind fun r13 =>
 some ((r13.1.1, ()), (r13.2.1, r1.2.2.1, ()))
noncomputable abbrev afA : Con SR1 := ⟨135, [.ref 32, .ref 27], [.sh .b], fun x => aaR x.1 x.2.1⟩
noncomputable def aia : List (Nat × Func) := [(131, Tryz.f131)]
theorem aib : CO Tryz.prog afA := aar aaq Tryz.func135 [ajf, aid, adL, ace, acP, abQ, acN, agy] ⟨aju, ajC, af1, acE, ac0, abZ, acU, ag1, trivial⟩ aia ⟨Tryz.func131, trivial⟩ (fun _ => []) [] fun x => by kernel_rfl
noncomputable def agm (y0 : Int) (y1 : Int) (y2 : Int) : Option ((MV × Unit) × (Unit)) :=
 some ((MV.walk (⟨⟨false, 0, 0⟩, y0, y1, y2, 1, MV.nil⟩ : (WalkV MV)), ()), (()))
noncomputable abbrev akt : Con SR1 := ⟨152, [.sh sI_, .sh sI_, .sh sI_], [.sh .mach], fun x => agm x.1 x.2.1 x.2.2.1⟩
theorem ang : CO Tryz.prog akt := aar aaq Tryz.func152 [] trivial [] trivial (fun _ => []) [] fun x => by kernel_rfl
noncomputable def aal (y0 : (RunV MV)) : Option ((Bool × Unit) × ((RunV MV) × Unit)) :=
 if 0 ≤ wi (((y0.stack.length : Nat) : Int) - 1) ∧ wi (((y0.stack.length : Nat) : Int) - 1) ≤ ((y0.stack.length : Nat) : Int) then
  if (((y0.stack.take (wi (((y0.stack.length : Nat) : Int) - 1) : Int).toNat).length : Nat) : Int) = 0 then
   (abi y0.o 0 0).bind fun r1 =>
   some ((r1.1.1, ()), (({ y0 with o := r1.2.1, stack := y0.stack.take (wi (((y0.stack.length : Nat) : Int) - 1) : Int).toNat } : (RunV MV)), ()))
  else
  (aac ({ y0 with stack := y0.stack.take (wi (((y0.stack.length : Nat) : Int) - 1) : Int).toNat } : (RunV MV)) 0 MV.nil).bind fun r2 =>
  some ((r2.1.1, ()), (r2.2.1, ()))
 else none
noncomputable abbrev adG : Con SR1 := ⟨153, [.ref 32], [.sh .b], fun x => aal x.1⟩
theorem aeM : CO Tryz.prog adG := aar aaq Tryz.func153 [abq, abQ] ⟨aaX, abZ, trivial⟩ [] trivial (fun _ => []) [] fun x => by kernel_rfl
noncomputable def ad6 (y0 : (RunV MV)) (y1 : EnvP) : Option ((Bool × Unit) × ((RunV MV) × EnvP × Unit)) :=
 agr (
  if 0 ≤ wi (((y0.stack.length : Nat) : Int) - 1) ∧ wi (((y0.stack.length : Nat) : Int) - 1) < ((y0.stack.length : Nat) : Int) then
   if y1.l.workers = y1.l.workers then
   if y1.l.levels = y1.l.levels then
   if y1.l.classes = y1.l.classes then
   if y1.l.tasks = y1.l.tasks then
   if y1.l.deque = y1.l.deque then
   if y1.l.heap = y1.l.heap then
   if y1.l.sleepers = y1.l.sleepers then
   if y1.l.epochs = y1.l.epochs then
   if y1.l.bitmaps = y1.l.bitmaps then
   if y1.l.queues = y1.l.queues then
   if y1.l.table = y1.l.table then
   if y1.l.workers = y1.l.workers then
   if y1.l.levels = y1.l.levels then
   if y1.l.classes = y1.l.classes then
   if y1.l.tasks = y1.l.tasks then
   if y1.l.deque = y1.l.deque then
   if y1.l.heap = y1.l.heap then
   if y1.l.sleepers = y1.l.sleepers then
   if y1.l.epochs = y1.l.epochs then
   if y1.l.bitmaps = y1.l.bitmaps then
   if y1.l.queues = y1.l.queues then
   if y1.l.table = y1.l.table then
   if y0.line = 9 then
   if 0 ≤ wi (((y0.stack.length : Nat) : Int) - 1) ∧ wi (((y0.stack.length : Nat) : Int) - 1) < ((y0.stack.length : Nat) : Int) then
   if 0 ≤ aae y0.stack (wi (((y0.stack.length : Nat) : Int) - 1)) ∧ aae y0.stack (wi (((y0.stack.length : Nat) : Int) - 1)) < ((y1.recs.length : Nat) : Int) then
   if 0 ≤ wi (((y0.stack.length : Nat) : Int) - 1) ∧ wi (((y0.stack.length : Nat) : Int) - 1) < ((y0.stack.length : Nat) : Int) then
   if 0 ≤ aae y0.stack (wi (((y0.stack.length : Nat) : Int) - 1)) ∧ aae y0.stack (wi (((y0.stack.length : Nat) : Int) - 1)) < ((y1.recs.length : Nat) : Int) then
   if (aae y0.stack (wi (((y0.stack.length : Nat) : Int) - 1))) = (aae y0.stack (wi (((y0.stack.length : Nat) : Int) - 1))) then
   if ((aab y1.recs (aae y0.stack (wi (((y0.stack.length : Nat) : Int) - 1)))).prog) < 0 then
   if 0 ≤ wi (((y0.stack.length : Nat) : Int) - 1) ∧ wi (((y0.stack.length : Nat) : Int) - 1) < ((y0.stack.length : Nat) : Int) then
   if 0 ≤ aae y0.stack (wi (((y0.stack.length : Nat) : Int) - 1)) ∧ aae y0.stack (wi (((y0.stack.length : Nat) : Int) - 1)) < ((y1.recs.length : Nat) : Int) then
   if (aae y0.stack (wi (((y0.stack.length : Nat) : Int) - 1))) = (aae y0.stack (wi (((y0.stack.length : Nat) : Int) - 1))) then
   none
   else none
   else none
   else none
   else
   if ((y1.c.progs.length : Nat) : Int) ≤ ((aab y1.recs (aae y0.stack (wi (((y0.stack.length : Nat) : Int) - 1)))).prog) then
   if 0 ≤ wi (((y0.stack.length : Nat) : Int) - 1) ∧ wi (((y0.stack.length : Nat) : Int) - 1) < ((y0.stack.length : Nat) : Int) then
   if 0 ≤ aae y0.stack (wi (((y0.stack.length : Nat) : Int) - 1)) ∧ aae y0.stack (wi (((y0.stack.length : Nat) : Int) - 1)) < ((y1.recs.length : Nat) : Int) then
   if (aae y0.stack (wi (((y0.stack.length : Nat) : Int) - 1))) = (aae y0.stack (wi (((y0.stack.length : Nat) : Int) - 1))) then
   none
   else none
   else none
   else none
   else
   if 0 ≤ (aab y1.recs (aae y0.stack (wi (((y0.stack.length : Nat) : Int) - 1)))).prog ∧ (aab y1.recs (aae y0.stack (wi (((y0.stack.length : Nat) : Int) - 1)))).prog < ((y1.c.progs.length : Nat) : Int) then
   if 0 ≤ wi (((y0.stack.length : Nat) : Int) - 1) ∧ wi (((y0.stack.length : Nat) : Int) - 1) < ((y0.stack.length : Nat) : Int) then
   if 0 ≤ aae y0.stack (wi (((y0.stack.length : Nat) : Int) - 1)) ∧ aae y0.stack (wi (((y0.stack.length : Nat) : Int) - 1)) < ((y1.recs.length : Nat) : Int) then
   if (aae y0.stack (wi (((y0.stack.length : Nat) : Int) - 1))) = (aae y0.stack (wi (((y0.stack.length : Nat) : Int) - 1))) then
   if 0 ≤ (aab y1.recs (aae y0.stack (wi (((y0.stack.length : Nat) : Int) - 1)))).pc ∧ (aab y1.recs (aae y0.stack (wi (((y0.stack.length : Nat) : Int) - 1)))).pc < (((atL [] y1.c.progs ((aab y1.recs (aae y0.stack (wi (((y0.stack.length : Nat) : Int) - 1)))).prog)).length : Nat) : Int) then
   if 0 ≤ (aaY (atL [] y1.c.progs ((aab y1.recs (aae y0.stack (wi (((y0.stack.length : Nat) : Int) - 1)))).prog)) ((aab y1.recs (aae y0.stack (wi (((y0.stack.length : Nat) : Int) - 1)))).pc)).a ∧ (aaY (atL [] y1.c.progs ((aab y1.recs (aae y0.stack (wi (((y0.stack.length : Nat) : Int) - 1)))).prog)) ((aab y1.recs (aae y0.stack (wi (((y0.stack.length : Nat) : Int) - 1)))).pc)).a < ((((aab y1.recs (aae y0.stack (wi (((y0.stack.length : Nat) : Int) - 1)))).kids).length : Nat) : Int) then
   (af7 y1.l (aae y0.stack (wi (((y0.stack.length : Nat) : Int) - 1)))).bind fun r26 =>
   if (aae ((aab y1.recs (aae y0.stack (wi (((y0.stack.length : Nat) : Int) - 1)))).kids) ((aaY (atL [] y1.c.progs ((aab y1.recs (aae y0.stack (wi (((y0.stack.length : Nat) : Int) - 1)))).prog)) ((aab y1.recs (aae y0.stack (wi (((y0.stack.length : Nat) : Int) - 1)))).pc)).a)) = (aae ((aab y1.recs (aae y0.stack (wi (((y0.stack.length : Nat) : Int) - 1)))).kids) ((aaY (atL [] y1.c.progs ((aab y1.recs (aae y0.stack (wi (((y0.stack.length : Nat) : Int) - 1)))).prog)) ((aab y1.recs (aae y0.stack (wi (((y0.stack.length : Nat) : Int) - 1)))).pc)).a)) then
   (aa0 y1.m r26.1.1 (wu (wi ((aae ((aab y1.recs (aae y0.stack (wi (((y0.stack.length : Nat) : Int) - 1)))).kids) ((aaY (atL [] y1.c.progs ((aab y1.recs (aae y0.stack (wi (((y0.stack.length : Nat) : Int) - 1)))).prog)) ((aab y1.recs (aae y0.stack (wi (((y0.stack.length : Nat) : Int) - 1)))).pc)).a)) + 1)))).bind fun r27 =>
   (aac ({ y0 with child := aae ((aab y1.recs (aae y0.stack (wi (((y0.stack.length : Nat) : Int) - 1)))).kids) ((aaY (atL [] y1.c.progs ((aab y1.recs (aae y0.stack (wi (((y0.stack.length : Nat) : Int) - 1)))).prog)) ((aab y1.recs (aae y0.stack (wi (((y0.stack.length : Nat) : Int) - 1)))).pc)).a) } : (RunV MV)) (wi (y0.line + 1)) MV.nil).bind fun r28 =>
   some ((r28.1.1, ()), (r28.2.1, ({ y1 with m := r27.2.1, recs := ((y1.recs.set (aae y0.stack (wi (((y0.stack.length : Nat) : Int) - 1))).toNat (aab y1.recs (aae y0.stack (wi (((y0.stack.length : Nat) : Int) - 1))))).set (aae y0.stack (wi (((y0.stack.length : Nat) : Int) - 1))).toNat ({ aab (y1.recs.set (aae y0.stack (wi (((y0.stack.length : Nat) : Int) - 1))).toNat (aab y1.recs (aae y0.stack (wi (((y0.stack.length : Nat) : Int) - 1))))) (aae y0.stack (wi (((y0.stack.length : Nat) : Int) - 1))) with pc := wi (((aab (y1.recs.set (aae y0.stack (wi (((y0.stack.length : Nat) : Int) - 1))).toNat (aab y1.recs (aae y0.stack (wi (((y0.stack.length : Nat) : Int) - 1))))) (aae y0.stack (wi (((y0.stack.length : Nat) : Int) - 1)))).pc) + 1) } : RecP)).set (aae y0.stack (wi (((y0.stack.length : Nat) : Int) - 1))).toNat ({ aab ((y1.recs.set (aae y0.stack (wi (((y0.stack.length : Nat) : Int) - 1))).toNat (aab y1.recs (aae y0.stack (wi (((y0.stack.length : Nat) : Int) - 1))))).set (aae y0.stack (wi (((y0.stack.length : Nat) : Int) - 1))).toNat ({ aab (y1.recs.set (aae y0.stack (wi (((y0.stack.length : Nat) : Int) - 1))).toNat (aab y1.recs (aae y0.stack (wi (((y0.stack.length : Nat) : Int) - 1))))) (aae y0.stack (wi (((y0.stack.length : Nat) : Int) - 1))) with pc := wi (((aab (y1.recs.set (aae y0.stack (wi (((y0.stack.length : Nat) : Int) - 1))).toNat (aab y1.recs (aae y0.stack (wi (((y0.stack.length : Nat) : Int) - 1))))) (aae y0.stack (wi (((y0.stack.length : Nat) : Int) - 1)))).pc) + 1) } : RecP)) (aae y0.stack (wi (((y0.stack.length : Nat) : Int) - 1))) with waiting := aae ((aab y1.recs (aae y0.stack (wi (((y0.stack.length : Nat) : Int) - 1)))).kids) ((aaY (atL [] y1.c.progs ((aab y1.recs (aae y0.stack (wi (((y0.stack.length : Nat) : Int) - 1)))).prog)) ((aab y1.recs (aae y0.stack (wi (((y0.stack.length : Nat) : Int) - 1)))).pc)).a) } : RecP) } : EnvP), ()))
   else none
   else none
   else none
   else none
   else none
   else none
   else none
   else none
   else none
   else none
   else none
   else none
   else
   if y0.line = 10 then
   (adA y1.l (aae y0.stack (wi (((y0.stack.length : Nat) : Int) - 1)))).bind fun r29 =>
   (aa0 y1.m r29.1.1 3).bind fun r30 =>
   (aac y0 (wi (y0.line + 1)) MV.nil).bind fun r31 =>
   some ((r31.1.1, ()), (r31.2.1, ({ y1 with m := r30.2.1 } : EnvP), ()))
   else
   if y0.line = 11 then
   (ai6 y1.l y0.child).bind fun r32 =>
   (amf y1.m r32.1.1 0 (wu (wi ((aae y0.stack (wi (((y0.stack.length : Nat) : Int) - 1))) + 1)))).bind fun r33 =>
   if (!r33.1.1) = true then
   (aac y0 14 MV.nil).bind fun r34 =>
   some ((r34.1.1, ()), (r34.2.1, ({ y1 with m := r33.2.1 } : EnvP), ()))
   else
   (aaw y0 ({ y1 with m := r33.2.1 } : EnvP) (⟨6, 0, aae y0.stack (wi (((y0.stack.length : Nat) : Int) - 1)), y0.child, 0⟩ : Ev)).bind fun r35 =>
   (aac r35.2.1 (wi (r35.2.1.line + 1)) MV.nil).bind fun r36 =>
   some ((r36.1.1, ()), (r36.2.1, r35.2.2.1, ()))
   else
   if y0.line = 12 then
   (aed y1.l (aae y0.stack (wi (((y0.stack.length : Nat) : Int) - 1)))).bind fun r37 =>
   (abz y1.m r37.1.1).bind fun r38 =>
   (agm y0.worker y0.child (wi (r38.1.1))).bind fun r39 =>
   (aac ({ y0 with level := wi (r38.1.1) } : (RunV MV)) 13 r39.1.1).bind fun r40 =>
   some ((r40.1.1, ()), (r40.2.1, ({ y1 with m := r38.2.1 } : EnvP), ()))
   else
   if y0.line = 13 then
   (adb y0.inside y1).bind fun r41 =>
   if (!r41.1.1) = true then
   some ((false, ()), (({ y0 with inside := r41.2.1 } : (RunV MV)), r41.2.2.1, ()))
   else
   (aaw ({ y0 with inside := r41.2.1 } : (RunV MV)) r41.2.2.1 (⟨7, 0, aae y0.stack (wi (((y0.stack.length : Nat) : Int) - 1)), 0, y0.level⟩ : Ev)).bind fun r42 =>
   (aal r42.2.1).bind fun r43 =>
   some ((r43.1.1, ()), (r43.2.1, r42.2.2.1, ()))
   else
   if y0.line = 14 then
   (adA y1.l (aae y0.stack (wi (((y0.stack.length : Nat) : Int) - 1)))).bind fun r44 =>
   (aa0 y1.m r44.1.1 2).bind fun r45 =>
   (aac y0 (wi (y0.line + 1)) MV.nil).bind fun r46 =>
   some ((r46.1.1, ()), (r46.2.1, ({ y1 with m := r45.2.1 } : EnvP), ()))
   else
   (af7 y1.l (aae y0.stack (wi (((y0.stack.length : Nat) : Int) - 1)))).bind fun r47 =>
   (aa0 y1.m r47.1.1 0).bind fun r48 =>
   if 0 ≤ wi (((y0.stack.length : Nat) : Int) - 1) ∧ wi (((y0.stack.length : Nat) : Int) - 1) < ((y0.stack.length : Nat) : Int) then
   if 0 ≤ aae y0.stack (wi (((y0.stack.length : Nat) : Int) - 1)) ∧ aae y0.stack (wi (((y0.stack.length : Nat) : Int) - 1)) < ((y1.recs.length : Nat) : Int) then
   (aaw y0 ({ y1 with m := r48.2.1, recs := y1.recs.set (aae y0.stack (wi (((y0.stack.length : Nat) : Int) - 1))).toNat ({ aab y1.recs (aae y0.stack (wi (((y0.stack.length : Nat) : Int) - 1))) with waiting := (-1) } : RecP) } : EnvP) (⟨8, 0, aae y0.stack (wi (((y0.stack.length : Nat) : Int) - 1)), y0.child, 0⟩ : Ev)).bind fun r49 =>
   (aac r49.2.1 0 MV.nil).bind fun r50 =>
   some ((r50.1.1, ()), (r50.2.1, r49.2.2.1, ()))
   else none
   else none
   else none
   else none
   else none
   else none
   else none
   else none
   else none
   else none
   else none
   else none
   else none
   else none
   else none
   else none
   else none
   else none
   else none
   else none
   else none
   else none
   else none
   else none
  else none
 ) (
  if y1.l.workers = y1.l.workers then
   if y1.l.levels = y1.l.levels then
   if y1.l.classes = y1.l.classes then
   if y1.l.tasks = y1.l.tasks then
   if y1.l.deque = y1.l.deque then
   if y1.l.heap = y1.l.heap then
   if y1.l.sleepers = y1.l.sleepers then
   if y1.l.epochs = y1.l.epochs then
   if y1.l.bitmaps = y1.l.bitmaps then
   if y1.l.queues = y1.l.queues then
   if y1.l.table = y1.l.table then
   if 0 ≤ wi (((y0.stack.length : Nat) : Int) - 1) ∧ wi (((y0.stack.length : Nat) : Int) - 1) < ((y0.stack.length : Nat) : Int) then
   if y1.l.workers = y1.l.workers then
   if y1.l.levels = y1.l.levels then
   if y1.l.classes = y1.l.classes then
   if y1.l.tasks = y1.l.tasks then
   if y1.l.deque = y1.l.deque then
   if y1.l.heap = y1.l.heap then
   if y1.l.sleepers = y1.l.sleepers then
   if y1.l.epochs = y1.l.epochs then
   if y1.l.bitmaps = y1.l.bitmaps then
   if y1.l.queues = y1.l.queues then
   if y1.l.table = y1.l.table then
   if y0.line = 9 then
   if 0 ≤ wi (((y0.stack.length : Nat) : Int) - 1) ∧ wi (((y0.stack.length : Nat) : Int) - 1) < ((y0.stack.length : Nat) : Int) then
   if 0 ≤ aae y0.stack (wi (((y0.stack.length : Nat) : Int) - 1)) ∧ aae y0.stack (wi (((y0.stack.length : Nat) : Int) - 1)) < ((y1.recs.length : Nat) : Int) then
   if 0 ≤ wi (((y0.stack.length : Nat) : Int) - 1) ∧ wi (((y0.stack.length : Nat) : Int) - 1) < ((y0.stack.length : Nat) : Int) then
   if 0 ≤ aae y0.stack (wi (((y0.stack.length : Nat) : Int) - 1)) ∧ aae y0.stack (wi (((y0.stack.length : Nat) : Int) - 1)) < ((y1.recs.length : Nat) : Int) then
   if (aae y0.stack (wi (((y0.stack.length : Nat) : Int) - 1))) = (aae y0.stack (wi (((y0.stack.length : Nat) : Int) - 1))) then
   if ((aab y1.recs (aae y0.stack (wi (((y0.stack.length : Nat) : Int) - 1)))).prog) < 0 then
   if 0 ≤ wi (((y0.stack.length : Nat) : Int) - 1) ∧ wi (((y0.stack.length : Nat) : Int) - 1) < ((y0.stack.length : Nat) : Int) then
   if 0 ≤ aae y0.stack (wi (((y0.stack.length : Nat) : Int) - 1)) ∧ aae y0.stack (wi (((y0.stack.length : Nat) : Int) - 1)) < ((y1.recs.length : Nat) : Int) then
   if (aae y0.stack (wi (((y0.stack.length : Nat) : Int) - 1))) = (aae y0.stack (wi (((y0.stack.length : Nat) : Int) - 1))) then
   none
   else none
   else none
   else none
   else
   if ((y1.c.progs.length : Nat) : Int) ≤ ((aab y1.recs (aae y0.stack (wi (((y0.stack.length : Nat) : Int) - 1)))).prog) then
   if 0 ≤ wi (((y0.stack.length : Nat) : Int) - 1) ∧ wi (((y0.stack.length : Nat) : Int) - 1) < ((y0.stack.length : Nat) : Int) then
   if 0 ≤ aae y0.stack (wi (((y0.stack.length : Nat) : Int) - 1)) ∧ aae y0.stack (wi (((y0.stack.length : Nat) : Int) - 1)) < ((y1.recs.length : Nat) : Int) then
   if (aae y0.stack (wi (((y0.stack.length : Nat) : Int) - 1))) = (aae y0.stack (wi (((y0.stack.length : Nat) : Int) - 1))) then
   none
   else none
   else none
   else none
   else
   if 0 ≤ (aab y1.recs (aae y0.stack (wi (((y0.stack.length : Nat) : Int) - 1)))).prog ∧ (aab y1.recs (aae y0.stack (wi (((y0.stack.length : Nat) : Int) - 1)))).prog < ((y1.c.progs.length : Nat) : Int) then
   if 0 ≤ wi (((y0.stack.length : Nat) : Int) - 1) ∧ wi (((y0.stack.length : Nat) : Int) - 1) < ((y0.stack.length : Nat) : Int) then
   if 0 ≤ aae y0.stack (wi (((y0.stack.length : Nat) : Int) - 1)) ∧ aae y0.stack (wi (((y0.stack.length : Nat) : Int) - 1)) < ((y1.recs.length : Nat) : Int) then
   if (aae y0.stack (wi (((y0.stack.length : Nat) : Int) - 1))) = (aae y0.stack (wi (((y0.stack.length : Nat) : Int) - 1))) then
   if 0 ≤ (aab y1.recs (aae y0.stack (wi (((y0.stack.length : Nat) : Int) - 1)))).pc ∧ (aab y1.recs (aae y0.stack (wi (((y0.stack.length : Nat) : Int) - 1)))).pc < (((atL [] y1.c.progs ((aab y1.recs (aae y0.stack (wi (((y0.stack.length : Nat) : Int) - 1)))).prog)).length : Nat) : Int) then
   if 0 ≤ (aaY (atL [] y1.c.progs ((aab y1.recs (aae y0.stack (wi (((y0.stack.length : Nat) : Int) - 1)))).prog)) ((aab y1.recs (aae y0.stack (wi (((y0.stack.length : Nat) : Int) - 1)))).pc)).a ∧ (aaY (atL [] y1.c.progs ((aab y1.recs (aae y0.stack (wi (((y0.stack.length : Nat) : Int) - 1)))).prog)) ((aab y1.recs (aae y0.stack (wi (((y0.stack.length : Nat) : Int) - 1)))).pc)).a < ((((aab y1.recs (aae y0.stack (wi (((y0.stack.length : Nat) : Int) - 1)))).kids).length : Nat) : Int) then
   (af7 y1.l (aae y0.stack (wi (((y0.stack.length : Nat) : Int) - 1)))).bind fun r1 =>
   if (aae ((aab y1.recs (aae y0.stack (wi (((y0.stack.length : Nat) : Int) - 1)))).kids) ((aaY (atL [] y1.c.progs ((aab y1.recs (aae y0.stack (wi (((y0.stack.length : Nat) : Int) - 1)))).prog)) ((aab y1.recs (aae y0.stack (wi (((y0.stack.length : Nat) : Int) - 1)))).pc)).a)) = (aae ((aab y1.recs (aae y0.stack (wi (((y0.stack.length : Nat) : Int) - 1)))).kids) ((aaY (atL [] y1.c.progs ((aab y1.recs (aae y0.stack (wi (((y0.stack.length : Nat) : Int) - 1)))).prog)) ((aab y1.recs (aae y0.stack (wi (((y0.stack.length : Nat) : Int) - 1)))).pc)).a)) then
   (aa0 y1.m r1.1.1 (wu (wi ((aae ((aab y1.recs (aae y0.stack (wi (((y0.stack.length : Nat) : Int) - 1)))).kids) ((aaY (atL [] y1.c.progs ((aab y1.recs (aae y0.stack (wi (((y0.stack.length : Nat) : Int) - 1)))).prog)) ((aab y1.recs (aae y0.stack (wi (((y0.stack.length : Nat) : Int) - 1)))).pc)).a)) + 1)))).bind fun r2 =>
   (aac ({ y0 with child := aae ((aab y1.recs (aae y0.stack (wi (((y0.stack.length : Nat) : Int) - 1)))).kids) ((aaY (atL [] y1.c.progs ((aab y1.recs (aae y0.stack (wi (((y0.stack.length : Nat) : Int) - 1)))).prog)) ((aab y1.recs (aae y0.stack (wi (((y0.stack.length : Nat) : Int) - 1)))).pc)).a) } : (RunV MV)) (wi (y0.line + 1)) MV.nil).bind fun r3 =>
   some ((r3.1.1, ()), (r3.2.1, ({ y1 with m := r2.2.1, recs := ((y1.recs.set (aae y0.stack (wi (((y0.stack.length : Nat) : Int) - 1))).toNat (aab y1.recs (aae y0.stack (wi (((y0.stack.length : Nat) : Int) - 1))))).set (aae y0.stack (wi (((y0.stack.length : Nat) : Int) - 1))).toNat ({ aab (y1.recs.set (aae y0.stack (wi (((y0.stack.length : Nat) : Int) - 1))).toNat (aab y1.recs (aae y0.stack (wi (((y0.stack.length : Nat) : Int) - 1))))) (aae y0.stack (wi (((y0.stack.length : Nat) : Int) - 1))) with pc := wi (((aab (y1.recs.set (aae y0.stack (wi (((y0.stack.length : Nat) : Int) - 1))).toNat (aab y1.recs (aae y0.stack (wi (((y0.stack.length : Nat) : Int) - 1))))) (aae y0.stack (wi (((y0.stack.length : Nat) : Int) - 1)))).pc) + 1) } : RecP)).set (aae y0.stack (wi (((y0.stack.length : Nat) : Int) - 1))).toNat ({ aab ((y1.recs.set (aae y0.stack (wi (((y0.stack.length : Nat) : Int) - 1))).toNat (aab y1.recs (aae y0.stack (wi (((y0.stack.length : Nat) : Int) - 1))))).set (aae y0.stack (wi (((y0.stack.length : Nat) : Int) - 1))).toNat ({ aab (y1.recs.set (aae y0.stack (wi (((y0.stack.length : Nat) : Int) - 1))).toNat (aab y1.recs (aae y0.stack (wi (((y0.stack.length : Nat) : Int) - 1))))) (aae y0.stack (wi (((y0.stack.length : Nat) : Int) - 1))) with pc := wi (((aab (y1.recs.set (aae y0.stack (wi (((y0.stack.length : Nat) : Int) - 1))).toNat (aab y1.recs (aae y0.stack (wi (((y0.stack.length : Nat) : Int) - 1))))) (aae y0.stack (wi (((y0.stack.length : Nat) : Int) - 1)))).pc) + 1) } : RecP)) (aae y0.stack (wi (((y0.stack.length : Nat) : Int) - 1))) with waiting := aae ((aab y1.recs (aae y0.stack (wi (((y0.stack.length : Nat) : Int) - 1)))).kids) ((aaY (atL [] y1.c.progs ((aab y1.recs (aae y0.stack (wi (((y0.stack.length : Nat) : Int) - 1)))).prog)) ((aab y1.recs (aae y0.stack (wi (((y0.stack.length : Nat) : Int) - 1)))).pc)).a) } : RecP) } : EnvP), ()))
   else none
   else none
   else none
   else none
   else none
   else none
   else none
   else none
   else none
   else none
   else none
   else none
   else
   if y0.line = 10 then
   (adA y1.l (aae y0.stack (wi (((y0.stack.length : Nat) : Int) - 1)))).bind fun r4 =>
   (aa0 y1.m r4.1.1 3).bind fun r5 =>
   (aac y0 (wi (y0.line + 1)) MV.nil).bind fun r6 =>
   some ((r6.1.1, ()), (r6.2.1, ({ y1 with m := r5.2.1 } : EnvP), ()))
   else
   if y0.line = 11 then
   (ai6 y1.l y0.child).bind fun r7 =>
   (amf y1.m r7.1.1 0 (wu (wi ((aae y0.stack (wi (((y0.stack.length : Nat) : Int) - 1))) + 1)))).bind fun r8 =>
   if (!r8.1.1) = true then
   (aac y0 14 MV.nil).bind fun r9 =>
   some ((r9.1.1, ()), (r9.2.1, ({ y1 with m := r8.2.1 } : EnvP), ()))
   else
   (aaw y0 ({ y1 with m := r8.2.1 } : EnvP) (⟨6, 0, aae y0.stack (wi (((y0.stack.length : Nat) : Int) - 1)), y0.child, 0⟩ : Ev)).bind fun r10 =>
   (aac r10.2.1 (wi (r10.2.1.line + 1)) MV.nil).bind fun r11 =>
   some ((r11.1.1, ()), (r11.2.1, r10.2.2.1, ()))
   else
   if y0.line = 12 then
   (aed y1.l (aae y0.stack (wi (((y0.stack.length : Nat) : Int) - 1)))).bind fun r12 =>
   (abz y1.m r12.1.1).bind fun r13 =>
   (agm y0.worker y0.child (wi (r13.1.1))).bind fun r14 =>
   (aac ({ y0 with level := wi (r13.1.1) } : (RunV MV)) 13 r14.1.1).bind fun r15 =>
   some ((r15.1.1, ()), (r15.2.1, ({ y1 with m := r13.2.1 } : EnvP), ()))
   else
   if y0.line = 13 then
   (adb y0.inside y1).bind fun r16 =>
   if (!r16.1.1) = true then
   some ((false, ()), (({ y0 with inside := r16.2.1 } : (RunV MV)), r16.2.2.1, ()))
   else
   (aaw ({ y0 with inside := r16.2.1 } : (RunV MV)) r16.2.2.1 (⟨7, 0, aae y0.stack (wi (((y0.stack.length : Nat) : Int) - 1)), 0, y0.level⟩ : Ev)).bind fun r17 =>
   (aal r17.2.1).bind fun r18 =>
   some ((r18.1.1, ()), (r18.2.1, r17.2.2.1, ()))
   else
   if y0.line = 14 then
   (adA y1.l (aae y0.stack (wi (((y0.stack.length : Nat) : Int) - 1)))).bind fun r19 =>
   (aa0 y1.m r19.1.1 2).bind fun r20 =>
   (aac y0 (wi (y0.line + 1)) MV.nil).bind fun r21 =>
   some ((r21.1.1, ()), (r21.2.1, ({ y1 with m := r20.2.1 } : EnvP), ()))
   else
   (af7 y1.l (aae y0.stack (wi (((y0.stack.length : Nat) : Int) - 1)))).bind fun r22 =>
   (aa0 y1.m r22.1.1 0).bind fun r23 =>
   if 0 ≤ wi (((y0.stack.length : Nat) : Int) - 1) ∧ wi (((y0.stack.length : Nat) : Int) - 1) < ((y0.stack.length : Nat) : Int) then
   if 0 ≤ aae y0.stack (wi (((y0.stack.length : Nat) : Int) - 1)) ∧ aae y0.stack (wi (((y0.stack.length : Nat) : Int) - 1)) < ((y1.recs.length : Nat) : Int) then
   (aaw y0 ({ y1 with m := r23.2.1, recs := y1.recs.set (aae y0.stack (wi (((y0.stack.length : Nat) : Int) - 1))).toNat ({ aab y1.recs (aae y0.stack (wi (((y0.stack.length : Nat) : Int) - 1))) with waiting := (-1) } : RecP) } : EnvP) (⟨8, 0, aae y0.stack (wi (((y0.stack.length : Nat) : Int) - 1)), y0.child, 0⟩ : Ev)).bind fun r24 =>
   (aac r24.2.1 0 MV.nil).bind fun r25 =>
   some ((r25.1.1, ()), (r25.2.1, r24.2.2.1, ()))
   else none
   else none
   else none
   else none
   else none
   else none
   else none
   else none
   else none
   else none
   else none
   else none
   else none
   else none
   else none
   else none
   else none
   else none
   else none
   else none
   else none
   else none
   else none
   else none
  else none
 )
noncomputable abbrev aeN : Con SR1 := ⟨136, [.ref 32, .ref 27], [.sh .b], fun x => ad6 x.1 x.2.1⟩
noncomputable def ahl : List (Nat × Func) := [(131, Tryz.f131), (138, Tryz.f138), (141, Tryz.f141), (139, Tryz.f139)]
theorem ahm : CO Tryz.prog aeN := aar aaq Tryz.func136 [aji, acG, abQ, aen, anV, ahI, ace, aeo, aby, akt, ajf, adG] ⟨ajM, acg, abZ, ad9, aoR, af8, acE, aec, abd, ang, aju, aeM, trivial⟩ ahl ⟨Tryz.func131, Tryz.func138, Tryz.func141, Tryz.func139, trivial⟩ (fun _ => []) [] fun x => by kernel_rfl
noncomputable def aax (y0 : (RunV MV)) (y1 : EnvP) : Option ((Bool × Unit) × ((RunV MV) × EnvP × Unit)) :=
 if 0 ≤ wi (((y0.stack.length : Nat) : Int) - 1) ∧ wi (((y0.stack.length : Nat) : Int) - 1) < ((y0.stack.length : Nat) : Int) then
  if y0.line = 9 then
   if 0 ≤ wi (((y0.stack.length : Nat) : Int) - 1) ∧ wi (((y0.stack.length : Nat) : Int) - 1) < ((y0.stack.length : Nat) : Int) then
   if 0 ≤ aae y0.stack (wi (((y0.stack.length : Nat) : Int) - 1)) ∧ aae y0.stack (wi (((y0.stack.length : Nat) : Int) - 1)) < ((y1.recs.length : Nat) : Int) then
   if 0 ≤ wi (((y0.stack.length : Nat) : Int) - 1) ∧ wi (((y0.stack.length : Nat) : Int) - 1) < ((y0.stack.length : Nat) : Int) then
   if 0 ≤ aae y0.stack (wi (((y0.stack.length : Nat) : Int) - 1)) ∧ aae y0.stack (wi (((y0.stack.length : Nat) : Int) - 1)) < ((y1.recs.length : Nat) : Int) then
   if ((aab y1.recs (aae y0.stack (wi (((y0.stack.length : Nat) : Int) - 1)))).prog) < 0 then
   if 0 ≤ wi (((y0.stack.length : Nat) : Int) - 1) ∧ wi (((y0.stack.length : Nat) : Int) - 1) < ((y0.stack.length : Nat) : Int) then
   if 0 ≤ aae y0.stack (wi (((y0.stack.length : Nat) : Int) - 1)) ∧ aae y0.stack (wi (((y0.stack.length : Nat) : Int) - 1)) < ((y1.recs.length : Nat) : Int) then
   none
   else none
   else none
   else
   if ((y1.c.progs.length : Nat) : Int) ≤ ((aab y1.recs (aae y0.stack (wi (((y0.stack.length : Nat) : Int) - 1)))).prog) then
   if 0 ≤ wi (((y0.stack.length : Nat) : Int) - 1) ∧ wi (((y0.stack.length : Nat) : Int) - 1) < ((y0.stack.length : Nat) : Int) then
   if 0 ≤ aae y0.stack (wi (((y0.stack.length : Nat) : Int) - 1)) ∧ aae y0.stack (wi (((y0.stack.length : Nat) : Int) - 1)) < ((y1.recs.length : Nat) : Int) then
   none
   else none
   else none
   else
   if 0 ≤ (aab y1.recs (aae y0.stack (wi (((y0.stack.length : Nat) : Int) - 1)))).prog ∧ (aab y1.recs (aae y0.stack (wi (((y0.stack.length : Nat) : Int) - 1)))).prog < ((y1.c.progs.length : Nat) : Int) then
   if 0 ≤ wi (((y0.stack.length : Nat) : Int) - 1) ∧ wi (((y0.stack.length : Nat) : Int) - 1) < ((y0.stack.length : Nat) : Int) then
   if 0 ≤ aae y0.stack (wi (((y0.stack.length : Nat) : Int) - 1)) ∧ aae y0.stack (wi (((y0.stack.length : Nat) : Int) - 1)) < ((y1.recs.length : Nat) : Int) then
   if 0 ≤ (aab y1.recs (aae y0.stack (wi (((y0.stack.length : Nat) : Int) - 1)))).pc ∧ (aab y1.recs (aae y0.stack (wi (((y0.stack.length : Nat) : Int) - 1)))).pc < (((atL [] y1.c.progs ((aab y1.recs (aae y0.stack (wi (((y0.stack.length : Nat) : Int) - 1)))).prog)).length : Nat) : Int) then
   if 0 ≤ (aaY (atL [] y1.c.progs ((aab y1.recs (aae y0.stack (wi (((y0.stack.length : Nat) : Int) - 1)))).prog)) ((aab y1.recs (aae y0.stack (wi (((y0.stack.length : Nat) : Int) - 1)))).pc)).a ∧ (aaY (atL [] y1.c.progs ((aab y1.recs (aae y0.stack (wi (((y0.stack.length : Nat) : Int) - 1)))).prog)) ((aab y1.recs (aae y0.stack (wi (((y0.stack.length : Nat) : Int) - 1)))).pc)).a < ((((aab y1.recs (aae y0.stack (wi (((y0.stack.length : Nat) : Int) - 1)))).kids).length : Nat) : Int) then
   (af7 y1.l (aae y0.stack (wi (((y0.stack.length : Nat) : Int) - 1)))).bind fun r1 =>
   (aa0 y1.m r1.1.1 (wu (wi ((aae ((aab y1.recs (aae y0.stack (wi (((y0.stack.length : Nat) : Int) - 1)))).kids) ((aaY (atL [] y1.c.progs ((aab y1.recs (aae y0.stack (wi (((y0.stack.length : Nat) : Int) - 1)))).prog)) ((aab y1.recs (aae y0.stack (wi (((y0.stack.length : Nat) : Int) - 1)))).pc)).a)) + 1)))).bind fun r2 =>
   (aac ({ y0 with child := aae ((aab y1.recs (aae y0.stack (wi (((y0.stack.length : Nat) : Int) - 1)))).kids) ((aaY (atL [] y1.c.progs ((aab y1.recs (aae y0.stack (wi (((y0.stack.length : Nat) : Int) - 1)))).prog)) ((aab y1.recs (aae y0.stack (wi (((y0.stack.length : Nat) : Int) - 1)))).pc)).a) } : (RunV MV)) (wi (y0.line + 1)) MV.nil).bind fun r3 =>
   some ((r3.1.1, ()), (r3.2.1, ({ y1 with m := r2.2.1, recs := ((y1.recs.set (aae y0.stack (wi (((y0.stack.length : Nat) : Int) - 1))).toNat (aab y1.recs (aae y0.stack (wi (((y0.stack.length : Nat) : Int) - 1))))).set (aae y0.stack (wi (((y0.stack.length : Nat) : Int) - 1))).toNat ({ aab (y1.recs.set (aae y0.stack (wi (((y0.stack.length : Nat) : Int) - 1))).toNat (aab y1.recs (aae y0.stack (wi (((y0.stack.length : Nat) : Int) - 1))))) (aae y0.stack (wi (((y0.stack.length : Nat) : Int) - 1))) with pc := wi (((aab (y1.recs.set (aae y0.stack (wi (((y0.stack.length : Nat) : Int) - 1))).toNat (aab y1.recs (aae y0.stack (wi (((y0.stack.length : Nat) : Int) - 1))))) (aae y0.stack (wi (((y0.stack.length : Nat) : Int) - 1)))).pc) + 1) } : RecP)).set (aae y0.stack (wi (((y0.stack.length : Nat) : Int) - 1))).toNat ({ aab ((y1.recs.set (aae y0.stack (wi (((y0.stack.length : Nat) : Int) - 1))).toNat (aab y1.recs (aae y0.stack (wi (((y0.stack.length : Nat) : Int) - 1))))).set (aae y0.stack (wi (((y0.stack.length : Nat) : Int) - 1))).toNat ({ aab (y1.recs.set (aae y0.stack (wi (((y0.stack.length : Nat) : Int) - 1))).toNat (aab y1.recs (aae y0.stack (wi (((y0.stack.length : Nat) : Int) - 1))))) (aae y0.stack (wi (((y0.stack.length : Nat) : Int) - 1))) with pc := wi (((aab (y1.recs.set (aae y0.stack (wi (((y0.stack.length : Nat) : Int) - 1))).toNat (aab y1.recs (aae y0.stack (wi (((y0.stack.length : Nat) : Int) - 1))))) (aae y0.stack (wi (((y0.stack.length : Nat) : Int) - 1)))).pc) + 1) } : RecP)) (aae y0.stack (wi (((y0.stack.length : Nat) : Int) - 1))) with waiting := aae ((aab y1.recs (aae y0.stack (wi (((y0.stack.length : Nat) : Int) - 1)))).kids) ((aaY (atL [] y1.c.progs ((aab y1.recs (aae y0.stack (wi (((y0.stack.length : Nat) : Int) - 1)))).prog)) ((aab y1.recs (aae y0.stack (wi (((y0.stack.length : Nat) : Int) - 1)))).pc)).a) } : RecP) } : EnvP), ()))
   else none
   else none
   else none
   else none
   else none
   else none
   else none
   else none
   else none
  else
  if y0.line = 10 then
   (adA y1.l (aae y0.stack (wi (((y0.stack.length : Nat) : Int) - 1)))).bind fun r4 =>
   (aa0 y1.m r4.1.1 3).bind fun r5 =>
   (aac y0 (wi (y0.line + 1)) MV.nil).bind fun r6 =>
   some ((r6.1.1, ()), (r6.2.1, ({ y1 with m := r5.2.1 } : EnvP), ()))
  else
  if y0.line = 11 then
   (ai6 y1.l y0.child).bind fun r7 =>
   (amf y1.m r7.1.1 0 (wu (wi ((aae y0.stack (wi (((y0.stack.length : Nat) : Int) - 1))) + 1)))).bind fun r8 =>
   if (!r8.1.1) = true then
   (aac y0 14 MV.nil).bind fun r9 =>
   some ((r9.1.1, ()), (r9.2.1, ({ y1 with m := r8.2.1 } : EnvP), ()))
   else
   (aaw y0 ({ y1 with m := r8.2.1 } : EnvP) (⟨6, 0, aae y0.stack (wi (((y0.stack.length : Nat) : Int) - 1)), y0.child, 0⟩ : Ev)).bind fun r10 =>
   (aac r10.2.1 (wi (r10.2.1.line + 1)) MV.nil).bind fun r11 =>
   some ((r11.1.1, ()), (r11.2.1, r10.2.2.1, ()))
  else
  if y0.line = 12 then
   (aed y1.l (aae y0.stack (wi (((y0.stack.length : Nat) : Int) - 1)))).bind fun r12 =>
   (abz y1.m r12.1.1).bind fun r13 =>
   (agm y0.worker y0.child (wi (r13.1.1))).bind fun r14 =>
   (aac ({ y0 with level := wi (r13.1.1) } : (RunV MV)) 13 r14.1.1).bind fun r15 =>
   some ((r15.1.1, ()), (r15.2.1, ({ y1 with m := r13.2.1 } : EnvP), ()))
  else
  if y0.line = 13 then
   (adb y0.inside y1).bind fun r16 =>
   if (!r16.1.1) = true then
   some ((false, ()), (({ y0 with inside := r16.2.1 } : (RunV MV)), r16.2.2.1, ()))
   else
   (aaw ({ y0 with inside := r16.2.1 } : (RunV MV)) r16.2.2.1 (⟨7, 0, aae y0.stack (wi (((y0.stack.length : Nat) : Int) - 1)), 0, y0.level⟩ : Ev)).bind fun r17 =>
   (aal r17.2.1).bind fun r18 =>
   some ((r18.1.1, ()), (r18.2.1, r17.2.2.1, ()))
  else
  if y0.line = 14 then
   (adA y1.l (aae y0.stack (wi (((y0.stack.length : Nat) : Int) - 1)))).bind fun r19 =>
   (aa0 y1.m r19.1.1 2).bind fun r20 =>
   (aac y0 (wi (y0.line + 1)) MV.nil).bind fun r21 =>
   some ((r21.1.1, ()), (r21.2.1, ({ y1 with m := r20.2.1 } : EnvP), ()))
  else
  (af7 y1.l (aae y0.stack (wi (((y0.stack.length : Nat) : Int) - 1)))).bind fun r22 =>
  (aa0 y1.m r22.1.1 0).bind fun r23 =>
  if 0 ≤ wi (((y0.stack.length : Nat) : Int) - 1) ∧ wi (((y0.stack.length : Nat) : Int) - 1) < ((y0.stack.length : Nat) : Int) then
   if 0 ≤ aae y0.stack (wi (((y0.stack.length : Nat) : Int) - 1)) ∧ aae y0.stack (wi (((y0.stack.length : Nat) : Int) - 1)) < ((y1.recs.length : Nat) : Int) then
   (aaw y0 ({ y1 with m := r23.2.1, recs := y1.recs.set (aae y0.stack (wi (((y0.stack.length : Nat) : Int) - 1))).toNat ({ aab y1.recs (aae y0.stack (wi (((y0.stack.length : Nat) : Int) - 1))) with waiting := (-1) } : RecP) } : EnvP) (⟨8, 0, aae y0.stack (wi (((y0.stack.length : Nat) : Int) - 1)), y0.child, 0⟩ : Ev)).bind fun r24 =>
   (aac r24.2.1 0 MV.nil).bind fun r25 =>
   some ((r25.1.1, ()), (r25.2.1, r24.2.2.1, ()))
   else none
  else none
 else none
noncomputable abbrev afZ : Con SR1 := ⟨136, [.ref 32, .ref 27], [.sh .b], fun x => aax x.1 x.2.1⟩
theorem ai0 (y0 : (RunV MV)) (y1 : EnvP) : ad6 y0 y1 = aax y0 y1 := by
  unfold ad6 aax
  simp only [if_true, apl, alc]
theorem aiZ : CO Tryz.prog afZ := awP ahm fun x out hx => (show aeN.spec x = some out from (ai0 x.1 x.2.1).trans hx)
noncomputable def aeG (y0 : Int) (y1 : Int) : Option ((MV × Unit) × (Unit)) :=
 some ((MV.enter (⟨⟨false, 0, 0⟩, y0, y1, 0, 1, MV.nil⟩ : (EnterV MV)), ()), (()))
noncomputable abbrev aiH : Con SR1 := ⟨154, [.sh sI_, .sh sI_], [.sh .mach], fun x => aeG x.1 x.2.1⟩
theorem alm : CO Tryz.prog aiH := aar aaq Tryz.func154 [] trivial [] trivial (fun _ => []) [] fun x => by kernel_rfl
noncomputable def adf (y0 : (RunV MV)) (y1 : EnvP) : Option ((Bool × Unit) × ((RunV MV) × EnvP × Unit)) :=
 agr (
  if 0 ≤ wi (((y0.stack.length : Nat) : Int) - 1) ∧ wi (((y0.stack.length : Nat) : Int) - 1) < ((y0.stack.length : Nat) : Int) then
   if y1.l.workers = y1.l.workers then
   if y1.l.levels = y1.l.levels then
   if y1.l.classes = y1.l.classes then
   if y1.l.tasks = y1.l.tasks then
   if y1.l.deque = y1.l.deque then
   if y1.l.heap = y1.l.heap then
   if y1.l.sleepers = y1.l.sleepers then
   if y1.l.epochs = y1.l.epochs then
   if y1.l.bitmaps = y1.l.bitmaps then
   if y1.l.queues = y1.l.queues then
   if y1.l.table = y1.l.table then
   if y1.l.workers = y1.l.workers then
   if y1.l.levels = y1.l.levels then
   if y1.l.classes = y1.l.classes then
   if y1.l.tasks = y1.l.tasks then
   if y1.l.deque = y1.l.deque then
   if y1.l.heap = y1.l.heap then
   if y1.l.sleepers = y1.l.sleepers then
   if y1.l.epochs = y1.l.epochs then
   if y1.l.bitmaps = y1.l.bitmaps then
   if y1.l.queues = y1.l.queues then
   if y1.l.table = y1.l.table then
   if y0.line = 16 then
   (adA y1.l (aae y0.stack (wi (((y0.stack.length : Nat) : Int) - 1)))).bind fun r29 =>
   (aa0 y1.m r29.1.1 4).bind fun r30 =>
   (aac y0 17 MV.nil).bind fun r31 =>
   some ((r31.1.1, ()), (r31.2.1, ({ y1 with m := r30.2.1 } : EnvP), ()))
   else
   if y0.line = 17 then
   (ai6 y1.l (aae y0.stack (wi (((y0.stack.length : Nat) : Int) - 1)))).bind fun r32 =>
   (amf y1.m r32.1.1 0 4294967296).bind fun r33 =>
   (aaw y0 ({ y1 with m := r33.2.1 } : EnvP) (⟨10, 0, aae y0.stack (wi (((y0.stack.length : Nat) : Int) - 1)), 0, 0⟩ : Ev)).bind fun r34 =>
   if r33.1.1 = true then
   (aal r34.2.1).bind fun r35 =>
   some ((r35.1.1, ()), (r35.2.1, r34.2.2.1, ()))
   else
   (aac r34.2.1 18 MV.nil).bind fun r36 =>
   some ((r36.1.1, ()), (r36.2.1, r34.2.2.1, ()))
   else
   if y0.line = 18 then
   (ai6 y1.l (aae y0.stack (wi (((y0.stack.length : Nat) : Int) - 1)))).bind fun r37 =>
   (abz y1.m r37.1.1).bind fun r38 =>
   if (wi ((wi (r38.1.1)) - 1)) < 0 then
   (aal ({ y0 with waiter := wi ((wi (r38.1.1)) - 1) } : (RunV MV))).bind fun r39 =>
   some ((r39.1.1, ()), (r39.2.1, ({ y1 with m := r38.2.1 } : EnvP), ()))
   else
   if y1.c.tasks ≤ (wi ((wi (r38.1.1)) - 1)) then
   (aal ({ y0 with waiter := wi ((wi (r38.1.1)) - 1) } : (RunV MV))).bind fun r40 =>
   some ((r40.1.1, ()), (r40.2.1, ({ y1 with m := r38.2.1 } : EnvP), ()))
   else
   (aeG y0.worker (wi ((wi (r38.1.1)) - 1))).bind fun r41 =>
   (aac ({ y0 with waiter := wi ((wi (r38.1.1)) - 1) } : (RunV MV)) 19 r41.1.1).bind fun r42 =>
   some ((r42.1.1, ()), (r42.2.1, ({ y1 with m := r38.2.1 } : EnvP), ()))
   else
   (adb y0.inside y1).bind fun r43 =>
   if (!r43.1.1) = true then
   some ((false, ()), (({ y0 with inside := r43.2.1 } : (RunV MV)), r43.2.2.1, ()))
   else
   (ab2 r43.2.1).bind fun r44 =>
   if y0.line = 19 then
   if r44.1.1 = 3 then
   (abF y0.worker y0.waiter).bind fun r45 =>
   (aac ({ y0 with inside := r44.2.1 } : (RunV MV)) 21 r45.1.1).bind fun r46 =>
   some ((r46.1.1, ()), (r46.2.1, r43.2.2.1, ()))
   else
   if y0.line = 19 then
   (ab3 y0.worker r44.1.2.1).bind fun r47 =>
   (aac ({ y0 with inside := r44.2.1 } : (RunV MV)) 20 r47.1.1).bind fun r48 =>
   some ((r48.1.1, ()), (r48.2.1, r43.2.2.1, ()))
   else
   if y0.line = 21 then
   if r44.1.1 = 1 then
   if 0 ≤ wi (((y0.stack.length : Nat) : Int) - 1) ∧ wi (((y0.stack.length : Nat) : Int) - 1) < ((y0.stack.length : Nat) : Int) then
   (aac ({ y0 with stack := y0.stack.set (wi (((y0.stack.length : Nat) : Int) - 1)).toNat y0.waiter, inside := r44.2.1 } : (RunV MV)) 0 MV.nil).bind fun r49 =>
   some ((r49.1.1, ()), (r49.2.1, r43.2.2.1, ()))
   else none
   else
   (aal ({ y0 with inside := r44.2.1 } : (RunV MV))).bind fun r50 =>
   some ((r50.1.1, ()), (r50.2.1, r43.2.2.1, ()))
   else
   (aal ({ y0 with inside := r44.2.1 } : (RunV MV))).bind fun r51 =>
   some ((r51.1.1, ()), (r51.2.1, r43.2.2.1, ()))
   else
   if y0.line = 19 then
   (ab3 y0.worker r44.1.2.1).bind fun r52 =>
   (aac ({ y0 with inside := r44.2.1 } : (RunV MV)) 20 r52.1.1).bind fun r53 =>
   some ((r53.1.1, ()), (r53.2.1, r43.2.2.1, ()))
   else
   if y0.line = 21 then
   if r44.1.1 = 1 then
   if 0 ≤ wi (((y0.stack.length : Nat) : Int) - 1) ∧ wi (((y0.stack.length : Nat) : Int) - 1) < ((y0.stack.length : Nat) : Int) then
   (aac ({ y0 with stack := y0.stack.set (wi (((y0.stack.length : Nat) : Int) - 1)).toNat y0.waiter, inside := r44.2.1 } : (RunV MV)) 0 MV.nil).bind fun r54 =>
   some ((r54.1.1, ()), (r54.2.1, r43.2.2.1, ()))
   else none
   else
   (aal ({ y0 with inside := r44.2.1 } : (RunV MV))).bind fun r55 =>
   some ((r55.1.1, ()), (r55.2.1, r43.2.2.1, ()))
   else
   (aal ({ y0 with inside := r44.2.1 } : (RunV MV))).bind fun r56 =>
   some ((r56.1.1, ()), (r56.2.1, r43.2.2.1, ()))
   else none
   else none
   else none
   else none
   else none
   else none
   else none
   else none
   else none
   else none
   else none
   else none
   else none
   else none
   else none
   else none
   else none
   else none
   else none
   else none
   else none
   else none
  else none
 ) (
  if y1.l.workers = y1.l.workers then
   if y1.l.levels = y1.l.levels then
   if y1.l.classes = y1.l.classes then
   if y1.l.tasks = y1.l.tasks then
   if y1.l.deque = y1.l.deque then
   if y1.l.heap = y1.l.heap then
   if y1.l.sleepers = y1.l.sleepers then
   if y1.l.epochs = y1.l.epochs then
   if y1.l.bitmaps = y1.l.bitmaps then
   if y1.l.queues = y1.l.queues then
   if y1.l.table = y1.l.table then
   if 0 ≤ wi (((y0.stack.length : Nat) : Int) - 1) ∧ wi (((y0.stack.length : Nat) : Int) - 1) < ((y0.stack.length : Nat) : Int) then
   if y1.l.workers = y1.l.workers then
   if y1.l.levels = y1.l.levels then
   if y1.l.classes = y1.l.classes then
   if y1.l.tasks = y1.l.tasks then
   if y1.l.deque = y1.l.deque then
   if y1.l.heap = y1.l.heap then
   if y1.l.sleepers = y1.l.sleepers then
   if y1.l.epochs = y1.l.epochs then
   if y1.l.bitmaps = y1.l.bitmaps then
   if y1.l.queues = y1.l.queues then
   if y1.l.table = y1.l.table then
   if y0.line = 16 then
   (adA y1.l (aae y0.stack (wi (((y0.stack.length : Nat) : Int) - 1)))).bind fun r1 =>
   (aa0 y1.m r1.1.1 4).bind fun r2 =>
   (aac y0 17 MV.nil).bind fun r3 =>
   some ((r3.1.1, ()), (r3.2.1, ({ y1 with m := r2.2.1 } : EnvP), ()))
   else
   if y0.line = 17 then
   (ai6 y1.l (aae y0.stack (wi (((y0.stack.length : Nat) : Int) - 1)))).bind fun r4 =>
   (amf y1.m r4.1.1 0 4294967296).bind fun r5 =>
   (aaw y0 ({ y1 with m := r5.2.1 } : EnvP) (⟨10, 0, aae y0.stack (wi (((y0.stack.length : Nat) : Int) - 1)), 0, 0⟩ : Ev)).bind fun r6 =>
   if r5.1.1 = true then
   (aal r6.2.1).bind fun r7 =>
   some ((r7.1.1, ()), (r7.2.1, r6.2.2.1, ()))
   else
   (aac r6.2.1 18 MV.nil).bind fun r8 =>
   some ((r8.1.1, ()), (r8.2.1, r6.2.2.1, ()))
   else
   if y0.line = 18 then
   (ai6 y1.l (aae y0.stack (wi (((y0.stack.length : Nat) : Int) - 1)))).bind fun r9 =>
   (abz y1.m r9.1.1).bind fun r10 =>
   if (wi ((wi (r10.1.1)) - 1)) < 0 then
   (aal ({ y0 with waiter := wi ((wi (r10.1.1)) - 1) } : (RunV MV))).bind fun r11 =>
   some ((r11.1.1, ()), (r11.2.1, ({ y1 with m := r10.2.1 } : EnvP), ()))
   else
   if y1.c.tasks ≤ (wi ((wi (r10.1.1)) - 1)) then
   (aal ({ y0 with waiter := wi ((wi (r10.1.1)) - 1) } : (RunV MV))).bind fun r12 =>
   some ((r12.1.1, ()), (r12.2.1, ({ y1 with m := r10.2.1 } : EnvP), ()))
   else
   (aeG y0.worker (wi ((wi (r10.1.1)) - 1))).bind fun r13 =>
   (aac ({ y0 with waiter := wi ((wi (r10.1.1)) - 1) } : (RunV MV)) 19 r13.1.1).bind fun r14 =>
   some ((r14.1.1, ()), (r14.2.1, ({ y1 with m := r10.2.1 } : EnvP), ()))
   else
   (adb y0.inside y1).bind fun r15 =>
   if (!r15.1.1) = true then
   some ((false, ()), (({ y0 with inside := r15.2.1 } : (RunV MV)), r15.2.2.1, ()))
   else
   (ab2 r15.2.1).bind fun r16 =>
   if y0.line = 19 then
   if r16.1.1 = 3 then
   (abF y0.worker y0.waiter).bind fun r17 =>
   (aac ({ y0 with inside := r16.2.1 } : (RunV MV)) 21 r17.1.1).bind fun r18 =>
   some ((r18.1.1, ()), (r18.2.1, r15.2.2.1, ()))
   else
   if y0.line = 19 then
   (ab3 y0.worker r16.1.2.1).bind fun r19 =>
   (aac ({ y0 with inside := r16.2.1 } : (RunV MV)) 20 r19.1.1).bind fun r20 =>
   some ((r20.1.1, ()), (r20.2.1, r15.2.2.1, ()))
   else
   if y0.line = 21 then
   if r16.1.1 = 1 then
   if 0 ≤ wi (((y0.stack.length : Nat) : Int) - 1) ∧ wi (((y0.stack.length : Nat) : Int) - 1) < ((y0.stack.length : Nat) : Int) then
   (aac ({ y0 with stack := y0.stack.set (wi (((y0.stack.length : Nat) : Int) - 1)).toNat y0.waiter, inside := r16.2.1 } : (RunV MV)) 0 MV.nil).bind fun r21 =>
   some ((r21.1.1, ()), (r21.2.1, r15.2.2.1, ()))
   else none
   else
   (aal ({ y0 with inside := r16.2.1 } : (RunV MV))).bind fun r22 =>
   some ((r22.1.1, ()), (r22.2.1, r15.2.2.1, ()))
   else
   (aal ({ y0 with inside := r16.2.1 } : (RunV MV))).bind fun r23 =>
   some ((r23.1.1, ()), (r23.2.1, r15.2.2.1, ()))
   else
   if y0.line = 19 then
   (ab3 y0.worker r16.1.2.1).bind fun r24 =>
   (aac ({ y0 with inside := r16.2.1 } : (RunV MV)) 20 r24.1.1).bind fun r25 =>
   some ((r25.1.1, ()), (r25.2.1, r15.2.2.1, ()))
   else
   if y0.line = 21 then
   if r16.1.1 = 1 then
   if 0 ≤ wi (((y0.stack.length : Nat) : Int) - 1) ∧ wi (((y0.stack.length : Nat) : Int) - 1) < ((y0.stack.length : Nat) : Int) then
   (aac ({ y0 with stack := y0.stack.set (wi (((y0.stack.length : Nat) : Int) - 1)).toNat y0.waiter, inside := r16.2.1 } : (RunV MV)) 0 MV.nil).bind fun r26 =>
   some ((r26.1.1, ()), (r26.2.1, r15.2.2.1, ()))
   else none
   else
   (aal ({ y0 with inside := r16.2.1 } : (RunV MV))).bind fun r27 =>
   some ((r27.1.1, ()), (r27.2.1, r15.2.2.1, ()))
   else
   (aal ({ y0 with inside := r16.2.1 } : (RunV MV))).bind fun r28 =>
   some ((r28.1.1, ()), (r28.2.1, r15.2.2.1, ()))
   else none
   else none
   else none
   else none
   else none
   else none
   else none
   else none
   else none
   else none
   else none
   else none
   else none
   else none
   else none
   else none
   else none
   else none
   else none
   else none
   else none
   else none
  else none
 )
noncomputable abbrev ad7 : Con SR1 := ⟨137, [.ref 32, .ref 27], [.sh .b], fun x => adf x.1 x.2.1⟩
noncomputable def agI : List (Nat × Func) := [(131, Tryz.f131)]
theorem agJ : CO Tryz.prog ad7 := aar aaq Tryz.func137 [aen, acG, abQ, anV, ahI, ace, adG, aby, aiH, ajf, aid, acN, agy] ⟨ad9, acg, abZ, aoR, af8, acE, aeM, abd, alm, aju, ajC, acU, ag1, trivial⟩ agI ⟨Tryz.func131, trivial⟩ (fun _ => []) [] fun x => by kernel_rfl
noncomputable def aam (y0 : (RunV MV)) (y1 : EnvP) : Option ((Bool × Unit) × ((RunV MV) × EnvP × Unit)) :=
 if 0 ≤ wi (((y0.stack.length : Nat) : Int) - 1) ∧ wi (((y0.stack.length : Nat) : Int) - 1) < ((y0.stack.length : Nat) : Int) then
  if y0.line = 16 then
   (adA y1.l (aae y0.stack (wi (((y0.stack.length : Nat) : Int) - 1)))).bind fun r1 =>
   (aa0 y1.m r1.1.1 4).bind fun r2 =>
   (aac y0 17 MV.nil).bind fun r3 =>
   some ((r3.1.1, ()), (r3.2.1, ({ y1 with m := r2.2.1 } : EnvP), ()))
  else
  if y0.line = 17 then
   (ai6 y1.l (aae y0.stack (wi (((y0.stack.length : Nat) : Int) - 1)))).bind fun r4 =>
   (amf y1.m r4.1.1 0 4294967296).bind fun r5 =>
   (aaw y0 ({ y1 with m := r5.2.1 } : EnvP) (⟨10, 0, aae y0.stack (wi (((y0.stack.length : Nat) : Int) - 1)), 0, 0⟩ : Ev)).bind fun r6 =>
   if r5.1.1 = true then
   (aal r6.2.1).bind fun r7 =>
   some ((r7.1.1, ()), (r7.2.1, r6.2.2.1, ()))
   else
   (aac r6.2.1 18 MV.nil).bind fun r8 =>
   some ((r8.1.1, ()), (r8.2.1, r6.2.2.1, ()))
  else
  if y0.line = 18 then
   (ai6 y1.l (aae y0.stack (wi (((y0.stack.length : Nat) : Int) - 1)))).bind fun r9 =>
   (abz y1.m r9.1.1).bind fun r10 =>
   if (wi ((wi (r10.1.1)) - 1)) < 0 then
   (aal ({ y0 with waiter := wi ((wi (r10.1.1)) - 1) } : (RunV MV))).bind fun r11 =>
   some ((r11.1.1, ()), (r11.2.1, ({ y1 with m := r10.2.1 } : EnvP), ()))
   else
   if y1.c.tasks ≤ (wi ((wi (r10.1.1)) - 1)) then
   (aal ({ y0 with waiter := wi ((wi (r10.1.1)) - 1) } : (RunV MV))).bind fun r12 =>
   some ((r12.1.1, ()), (r12.2.1, ({ y1 with m := r10.2.1 } : EnvP), ()))
   else
   (aeG y0.worker (wi ((wi (r10.1.1)) - 1))).bind fun r13 =>
   (aac ({ y0 with waiter := wi ((wi (r10.1.1)) - 1) } : (RunV MV)) 19 r13.1.1).bind fun r14 =>
   some ((r14.1.1, ()), (r14.2.1, ({ y1 with m := r10.2.1 } : EnvP), ()))
  else
  (adb y0.inside y1).bind fun r15 =>
  if (!r15.1.1) = true then
   some ((false, ()), (({ y0 with inside := r15.2.1 } : (RunV MV)), r15.2.2.1, ()))
  else
  (ab2 r15.2.1).bind fun r16 =>
  if y0.line = 19 then
   if r16.1.1 = 3 then
   (abF y0.worker y0.waiter).bind fun r17 =>
   (aac ({ y0 with inside := r16.2.1 } : (RunV MV)) 21 r17.1.1).bind fun r18 =>
   some ((r18.1.1, ()), (r18.2.1, r15.2.2.1, ()))
   else
   if y0.line = 19 then
   (ab3 y0.worker r16.1.2.1).bind fun r19 =>
   (aac ({ y0 with inside := r16.2.1 } : (RunV MV)) 20 r19.1.1).bind fun r20 =>
   some ((r20.1.1, ()), (r20.2.1, r15.2.2.1, ()))
   else
   if y0.line = 21 then
   if r16.1.1 = 1 then
   if 0 ≤ wi (((y0.stack.length : Nat) : Int) - 1) ∧ wi (((y0.stack.length : Nat) : Int) - 1) < ((y0.stack.length : Nat) : Int) then
   (aac ({ y0 with stack := y0.stack.set (wi (((y0.stack.length : Nat) : Int) - 1)).toNat y0.waiter, inside := r16.2.1 } : (RunV MV)) 0 MV.nil).bind fun r21 =>
   some ((r21.1.1, ()), (r21.2.1, r15.2.2.1, ()))
   else none
   else
   (aal ({ y0 with inside := r16.2.1 } : (RunV MV))).bind fun r22 =>
   some ((r22.1.1, ()), (r22.2.1, r15.2.2.1, ()))
   else
   (aal ({ y0 with inside := r16.2.1 } : (RunV MV))).bind fun r23 =>
   some ((r23.1.1, ()), (r23.2.1, r15.2.2.1, ()))
  else
  if y0.line = 19 then
   (ab3 y0.worker r16.1.2.1).bind fun r24 =>
   (aac ({ y0 with inside := r16.2.1 } : (RunV MV)) 20 r24.1.1).bind fun r25 =>
   some ((r25.1.1, ()), (r25.2.1, r15.2.2.1, ()))
  else
  if y0.line = 21 then
   if r16.1.1 = 1 then
   if 0 ≤ wi (((y0.stack.length : Nat) : Int) - 1) ∧ wi (((y0.stack.length : Nat) : Int) - 1) < ((y0.stack.length : Nat) : Int) then
   (aac ({ y0 with stack := y0.stack.set (wi (((y0.stack.length : Nat) : Int) - 1)).toNat y0.waiter, inside := r16.2.1 } : (RunV MV)) 0 MV.nil).bind fun r26 =>
   some ((r26.1.1, ()), (r26.2.1, r15.2.2.1, ()))
   else none
   else
   (aal ({ y0 with inside := r16.2.1 } : (RunV MV))).bind fun r27 =>
   some ((r27.1.1, ()), (r27.2.1, r15.2.2.1, ()))
  else
  (aal ({ y0 with inside := r16.2.1 } : (RunV MV))).bind fun r28 =>
  some ((r28.1.1, ()), (r28.2.1, r15.2.2.1, ()))
 else none
noncomputable abbrev aeO : Con SR1 := ⟨137, [.ref 32, .ref 27], [.sh .b], fun x => aam x.1 x.2.1⟩
theorem aho (y0 : (RunV MV)) (y1 : EnvP) : adf y0 y1 = aam y0 y1 := by
  unfold adf aam
  simp only [if_true, apl, alc]
theorem ahn : CO Tryz.prog aeO := awP agJ fun x out hx => (show ad7.spec x = some out from (aho x.1 x.2.1).trans hx)
noncomputable def aaF (y0 : (RunV MV)) (y1 : EnvP) : Option ((Bool × Unit) × ((RunV MV) × EnvP × Unit)) :=
 (aaH y0.o).bind fun r1 =>
 if r1.1.1 = true then
  some ((true, ()), (({ y0 with o := r1.2.1 } : (RunV MV)), y1, ()))
 else
 if 0 ≤ wi (((y0.stack.length : Nat) : Int) - 1) ∧ wi (((y0.stack.length : Nat) : Int) - 1) < ((y0.stack.length : Nat) : Int) then
  if (aae y0.stack (wi (((y0.stack.length : Nat) : Int) - 1))) < 0 then
   (abi r1.2.1 4 0).bind fun r2 =>
   some ((r2.1.1, ()), (({ y0 with o := r2.2.1 } : (RunV MV)), y1, ()))
  else
  if y1.c.tasks ≤ (aae y0.stack (wi (((y0.stack.length : Nat) : Int) - 1))) then
   (abi r1.2.1 4 0).bind fun r3 =>
   some ((r3.1.1, ()), (({ y0 with o := r3.2.1 } : (RunV MV)), y1, ()))
  else
  if ((y1.recs.length : Nat) : Int) ≤ (aae y0.stack (wi (((y0.stack.length : Nat) : Int) - 1))) then
   (abi r1.2.1 4 0).bind fun r4 =>
   some ((r4.1.1, ()), (({ y0 with o := r4.2.1 } : (RunV MV)), y1, ()))
  else
  if y0.line = 0 then
   (acV ({ y0 with o := r1.2.1 } : (RunV MV)) y1).bind fun r5 =>
   if r5.1.1 = 4 then
   (adT).bind fun r6 =>
   if r5.1.1 = 1 then
   (aav ({ r5.2.1 with line := r5.1.1, inside := r6.1.1 } : (RunV MV)) r5.2.2.1).bind fun r7 =>
   some ((r7.1.1, ()), (r7.2.1, r7.2.2.1, ()))
   else
   if r5.1.1 = 2 then
   (aav ({ r5.2.1 with line := r5.1.1, inside := r6.1.1 } : (RunV MV)) r5.2.2.1).bind fun r8 =>
   some ((r8.1.1, ()), (r8.2.1, r8.2.2.1, ()))
   else
   if r5.1.1 = 3 then
   (aav ({ r5.2.1 with line := r5.1.1, inside := r6.1.1 } : (RunV MV)) r5.2.2.1).bind fun r9 =>
   some ((r9.1.1, ()), (r9.2.1, r9.2.2.1, ()))
   else
   if 4 ≤ r5.1.1 then
   if r5.1.1 ≤ 8 then
   (aaR ({ r5.2.1 with line := r5.1.1, inside := r6.1.1 } : (RunV MV)) r5.2.2.1).bind fun r10 =>
   some ((r10.1.1, ()), (r10.2.1, r10.2.2.1, ()))
   else
   if 9 ≤ r5.1.1 then
   if r5.1.1 ≤ 15 then
   (aax ({ r5.2.1 with line := r5.1.1, inside := r6.1.1 } : (RunV MV)) r5.2.2.1).bind fun r11 =>
   some ((r11.1.1, ()), (r11.2.1, r11.2.2.1, ()))
   else
   (aam ({ r5.2.1 with line := r5.1.1, inside := r6.1.1 } : (RunV MV)) r5.2.2.1).bind fun r12 =>
   some ((r12.1.1, ()), (r12.2.1, r12.2.2.1, ()))
   else
   (aam ({ r5.2.1 with line := r5.1.1, inside := r6.1.1 } : (RunV MV)) r5.2.2.1).bind fun r13 =>
   some ((r13.1.1, ()), (r13.2.1, r13.2.2.1, ()))
   else
   if 9 ≤ r5.1.1 then
   if r5.1.1 ≤ 15 then
   (aax ({ r5.2.1 with line := r5.1.1, inside := r6.1.1 } : (RunV MV)) r5.2.2.1).bind fun r14 =>
   some ((r14.1.1, ()), (r14.2.1, r14.2.2.1, ()))
   else
   (aam ({ r5.2.1 with line := r5.1.1, inside := r6.1.1 } : (RunV MV)) r5.2.2.1).bind fun r15 =>
   some ((r15.1.1, ()), (r15.2.1, r15.2.2.1, ()))
   else
   (aam ({ r5.2.1 with line := r5.1.1, inside := r6.1.1 } : (RunV MV)) r5.2.2.1).bind fun r16 =>
   some ((r16.1.1, ()), (r16.2.1, r16.2.2.1, ()))
   else
   if r5.1.1 = 1 then
   (aav ({ r5.2.1 with line := r5.1.1 } : (RunV MV)) r5.2.2.1).bind fun r17 =>
   some ((r17.1.1, ()), (r17.2.1, r17.2.2.1, ()))
   else
   if r5.1.1 = 2 then
   (aav ({ r5.2.1 with line := r5.1.1 } : (RunV MV)) r5.2.2.1).bind fun r18 =>
   some ((r18.1.1, ()), (r18.2.1, r18.2.2.1, ()))
   else
   if r5.1.1 = 3 then
   (aav ({ r5.2.1 with line := r5.1.1 } : (RunV MV)) r5.2.2.1).bind fun r19 =>
   some ((r19.1.1, ()), (r19.2.1, r19.2.2.1, ()))
   else
   if 4 ≤ r5.1.1 then
   if r5.1.1 ≤ 8 then
   (aaR ({ r5.2.1 with line := r5.1.1 } : (RunV MV)) r5.2.2.1).bind fun r20 =>
   some ((r20.1.1, ()), (r20.2.1, r20.2.2.1, ()))
   else
   if 9 ≤ r5.1.1 then
   if r5.1.1 ≤ 15 then
   (aax ({ r5.2.1 with line := r5.1.1 } : (RunV MV)) r5.2.2.1).bind fun r21 =>
   some ((r21.1.1, ()), (r21.2.1, r21.2.2.1, ()))
   else
   (aam ({ r5.2.1 with line := r5.1.1 } : (RunV MV)) r5.2.2.1).bind fun r22 =>
   some ((r22.1.1, ()), (r22.2.1, r22.2.2.1, ()))
   else
   (aam ({ r5.2.1 with line := r5.1.1 } : (RunV MV)) r5.2.2.1).bind fun r23 =>
   some ((r23.1.1, ()), (r23.2.1, r23.2.2.1, ()))
   else
   if 9 ≤ r5.1.1 then
   if r5.1.1 ≤ 15 then
   (aax ({ r5.2.1 with line := r5.1.1 } : (RunV MV)) r5.2.2.1).bind fun r24 =>
   some ((r24.1.1, ()), (r24.2.1, r24.2.2.1, ()))
   else
   (aam ({ r5.2.1 with line := r5.1.1 } : (RunV MV)) r5.2.2.1).bind fun r25 =>
   some ((r25.1.1, ()), (r25.2.1, r25.2.2.1, ()))
   else
   (aam ({ r5.2.1 with line := r5.1.1 } : (RunV MV)) r5.2.2.1).bind fun r26 =>
   some ((r26.1.1, ()), (r26.2.1, r26.2.2.1, ()))
  else
  if y0.line = 1 then
   (aav ({ y0 with o := r1.2.1 } : (RunV MV)) y1).bind fun r27 =>
   some ((r27.1.1, ()), (r27.2.1, r27.2.2.1, ()))
  else
  if y0.line = 2 then
   (aav ({ y0 with o := r1.2.1 } : (RunV MV)) y1).bind fun r28 =>
   some ((r28.1.1, ()), (r28.2.1, r28.2.2.1, ()))
  else
  if y0.line = 3 then
   (aav ({ y0 with o := r1.2.1 } : (RunV MV)) y1).bind fun r29 =>
   some ((r29.1.1, ()), (r29.2.1, r29.2.2.1, ()))
  else
  if 4 ≤ y0.line then
   if y0.line ≤ 8 then
   (aaR ({ y0 with o := r1.2.1 } : (RunV MV)) y1).bind fun r30 =>
   some ((r30.1.1, ()), (r30.2.1, r30.2.2.1, ()))
   else
   if 9 ≤ y0.line then
   if y0.line ≤ 15 then
   (aax ({ y0 with o := r1.2.1 } : (RunV MV)) y1).bind fun r31 =>
   some ((r31.1.1, ()), (r31.2.1, r31.2.2.1, ()))
   else
   (aam ({ y0 with o := r1.2.1 } : (RunV MV)) y1).bind fun r32 =>
   some ((r32.1.1, ()), (r32.2.1, r32.2.2.1, ()))
   else
   (aam ({ y0 with o := r1.2.1 } : (RunV MV)) y1).bind fun r33 =>
   some ((r33.1.1, ()), (r33.2.1, r33.2.2.1, ()))
  else
  if 9 ≤ y0.line then
   if y0.line ≤ 15 then
   (aax ({ y0 with o := r1.2.1 } : (RunV MV)) y1).bind fun r34 =>
   some ((r34.1.1, ()), (r34.2.1, r34.2.2.1, ()))
   else
   (aam ({ y0 with o := r1.2.1 } : (RunV MV)) y1).bind fun r35 =>
   some ((r35.1.1, ()), (r35.2.1, r35.2.2.1, ()))
  else
  (aam ({ y0 with o := r1.2.1 } : (RunV MV)) y1).bind fun r36 =>
  some ((r36.1.1, ()), (r36.2.1, r36.2.2.1, ()))
 else none
noncomputable abbrev ajx : Con SR1 := ⟨130, [.ref 32, .ref 27], [.sh .b], fun x => aaF x.1 x.2.1⟩
noncomputable def aiX : List (Nat × Func) := [(131, Tryz.f131)]
theorem aiY : CO Tryz.prog ajx := aar aaq Tryz.func130 [aaW, abq, aeP, ad3, aeL, afA, afZ, aeO] ⟨aaL, aaX, ahq, afy, ahk, aib, aiZ, ahn, trivial⟩ aiX ⟨Tryz.func131, trivial⟩ (fun _ => []) [] fun x => by kernel_rfl
noncomputable def afz (m : MV) (e : EnvP) : Option ((Bool × Unit) × (MV × EnvP × Unit)) :=
 match m with
 | .alloc x => (aa4 x e).bind fun o => some (o.1, (MV.alloc o.2.1, o.2.2))
 | .publish x => (aaZ x e).bind fun o => some (o.1, (MV.publish o.2.1, o.2.2))
 | .claim x => (abx x e).bind fun o => some (o.1, (MV.claim o.2.1, o.2.2))
 | .attempt x => (acj x e).bind fun o => some (o.1, (MV.attempt o.2.1, o.2.2))
 | .release x => (aci x e).bind fun o => some (o.1, (MV.release o.2.1, o.2.2))
 | .opush x => (abU x e).bind fun o => some (o.1, (MV.opush o.2.1, o.2.2))
 | .opop x => (adB x e).bind fun o => some (o.1, (MV.opop o.2.1, o.2.2))
 | .steal x => (acx x e).bind fun o => some (o.1, (MV.steal o.2.1, o.2.2))
 | .set x => (abV x e).bind fun o => some (o.1, (MV.set o.2.1, o.2.2))
 | .reset x => (acn x e).bind fun o => some (o.1, (MV.reset o.2.1, o.2.2))
 | .remove x => (abv x e).bind fun o => some (o.1, (MV.remove o.2.1, o.2.2))
 | .sleep x => (acX x e).bind fun o => some (o.1, (MV.sleep o.2.1, o.2.2))
 | .wake x => (abL x e).bind fun o => some (o.1, (MV.wake o.2.1, o.2.2))
 | .raise x => (abn x e).bind fun o => some (o.1, (MV.raise o.2.1, o.2.2))
 | .probe x => (acy x e).bind fun o => some (o.1, (MV.probe o.2.1, o.2.2))
 | .lpush x => (abm x e).bind fun o => some (o.1, (MV.lpush o.2.1, o.2.2))
 | .lpop x => (adW x e).bind fun o => some (o.1, (MV.lpop o.2.1, o.2.2))
 | .walk x => (aa8 x e).bind fun o => some (o.1, (MV.walk o.2.1, o.2.2))
 | .take x => (afV x e).bind fun o => some (o.1, (MV.take o.2.1, o.2.2))
 | .sweep x => (aeB x e).bind fun o => some (o.1, (MV.sweep o.2.1, o.2.2))
 | .enter x => (aa5 x e).bind fun o => some (o.1, (MV.enter o.2.1, o.2.2))
 | .drain x => (aex x e).bind fun o => some (o.1, (MV.drain o.2.1, o.2.2))
 | .run x => (aaF x e).bind fun o => some (o.1, (MV.run o.2.1, o.2.2))
 | _ => none
noncomputable abbrev aln : Con SR1 := ⟨1000000000, [.mch, .ref 27], [.sh .b], fun x => afz x.1 x.2.1⟩
theorem amn : CO Tryz.prog aln := agi (S := SR1) (i := 0) (ps := [.ref 27]) (rs := [.sh .b]) (spec := fun m xs => afz m xs.1) fun m xs out h => by
  cases m with
  | alloc x => exact aah (S := SR1) (ps := [.ref 27]) (rs := [.sh .b]) (c := 34) (mk := MV.alloc) (fun _ => rfl) rfl (fun _ _ _ _ => by kernel_rfl) abE h
  | publish x => exact aah (S := SR1) (ps := [.ref 27]) (rs := [.sh .b]) (c := 48) (mk := MV.publish) (fun _ => rfl) rfl (fun _ _ _ _ => by kernel_rfl) abO h
  | claim x => exact aah (S := SR1) (ps := [.ref 27]) (rs := [.sh .b]) (c := 43) (mk := MV.claim) (fun _ => rfl) rfl (fun _ _ _ _ => by kernel_rfl) acp h
  | attempt x => exact aah (S := SR1) (ps := [.ref 27]) (rs := [.sh .b]) (c := 33) (mk := MV.attempt) (fun _ => rfl) rfl (fun _ _ _ _ => by kernel_rfl) ab5 h
  | release x => exact aah (S := SR1) (ps := [.ref 27]) (rs := [.sh .b]) (c := 35) (mk := MV.release) (fun _ => rfl) rfl (fun _ _ _ _ => by kernel_rfl) ab4 h
  | opush x => exact aah (S := SR1) (ps := [.ref 27]) (rs := [.sh .b]) (c := 51) (mk := MV.opush) (fun _ => rfl) rfl (fun _ _ _ _ => by kernel_rfl) acH h
  | opop x => exact aah (S := SR1) (ps := [.ref 27]) (rs := [.sh .b]) (c := 50) (mk := MV.opop) (fun _ => rfl) rfl (fun _ _ _ _ => by kernel_rfl) acZ h
  | steal x => exact aah (S := SR1) (ps := [.ref 27]) (rs := [.sh .b]) (c := 40) (mk := MV.steal) (fun _ => rfl) rfl (fun _ _ _ _ => by kernel_rfl) aco h
  | set x => exact aah (S := SR1) (ps := [.ref 27]) (rs := [.sh .b]) (c := 52) (mk := MV.set) (fun _ => rfl) rfl (fun _ _ _ _ => by kernel_rfl) acJ h
  | reset x => exact aah (S := SR1) (ps := [.ref 27]) (rs := [.sh .b]) (c := 41) (mk := MV.reset) (fun _ => rfl) rfl (fun _ _ _ _ => by kernel_rfl) ab7 h
  | remove x => exact aah (S := SR1) (ps := [.ref 27]) (rs := [.sh .b]) (c := 49) (mk := MV.remove) (fun _ => rfl) rfl (fun _ _ _ _ => by kernel_rfl) abu h
  | sleep x => exact aah (S := SR1) (ps := [.ref 27]) (rs := [.sh .b]) (c := 31) (mk := MV.sleep) (fun _ => rfl) rfl (fun _ _ _ _ => by kernel_rfl) acF h
  | wake x => exact aah (S := SR1) (ps := [.ref 27]) (rs := [.sh .b]) (c := 36) (mk := MV.wake) (fun _ => rfl) rfl (fun _ _ _ _ => by kernel_rfl) acW h
  | raise x => exact aah (S := SR1) (ps := [.ref 27]) (rs := [.sh .b]) (c := 53) (mk := MV.raise) (fun _ => rfl) rfl (fun _ _ _ _ => by kernel_rfl) acs h
  | probe x => exact aah (S := SR1) (ps := [.ref 27]) (rs := [.sh .b]) (c := 44) (mk := MV.probe) (fun _ => rfl) rfl (fun _ _ _ _ => by kernel_rfl) acq h
  | lpush x => exact aah (S := SR1) (ps := [.ref 27]) (rs := [.sh .b]) (c := 45) (mk := MV.lpush) (fun _ => rfl) rfl (fun _ _ _ _ => by kernel_rfl) adi h
  | lpop x => exact aah (S := SR1) (ps := [.ref 27]) (rs := [.sh .b]) (c := 42) (mk := MV.lpop) (fun _ => rfl) rfl (fun _ _ _ _ => by kernel_rfl) adI h
  | walk x => exact aah (S := SR1) (ps := [.ref 27]) (rs := [.sh .b]) (c := 46) (mk := MV.walk) (fun _ => rfl) rfl (fun _ _ _ _ => by kernel_rfl) afF h
  | take x => exact aah (S := SR1) (ps := [.ref 27]) (rs := [.sh .b]) (c := 37) (mk := MV.take) (fun _ => rfl) rfl (fun _ _ _ _ => by kernel_rfl) afU h
  | sweep x => exact aah (S := SR1) (ps := [.ref 27]) (rs := [.sh .b]) (c := 38) (mk := MV.sweep) (fun _ => rfl) rfl (fun _ _ _ _ => by kernel_rfl) ae4 h
  | enter x => exact aah (S := SR1) (ps := [.ref 27]) (rs := [.sh .b]) (c := 47) (mk := MV.enter) (fun _ => rfl) rfl (fun _ _ _ _ => by kernel_rfl) aeF h
  | drain x => exact aah (S := SR1) (ps := [.ref 27]) (rs := [.sh .b]) (c := 39) (mk := MV.drain) (fun _ => rfl) rfl (fun _ _ _ _ => by kernel_rfl) aeY h
  | run x => exact aah (S := SR1) (ps := [.ref 27]) (rs := [.sh .b]) (c := 32) (mk := MV.run) (fun _ => rfl) rfl (fun _ _ _ _ => by kernel_rfl) aiY h
  | _ => cases h
noncomputable def alv (m : MV) : Option ((Int × Int × Unit) × (MV × Unit)) :=
 match m with
 | .alloc x => some ((x.o.code, x.o.value, ()), (MV.alloc x, ()))
 | .publish x => some ((x.o.code, x.o.value, ()), (MV.publish x, ()))
 | .claim x => some ((x.o.code, x.o.value, ()), (MV.claim x, ()))
 | .attempt x => some ((x.o.code, x.o.value, ()), (MV.attempt x, ()))
 | .release x => some ((x.o.code, x.o.value, ()), (MV.release x, ()))
 | .opush x => some ((x.o.code, x.o.value, ()), (MV.opush x, ()))
 | .opop x => some ((x.o.code, x.o.value, ()), (MV.opop x, ()))
 | .steal x => some ((x.o.code, x.o.value, ()), (MV.steal x, ()))
 | .set x => some ((x.o.code, x.o.value, ()), (MV.set x, ()))
 | .reset x => some ((x.o.code, x.o.value, ()), (MV.reset x, ()))
 | .remove x => some ((x.o.code, x.o.value, ()), (MV.remove x, ()))
 | .sleep x => some ((x.o.code, x.o.value, ()), (MV.sleep x, ()))
 | .wake x => some ((x.o.code, x.o.value, ()), (MV.wake x, ()))
 | .raise x => some ((x.o.code, x.o.value, ()), (MV.raise x, ()))
 | .probe x => some ((x.o.code, x.o.value, ()), (MV.probe x, ()))
 | .lpush x => some ((x.o.code, x.o.value, ()), (MV.lpush x, ()))
 | .lpop x => some ((x.o.code, x.o.value, ()), (MV.lpop x, ()))
 | .walk x => some ((x.o.code, x.o.value, ()), (MV.walk x, ()))
 | .take x => some ((x.o.code, x.o.value, ()), (MV.take x, ()))
 | .sweep x => some ((x.o.code, x.o.value, ()), (MV.sweep x, ()))
 | .enter x => some ((x.o.code, x.o.value, ()), (MV.enter x, ()))
 | .drain x => some ((x.o.code, x.o.value, ()), (MV.drain x, ()))
 | .run x => some ((x.o.code, x.o.value, ()), (MV.run x, ()))
 | _ => none
noncomputable abbrev akS : Con SR1 := ⟨1000000001, [.mch], [.sh sI_, .sh sI_], fun x => alv x.1⟩
theorem anD : CO Tryz.prog akS := agi (S := SR1) (i := 1) (ps := []) (rs := [.sh sI_, .sh sI_]) (spec := fun m _ => alv m) fun m xs out h => by
  cases m with
  | alloc x => exact aah (S := SR1) (ps := []) (rs := [.sh sI_, .sh sI_]) (c := 34) (mk := MV.alloc) (f := 129) (sp := fun x => some ((x.1.o.code, x.1.o.value, ()), (x.1, ()))) (fun _ => rfl) rfl (fun _ _ _ _ => by kernel_rfl) (aak [aag] ⟨aad, trivial⟩ fun x => by kernel_rfl) h
  | publish x => exact aah (S := SR1) (ps := []) (rs := [.sh sI_, .sh sI_]) (c := 48) (mk := MV.publish) (f := 129) (sp := fun x => some ((x.1.o.code, x.1.o.value, ()), (x.1, ()))) (fun _ => rfl) rfl (fun _ _ _ _ => by kernel_rfl) (aak [aag] ⟨aad, trivial⟩ fun x => by kernel_rfl) h
  | claim x => exact aah (S := SR1) (ps := []) (rs := [.sh sI_, .sh sI_]) (c := 43) (mk := MV.claim) (f := 129) (sp := fun x => some ((x.1.o.code, x.1.o.value, ()), (x.1, ()))) (fun _ => rfl) rfl (fun _ _ _ _ => by kernel_rfl) (aak [aag] ⟨aad, trivial⟩ fun x => by kernel_rfl) h
  | attempt x => exact aah (S := SR1) (ps := []) (rs := [.sh sI_, .sh sI_]) (c := 33) (mk := MV.attempt) (f := 129) (sp := fun x => some ((x.1.o.code, x.1.o.value, ()), (x.1, ()))) (fun _ => rfl) rfl (fun _ _ _ _ => by kernel_rfl) (aak [aag] ⟨aad, trivial⟩ fun x => by kernel_rfl) h
  | release x => exact aah (S := SR1) (ps := []) (rs := [.sh sI_, .sh sI_]) (c := 35) (mk := MV.release) (f := 129) (sp := fun x => some ((x.1.o.code, x.1.o.value, ()), (x.1, ()))) (fun _ => rfl) rfl (fun _ _ _ _ => by kernel_rfl) (aak [aag] ⟨aad, trivial⟩ fun x => by kernel_rfl) h
  | opush x => exact aah (S := SR1) (ps := []) (rs := [.sh sI_, .sh sI_]) (c := 51) (mk := MV.opush) (f := 129) (sp := fun x => some ((x.1.o.code, x.1.o.value, ()), (x.1, ()))) (fun _ => rfl) rfl (fun _ _ _ _ => by kernel_rfl) (aak [aag] ⟨aad, trivial⟩ fun x => by kernel_rfl) h
  | opop x => exact aah (S := SR1) (ps := []) (rs := [.sh sI_, .sh sI_]) (c := 50) (mk := MV.opop) (f := 129) (sp := fun x => some ((x.1.o.code, x.1.o.value, ()), (x.1, ()))) (fun _ => rfl) rfl (fun _ _ _ _ => by kernel_rfl) (aak [aag] ⟨aad, trivial⟩ fun x => by kernel_rfl) h
  | steal x => exact aah (S := SR1) (ps := []) (rs := [.sh sI_, .sh sI_]) (c := 40) (mk := MV.steal) (f := 129) (sp := fun x => some ((x.1.o.code, x.1.o.value, ()), (x.1, ()))) (fun _ => rfl) rfl (fun _ _ _ _ => by kernel_rfl) (aak [aag] ⟨aad, trivial⟩ fun x => by kernel_rfl) h
  | set x => exact aah (S := SR1) (ps := []) (rs := [.sh sI_, .sh sI_]) (c := 52) (mk := MV.set) (f := 129) (sp := fun x => some ((x.1.o.code, x.1.o.value, ()), (x.1, ()))) (fun _ => rfl) rfl (fun _ _ _ _ => by kernel_rfl) (aak [aag] ⟨aad, trivial⟩ fun x => by kernel_rfl) h
  | reset x => exact aah (S := SR1) (ps := []) (rs := [.sh sI_, .sh sI_]) (c := 41) (mk := MV.reset) (f := 129) (sp := fun x => some ((x.1.o.code, x.1.o.value, ()), (x.1, ()))) (fun _ => rfl) rfl (fun _ _ _ _ => by kernel_rfl) (aak [aag] ⟨aad, trivial⟩ fun x => by kernel_rfl) h
  | remove x => exact aah (S := SR1) (ps := []) (rs := [.sh sI_, .sh sI_]) (c := 49) (mk := MV.remove) (f := 129) (sp := fun x => some ((x.1.o.code, x.1.o.value, ()), (x.1, ()))) (fun _ => rfl) rfl (fun _ _ _ _ => by kernel_rfl) (aak [aag] ⟨aad, trivial⟩ fun x => by kernel_rfl) h
  | sleep x => exact aah (S := SR1) (ps := []) (rs := [.sh sI_, .sh sI_]) (c := 31) (mk := MV.sleep) (f := 129) (sp := fun x => some ((x.1.o.code, x.1.o.value, ()), (x.1, ()))) (fun _ => rfl) rfl (fun _ _ _ _ => by kernel_rfl) (aak [aag] ⟨aad, trivial⟩ fun x => by kernel_rfl) h
  | wake x => exact aah (S := SR1) (ps := []) (rs := [.sh sI_, .sh sI_]) (c := 36) (mk := MV.wake) (f := 129) (sp := fun x => some ((x.1.o.code, x.1.o.value, ()), (x.1, ()))) (fun _ => rfl) rfl (fun _ _ _ _ => by kernel_rfl) (aak [aag] ⟨aad, trivial⟩ fun x => by kernel_rfl) h
  | raise x => exact aah (S := SR1) (ps := []) (rs := [.sh sI_, .sh sI_]) (c := 53) (mk := MV.raise) (f := 129) (sp := fun x => some ((x.1.o.code, x.1.o.value, ()), (x.1, ()))) (fun _ => rfl) rfl (fun _ _ _ _ => by kernel_rfl) (aak [aag] ⟨aad, trivial⟩ fun x => by kernel_rfl) h
  | probe x => exact aah (S := SR1) (ps := []) (rs := [.sh sI_, .sh sI_]) (c := 44) (mk := MV.probe) (f := 129) (sp := fun x => some ((x.1.o.code, x.1.o.value, ()), (x.1, ()))) (fun _ => rfl) rfl (fun _ _ _ _ => by kernel_rfl) (aak [aag] ⟨aad, trivial⟩ fun x => by kernel_rfl) h
  | lpush x => exact aah (S := SR1) (ps := []) (rs := [.sh sI_, .sh sI_]) (c := 45) (mk := MV.lpush) (f := 129) (sp := fun x => some ((x.1.o.code, x.1.o.value, ()), (x.1, ()))) (fun _ => rfl) rfl (fun _ _ _ _ => by kernel_rfl) (aak [aag] ⟨aad, trivial⟩ fun x => by kernel_rfl) h
  | lpop x => exact aah (S := SR1) (ps := []) (rs := [.sh sI_, .sh sI_]) (c := 42) (mk := MV.lpop) (f := 129) (sp := fun x => some ((x.1.o.code, x.1.o.value, ()), (x.1, ()))) (fun _ => rfl) rfl (fun _ _ _ _ => by kernel_rfl) (aak [aag] ⟨aad, trivial⟩ fun x => by kernel_rfl) h
  | walk x => exact aah (S := SR1) (ps := []) (rs := [.sh sI_, .sh sI_]) (c := 46) (mk := MV.walk) (f := 129) (sp := fun x => some ((x.1.o.code, x.1.o.value, ()), (x.1, ()))) (fun _ => rfl) rfl (fun _ _ _ _ => by kernel_rfl) (aak [aag] ⟨aad, trivial⟩ fun x => by kernel_rfl) h
  | take x => exact aah (S := SR1) (ps := []) (rs := [.sh sI_, .sh sI_]) (c := 37) (mk := MV.take) (f := 129) (sp := fun x => some ((x.1.o.code, x.1.o.value, ()), (x.1, ()))) (fun _ => rfl) rfl (fun _ _ _ _ => by kernel_rfl) (aak [aag] ⟨aad, trivial⟩ fun x => by kernel_rfl) h
  | sweep x => exact aah (S := SR1) (ps := []) (rs := [.sh sI_, .sh sI_]) (c := 38) (mk := MV.sweep) (f := 129) (sp := fun x => some ((x.1.o.code, x.1.o.value, ()), (x.1, ()))) (fun _ => rfl) rfl (fun _ _ _ _ => by kernel_rfl) (aak [aag] ⟨aad, trivial⟩ fun x => by kernel_rfl) h
  | enter x => exact aah (S := SR1) (ps := []) (rs := [.sh sI_, .sh sI_]) (c := 47) (mk := MV.enter) (f := 129) (sp := fun x => some ((x.1.o.code, x.1.o.value, ()), (x.1, ()))) (fun _ => rfl) rfl (fun _ _ _ _ => by kernel_rfl) (aak [aag] ⟨aad, trivial⟩ fun x => by kernel_rfl) h
  | drain x => exact aah (S := SR1) (ps := []) (rs := [.sh sI_, .sh sI_]) (c := 39) (mk := MV.drain) (f := 129) (sp := fun x => some ((x.1.o.code, x.1.o.value, ()), (x.1, ()))) (fun _ => rfl) rfl (fun _ _ _ _ => by kernel_rfl) (aak [aag] ⟨aad, trivial⟩ fun x => by kernel_rfl) h
  | run x => exact aah (S := SR1) (ps := []) (rs := [.sh sI_, .sh sI_]) (c := 32) (mk := MV.run) (f := 129) (sp := fun x => some ((x.1.o.code, x.1.o.value, ()), (x.1, ()))) (fun _ => rfl) rfl (fun _ _ _ _ => by kernel_rfl) (aak [aag] ⟨aad, trivial⟩ fun x => by kernel_rfl) h
  | _ => cases h
noncomputable def af2 (y0 : Int) (y1 : Int) : Option ((MV × Unit) × (Unit)) :=
 some ((MV.run (⟨⟨false, 0, 0⟩, y0, [y1], 0, MV.nil, 0, 0, 0, 0⟩ : (RunV MV)), ()), (()))
noncomputable abbrev ag0 : Con SR1 := ⟨9, [.sh sI_, .sh sI_], [.sh .mach], fun x => af2 x.1 x.2.1⟩
theorem aiK : CO Tryz.prog ag0 := aar aaq Tryz.func9 [] trivial [] trivial (fun _ => []) [] fun x => by kernel_rfl
end
end Go.Proofs.YtlcelajkhklkbaaGreat
