/- The program's machines in the evaluator's form. -/
import Derived.Test.YtlcelajkhklkbaaGreatWcam
set_option linter.all false
namespace Go.Proofs.YtlcelajkhklkbaaGreat
open Go Go.RowKit
set_option maxRecDepth 100000
variable [Tb]
noncomputable def aby (y0 : (RunV MV)) (y1 : EnvP) (y2 : Int) (y3 : Int) : Option ((Bool × Unit) × ((RunV MV) × EnvP × Unit)) :=
 if 0 ≤ wi (((y0.stack.length : Nat) : Int) - 1) ∧ wi (((y0.stack.length : Nat) : Int) - 1) < ((y0.stack.length : Nat) : Int) then
  if 0 ≤ aae y0.stack (wi (((y0.stack.length : Nat) : Int) - 1)) ∧ aae y0.stack (wi (((y0.stack.length : Nat) : Int) - 1)) < ((y1.recs.length : Nat) : Int) then
   if 0 ≤ wi (((y0.stack.length : Nat) : Int) - 1) ∧ wi (((y0.stack.length : Nat) : Int) - 1) < ((y0.stack.length : Nat) : Int) then
   if 0 ≤ aae y0.stack (wi (((y0.stack.length : Nat) : Int) - 1)) ∧ aae y0.stack (wi (((y0.stack.length : Nat) : Int) - 1)) < ((y1.recs.length : Nat) : Int) then
   if ((aab y1.recs (aae y0.stack (wi (((y0.stack.length : Nat) : Int) - 1)))).prog) < 0 then
   if 0 ≤ wi (((y0.stack.length : Nat) : Int) - 1) ∧ wi (((y0.stack.length : Nat) : Int) - 1) < ((y0.stack.length : Nat) : Int) then
   if 0 ≤ aae y0.stack (wi (((y0.stack.length : Nat) : Int) - 1)) ∧ aae y0.stack (wi (((y0.stack.length : Nat) : Int) - 1)) < ((y1.recs.length : Nat) : Int) then
   none
   else none
   else none
   else
   if ((y1.c.progs.length : Nat) : Int) ≤ ((aab y1.recs (aae y0.stack (wi (((y0.stack.length : Nat) : Int) - 1)))).prog) then
   if 0 ≤ wi (((y0.stack.length : Nat) : Int) - 1) ∧ wi (((y0.stack.length : Nat) : Int) - 1) < ((y0.stack.length : Nat) : Int) then
   if 0 ≤ aae y0.stack (wi (((y0.stack.length : Nat) : Int) - 1)) ∧ aae y0.stack (wi (((y0.stack.length : Nat) : Int) - 1)) < ((y1.recs.length : Nat) : Int) then
   none
   else none
   else none
   else
   if 0 ≤ (aab y1.recs (aae y0.stack (wi (((y0.stack.length : Nat) : Int) - 1)))).prog ∧ (aab y1.recs (aae y0.stack (wi (((y0.stack.length : Nat) : Int) - 1)))).prog < ((y1.c.progs.length : Nat) : Int) then
   if 0 ≤ wi (((y0.stack.length : Nat) : Int) - 1) ∧ wi (((y0.stack.length : Nat) : Int) - 1) < ((y0.stack.length : Nat) : Int) then
   if 0 ≤ aae y0.stack (wi (((y0.stack.length : Nat) : Int) - 1)) ∧ aae y0.stack (wi (((y0.stack.length : Nat) : Int) - 1)) < ((y1.recs.length : Nat) : Int) then
   if 0 ≤ (aab y1.recs (aae y0.stack (wi (((y0.stack.length : Nat) : Int) - 1)))).pc ∧ (aab y1.recs (aae y0.stack (wi (((y0.stack.length : Nat) : Int) - 1)))).pc < (((atL [] y1.c.progs ((aab y1.recs (aae y0.stack (wi (((y0.stack.length : Nat) : Int) - 1)))).prog)).length : Nat) : Int) then
   if y2 = 3 then
   if (((((aab (y1.recs.set (aae y0.stack (wi (((y0.stack.length : Nat) : Int) - 1))).toNat ({ aab y1.recs (aae y0.stack (wi (((y0.stack.length : Nat) : Int) - 1))) with pc := wi (((aab y1.recs (aae y0.stack (wi (((y0.stack.length : Nat) : Int) - 1)))).pc) + 1) } : RecP)) (aae y0.stack (wi (((y0.stack.length : Nat) : Int) - 1)))).kids).length + ([(-1)] : List Int).length : Nat)) : Int) < 1000000000000 then
   if 0 ≤ wi (((y0.stack.length : Nat) : Int) - 1) ∧ wi (((y0.stack.length : Nat) : Int) - 1) < ((y0.stack.length : Nat) : Int) then
   (aaA y0 ({ y1 with recs := (y1.recs.set (aae y0.stack (wi (((y0.stack.length : Nat) : Int) - 1))).toNat ({ aab y1.recs (aae y0.stack (wi (((y0.stack.length : Nat) : Int) - 1))) with pc := wi (((aab y1.recs (aae y0.stack (wi (((y0.stack.length : Nat) : Int) - 1)))).pc) + 1) } : RecP)).set (aae y0.stack (wi (((y0.stack.length : Nat) : Int) - 1))).toNat ({ aab (y1.recs.set (aae y0.stack (wi (((y0.stack.length : Nat) : Int) - 1))).toNat ({ aab y1.recs (aae y0.stack (wi (((y0.stack.length : Nat) : Int) - 1))) with pc := wi (((aab y1.recs (aae y0.stack (wi (((y0.stack.length : Nat) : Int) - 1)))).pc) + 1) } : RecP)) (aae y0.stack (wi (((y0.stack.length : Nat) : Int) - 1))) with kids := ((aab (y1.recs.set (aae y0.stack (wi (((y0.stack.length : Nat) : Int) - 1))).toNat ({ aab y1.recs (aae y0.stack (wi (((y0.stack.length : Nat) : Int) - 1))) with pc := wi (((aab y1.recs (aae y0.stack (wi (((y0.stack.length : Nat) : Int) - 1)))).pc) + 1) } : RecP)) (aae y0.stack (wi (((y0.stack.length : Nat) : Int) - 1)))).kids) ++ ([(-1)]) } : RecP) } : EnvP) (⟨4, 0, aae y0.stack (wi (((y0.stack.length : Nat) : Int) - 1)), 0, 0⟩ : Ev)).bind fun r1 =>
   (aac r1.2.1 0 MV.nil).bind fun r2 =>
   some ((r2.1.1, ()), (r2.2.1, r1.2.2.1, ()))
   else none
   else none
   else
   if (((((aab (y1.recs.set (aae y0.stack (wi (((y0.stack.length : Nat) : Int) - 1))).toNat ({ aab y1.recs (aae y0.stack (wi (((y0.stack.length : Nat) : Int) - 1))) with pc := wi (((aab y1.recs (aae y0.stack (wi (((y0.stack.length : Nat) : Int) - 1)))).pc) + 1) } : RecP)) (aae y0.stack (wi (((y0.stack.length : Nat) : Int) - 1)))).kids).length + ([y3] : List Int).length : Nat)) : Int) < 1000000000000 then
   if 0 ≤ wi (((y0.stack.length : Nat) : Int) - 1) ∧ wi (((y0.stack.length : Nat) : Int) - 1) < ((y0.stack.length : Nat) : Int) then
   if ((abM (atL [] y1.c.progs ((aab y1.recs (aae y0.stack (wi (((y0.stack.length : Nat) : Int) - 1)))).prog)) ((aab y1.recs (aae y0.stack (wi (((y0.stack.length : Nat) : Int) - 1)))).pc)).a) = ((abM (atL [] y1.c.progs ((aab y1.recs (aae y0.stack (wi (((y0.stack.length : Nat) : Int) - 1)))).prog)) ((aab y1.recs (aae y0.stack (wi (((y0.stack.length : Nat) : Int) - 1)))).pc)).a) then
   if 0 ≤ y3 ∧ y3 < ((((y1.recs.set (aae y0.stack (wi (((y0.stack.length : Nat) : Int) - 1))).toNat ({ aab y1.recs (aae y0.stack (wi (((y0.stack.length : Nat) : Int) - 1))) with pc := wi (((aab y1.recs (aae y0.stack (wi (((y0.stack.length : Nat) : Int) - 1)))).pc) + 1) } : RecP)).set (aae y0.stack (wi (((y0.stack.length : Nat) : Int) - 1))).toNat ({ aab (y1.recs.set (aae y0.stack (wi (((y0.stack.length : Nat) : Int) - 1))).toNat ({ aab y1.recs (aae y0.stack (wi (((y0.stack.length : Nat) : Int) - 1))) with pc := wi (((aab y1.recs (aae y0.stack (wi (((y0.stack.length : Nat) : Int) - 1)))).pc) + 1) } : RecP)) (aae y0.stack (wi (((y0.stack.length : Nat) : Int) - 1))) with kids := ((aab (y1.recs.set (aae y0.stack (wi (((y0.stack.length : Nat) : Int) - 1))).toNat ({ aab y1.recs (aae y0.stack (wi (((y0.stack.length : Nat) : Int) - 1))) with pc := wi (((aab y1.recs (aae y0.stack (wi (((y0.stack.length : Nat) : Int) - 1)))).pc) + 1) } : RecP)) (aae y0.stack (wi (((y0.stack.length : Nat) : Int) - 1)))).kids) ++ ([y3]) } : RecP)).length : Nat) : Int) then
   if ((abM (atL [] y1.c.progs ((aab y1.recs (aae y0.stack (wi (((y0.stack.length : Nat) : Int) - 1)))).prog)) ((aab y1.recs (aae y0.stack (wi (((y0.stack.length : Nat) : Int) - 1)))).pc)).b) = ((abM (atL [] y1.c.progs ((aab y1.recs (aae y0.stack (wi (((y0.stack.length : Nat) : Int) - 1)))).prog)) ((aab y1.recs (aae y0.stack (wi (((y0.stack.length : Nat) : Int) - 1)))).pc)).b) then
   (agN y3 ((abM (atL [] y1.c.progs ((aab y1.recs (aae y0.stack (wi (((y0.stack.length : Nat) : Int) - 1)))).prog)) ((aab y1.recs (aae y0.stack (wi (((y0.stack.length : Nat) : Int) - 1)))).pc)).b)).bind fun r3 =>
   (aac ({ y0 with id := y3, level := (abM (atL [] y1.c.progs ((aab y1.recs (aae y0.stack (wi (((y0.stack.length : Nat) : Int) - 1)))).prog)) ((aab y1.recs (aae y0.stack (wi (((y0.stack.length : Nat) : Int) - 1)))).pc)).b } : (RunV MV)) 5 r3.1.1).bind fun r4 =>
   some ((r4.1.1, ()), (r4.2.1, ({ y1 with recs := ((y1.recs.set (aae y0.stack (wi (((y0.stack.length : Nat) : Int) - 1))).toNat ({ aab y1.recs (aae y0.stack (wi (((y0.stack.length : Nat) : Int) - 1))) with pc := wi (((aab y1.recs (aae y0.stack (wi (((y0.stack.length : Nat) : Int) - 1)))).pc) + 1) } : RecP)).set (aae y0.stack (wi (((y0.stack.length : Nat) : Int) - 1))).toNat ({ aab (y1.recs.set (aae y0.stack (wi (((y0.stack.length : Nat) : Int) - 1))).toNat ({ aab y1.recs (aae y0.stack (wi (((y0.stack.length : Nat) : Int) - 1))) with pc := wi (((aab y1.recs (aae y0.stack (wi (((y0.stack.length : Nat) : Int) - 1)))).pc) + 1) } : RecP)) (aae y0.stack (wi (((y0.stack.length : Nat) : Int) - 1))) with kids := ((aab (y1.recs.set (aae y0.stack (wi (((y0.stack.length : Nat) : Int) - 1))).toNat ({ aab y1.recs (aae y0.stack (wi (((y0.stack.length : Nat) : Int) - 1))) with pc := wi (((aab y1.recs (aae y0.stack (wi (((y0.stack.length : Nat) : Int) - 1)))).pc) + 1) } : RecP)) (aae y0.stack (wi (((y0.stack.length : Nat) : Int) - 1)))).kids) ++ ([y3]) } : RecP)).set y3.toNat (⟨(abM (atL [] y1.c.progs ((aab y1.recs (aae y0.stack (wi (((y0.stack.length : Nat) : Int) - 1)))).prog)) ((aab y1.recs (aae y0.stack (wi (((y0.stack.length : Nat) : Int) - 1)))).pc)).a, aae y0.stack (wi (((y0.stack.length : Nat) : Int) - 1)), 0, 0, (-1), [], false⟩ : RecP) } : EnvP), ()))
   else none
   else none
   else none
   else none
   else none
   else none
   else none
   else none
   else none
   else none
   else none
  else none
 else none
noncomputable abbrev aet : Con SR1 := ⟨143, [.ref 32, .ref 27, .sh sI_, .sh sI_], [.sh .b], fun x => aby x.1 x.2.1 x.2.2.1 x.2.2.2.1⟩
noncomputable def agV : List (Nat × Func) := [(138, Tryz.f138), (131, Tryz.f131), (141, Tryz.f141), (139, Tryz.f139)]
theorem agW : CO Tryz.prog aet := aaq aap Tryz.func143 [acK, ack, ahS] ⟨adb, acx, ak4, trivial⟩ agV ⟨Tryz.func138, Tryz.func131, Tryz.func141, Tryz.func139, trivial⟩ (fun _ => []) [(8, .close)] fun x => by kernel_rfl
noncomputable def aaZ (y0 : (RunV MV)) (y1 : EnvP) : Option ((Bool × Unit) × ((RunV MV) × EnvP × Unit)) :=
 (adJ y0.inside y1).bind fun r1 =>
 if (!r1.1.1) = true then
  some ((false, ()), (({ y0 with inside := r1.2.1 } : (RunV MV)), r1.2.2.1, ()))
 else
 (acB r1.2.1).bind fun r2 =>
 if y0.line = 4 then
  (aby ({ y0 with inside := r2.2.1 } : (RunV MV)) r1.2.2.1 r2.1.1 r2.1.2.1).bind fun r3 =>
  some ((r3.1.1, ()), (r3.2.1, r3.2.2.1, ()))
 else
 if y0.line = 5 then
  if 0 ≤ wi (((y0.stack.length : Nat) : Int) - 1) ∧ wi (((y0.stack.length : Nat) : Int) - 1) < ((y0.stack.length : Nat) : Int) then
   if y0.level = y0.level then
   if y0.id = y0.id then
   (aaA ({ y0 with inside := r2.2.1 } : (RunV MV)) r1.2.2.1 (⟨3, 0, y0.id, aae y0.stack (wi (((y0.stack.length : Nat) : Int) - 1)), y0.level⟩ : Ev)).bind fun r4 =>
   (abK r4.2.1.worker r4.2.1.level r4.2.1.id).bind fun r5 =>
   (aac r4.2.1 6 r5.1.1).bind fun r6 =>
   some ((r6.1.1, ()), (r6.2.1, r4.2.2.1, ()))
   else none
   else none
  else none
 else
 if y0.line = 6 then
  if r2.1.1 = 3 then
   (abJ y0.worker y0.id).bind fun r7 =>
   (aac ({ y0 with inside := r2.2.1 } : (RunV MV)) 8 r7.1.1).bind fun r8 =>
   some ((r8.1.1, ()), (r8.2.1, r1.2.2.1, ()))
  else
  (acm y0.worker y0.level).bind fun r9 =>
  (aac ({ y0 with inside := r2.2.1 } : (RunV MV)) 7 r9.1.1).bind fun r10 =>
  some ((r10.1.1, ()), (r10.2.1, r1.2.2.1, ()))
 else
 if y0.line = 8 then
  if r2.1.1 = 1 then
   if (((y0.stack.length + ([y0.id] : List Int).length : Nat)) : Int) < 1000000000000 then
   (aac ({ y0 with stack := y0.stack ++ ([y0.id]), inside := r2.2.1 } : (RunV MV)) 0 MV.nil).bind fun r11 =>
   some ((r11.1.1, ()), (r11.2.1, r1.2.2.1, ()))
   else none
  else
  (aac ({ y0 with inside := r2.2.1 } : (RunV MV)) 0 MV.nil).bind fun r12 =>
  some ((r12.1.1, ()), (r12.2.1, r1.2.2.1, ()))
 else
 (aac ({ y0 with inside := r2.2.1 } : (RunV MV)) 0 MV.nil).bind fun r13 =>
 some ((r13.1.1, ()), (r13.2.1, r1.2.2.1, ()))
noncomputable abbrev agt : Con SR1 := ⟨135, [.ref 32, .ref 27], [.sh .b], fun x => aaZ x.1 x.2.1⟩
noncomputable def aju : List (Nat × Func) := [(131, Tryz.f131)]
theorem ajv : CO Tryz.prog agt := aaq aap Tryz.func135 [akL, ajx, aet, acK, ads, ack, aed, ahx] ⟨ak5, ale, agW, adb, adC, acx, aez, aib, trivial⟩ aju ⟨Tryz.func131, trivial⟩ (fun _ => []) [] fun x => by kernel_rfl
noncomputable def ahm (y0 : Int) (y1 : Int) (y2 : Int) : Option ((MV × Unit) × (Unit)) :=
 some ((MV.walk (⟨⟨false, 0, 0⟩, y0, y1, y2, 1, MV.nil⟩ : (WalkV MV)), ()), (()))
noncomputable abbrev alZ : Con SR1 := ⟨152, [.sh sI_, .sh sI_, .sh sI_], [.sh .mach], fun x => ahm x.1 x.2.1 x.2.2.1⟩
theorem ao6 : CO Tryz.prog alZ := aaq aap Tryz.func152 [] trivial [] trivial (fun _ => []) [] fun x => by kernel_rfl
noncomputable def aan (y0 : (RunV MV)) : Option ((Bool × Unit) × ((RunV MV) × Unit)) :=
 if 0 ≤ wi (((y0.stack.length : Nat) : Int) - 1) ∧ wi (((y0.stack.length : Nat) : Int) - 1) ≤ ((y0.stack.length : Nat) : Int) then
  if (((y0.stack.take (wi (((y0.stack.length : Nat) : Int) - 1) : Int).toNat).length : Nat) : Int) = 0 then
   (aaX y0.o 0 0).bind fun r1 =>
   some ((r1.1.1, ()), (({ y0 with o := r1.2.1, stack := y0.stack.take (wi (((y0.stack.length : Nat) : Int) - 1) : Int).toNat } : (RunV MV)), ()))
  else
  (aac ({ y0 with stack := y0.stack.take (wi (((y0.stack.length : Nat) : Int) - 1) : Int).toNat } : (RunV MV)) 0 MV.nil).bind fun r2 =>
  some ((r2.1.1, ()), (r2.2.1, ()))
 else none
noncomputable abbrev ael : Con SR1 := ⟨153, [.ref 32], [.sh .b], fun x => aan x.1⟩
theorem afC : CO Tryz.prog ael := aaq aap Tryz.func153 [abU, ack] ⟨abc, acx, trivial⟩ [] trivial (fun _ => []) [] fun x => by kernel_rfl
noncomputable def aeR (y0 : (RunV MV)) (y1 : EnvP) : Option ((Bool × Unit) × ((RunV MV) × EnvP × Unit)) :=
 agr (
  if 0 ≤ wi (((y0.stack.length : Nat) : Int) - 1) ∧ wi (((y0.stack.length : Nat) : Int) - 1) < ((y0.stack.length : Nat) : Int) then
   if y1.l.workers = y1.l.workers then
   if y1.l.levels = y1.l.levels then
   if y1.l.classes = y1.l.classes then
   if y1.l.tasks = y1.l.tasks then
   if y1.l.deque = y1.l.deque then
   if y1.l.heap = y1.l.heap then
   if y1.l.sleepers = y1.l.sleepers then
   if y1.l.epochs = y1.l.epochs then
   if y1.l.bitmaps = y1.l.bitmaps then
   if y1.l.queues = y1.l.queues then
   if y1.l.table = y1.l.table then
   if y1.l.workers = y1.l.workers then
   if y1.l.levels = y1.l.levels then
   if y1.l.classes = y1.l.classes then
   if y1.l.tasks = y1.l.tasks then
   if y1.l.deque = y1.l.deque then
   if y1.l.heap = y1.l.heap then
   if y1.l.sleepers = y1.l.sleepers then
   if y1.l.epochs = y1.l.epochs then
   if y1.l.bitmaps = y1.l.bitmaps then
   if y1.l.queues = y1.l.queues then
   if y1.l.table = y1.l.table then
   if y0.line = 9 then
   if 0 ≤ wi (((y0.stack.length : Nat) : Int) - 1) ∧ wi (((y0.stack.length : Nat) : Int) - 1) < ((y0.stack.length : Nat) : Int) then
   if 0 ≤ aae y0.stack (wi (((y0.stack.length : Nat) : Int) - 1)) ∧ aae y0.stack (wi (((y0.stack.length : Nat) : Int) - 1)) < ((y1.recs.length : Nat) : Int) then
   if 0 ≤ wi (((y0.stack.length : Nat) : Int) - 1) ∧ wi (((y0.stack.length : Nat) : Int) - 1) < ((y0.stack.length : Nat) : Int) then
   if 0 ≤ aae y0.stack (wi (((y0.stack.length : Nat) : Int) - 1)) ∧ aae y0.stack (wi (((y0.stack.length : Nat) : Int) - 1)) < ((y1.recs.length : Nat) : Int) then
   if (aae y0.stack (wi (((y0.stack.length : Nat) : Int) - 1))) = (aae y0.stack (wi (((y0.stack.length : Nat) : Int) - 1))) then
   if ((aab y1.recs (aae y0.stack (wi (((y0.stack.length : Nat) : Int) - 1)))).prog) < 0 then
   if 0 ≤ wi (((y0.stack.length : Nat) : Int) - 1) ∧ wi (((y0.stack.length : Nat) : Int) - 1) < ((y0.stack.length : Nat) : Int) then
   if 0 ≤ aae y0.stack (wi (((y0.stack.length : Nat) : Int) - 1)) ∧ aae y0.stack (wi (((y0.stack.length : Nat) : Int) - 1)) < ((y1.recs.length : Nat) : Int) then
   if (aae y0.stack (wi (((y0.stack.length : Nat) : Int) - 1))) = (aae y0.stack (wi (((y0.stack.length : Nat) : Int) - 1))) then
   none
   else none
   else none
   else none
   else
   if ((y1.c.progs.length : Nat) : Int) ≤ ((aab y1.recs (aae y0.stack (wi (((y0.stack.length : Nat) : Int) - 1)))).prog) then
   if 0 ≤ wi (((y0.stack.length : Nat) : Int) - 1) ∧ wi (((y0.stack.length : Nat) : Int) - 1) < ((y0.stack.length : Nat) : Int) then
   if 0 ≤ aae y0.stack (wi (((y0.stack.length : Nat) : Int) - 1)) ∧ aae y0.stack (wi (((y0.stack.length : Nat) : Int) - 1)) < ((y1.recs.length : Nat) : Int) then
   if (aae y0.stack (wi (((y0.stack.length : Nat) : Int) - 1))) = (aae y0.stack (wi (((y0.stack.length : Nat) : Int) - 1))) then
   none
   else none
   else none
   else none
   else
   if 0 ≤ (aab y1.recs (aae y0.stack (wi (((y0.stack.length : Nat) : Int) - 1)))).prog ∧ (aab y1.recs (aae y0.stack (wi (((y0.stack.length : Nat) : Int) - 1)))).prog < ((y1.c.progs.length : Nat) : Int) then
   if 0 ≤ wi (((y0.stack.length : Nat) : Int) - 1) ∧ wi (((y0.stack.length : Nat) : Int) - 1) < ((y0.stack.length : Nat) : Int) then
   if 0 ≤ aae y0.stack (wi (((y0.stack.length : Nat) : Int) - 1)) ∧ aae y0.stack (wi (((y0.stack.length : Nat) : Int) - 1)) < ((y1.recs.length : Nat) : Int) then
   if (aae y0.stack (wi (((y0.stack.length : Nat) : Int) - 1))) = (aae y0.stack (wi (((y0.stack.length : Nat) : Int) - 1))) then
   if 0 ≤ (aab y1.recs (aae y0.stack (wi (((y0.stack.length : Nat) : Int) - 1)))).pc ∧ (aab y1.recs (aae y0.stack (wi (((y0.stack.length : Nat) : Int) - 1)))).pc < (((atL [] y1.c.progs ((aab y1.recs (aae y0.stack (wi (((y0.stack.length : Nat) : Int) - 1)))).prog)).length : Nat) : Int) then
   if 0 ≤ (abM (atL [] y1.c.progs ((aab y1.recs (aae y0.stack (wi (((y0.stack.length : Nat) : Int) - 1)))).prog)) ((aab y1.recs (aae y0.stack (wi (((y0.stack.length : Nat) : Int) - 1)))).pc)).a ∧ (abM (atL [] y1.c.progs ((aab y1.recs (aae y0.stack (wi (((y0.stack.length : Nat) : Int) - 1)))).prog)) ((aab y1.recs (aae y0.stack (wi (((y0.stack.length : Nat) : Int) - 1)))).pc)).a < ((((aab y1.recs (aae y0.stack (wi (((y0.stack.length : Nat) : Int) - 1)))).kids).length : Nat) : Int) then
   (ag2 y1.l (aae y0.stack (wi (((y0.stack.length : Nat) : Int) - 1)))).bind fun r26 =>
   if (aae ((aab y1.recs (aae y0.stack (wi (((y0.stack.length : Nat) : Int) - 1)))).kids) ((abM (atL [] y1.c.progs ((aab y1.recs (aae y0.stack (wi (((y0.stack.length : Nat) : Int) - 1)))).prog)) ((aab y1.recs (aae y0.stack (wi (((y0.stack.length : Nat) : Int) - 1)))).pc)).a)) = (aae ((aab y1.recs (aae y0.stack (wi (((y0.stack.length : Nat) : Int) - 1)))).kids) ((abM (atL [] y1.c.progs ((aab y1.recs (aae y0.stack (wi (((y0.stack.length : Nat) : Int) - 1)))).prog)) ((aab y1.recs (aae y0.stack (wi (((y0.stack.length : Nat) : Int) - 1)))).pc)).a)) then
   (aa4 y1.m r26.1.1 (wu (wi ((aae ((aab y1.recs (aae y0.stack (wi (((y0.stack.length : Nat) : Int) - 1)))).kids) ((abM (atL [] y1.c.progs ((aab y1.recs (aae y0.stack (wi (((y0.stack.length : Nat) : Int) - 1)))).prog)) ((aab y1.recs (aae y0.stack (wi (((y0.stack.length : Nat) : Int) - 1)))).pc)).a)) + 1)))).bind fun r27 =>
   (aac ({ y0 with child := aae ((aab y1.recs (aae y0.stack (wi (((y0.stack.length : Nat) : Int) - 1)))).kids) ((abM (atL [] y1.c.progs ((aab y1.recs (aae y0.stack (wi (((y0.stack.length : Nat) : Int) - 1)))).prog)) ((aab y1.recs (aae y0.stack (wi (((y0.stack.length : Nat) : Int) - 1)))).pc)).a) } : (RunV MV)) (wi (y0.line + 1)) MV.nil).bind fun r28 =>
   some ((r28.1.1, ()), (r28.2.1, ({ y1 with m := r27.2.1, recs := ((y1.recs.set (aae y0.stack (wi (((y0.stack.length : Nat) : Int) - 1))).toNat (aab y1.recs (aae y0.stack (wi (((y0.stack.length : Nat) : Int) - 1))))).set (aae y0.stack (wi (((y0.stack.length : Nat) : Int) - 1))).toNat ({ aab (y1.recs.set (aae y0.stack (wi (((y0.stack.length : Nat) : Int) - 1))).toNat (aab y1.recs (aae y0.stack (wi (((y0.stack.length : Nat) : Int) - 1))))) (aae y0.stack (wi (((y0.stack.length : Nat) : Int) - 1))) with pc := wi (((aab (y1.recs.set (aae y0.stack (wi (((y0.stack.length : Nat) : Int) - 1))).toNat (aab y1.recs (aae y0.stack (wi (((y0.stack.length : Nat) : Int) - 1))))) (aae y0.stack (wi (((y0.stack.length : Nat) : Int) - 1)))).pc) + 1) } : RecP)).set (aae y0.stack (wi (((y0.stack.length : Nat) : Int) - 1))).toNat ({ aab ((y1.recs.set (aae y0.stack (wi (((y0.stack.length : Nat) : Int) - 1))).toNat (aab y1.recs (aae y0.stack (wi (((y0.stack.length : Nat) : Int) - 1))))).set (aae y0.stack (wi (((y0.stack.length : Nat) : Int) - 1))).toNat ({ aab (y1.recs.set (aae y0.stack (wi (((y0.stack.length : Nat) : Int) - 1))).toNat (aab y1.recs (aae y0.stack (wi (((y0.stack.length : Nat) : Int) - 1))))) (aae y0.stack (wi (((y0.stack.length : Nat) : Int) - 1))) with pc := wi (((aab (y1.recs.set (aae y0.stack (wi (((y0.stack.length : Nat) : Int) - 1))).toNat (aab y1.recs (aae y0.stack (wi (((y0.stack.length : Nat) : Int) - 1))))) (aae y0.stack (wi (((y0.stack.length : Nat) : Int) - 1)))).pc) + 1) } : RecP)) (aae y0.stack (wi (((y0.stack.length : Nat) : Int) - 1))) with waiting := aae ((aab y1.recs (aae y0.stack (wi (((y0.stack.length : Nat) : Int) - 1)))).kids) ((abM (atL [] y1.c.progs ((aab y1.recs (aae y0.stack (wi (((y0.stack.length : Nat) : Int) - 1)))).prog)) ((aab y1.recs (aae y0.stack (wi (((y0.stack.length : Nat) : Int) - 1)))).pc)).a) } : RecP) } : EnvP), ()))
   else none
   else none
   else none
   else none
   else none
   else none
   else none
   else none
   else none
   else none
   else none
   else none
   else
   if y0.line = 10 then
   (aef y1.l (aae y0.stack (wi (((y0.stack.length : Nat) : Int) - 1)))).bind fun r29 =>
   (aa4 y1.m r29.1.1 3).bind fun r30 =>
   (aac y0 (wi (y0.line + 1)) MV.nil).bind fun r31 =>
   some ((r31.1.1, ()), (r31.2.1, ({ y1 with m := r30.2.1 } : EnvP), ()))
   else
   if y0.line = 11 then
   (akB y1.l y0.child).bind fun r32 =>
   (an1 y1.m r32.1.1 0 (wu (wi ((aae y0.stack (wi (((y0.stack.length : Nat) : Int) - 1))) + 1)))).bind fun r33 =>
   if (!r33.1.1) = true then
   (aac y0 14 MV.nil).bind fun r34 =>
   some ((r34.1.1, ()), (r34.2.1, ({ y1 with m := r33.2.1 } : EnvP), ()))
   else
   (aaA y0 ({ y1 with m := r33.2.1 } : EnvP) (⟨6, 0, aae y0.stack (wi (((y0.stack.length : Nat) : Int) - 1)), y0.child, 0⟩ : Ev)).bind fun r35 =>
   (aac r35.2.1 (wi (r35.2.1.line + 1)) MV.nil).bind fun r36 =>
   some ((r36.1.1, ()), (r36.2.1, r35.2.2.1, ()))
   else
   if y0.line = 12 then
   (aeZ y1.l (aae y0.stack (wi (((y0.stack.length : Nat) : Int) - 1)))).bind fun r37 =>
   (ab3 y1.m r37.1.1).bind fun r38 =>
   (ahm y0.worker y0.child (wi (r38.1.1))).bind fun r39 =>
   (aac ({ y0 with level := wi (r38.1.1) } : (RunV MV)) 13 r39.1.1).bind fun r40 =>
   some ((r40.1.1, ()), (r40.2.1, ({ y1 with m := r38.2.1 } : EnvP), ()))
   else
   if y0.line = 13 then
   (adJ y0.inside y1).bind fun r41 =>
   if (!r41.1.1) = true then
   some ((false, ()), (({ y0 with inside := r41.2.1 } : (RunV MV)), r41.2.2.1, ()))
   else
   (aaA ({ y0 with inside := r41.2.1 } : (RunV MV)) r41.2.2.1 (⟨7, 0, aae y0.stack (wi (((y0.stack.length : Nat) : Int) - 1)), 0, y0.level⟩ : Ev)).bind fun r42 =>
   (aan r42.2.1).bind fun r43 =>
   some ((r43.1.1, ()), (r43.2.1, r42.2.2.1, ()))
   else
   if y0.line = 14 then
   (aef y1.l (aae y0.stack (wi (((y0.stack.length : Nat) : Int) - 1)))).bind fun r44 =>
   (aa4 y1.m r44.1.1 2).bind fun r45 =>
   (aac y0 (wi (y0.line + 1)) MV.nil).bind fun r46 =>
   some ((r46.1.1, ()), (r46.2.1, ({ y1 with m := r45.2.1 } : EnvP), ()))
   else
   (ag2 y1.l (aae y0.stack (wi (((y0.stack.length : Nat) : Int) - 1)))).bind fun r47 =>
   (aa4 y1.m r47.1.1 0).bind fun r48 =>
   if 0 ≤ wi (((y0.stack.length : Nat) : Int) - 1) ∧ wi (((y0.stack.length : Nat) : Int) - 1) < ((y0.stack.length : Nat) : Int) then
   if 0 ≤ aae y0.stack (wi (((y0.stack.length : Nat) : Int) - 1)) ∧ aae y0.stack (wi (((y0.stack.length : Nat) : Int) - 1)) < ((y1.recs.length : Nat) : Int) then
   (aaA y0 ({ y1 with m := r48.2.1, recs := y1.recs.set (aae y0.stack (wi (((y0.stack.length : Nat) : Int) - 1))).toNat ({ aab y1.recs (aae y0.stack (wi (((y0.stack.length : Nat) : Int) - 1))) with waiting := (-1) } : RecP) } : EnvP) (⟨8, 0, aae y0.stack (wi (((y0.stack.length : Nat) : Int) - 1)), y0.child, 0⟩ : Ev)).bind fun r49 =>
   (aac r49.2.1 0 MV.nil).bind fun r50 =>
   some ((r50.1.1, ()), (r50.2.1, r49.2.2.1, ()))
   else none
   else none
   else none
   else none
   else none
   else none
   else none
   else none
   else none
   else none
   else none
   else none
   else none
   else none
   else none
   else none
   else none
   else none
   else none
   else none
   else none
   else none
   else none
   else none
  else none
 ) (
  if y1.l.workers = y1.l.workers then
   if y1.l.levels = y1.l.levels then
   if y1.l.classes = y1.l.classes then
   if y1.l.tasks = y1.l.tasks then
   if y1.l.deque = y1.l.deque then
   if y1.l.heap = y1.l.heap then
   if y1.l.sleepers = y1.l.sleepers then
   if y1.l.epochs = y1.l.epochs then
   if y1.l.bitmaps = y1.l.bitmaps then
   if y1.l.queues = y1.l.queues then
   if y1.l.table = y1.l.table then
   if 0 ≤ wi (((y0.stack.length : Nat) : Int) - 1) ∧ wi (((y0.stack.length : Nat) : Int) - 1) < ((y0.stack.length : Nat) : Int) then
   if y1.l.workers = y1.l.workers then
   if y1.l.levels = y1.l.levels then
   if y1.l.classes = y1.l.classes then
   if y1.l.tasks = y1.l.tasks then
   if y1.l.deque = y1.l.deque then
   if y1.l.heap = y1.l.heap then
   if y1.l.sleepers = y1.l.sleepers then
   if y1.l.epochs = y1.l.epochs then
   if y1.l.bitmaps = y1.l.bitmaps then
   if y1.l.queues = y1.l.queues then
   if y1.l.table = y1.l.table then
   if y0.line = 9 then
   if 0 ≤ wi (((y0.stack.length : Nat) : Int) - 1) ∧ wi (((y0.stack.length : Nat) : Int) - 1) < ((y0.stack.length : Nat) : Int) then
   if 0 ≤ aae y0.stack (wi (((y0.stack.length : Nat) : Int) - 1)) ∧ aae y0.stack (wi (((y0.stack.length : Nat) : Int) - 1)) < ((y1.recs.length : Nat) : Int) then
   if 0 ≤ wi (((y0.stack.length : Nat) : Int) - 1) ∧ wi (((y0.stack.length : Nat) : Int) - 1) < ((y0.stack.length : Nat) : Int) then
   if 0 ≤ aae y0.stack (wi (((y0.stack.length : Nat) : Int) - 1)) ∧ aae y0.stack (wi (((y0.stack.length : Nat) : Int) - 1)) < ((y1.recs.length : Nat) : Int) then
   if (aae y0.stack (wi (((y0.stack.length : Nat) : Int) - 1))) = (aae y0.stack (wi (((y0.stack.length : Nat) : Int) - 1))) then
   if ((aab y1.recs (aae y0.stack (wi (((y0.stack.length : Nat) : Int) - 1)))).prog) < 0 then
   if 0 ≤ wi (((y0.stack.length : Nat) : Int) - 1) ∧ wi (((y0.stack.length : Nat) : Int) - 1) < ((y0.stack.length : Nat) : Int) then
   if 0 ≤ aae y0.stack (wi (((y0.stack.length : Nat) : Int) - 1)) ∧ aae y0.stack (wi (((y0.stack.length : Nat) : Int) - 1)) < ((y1.recs.length : Nat) : Int) then
   if (aae y0.stack (wi (((y0.stack.length : Nat) : Int) - 1))) = (aae y0.stack (wi (((y0.stack.length : Nat) : Int) - 1))) then
   none
   else none
   else none
   else none
   else
   if ((y1.c.progs.length : Nat) : Int) ≤ ((aab y1.recs (aae y0.stack (wi (((y0.stack.length : Nat) : Int) - 1)))).prog) then
   if 0 ≤ wi (((y0.stack.length : Nat) : Int) - 1) ∧ wi (((y0.stack.length : Nat) : Int) - 1) < ((y0.stack.length : Nat) : Int) then
   if 0 ≤ aae y0.stack (wi (((y0.stack.length : Nat) : Int) - 1)) ∧ aae y0.stack (wi (((y0.stack.length : Nat) : Int) - 1)) < ((y1.recs.length : Nat) : Int) then
   if (aae y0.stack (wi (((y0.stack.length : Nat) : Int) - 1))) = (aae y0.stack (wi (((y0.stack.length : Nat) : Int) - 1))) then
   none
   else none
   else none
   else none
   else
   if 0 ≤ (aab y1.recs (aae y0.stack (wi (((y0.stack.length : Nat) : Int) - 1)))).prog ∧ (aab y1.recs (aae y0.stack (wi (((y0.stack.length : Nat) : Int) - 1)))).prog < ((y1.c.progs.length : Nat) : Int) then
   if 0 ≤ wi (((y0.stack.length : Nat) : Int) - 1) ∧ wi (((y0.stack.length : Nat) : Int) - 1) < ((y0.stack.length : Nat) : Int) then
   if 0 ≤ aae y0.stack (wi (((y0.stack.length : Nat) : Int) - 1)) ∧ aae y0.stack (wi (((y0.stack.length : Nat) : Int) - 1)) < ((y1.recs.length : Nat) : Int) then
   if (aae y0.stack (wi (((y0.stack.length : Nat) : Int) - 1))) = (aae y0.stack (wi (((y0.stack.length : Nat) : Int) - 1))) then
   if 0 ≤ (aab y1.recs (aae y0.stack (wi (((y0.stack.length : Nat) : Int) - 1)))).pc ∧ (aab y1.recs (aae y0.stack (wi (((y0.stack.length : Nat) : Int) - 1)))).pc < (((atL [] y1.c.progs ((aab y1.recs (aae y0.stack (wi (((y0.stack.length : Nat) : Int) - 1)))).prog)).length : Nat) : Int) then
   if 0 ≤ (abM (atL [] y1.c.progs ((aab y1.recs (aae y0.stack (wi (((y0.stack.length : Nat) : Int) - 1)))).prog)) ((aab y1.recs (aae y0.stack (wi (((y0.stack.length : Nat) : Int) - 1)))).pc)).a ∧ (abM (atL [] y1.c.progs ((aab y1.recs (aae y0.stack (wi (((y0.stack.length : Nat) : Int) - 1)))).prog)) ((aab y1.recs (aae y0.stack (wi (((y0.stack.length : Nat) : Int) - 1)))).pc)).a < ((((aab y1.recs (aae y0.stack (wi (((y0.stack.length : Nat) : Int) - 1)))).kids).length : Nat) : Int) then
   (ag2 y1.l (aae y0.stack (wi (((y0.stack.length : Nat) : Int) - 1)))).bind fun r1 =>
   if (aae ((aab y1.recs (aae y0.stack (wi (((y0.stack.length : Nat) : Int) - 1)))).kids) ((abM (atL [] y1.c.progs ((aab y1.recs (aae y0.stack (wi (((y0.stack.length : Nat) : Int) - 1)))).prog)) ((aab y1.recs (aae y0.stack (wi (((y0.stack.length : Nat) : Int) - 1)))).pc)).a)) = (aae ((aab y1.recs (aae y0.stack (wi (((y0.stack.length : Nat) : Int) - 1)))).kids) ((abM (atL [] y1.c.progs ((aab y1.recs (aae y0.stack (wi (((y0.stack.length : Nat) : Int) - 1)))).prog)) ((aab y1.recs (aae y0.stack (wi (((y0.stack.length : Nat) : Int) - 1)))).pc)).a)) then
   (aa4 y1.m r1.1.1 (wu (wi ((aae ((aab y1.recs (aae y0.stack (wi (((y0.stack.length : Nat) : Int) - 1)))).kids) ((abM (atL [] y1.c.progs ((aab y1.recs (aae y0.stack (wi (((y0.stack.length : Nat) : Int) - 1)))).prog)) ((aab y1.recs (aae y0.stack (wi (((y0.stack.length : Nat) : Int) - 1)))).pc)).a)) + 1)))).bind fun r2 =>
   (aac ({ y0 with child := aae ((aab y1.recs (aae y0.stack (wi (((y0.stack.length : Nat) : Int) - 1)))).kids) ((abM (atL [] y1.c.progs ((aab y1.recs (aae y0.stack (wi (((y0.stack.length : Nat) : Int) - 1)))).prog)) ((aab y1.recs (aae y0.stack (wi (((y0.stack.length : Nat) : Int) - 1)))).pc)).a) } : (RunV MV)) (wi (y0.line + 1)) MV.nil).bind fun r3 =>
   some ((r3.1.1, ()), (r3.2.1, ({ y1 with m := r2.2.1, recs := ((y1.recs.set (aae y0.stack (wi (((y0.stack.length : Nat) : Int) - 1))).toNat (aab y1.recs (aae y0.stack (wi (((y0.stack.length : Nat) : Int) - 1))))).set (aae y0.stack (wi (((y0.stack.length : Nat) : Int) - 1))).toNat ({ aab (y1.recs.set (aae y0.stack (wi (((y0.stack.length : Nat) : Int) - 1))).toNat (aab y1.recs (aae y0.stack (wi (((y0.stack.length : Nat) : Int) - 1))))) (aae y0.stack (wi (((y0.stack.length : Nat) : Int) - 1))) with pc := wi (((aab (y1.recs.set (aae y0.stack (wi (((y0.stack.length : Nat) : Int) - 1))).toNat (aab y1.recs (aae y0.stack (wi (((y0.stack.length : Nat) : Int) - 1))))) (aae y0.stack (wi (((y0.stack.length : Nat) : Int) - 1)))).pc) + 1) } : RecP)).set (aae y0.stack (wi (((y0.stack.length : Nat) : Int) - 1))).toNat ({ aab ((y1.recs.set (aae y0.stack (wi (((y0.stack.length : Nat) : Int) - 1))).toNat (aab y1.recs (aae y0.stack (wi (((y0.stack.length : Nat) : Int) - 1))))).set (aae y0.stack (wi (((y0.stack.length : Nat) : Int) - 1))).toNat ({ aab (y1.recs.set (aae y0.stack (wi (((y0.stack.length : Nat) : Int) - 1))).toNat (aab y1.recs (aae y0.stack (wi (((y0.stack.length : Nat) : Int) - 1))))) (aae y0.stack (wi (((y0.stack.length : Nat) : Int) - 1))) with pc := wi (((aab (y1.recs.set (aae y0.stack (wi (((y0.stack.length : Nat) : Int) - 1))).toNat (aab y1.recs (aae y0.stack (wi (((y0.stack.length : Nat) : Int) - 1))))) (aae y0.stack (wi (((y0.stack.length : Nat) : Int) - 1)))).pc) + 1) } : RecP)) (aae y0.stack (wi (((y0.stack.length : Nat) : Int) - 1))) with waiting := aae ((aab y1.recs (aae y0.stack (wi (((y0.stack.length : Nat) : Int) - 1)))).kids) ((abM (atL [] y1.c.progs ((aab y1.recs (aae y0.stack (wi (((y0.stack.length : Nat) : Int) - 1)))).prog)) ((aab y1.recs (aae y0.stack (wi (((y0.stack.length : Nat) : Int) - 1)))).pc)).a) } : RecP) } : EnvP), ()))
   else none
   else none
   else none
   else none
   else none
   else none
   else none
   else none
   else none
   else none
   else none
   else none
   else
   if y0.line = 10 then
   (aef y1.l (aae y0.stack (wi (((y0.stack.length : Nat) : Int) - 1)))).bind fun r4 =>
   (aa4 y1.m r4.1.1 3).bind fun r5 =>
   (aac y0 (wi (y0.line + 1)) MV.nil).bind fun r6 =>
   some ((r6.1.1, ()), (r6.2.1, ({ y1 with m := r5.2.1 } : EnvP), ()))
   else
   if y0.line = 11 then
   (akB y1.l y0.child).bind fun r7 =>
   (an1 y1.m r7.1.1 0 (wu (wi ((aae y0.stack (wi (((y0.stack.length : Nat) : Int) - 1))) + 1)))).bind fun r8 =>
   if (!r8.1.1) = true then
   (aac y0 14 MV.nil).bind fun r9 =>
   some ((r9.1.1, ()), (r9.2.1, ({ y1 with m := r8.2.1 } : EnvP), ()))
   else
   (aaA y0 ({ y1 with m := r8.2.1 } : EnvP) (⟨6, 0, aae y0.stack (wi (((y0.stack.length : Nat) : Int) - 1)), y0.child, 0⟩ : Ev)).bind fun r10 =>
   (aac r10.2.1 (wi (r10.2.1.line + 1)) MV.nil).bind fun r11 =>
   some ((r11.1.1, ()), (r11.2.1, r10.2.2.1, ()))
   else
   if y0.line = 12 then
   (aeZ y1.l (aae y0.stack (wi (((y0.stack.length : Nat) : Int) - 1)))).bind fun r12 =>
   (ab3 y1.m r12.1.1).bind fun r13 =>
   (ahm y0.worker y0.child (wi (r13.1.1))).bind fun r14 =>
   (aac ({ y0 with level := wi (r13.1.1) } : (RunV MV)) 13 r14.1.1).bind fun r15 =>
   some ((r15.1.1, ()), (r15.2.1, ({ y1 with m := r13.2.1 } : EnvP), ()))
   else
   if y0.line = 13 then
   (adJ y0.inside y1).bind fun r16 =>
   if (!r16.1.1) = true then
   some ((false, ()), (({ y0 with inside := r16.2.1 } : (RunV MV)), r16.2.2.1, ()))
   else
   (aaA ({ y0 with inside := r16.2.1 } : (RunV MV)) r16.2.2.1 (⟨7, 0, aae y0.stack (wi (((y0.stack.length : Nat) : Int) - 1)), 0, y0.level⟩ : Ev)).bind fun r17 =>
   (aan r17.2.1).bind fun r18 =>
   some ((r18.1.1, ()), (r18.2.1, r17.2.2.1, ()))
   else
   if y0.line = 14 then
   (aef y1.l (aae y0.stack (wi (((y0.stack.length : Nat) : Int) - 1)))).bind fun r19 =>
   (aa4 y1.m r19.1.1 2).bind fun r20 =>
   (aac y0 (wi (y0.line + 1)) MV.nil).bind fun r21 =>
   some ((r21.1.1, ()), (r21.2.1, ({ y1 with m := r20.2.1 } : EnvP), ()))
   else
   (ag2 y1.l (aae y0.stack (wi (((y0.stack.length : Nat) : Int) - 1)))).bind fun r22 =>
   (aa4 y1.m r22.1.1 0).bind fun r23 =>
   if 0 ≤ wi (((y0.stack.length : Nat) : Int) - 1) ∧ wi (((y0.stack.length : Nat) : Int) - 1) < ((y0.stack.length : Nat) : Int) then
   if 0 ≤ aae y0.stack (wi (((y0.stack.length : Nat) : Int) - 1)) ∧ aae y0.stack (wi (((y0.stack.length : Nat) : Int) - 1)) < ((y1.recs.length : Nat) : Int) then
   (aaA y0 ({ y1 with m := r23.2.1, recs := y1.recs.set (aae y0.stack (wi (((y0.stack.length : Nat) : Int) - 1))).toNat ({ aab y1.recs (aae y0.stack (wi (((y0.stack.length : Nat) : Int) - 1))) with waiting := (-1) } : RecP) } : EnvP) (⟨8, 0, aae y0.stack (wi (((y0.stack.length : Nat) : Int) - 1)), y0.child, 0⟩ : Ev)).bind fun r24 =>
   (aac r24.2.1 0 MV.nil).bind fun r25 =>
   some ((r25.1.1, ()), (r25.2.1, r24.2.2.1, ()))
   else none
   else none
   else none
   else none
   else none
   else none
   else none
   else none
   else none
   else none
   else none
   else none
   else none
   else none
   else none
   else none
   else none
   else none
   else none
   else none
   else none
   else none
   else none
   else none
  else none
 )
noncomputable abbrev afD : Con SR1 := ⟨136, [.ref 32, .ref 27], [.sh .b], fun x => aeR x.1 x.2.1⟩
noncomputable def aix : List (Nat × Func) := [(131, Tryz.f131), (138, Tryz.f138), (141, Tryz.f141), (139, Tryz.f139)]
theorem aiy : CO Tryz.prog afD := aaq aap Tryz.func136 [akO, acW, ack, afg, apK, aiX, acK, afi, ab2, alZ, akL, ael] ⟨alk, act, acx, aeU, aqP, ag5, adb, aeX, abz, ao6, ak5, afC, trivial⟩ aix ⟨Tryz.func131, Tryz.func138, Tryz.func141, Tryz.func139, trivial⟩ (fun _ => []) [] fun x => by kernel_rfl
noncomputable def aaD (y0 : (RunV MV)) (y1 : EnvP) : Option ((Bool × Unit) × ((RunV MV) × EnvP × Unit)) :=
 if 0 ≤ wi (((y0.stack.length : Nat) : Int) - 1) ∧ wi (((y0.stack.length : Nat) : Int) - 1) < ((y0.stack.length : Nat) : Int) then
  if y0.line = 9 then
   if 0 ≤ wi (((y0.stack.length : Nat) : Int) - 1) ∧ wi (((y0.stack.length : Nat) : Int) - 1) < ((y0.stack.length : Nat) : Int) then
   if 0 ≤ aae y0.stack (wi (((y0.stack.length : Nat) : Int) - 1)) ∧ aae y0.stack (wi (((y0.stack.length : Nat) : Int) - 1)) < ((y1.recs.length : Nat) : Int) then
   if 0 ≤ wi (((y0.stack.length : Nat) : Int) - 1) ∧ wi (((y0.stack.length : Nat) : Int) - 1) < ((y0.stack.length : Nat) : Int) then
   if 0 ≤ aae y0.stack (wi (((y0.stack.length : Nat) : Int) - 1)) ∧ aae y0.stack (wi (((y0.stack.length : Nat) : Int) - 1)) < ((y1.recs.length : Nat) : Int) then
   if ((aab y1.recs (aae y0.stack (wi (((y0.stack.length : Nat) : Int) - 1)))).prog) < 0 then
   if 0 ≤ wi (((y0.stack.length : Nat) : Int) - 1) ∧ wi (((y0.stack.length : Nat) : Int) - 1) < ((y0.stack.length : Nat) : Int) then
   if 0 ≤ aae y0.stack (wi (((y0.stack.length : Nat) : Int) - 1)) ∧ aae y0.stack (wi (((y0.stack.length : Nat) : Int) - 1)) < ((y1.recs.length : Nat) : Int) then
   none
   else none
   else none
   else
   if ((y1.c.progs.length : Nat) : Int) ≤ ((aab y1.recs (aae y0.stack (wi (((y0.stack.length : Nat) : Int) - 1)))).prog) then
   if 0 ≤ wi (((y0.stack.length : Nat) : Int) - 1) ∧ wi (((y0.stack.length : Nat) : Int) - 1) < ((y0.stack.length : Nat) : Int) then
   if 0 ≤ aae y0.stack (wi (((y0.stack.length : Nat) : Int) - 1)) ∧ aae y0.stack (wi (((y0.stack.length : Nat) : Int) - 1)) < ((y1.recs.length : Nat) : Int) then
   none
   else none
   else none
   else
   if 0 ≤ (aab y1.recs (aae y0.stack (wi (((y0.stack.length : Nat) : Int) - 1)))).prog ∧ (aab y1.recs (aae y0.stack (wi (((y0.stack.length : Nat) : Int) - 1)))).prog < ((y1.c.progs.length : Nat) : Int) then
   if 0 ≤ wi (((y0.stack.length : Nat) : Int) - 1) ∧ wi (((y0.stack.length : Nat) : Int) - 1) < ((y0.stack.length : Nat) : Int) then
   if 0 ≤ aae y0.stack (wi (((y0.stack.length : Nat) : Int) - 1)) ∧ aae y0.stack (wi (((y0.stack.length : Nat) : Int) - 1)) < ((y1.recs.length : Nat) : Int) then
   if 0 ≤ (aab y1.recs (aae y0.stack (wi (((y0.stack.length : Nat) : Int) - 1)))).pc ∧ (aab y1.recs (aae y0.stack (wi (((y0.stack.length : Nat) : Int) - 1)))).pc < (((atL [] y1.c.progs ((aab y1.recs (aae y0.stack (wi (((y0.stack.length : Nat) : Int) - 1)))).prog)).length : Nat) : Int) then
   if 0 ≤ (abM (atL [] y1.c.progs ((aab y1.recs (aae y0.stack (wi (((y0.stack.length : Nat) : Int) - 1)))).prog)) ((aab y1.recs (aae y0.stack (wi (((y0.stack.length : Nat) : Int) - 1)))).pc)).a ∧ (abM (atL [] y1.c.progs ((aab y1.recs (aae y0.stack (wi (((y0.stack.length : Nat) : Int) - 1)))).prog)) ((aab y1.recs (aae y0.stack (wi (((y0.stack.length : Nat) : Int) - 1)))).pc)).a < ((((aab y1.recs (aae y0.stack (wi (((y0.stack.length : Nat) : Int) - 1)))).kids).length : Nat) : Int) then
   (ag2 y1.l (aae y0.stack (wi (((y0.stack.length : Nat) : Int) - 1)))).bind fun r1 =>
   (aa4 y1.m r1.1.1 (wu (wi ((aae ((aab y1.recs (aae y0.stack (wi (((y0.stack.length : Nat) : Int) - 1)))).kids) ((abM (atL [] y1.c.progs ((aab y1.recs (aae y0.stack (wi (((y0.stack.length : Nat) : Int) - 1)))).prog)) ((aab y1.recs (aae y0.stack (wi (((y0.stack.length : Nat) : Int) - 1)))).pc)).a)) + 1)))).bind fun r2 =>
   (aac ({ y0 with child := aae ((aab y1.recs (aae y0.stack (wi (((y0.stack.length : Nat) : Int) - 1)))).kids) ((abM (atL [] y1.c.progs ((aab y1.recs (aae y0.stack (wi (((y0.stack.length : Nat) : Int) - 1)))).prog)) ((aab y1.recs (aae y0.stack (wi (((y0.stack.length : Nat) : Int) - 1)))).pc)).a) } : (RunV MV)) (wi (y0.line + 1)) MV.nil).bind fun r3 =>
   some ((r3.1.1, ()), (r3.2.1, ({ y1 with m := r2.2.1, recs := ((y1.recs.set (aae y0.stack (wi (((y0.stack.length : Nat) : Int) - 1))).toNat (aab y1.recs (aae y0.stack (wi (((y0.stack.length : Nat) : Int) - 1))))).set (aae y0.stack (wi (((y0.stack.length : Nat) : Int) - 1))).toNat ({ aab (y1.recs.set (aae y0.stack (wi (((y0.stack.length : Nat) : Int) - 1))).toNat (aab y1.recs (aae y0.stack (wi (((y0.stack.length : Nat) : Int) - 1))))) (aae y0.stack (wi (((y0.stack.length : Nat) : Int) - 1))) with pc := wi (((aab (y1.recs.set (aae y0.stack (wi (((y0.stack.length : Nat) : Int) - 1))).toNat (aab y1.recs (aae y0.stack (wi (((y0.stack.length : Nat) : Int) - 1))))) (aae y0.stack (wi (((y0.stack.length : Nat) : Int) - 1)))).pc) + 1) } : RecP)).set (aae y0.stack (wi (((y0.stack.length : Nat) : Int) - 1))).toNat ({ aab ((y1.recs.set (aae y0.stack (wi (((y0.stack.length : Nat) : Int) - 1))).toNat (aab y1.recs (aae y0.stack (wi (((y0.stack.length : Nat) : Int) - 1))))).set (aae y0.stack (wi (((y0.stack.length : Nat) : Int) - 1))).toNat ({ aab (y1.recs.set (aae y0.stack (wi (((y0.stack.length : Nat) : Int) - 1))).toNat (aab y1.recs (aae y0.stack (wi (((y0.stack.length : Nat) : Int) - 1))))) (aae y0.stack (wi (((y0.stack.length : Nat) : Int) - 1))) with pc := wi (((aab (y1.recs.set (aae y0.stack (wi (((y0.stack.length : Nat) : Int) - 1))).toNat (aab y1.recs (aae y0.stack (wi (((y0.stack.length : Nat) : Int) - 1))))) (aae y0.stack (wi (((y0.stack.length : Nat) : Int) - 1)))).pc) + 1) } : RecP)) (aae y0.stack (wi (((y0.stack.length : Nat) : Int) - 1))) with waiting := aae ((aab y1.recs (aae y0.stack (wi (((y0.stack.length : Nat) : Int) - 1)))).kids) ((abM (atL [] y1.c.progs ((aab y1.recs (aae y0.stack (wi (((y0.stack.length : Nat) : Int) - 1)))).prog)) ((aab y1.recs (aae y0.stack (wi (((y0.stack.length : Nat) : Int) - 1)))).pc)).a) } : RecP) } : EnvP), ()))
   else none
   else none
   else none
   else none
   else none
   else none
   else none
   else none
   else none
  else
  if y0.line = 10 then
   (aef y1.l (aae y0.stack (wi (((y0.stack.length : Nat) : Int) - 1)))).bind fun r4 =>
   (aa4 y1.m r4.1.1 3).bind fun r5 =>
   (aac y0 (wi (y0.line + 1)) MV.nil).bind fun r6 =>
   some ((r6.1.1, ()), (r6.2.1, ({ y1 with m := r5.2.1 } : EnvP), ()))
  else
  if y0.line = 11 then
   (akB y1.l y0.child).bind fun r7 =>
   (an1 y1.m r7.1.1 0 (wu (wi ((aae y0.stack (wi (((y0.stack.length : Nat) : Int) - 1))) + 1)))).bind fun r8 =>
   if (!r8.1.1) = true then
   (aac y0 14 MV.nil).bind fun r9 =>
   some ((r9.1.1, ()), (r9.2.1, ({ y1 with m := r8.2.1 } : EnvP), ()))
   else
   (aaA y0 ({ y1 with m := r8.2.1 } : EnvP) (⟨6, 0, aae y0.stack (wi (((y0.stack.length : Nat) : Int) - 1)), y0.child, 0⟩ : Ev)).bind fun r10 =>
   (aac r10.2.1 (wi (r10.2.1.line + 1)) MV.nil).bind fun r11 =>
   some ((r11.1.1, ()), (r11.2.1, r10.2.2.1, ()))
  else
  if y0.line = 12 then
   (aeZ y1.l (aae y0.stack (wi (((y0.stack.length : Nat) : Int) - 1)))).bind fun r12 =>
   (ab3 y1.m r12.1.1).bind fun r13 =>
   (ahm y0.worker y0.child (wi (r13.1.1))).bind fun r14 =>
   (aac ({ y0 with level := wi (r13.1.1) } : (RunV MV)) 13 r14.1.1).bind fun r15 =>
   some ((r15.1.1, ()), (r15.2.1, ({ y1 with m := r13.2.1 } : EnvP), ()))
  else
  if y0.line = 13 then
   (adJ y0.inside y1).bind fun r16 =>
   if (!r16.1.1) = true then
   some ((false, ()), (({ y0 with inside := r16.2.1 } : (RunV MV)), r16.2.2.1, ()))
   else
   (aaA ({ y0 with inside := r16.2.1 } : (RunV MV)) r16.2.2.1 (⟨7, 0, aae y0.stack (wi (((y0.stack.length : Nat) : Int) - 1)), 0, y0.level⟩ : Ev)).bind fun r17 =>
   (aan r17.2.1).bind fun r18 =>
   some ((r18.1.1, ()), (r18.2.1, r17.2.2.1, ()))
  else
  if y0.line = 14 then
   (aef y1.l (aae y0.stack (wi (((y0.stack.length : Nat) : Int) - 1)))).bind fun r19 =>
   (aa4 y1.m r19.1.1 2).bind fun r20 =>
   (aac y0 (wi (y0.line + 1)) MV.nil).bind fun r21 =>
   some ((r21.1.1, ()), (r21.2.1, ({ y1 with m := r20.2.1 } : EnvP), ()))
  else
  (ag2 y1.l (aae y0.stack (wi (((y0.stack.length : Nat) : Int) - 1)))).bind fun r22 =>
  (aa4 y1.m r22.1.1 0).bind fun r23 =>
  if 0 ≤ wi (((y0.stack.length : Nat) : Int) - 1) ∧ wi (((y0.stack.length : Nat) : Int) - 1) < ((y0.stack.length : Nat) : Int) then
   if 0 ≤ aae y0.stack (wi (((y0.stack.length : Nat) : Int) - 1)) ∧ aae y0.stack (wi (((y0.stack.length : Nat) : Int) - 1)) < ((y1.recs.length : Nat) : Int) then
   (aaA y0 ({ y1 with m := r23.2.1, recs := y1.recs.set (aae y0.stack (wi (((y0.stack.length : Nat) : Int) - 1))).toNat ({ aab y1.recs (aae y0.stack (wi (((y0.stack.length : Nat) : Int) - 1))) with waiting := (-1) } : RecP) } : EnvP) (⟨8, 0, aae y0.stack (wi (((y0.stack.length : Nat) : Int) - 1)), y0.child, 0⟩ : Ev)).bind fun r24 =>
   (aac r24.2.1 0 MV.nil).bind fun r25 =>
   some ((r25.1.1, ()), (r25.2.1, r24.2.2.1, ()))
   else none
  else none
 else none
noncomputable abbrev agU : Con SR1 := ⟨136, [.ref 32, .ref 27], [.sh .b], fun x => aaD x.1 x.2.1⟩
theorem aku (y0 : (RunV MV)) (y1 : EnvP) : aeR y0 y1 = aaD y0 y1 := by
  unfold aeR aaD
  simp only [if_true, aro, amN]
theorem akt : CO Tryz.prog agU := azx aiy fun x out hx => (show afD.spec x = some out from (aku x.1 x.2.1).trans hx)
noncomputable def afv (y0 : Int) (y1 : Int) : Option ((MV × Unit) × (Unit)) :=
 some ((MV.enter (⟨⟨false, 0, 0⟩, y0, y1, 0, 1, MV.nil⟩ : (EnterV MV)), ()), (()))
noncomputable abbrev aj8 : Con SR1 := ⟨154, [.sh sI_, .sh sI_], [.sh .mach], fun x => afv x.1 x.2.1⟩
theorem am0 : CO Tryz.prog aj8 := aaq aap Tryz.func154 [] trivial [] trivial (fun _ => []) [] fun x => by kernel_rfl
end Go.Proofs.YtlcelajkhklkbaaGreat
