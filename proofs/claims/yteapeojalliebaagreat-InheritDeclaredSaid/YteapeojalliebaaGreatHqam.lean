/- The program's machines in the evaluator's form. The program's machines in the evaluator's form. -/
import Derived.Test.YteapeojalliebaaGreatHqal
set_option linter.all false
namespace Go.Proofs.YteapeojalliebaaGreat
section
open Go Go.RowKit
set_option maxRecDepth 100000
variable [Tb]
noncomputable def aaA (y0 : (RunV MV)) (y1 : EnvP) : Option ((Bool × Unit) × ((RunV MV) × EnvP × Unit)) :=
 if 0 ≤ (tlI y0.stack) ∧ (tlI y0.stack) < ((y0.stack.length : Nat) : Int) then
  if 0 ≤ tpI y0.stack ∧ tpI y0.stack < ((y1.recs.length : Nat) : Int) then
   if y0.line = 1 then
   if 0 ≤ (tlI y0.stack) ∧ (tlI y0.stack) < ((y0.stack.length : Nat) : Int) then
   if y1.l.workers = y1.l.workers then
   if y1.l.levels = y1.l.levels then
   if y1.l.classes = y1.l.classes then
   if y1.l.tasks = y1.l.tasks then
   if y1.l.deque = y1.l.deque then
   if y1.l.heap = y1.l.heap then
   if y1.l.sleepers = y1.l.sleepers then
   if y1.l.epochs = y1.l.epochs then
   if y1.l.bitmaps = y1.l.bitmaps then
   if y1.l.queues = y1.l.queues then
   if y1.l.table = y1.l.table then
   (ajh y1.l (tpI y0.stack)).bind fun r1 =>
   (aa2 y1.m r1.1.1 0).bind fun r2 =>
   (aac y0 0 MV.nil).bind fun r3 =>
   some ((r3.1.1, ()), (r3.2.1, ({ y1 with m := r2.2.1, recs := y1.recs.set (tpI y0.stack).toNat ({ aab y1.recs (tpI y0.stack) with waiting := (-1) } : RecP) } : EnvP), ()))
   else none
   else none
   else none
   else none
   else none
   else none
   else none
   else none
   else none
   else none
   else none
   else none
   else
   if y0.line = 2 then
   if ((aab y1.recs (tpI y0.stack)).left) = 0 then
   if 0 ≤ (tlI y0.stack) ∧ (tlI y0.stack) < ((y0.stack.length : Nat) : Int) then
   if 0 ≤ tpI y0.stack ∧ tpI y0.stack < ((y1.recs.length : Nat) : Int) then
   if ((aab y1.recs (tpI y0.stack)).prog) < 0 then
   if 0 ≤ (tlI y0.stack) ∧ (tlI y0.stack) < ((y0.stack.length : Nat) : Int) then
   if 0 ≤ tpI y0.stack ∧ tpI y0.stack < ((y1.recs.length : Nat) : Int) then
   none
   else none
   else none
   else
   if ((y1.c.progs.length : Nat) : Int) ≤ ((aab y1.recs (tpI y0.stack)).prog) then
   if 0 ≤ (tlI y0.stack) ∧ (tlI y0.stack) < ((y0.stack.length : Nat) : Int) then
   if 0 ≤ tpI y0.stack ∧ tpI y0.stack < ((y1.recs.length : Nat) : Int) then
   none
   else none
   else none
   else
   if 0 ≤ (aab y1.recs (tpI y0.stack)).prog ∧ (aab y1.recs (tpI y0.stack)).prog < ((y1.c.progs.length : Nat) : Int) then
   if 0 ≤ (tlI y0.stack) ∧ (tlI y0.stack) < ((y0.stack.length : Nat) : Int) then
   if 0 ≤ tpI y0.stack ∧ tpI y0.stack < ((y1.recs.length : Nat) : Int) then
   if 0 ≤ (aab y1.recs (tpI y0.stack)).pc ∧ (aab y1.recs (tpI y0.stack)).pc < (((atL [] y1.c.progs ((aab y1.recs (tpI y0.stack)).prog)).length : Nat) : Int) then
   if ((aab ((y1.recs.set (tpI y0.stack).toNat ({ aab y1.recs (tpI y0.stack) with left := (ab9 (atL [] y1.c.progs ((aab y1.recs (tpI y0.stack)).prog)) ((aab y1.recs (tpI y0.stack)).pc)).a } : RecP)).set (tpI y0.stack).toNat ({ aab (y1.recs.set (tpI y0.stack).toNat ({ aab y1.recs (tpI y0.stack) with left := (ab9 (atL [] y1.c.progs ((aab y1.recs (tpI y0.stack)).prog)) ((aab y1.recs (tpI y0.stack)).pc)).a } : RecP)) (tpI y0.stack) with left := wi (((aab (y1.recs.set (tpI y0.stack).toNat ({ aab y1.recs (tpI y0.stack) with left := (ab9 (atL [] y1.c.progs ((aab y1.recs (tpI y0.stack)).prog)) ((aab y1.recs (tpI y0.stack)).pc)).a } : RecP)) (tpI y0.stack)).left) - 1) } : RecP)) (tpI y0.stack)).left) = 0 then
   (aac y0 0 MV.nil).bind fun r4 =>
   some ((r4.1.1, ()), (r4.2.1, ({ y1 with recs := ((y1.recs.set (tpI y0.stack).toNat ({ aab y1.recs (tpI y0.stack) with left := (ab9 (atL [] y1.c.progs ((aab y1.recs (tpI y0.stack)).prog)) ((aab y1.recs (tpI y0.stack)).pc)).a } : RecP)).set (tpI y0.stack).toNat ({ aab (y1.recs.set (tpI y0.stack).toNat ({ aab y1.recs (tpI y0.stack) with left := (ab9 (atL [] y1.c.progs ((aab y1.recs (tpI y0.stack)).prog)) ((aab y1.recs (tpI y0.stack)).pc)).a } : RecP)) (tpI y0.stack) with left := wi (((aab (y1.recs.set (tpI y0.stack).toNat ({ aab y1.recs (tpI y0.stack) with left := (ab9 (atL [] y1.c.progs ((aab y1.recs (tpI y0.stack)).prog)) ((aab y1.recs (tpI y0.stack)).pc)).a } : RecP)) (tpI y0.stack)).left) - 1) } : RecP)).set (tpI y0.stack).toNat ({ aab ((y1.recs.set (tpI y0.stack).toNat ({ aab y1.recs (tpI y0.stack) with left := (ab9 (atL [] y1.c.progs ((aab y1.recs (tpI y0.stack)).prog)) ((aab y1.recs (tpI y0.stack)).pc)).a } : RecP)).set (tpI y0.stack).toNat ({ aab (y1.recs.set (tpI y0.stack).toNat ({ aab y1.recs (tpI y0.stack) with left := (ab9 (atL [] y1.c.progs ((aab y1.recs (tpI y0.stack)).prog)) ((aab y1.recs (tpI y0.stack)).pc)).a } : RecP)) (tpI y0.stack) with left := wi (((aab (y1.recs.set (tpI y0.stack).toNat ({ aab y1.recs (tpI y0.stack) with left := (ab9 (atL [] y1.c.progs ((aab y1.recs (tpI y0.stack)).prog)) ((aab y1.recs (tpI y0.stack)).pc)).a } : RecP)) (tpI y0.stack)).left) - 1) } : RecP)) (tpI y0.stack) with pc := wi (((aab ((y1.recs.set (tpI y0.stack).toNat ({ aab y1.recs (tpI y0.stack) with left := (ab9 (atL [] y1.c.progs ((aab y1.recs (tpI y0.stack)).prog)) ((aab y1.recs (tpI y0.stack)).pc)).a } : RecP)).set (tpI y0.stack).toNat ({ aab (y1.recs.set (tpI y0.stack).toNat ({ aab y1.recs (tpI y0.stack) with left := (ab9 (atL [] y1.c.progs ((aab y1.recs (tpI y0.stack)).prog)) ((aab y1.recs (tpI y0.stack)).pc)).a } : RecP)) (tpI y0.stack) with left := wi (((aab (y1.recs.set (tpI y0.stack).toNat ({ aab y1.recs (tpI y0.stack) with left := (ab9 (atL [] y1.c.progs ((aab y1.recs (tpI y0.stack)).prog)) ((aab y1.recs (tpI y0.stack)).pc)).a } : RecP)) (tpI y0.stack)).left) - 1) } : RecP)) (tpI y0.stack)).pc) + 1) } : RecP) } : EnvP), ()))
   else
   (aac y0 0 MV.nil).bind fun r5 =>
   some ((r5.1.1, ()), (r5.2.1, ({ y1 with recs := (y1.recs.set (tpI y0.stack).toNat ({ aab y1.recs (tpI y0.stack) with left := (ab9 (atL [] y1.c.progs ((aab y1.recs (tpI y0.stack)).prog)) ((aab y1.recs (tpI y0.stack)).pc)).a } : RecP)).set (tpI y0.stack).toNat ({ aab (y1.recs.set (tpI y0.stack).toNat ({ aab y1.recs (tpI y0.stack) with left := (ab9 (atL [] y1.c.progs ((aab y1.recs (tpI y0.stack)).prog)) ((aab y1.recs (tpI y0.stack)).pc)).a } : RecP)) (tpI y0.stack) with left := wi (((aab (y1.recs.set (tpI y0.stack).toNat ({ aab y1.recs (tpI y0.stack) with left := (ab9 (atL [] y1.c.progs ((aab y1.recs (tpI y0.stack)).prog)) ((aab y1.recs (tpI y0.stack)).pc)).a } : RecP)) (tpI y0.stack)).left) - 1) } : RecP) } : EnvP), ()))
   else none
   else none
   else none
   else none
   else none
   else none
   else
   if ((aab (y1.recs.set (tpI y0.stack).toNat ({ aab y1.recs (tpI y0.stack) with left := wi (((aab y1.recs (tpI y0.stack)).left) - 1) } : RecP)) (tpI y0.stack)).left) = 0 then
   (aac y0 0 MV.nil).bind fun r6 =>
   some ((r6.1.1, ()), (r6.2.1, ({ y1 with recs := (y1.recs.set (tpI y0.stack).toNat ({ aab y1.recs (tpI y0.stack) with left := wi (((aab y1.recs (tpI y0.stack)).left) - 1) } : RecP)).set (tpI y0.stack).toNat ({ aab (y1.recs.set (tpI y0.stack).toNat ({ aab y1.recs (tpI y0.stack) with left := wi (((aab y1.recs (tpI y0.stack)).left) - 1) } : RecP)) (tpI y0.stack) with pc := wi (((aab (y1.recs.set (tpI y0.stack).toNat ({ aab y1.recs (tpI y0.stack) with left := wi (((aab y1.recs (tpI y0.stack)).left) - 1) } : RecP)) (tpI y0.stack)).pc) + 1) } : RecP) } : EnvP), ()))
   else
   (aac y0 0 MV.nil).bind fun r7 =>
   some ((r7.1.1, ()), (r7.2.1, ({ y1 with recs := y1.recs.set (tpI y0.stack).toNat ({ aab y1.recs (tpI y0.stack) with left := wi (((aab y1.recs (tpI y0.stack)).left) - 1) } : RecP) } : EnvP), ()))
   else
   (aac y0 0 MV.nil).bind fun r8 =>
   some ((r8.1.1, ()), (r8.2.1, ({ y1 with recs := y1.recs.set (tpI y0.stack).toNat ({ aab y1.recs (tpI y0.stack) with pc := wi (((aab y1.recs (tpI y0.stack)).pc) + 1) } : RecP) } : EnvP), ()))
  else none
 else none
noncomputable abbrev ahu : Con SR1 := ⟨225, [.ref 33, .ref 27], [.sh .b], fun x => aaA x.1 x.2.1⟩
noncomputable def alo : List (Nat × Func) := [(229, Tryz.f229), (223, Tryz.f223), (232, Tryz.f232), (230, Tryz.f230)]
theorem alp : CO Tryz.prog ahu := aai aah Tryz.func225 [aog, adC, adf] ⟨ao7, ac3, adu, trivial⟩ alo ⟨Tryz.func229, Tryz.func223, Tryz.func232, Tryz.func230, trivial⟩ (fun _ => []) [] fun x => by kernel_rfl
noncomputable def aaC (y0 : (RunV MV)) (y1 : EnvP) (y2 : Ev) : Option ((Unit) × ((RunV MV) × EnvP × Unit)) :=
 (adW y1 ({ y2 with worker := y0.worker } : Ev)).bind fun r1 =>
 some ((()), (y0, r1.2.1, ()))
noncomputable abbrev adI : Con SR1 := ⟨235, [.ref 33, .ref 27, .val 2], [], fun x => aaC x.1 x.2.1 x.2.2.1⟩
theorem aed : CO Tryz.prog adI := aai aah Tryz.func235 [afe] ⟨aee, trivial⟩ [] trivial (fun _ => []) [] fun x => by kernel_rfl
noncomputable def ai5 (y0 : Int) (y1 : Int) : Option ((MV × Unit) × (Unit)) :=
 some ((MV.publish (⟨⟨false, 0, 0⟩, y0, y1, 1⟩ : PublishV), ()), (()))
noncomputable abbrev akv : Con SR1 := ⟨240, [.sh sI_, .sh sI_], [.sh .mach], fun x => ai5 x.1 x.2.1⟩
theorem aoM : CO Tryz.prog akv := aai aah Tryz.func240 [] trivial [] trivial (fun _ => []) [] fun x => by kernel_rfl
noncomputable def ab1 (y0 : (RunV MV)) (y1 : EnvP) (y2 : Int) (y3 : Int) : Option ((Bool × Unit) × ((RunV MV) × EnvP × Unit)) :=
 if 0 ≤ (tlI y0.stack) ∧ (tlI y0.stack) < ((y0.stack.length : Nat) : Int) then
  if 0 ≤ tpI y0.stack ∧ tpI y0.stack < ((y1.recs.length : Nat) : Int) then
   if 0 ≤ (tlI y0.stack) ∧ (tlI y0.stack) < ((y0.stack.length : Nat) : Int) then
   if 0 ≤ tpI y0.stack ∧ tpI y0.stack < ((y1.recs.length : Nat) : Int) then
   if ((aab y1.recs (tpI y0.stack)).prog) < 0 then
   if 0 ≤ (tlI y0.stack) ∧ (tlI y0.stack) < ((y0.stack.length : Nat) : Int) then
   if 0 ≤ tpI y0.stack ∧ tpI y0.stack < ((y1.recs.length : Nat) : Int) then
   none
   else none
   else none
   else
   if ((y1.c.progs.length : Nat) : Int) ≤ ((aab y1.recs (tpI y0.stack)).prog) then
   if 0 ≤ (tlI y0.stack) ∧ (tlI y0.stack) < ((y0.stack.length : Nat) : Int) then
   if 0 ≤ tpI y0.stack ∧ tpI y0.stack < ((y1.recs.length : Nat) : Int) then
   none
   else none
   else none
   else
   if 0 ≤ (aab y1.recs (tpI y0.stack)).prog ∧ (aab y1.recs (tpI y0.stack)).prog < ((y1.c.progs.length : Nat) : Int) then
   if 0 ≤ (tlI y0.stack) ∧ (tlI y0.stack) < ((y0.stack.length : Nat) : Int) then
   if 0 ≤ tpI y0.stack ∧ tpI y0.stack < ((y1.recs.length : Nat) : Int) then
   if 0 ≤ (aab y1.recs (tpI y0.stack)).pc ∧ (aab y1.recs (tpI y0.stack)).pc < (((atL [] y1.c.progs ((aab y1.recs (tpI y0.stack)).prog)).length : Nat) : Int) then
   if y2 = 3 then
   if (((((aab (y1.recs.set (tpI y0.stack).toNat ({ aab y1.recs (tpI y0.stack) with pc := wi (((aab y1.recs (tpI y0.stack)).pc) + 1) } : RecP)) (tpI y0.stack)).kids).length + ([(-1)] : List Int).length : Nat)) : Int) < 1000000000000 then
   if 0 ≤ (tlI y0.stack) ∧ (tlI y0.stack) < ((y0.stack.length : Nat) : Int) then
   (aaC y0 ({ y1 with recs := (y1.recs.set (tpI y0.stack).toNat ({ aab y1.recs (tpI y0.stack) with pc := wi (((aab y1.recs (tpI y0.stack)).pc) + 1) } : RecP)).set (tpI y0.stack).toNat ({ aab (y1.recs.set (tpI y0.stack).toNat ({ aab y1.recs (tpI y0.stack) with pc := wi (((aab y1.recs (tpI y0.stack)).pc) + 1) } : RecP)) (tpI y0.stack) with kids := ((aab (y1.recs.set (tpI y0.stack).toNat ({ aab y1.recs (tpI y0.stack) with pc := wi (((aab y1.recs (tpI y0.stack)).pc) + 1) } : RecP)) (tpI y0.stack)).kids) ++ ([(-1)]) } : RecP) } : EnvP) (⟨4, 0, tpI y0.stack, 0, 0⟩ : Ev)).bind fun r1 =>
   (aac r1.2.1 0 MV.nil).bind fun r2 =>
   some ((r2.1.1, ()), (r2.2.1, r1.2.2.1, ()))
   else none
   else none
   else
   if (((((aab (y1.recs.set (tpI y0.stack).toNat ({ aab y1.recs (tpI y0.stack) with pc := wi (((aab y1.recs (tpI y0.stack)).pc) + 1) } : RecP)) (tpI y0.stack)).kids).length + ([y3] : List Int).length : Nat)) : Int) < 1000000000000 then
   if 0 ≤ (tlI y0.stack) ∧ (tlI y0.stack) < ((y0.stack.length : Nat) : Int) then
   if ((ab9 (atL [] y1.c.progs ((aab y1.recs (tpI y0.stack)).prog)) ((aab y1.recs (tpI y0.stack)).pc)).a) = ((ab9 (atL [] y1.c.progs ((aab y1.recs (tpI y0.stack)).prog)) ((aab y1.recs (tpI y0.stack)).pc)).a) then
   if 0 ≤ y3 ∧ y3 < ((((y1.recs.set (tpI y0.stack).toNat ({ aab y1.recs (tpI y0.stack) with pc := wi (((aab y1.recs (tpI y0.stack)).pc) + 1) } : RecP)).set (tpI y0.stack).toNat ({ aab (y1.recs.set (tpI y0.stack).toNat ({ aab y1.recs (tpI y0.stack) with pc := wi (((aab y1.recs (tpI y0.stack)).pc) + 1) } : RecP)) (tpI y0.stack) with kids := ((aab (y1.recs.set (tpI y0.stack).toNat ({ aab y1.recs (tpI y0.stack) with pc := wi (((aab y1.recs (tpI y0.stack)).pc) + 1) } : RecP)) (tpI y0.stack)).kids) ++ ([y3]) } : RecP)).length : Nat) : Int) then
   if ((ab9 (atL [] y1.c.progs ((aab y1.recs (tpI y0.stack)).prog)) ((aab y1.recs (tpI y0.stack)).pc)).b) = ((ab9 (atL [] y1.c.progs ((aab y1.recs (tpI y0.stack)).prog)) ((aab y1.recs (tpI y0.stack)).pc)).b) then
   (ai5 y3 ((ab9 (atL [] y1.c.progs ((aab y1.recs (tpI y0.stack)).prog)) ((aab y1.recs (tpI y0.stack)).pc)).b)).bind fun r3 =>
   (aac ({ y0 with id := y3, level := (ab9 (atL [] y1.c.progs ((aab y1.recs (tpI y0.stack)).prog)) ((aab y1.recs (tpI y0.stack)).pc)).b } : (RunV MV)) 5 r3.1.1).bind fun r4 =>
   some ((r4.1.1, ()), (r4.2.1, ({ y1 with recs := ((y1.recs.set (tpI y0.stack).toNat ({ aab y1.recs (tpI y0.stack) with pc := wi (((aab y1.recs (tpI y0.stack)).pc) + 1) } : RecP)).set (tpI y0.stack).toNat ({ aab (y1.recs.set (tpI y0.stack).toNat ({ aab y1.recs (tpI y0.stack) with pc := wi (((aab y1.recs (tpI y0.stack)).pc) + 1) } : RecP)) (tpI y0.stack) with kids := ((aab (y1.recs.set (tpI y0.stack).toNat ({ aab y1.recs (tpI y0.stack) with pc := wi (((aab y1.recs (tpI y0.stack)).pc) + 1) } : RecP)) (tpI y0.stack)).kids) ++ ([y3]) } : RecP)).set y3.toNat (⟨(ab9 (atL [] y1.c.progs ((aab y1.recs (tpI y0.stack)).prog)) ((aab y1.recs (tpI y0.stack)).pc)).a, tpI y0.stack, 0, 0, (-1), [], false⟩ : RecP) } : EnvP), ()))
   else none
   else none
   else none
   else none
   else none
   else none
   else none
   else none
   else none
   else none
   else none
  else none
 else none
noncomputable abbrev af4 : Con SR1 := ⟨234, [.ref 33, .ref 27, .sh sI_, .sh sI_], [.sh .b], fun x => ab1 x.1 x.2.1 x.2.2.1 x.2.2.2.1⟩
noncomputable def ajb : List (Nat × Func) := [(229, Tryz.f229), (223, Tryz.f223), (232, Tryz.f232), (230, Tryz.f230)]
theorem ajc : CO Tryz.prog af4 := aai aah Tryz.func234 [adI, adf, akv] ⟨aed, adu, aoM, trivial⟩ ajb ⟨Tryz.func229, Tryz.func223, Tryz.func232, Tryz.func230, trivial⟩ (fun _ => []) [(8, .close)] fun x => by kernel_rfl
noncomputable def abf (y0 : (RunV MV)) (y1 : EnvP) : Option ((Bool × Unit) × ((RunV MV) × EnvP × Unit)) :=
 (aeK y0.inside y1).bind fun r1 =>
 if (!r1.1.1) = true then
  some ((false, ()), (({ y0 with inside := r1.2.1 } : (RunV MV)), r1.2.2.1, ()))
 else
 (adg r1.2.1).bind fun r2 =>
 if y0.line = 4 then
  (ab1 ({ y0 with inside := r2.2.1 } : (RunV MV)) r1.2.2.1 r2.1.1 r2.1.2.1).bind fun r3 =>
  some ((r3.1.1, ()), (r3.2.1, r3.2.2.1, ()))
 else
 if y0.line = 5 then
  if 0 ≤ (tlI y0.stack) ∧ (tlI y0.stack) < ((y0.stack.length : Nat) : Int) then
   if y0.level = y0.level then
   if y0.id = y0.id then
   (aaC ({ y0 with inside := r2.2.1 } : (RunV MV)) r1.2.2.1 (⟨3, 0, y0.id, tpI y0.stack, y0.level⟩ : Ev)).bind fun r4 =>
   (acp r4.2.1.worker r4.2.1.level r4.2.1.id).bind fun r5 =>
   (aac r4.2.1 6 r5.1.1).bind fun r6 =>
   some ((r6.1.1, ()), (r6.2.1, r4.2.2.1, ()))
   else none
   else none
  else none
 else
 if y0.line = 6 then
  if r2.1.1 = 3 then
   (acn y0.worker y0.id).bind fun r7 =>
   (aac ({ y0 with inside := r2.2.1 } : (RunV MV)) 8 r7.1.1).bind fun r8 =>
   some ((r8.1.1, ()), (r8.2.1, r1.2.2.1, ()))
  else
  (acJ y0.worker y0.level).bind fun r9 =>
  (aac ({ y0 with inside := r2.2.1 } : (RunV MV)) 7 r9.1.1).bind fun r10 =>
  some ((r10.1.1, ()), (r10.2.1, r1.2.2.1, ()))
 else
 if y0.line = 8 then
  if r2.1.1 = 1 then
   if (((y0.stack.length + ([y0.id] : List Int).length : Nat)) : Int) < 1000000000000 then
   (aac ({ y0 with stack := y0.stack ++ ([y0.id]), inside := r2.2.1 } : (RunV MV)) 0 MV.nil).bind fun r11 =>
   some ((r11.1.1, ()), (r11.2.1, r1.2.2.1, ()))
   else none
  else
  (aac ({ y0 with inside := r2.2.1 } : (RunV MV)) 0 MV.nil).bind fun r12 =>
  some ((r12.1.1, ()), (r12.2.1, r1.2.2.1, ()))
 else
 (aac ({ y0 with inside := r2.2.1 } : (RunV MV)) 0 MV.nil).bind fun r13 =>
 some ((r13.1.1, ()), (r13.2.1, r1.2.2.1, ()))
noncomputable abbrev aiD : Con SR1 := ⟨226, [.ref 33, .ref 27], [.sh .b], fun x => abf x.1 x.2.1⟩
noncomputable def amy : List (Nat × Func) := [(223, Tryz.f223)]
theorem amz : CO Tryz.prog aiD := aai aah Tryz.func226 [aoa, amC, af4, adI, aeu, adf, afz, ahD] ⟨aoO, aoY, ajc, aed, aeO, adu, agc, ah4, trivial⟩ amy ⟨Tryz.func223, trivial⟩ (fun _ => []) [] fun x => by kernel_rfl
noncomputable def ajI (y0 : Int) (y1 : Int) (y2 : Int) : Option ((MV × Unit) × (Unit)) :=
 some ((MV.walk (⟨⟨false, 0, 0⟩, y0, y1, y2, 1, MV.nil⟩ : (WalkV MV)), ()), (()))
noncomputable abbrev apQ : Con SR1 := ⟨237, [.sh sI_, .sh sI_, .sh sI_], [.sh .mach], fun x => ajI x.1 x.2.1 x.2.2.1⟩
theorem atB : CO Tryz.prog apQ := aai aah Tryz.func237 [] trivial [] trivial (fun _ => []) [] fun x => by kernel_rfl
noncomputable def aan (y0 : (RunV MV)) : Option ((Bool × Unit) × ((RunV MV) × Unit)) :=
 if 0 ≤ (tlI y0.stack) ∧ (tlI y0.stack) ≤ ((y0.stack.length : Nat) : Int) then
  if (((y0.stack.take ((tlI y0.stack) : Int).toNat).length : Nat) : Int) = 0 then
   (aba y0.o 0 0).bind fun r1 =>
   some ((r1.1.1, ()), (({ y0 with o := r1.2.1, stack := y0.stack.take ((tlI y0.stack) : Int).toNat } : (RunV MV)), ()))
  else
  (aac ({ y0 with stack := y0.stack.take ((tlI y0.stack) : Int).toNat } : (RunV MV)) 0 MV.nil).bind fun r2 =>
  some ((r2.1.1, ()), (r2.2.1, ()))
 else none
noncomputable abbrev afR : Con SR1 := ⟨238, [.ref 33], [.sh .b], fun x => aan x.1⟩
theorem ahv : CO Tryz.prog afR := aai aah Tryz.func238 [acr, adf] ⟨abu, adu, trivial⟩ [] trivial (fun _ => []) [] fun x => by kernel_rfl
noncomputable def agD (y0 : (RunV MV)) (y1 : EnvP) : Option ((Bool × Unit) × ((RunV MV) × EnvP × Unit)) :=
 agr (
  if 0 ≤ (tlI y0.stack) ∧ (tlI y0.stack) < ((y0.stack.length : Nat) : Int) then
   if y1.l.workers = y1.l.workers then
   if y1.l.levels = y1.l.levels then
   if y1.l.classes = y1.l.classes then
   if y1.l.tasks = y1.l.tasks then
   if y1.l.deque = y1.l.deque then
   if y1.l.heap = y1.l.heap then
   if y1.l.sleepers = y1.l.sleepers then
   if y1.l.epochs = y1.l.epochs then
   if y1.l.bitmaps = y1.l.bitmaps then
   if y1.l.queues = y1.l.queues then
   if y1.l.table = y1.l.table then
   if y1.l.workers = y1.l.workers then
   if y1.l.levels = y1.l.levels then
   if y1.l.classes = y1.l.classes then
   if y1.l.tasks = y1.l.tasks then
   if y1.l.deque = y1.l.deque then
   if y1.l.heap = y1.l.heap then
   if y1.l.sleepers = y1.l.sleepers then
   if y1.l.epochs = y1.l.epochs then
   if y1.l.bitmaps = y1.l.bitmaps then
   if y1.l.queues = y1.l.queues then
   if y1.l.table = y1.l.table then
   if y0.line = 9 then
   if 0 ≤ (tlI y0.stack) ∧ (tlI y0.stack) < ((y0.stack.length : Nat) : Int) then
   if 0 ≤ tpI y0.stack ∧ tpI y0.stack < ((y1.recs.length : Nat) : Int) then
   if 0 ≤ (tlI y0.stack) ∧ (tlI y0.stack) < ((y0.stack.length : Nat) : Int) then
   if 0 ≤ tpI y0.stack ∧ tpI y0.stack < ((y1.recs.length : Nat) : Int) then
   if (tpI y0.stack) = (tpI y0.stack) then
   if ((aab y1.recs (tpI y0.stack)).prog) < 0 then
   if 0 ≤ (tlI y0.stack) ∧ (tlI y0.stack) < ((y0.stack.length : Nat) : Int) then
   if 0 ≤ tpI y0.stack ∧ tpI y0.stack < ((y1.recs.length : Nat) : Int) then
   if (tpI y0.stack) = (tpI y0.stack) then
   none
   else none
   else none
   else none
   else
   if ((y1.c.progs.length : Nat) : Int) ≤ ((aab y1.recs (tpI y0.stack)).prog) then
   if 0 ≤ (tlI y0.stack) ∧ (tlI y0.stack) < ((y0.stack.length : Nat) : Int) then
   if 0 ≤ tpI y0.stack ∧ tpI y0.stack < ((y1.recs.length : Nat) : Int) then
   if (tpI y0.stack) = (tpI y0.stack) then
   none
   else none
   else none
   else none
   else
   if 0 ≤ (aab y1.recs (tpI y0.stack)).prog ∧ (aab y1.recs (tpI y0.stack)).prog < ((y1.c.progs.length : Nat) : Int) then
   if 0 ≤ (tlI y0.stack) ∧ (tlI y0.stack) < ((y0.stack.length : Nat) : Int) then
   if 0 ≤ tpI y0.stack ∧ tpI y0.stack < ((y1.recs.length : Nat) : Int) then
   if (tpI y0.stack) = (tpI y0.stack) then
   if 0 ≤ (aab y1.recs (tpI y0.stack)).pc ∧ (aab y1.recs (tpI y0.stack)).pc < (((atL [] y1.c.progs ((aab y1.recs (tpI y0.stack)).prog)).length : Nat) : Int) then
   if 0 ≤ (ab9 (atL [] y1.c.progs ((aab y1.recs (tpI y0.stack)).prog)) ((aab y1.recs (tpI y0.stack)).pc)).a ∧ (ab9 (atL [] y1.c.progs ((aab y1.recs (tpI y0.stack)).prog)) ((aab y1.recs (tpI y0.stack)).pc)).a < ((((aab y1.recs (tpI y0.stack)).kids).length : Nat) : Int) then
   (ajh y1.l (tpI y0.stack)).bind fun r26 =>
   if (afP ((aab y1.recs (tpI y0.stack)).kids) ((ab9 (atL [] y1.c.progs ((aab y1.recs (tpI y0.stack)).prog)) ((aab y1.recs (tpI y0.stack)).pc)).a)) = (afP ((aab y1.recs (tpI y0.stack)).kids) ((ab9 (atL [] y1.c.progs ((aab y1.recs (tpI y0.stack)).prog)) ((aab y1.recs (tpI y0.stack)).pc)).a)) then
   (aa2 y1.m r26.1.1 (wu (wi ((afP ((aab y1.recs (tpI y0.stack)).kids) ((ab9 (atL [] y1.c.progs ((aab y1.recs (tpI y0.stack)).prog)) ((aab y1.recs (tpI y0.stack)).pc)).a)) + 1)))).bind fun r27 =>
   (aac ({ y0 with child := afP ((aab y1.recs (tpI y0.stack)).kids) ((ab9 (atL [] y1.c.progs ((aab y1.recs (tpI y0.stack)).prog)) ((aab y1.recs (tpI y0.stack)).pc)).a) } : (RunV MV)) (wi (y0.line + 1)) MV.nil).bind fun r28 =>
   some ((r28.1.1, ()), (r28.2.1, ({ y1 with m := r27.2.1, recs := ((y1.recs.set (tpI y0.stack).toNat (aab y1.recs (tpI y0.stack))).set (tpI y0.stack).toNat ({ aab (y1.recs.set (tpI y0.stack).toNat (aab y1.recs (tpI y0.stack))) (tpI y0.stack) with pc := wi (((aab (y1.recs.set (tpI y0.stack).toNat (aab y1.recs (tpI y0.stack))) (tpI y0.stack)).pc) + 1) } : RecP)).set (tpI y0.stack).toNat ({ aab ((y1.recs.set (tpI y0.stack).toNat (aab y1.recs (tpI y0.stack))).set (tpI y0.stack).toNat ({ aab (y1.recs.set (tpI y0.stack).toNat (aab y1.recs (tpI y0.stack))) (tpI y0.stack) with pc := wi (((aab (y1.recs.set (tpI y0.stack).toNat (aab y1.recs (tpI y0.stack))) (tpI y0.stack)).pc) + 1) } : RecP)) (tpI y0.stack) with waiting := afP ((aab y1.recs (tpI y0.stack)).kids) ((ab9 (atL [] y1.c.progs ((aab y1.recs (tpI y0.stack)).prog)) ((aab y1.recs (tpI y0.stack)).pc)).a) } : RecP) } : EnvP), ()))
   else none
   else none
   else none
   else none
   else none
   else none
   else none
   else none
   else none
   else none
   else none
   else none
   else
   if y0.line = 10 then
   (aer y1.l (tpI y0.stack)).bind fun r29 =>
   (aa2 y1.m r29.1.1 3).bind fun r30 =>
   (aac y0 (wi (y0.line + 1)) MV.nil).bind fun r31 =>
   some ((r31.1.1, ()), (r31.2.1, ({ y1 with m := r30.2.1 } : EnvP), ()))
   else
   if y0.line = 11 then
   (anV y1.l y0.child).bind fun r32 =>
   (ask y1.m r32.1.1 0 (wu (wi ((tpI y0.stack) + 1)))).bind fun r33 =>
   if (!r33.1.1) = true then
   (aac y0 14 MV.nil).bind fun r34 =>
   some ((r34.1.1, ()), (r34.2.1, ({ y1 with m := r33.2.1 } : EnvP), ()))
   else
   (aaC y0 ({ y1 with m := r33.2.1 } : EnvP) (⟨6, 0, tpI y0.stack, y0.child, 0⟩ : Ev)).bind fun r35 =>
   (aac r35.2.1 (wi (r35.2.1.line + 1)) MV.nil).bind fun r36 =>
   some ((r36.1.1, ()), (r36.2.1, r35.2.2.1, ()))
   else
   if y0.line = 12 then
   (ae5 y1.l (tpI y0.stack)).bind fun r37 =>
   (aco y1.m r37.1.1).bind fun r38 =>
   (ajI y0.worker y0.child (wi (r38.1.1))).bind fun r39 =>
   (aac ({ y0 with level := wi (r38.1.1) } : (RunV MV)) 13 r39.1.1).bind fun r40 =>
   some ((r40.1.1, ()), (r40.2.1, ({ y1 with m := r38.2.1 } : EnvP), ()))
   else
   if y0.line = 13 then
   (aeK y0.inside y1).bind fun r41 =>
   if (!r41.1.1) = true then
   some ((false, ()), (({ y0 with inside := r41.2.1 } : (RunV MV)), r41.2.2.1, ()))
   else
   (aaC ({ y0 with inside := r41.2.1 } : (RunV MV)) r41.2.2.1 (⟨7, 0, tpI y0.stack, 0, y0.level⟩ : Ev)).bind fun r42 =>
   (aan r42.2.1).bind fun r43 =>
   some ((r43.1.1, ()), (r43.2.1, r42.2.2.1, ()))
   else
   if y0.line = 14 then
   (aer y1.l (tpI y0.stack)).bind fun r44 =>
   (aa2 y1.m r44.1.1 2).bind fun r45 =>
   (aac y0 (wi (y0.line + 1)) MV.nil).bind fun r46 =>
   some ((r46.1.1, ()), (r46.2.1, ({ y1 with m := r45.2.1 } : EnvP), ()))
   else
   (ajh y1.l (tpI y0.stack)).bind fun r47 =>
   (aa2 y1.m r47.1.1 0).bind fun r48 =>
   if 0 ≤ (tlI y0.stack) ∧ (tlI y0.stack) < ((y0.stack.length : Nat) : Int) then
   if 0 ≤ tpI y0.stack ∧ tpI y0.stack < ((y1.recs.length : Nat) : Int) then
   (aaC y0 ({ y1 with m := r48.2.1, recs := y1.recs.set (tpI y0.stack).toNat ({ aab y1.recs (tpI y0.stack) with waiting := (-1) } : RecP) } : EnvP) (⟨8, 0, tpI y0.stack, y0.child, 0⟩ : Ev)).bind fun r49 =>
   (aac r49.2.1 0 MV.nil).bind fun r50 =>
   some ((r50.1.1, ()), (r50.2.1, r49.2.2.1, ()))
   else none
   else none
   else none
   else none
   else none
   else none
   else none
   else none
   else none
   else none
   else none
   else none
   else none
   else none
   else none
   else none
   else none
   else none
   else none
   else none
   else none
   else none
   else none
   else none
  else none
 ) (
  if y1.l.workers = y1.l.workers then
   if y1.l.levels = y1.l.levels then
   if y1.l.classes = y1.l.classes then
   if y1.l.tasks = y1.l.tasks then
   if y1.l.deque = y1.l.deque then
   if y1.l.heap = y1.l.heap then
   if y1.l.sleepers = y1.l.sleepers then
   if y1.l.epochs = y1.l.epochs then
   if y1.l.bitmaps = y1.l.bitmaps then
   if y1.l.queues = y1.l.queues then
   if y1.l.table = y1.l.table then
   if 0 ≤ (tlI y0.stack) ∧ (tlI y0.stack) < ((y0.stack.length : Nat) : Int) then
   if y1.l.workers = y1.l.workers then
   if y1.l.levels = y1.l.levels then
   if y1.l.classes = y1.l.classes then
   if y1.l.tasks = y1.l.tasks then
   if y1.l.deque = y1.l.deque then
   if y1.l.heap = y1.l.heap then
   if y1.l.sleepers = y1.l.sleepers then
   if y1.l.epochs = y1.l.epochs then
   if y1.l.bitmaps = y1.l.bitmaps then
   if y1.l.queues = y1.l.queues then
   if y1.l.table = y1.l.table then
   if y0.line = 9 then
   if 0 ≤ (tlI y0.stack) ∧ (tlI y0.stack) < ((y0.stack.length : Nat) : Int) then
   if 0 ≤ tpI y0.stack ∧ tpI y0.stack < ((y1.recs.length : Nat) : Int) then
   if 0 ≤ (tlI y0.stack) ∧ (tlI y0.stack) < ((y0.stack.length : Nat) : Int) then
   if 0 ≤ tpI y0.stack ∧ tpI y0.stack < ((y1.recs.length : Nat) : Int) then
   if (tpI y0.stack) = (tpI y0.stack) then
   if ((aab y1.recs (tpI y0.stack)).prog) < 0 then
   if 0 ≤ (tlI y0.stack) ∧ (tlI y0.stack) < ((y0.stack.length : Nat) : Int) then
   if 0 ≤ tpI y0.stack ∧ tpI y0.stack < ((y1.recs.length : Nat) : Int) then
   if (tpI y0.stack) = (tpI y0.stack) then
   none
   else none
   else none
   else none
   else
   if ((y1.c.progs.length : Nat) : Int) ≤ ((aab y1.recs (tpI y0.stack)).prog) then
   if 0 ≤ (tlI y0.stack) ∧ (tlI y0.stack) < ((y0.stack.length : Nat) : Int) then
   if 0 ≤ tpI y0.stack ∧ tpI y0.stack < ((y1.recs.length : Nat) : Int) then
   if (tpI y0.stack) = (tpI y0.stack) then
   none
   else none
   else none
   else none
   else
   if 0 ≤ (aab y1.recs (tpI y0.stack)).prog ∧ (aab y1.recs (tpI y0.stack)).prog < ((y1.c.progs.length : Nat) : Int) then
   if 0 ≤ (tlI y0.stack) ∧ (tlI y0.stack) < ((y0.stack.length : Nat) : Int) then
   if 0 ≤ tpI y0.stack ∧ tpI y0.stack < ((y1.recs.length : Nat) : Int) then
   if (tpI y0.stack) = (tpI y0.stack) then
   if 0 ≤ (aab y1.recs (tpI y0.stack)).pc ∧ (aab y1.recs (tpI y0.stack)).pc < (((atL [] y1.c.progs ((aab y1.recs (tpI y0.stack)).prog)).length : Nat) : Int) then
   if 0 ≤ (ab9 (atL [] y1.c.progs ((aab y1.recs (tpI y0.stack)).prog)) ((aab y1.recs (tpI y0.stack)).pc)).a ∧ (ab9 (atL [] y1.c.progs ((aab y1.recs (tpI y0.stack)).prog)) ((aab y1.recs (tpI y0.stack)).pc)).a < ((((aab y1.recs (tpI y0.stack)).kids).length : Nat) : Int) then
   (ajh y1.l (tpI y0.stack)).bind fun r1 =>
   if (afP ((aab y1.recs (tpI y0.stack)).kids) ((ab9 (atL [] y1.c.progs ((aab y1.recs (tpI y0.stack)).prog)) ((aab y1.recs (tpI y0.stack)).pc)).a)) = (afP ((aab y1.recs (tpI y0.stack)).kids) ((ab9 (atL [] y1.c.progs ((aab y1.recs (tpI y0.stack)).prog)) ((aab y1.recs (tpI y0.stack)).pc)).a)) then
   (aa2 y1.m r1.1.1 (wu (wi ((afP ((aab y1.recs (tpI y0.stack)).kids) ((ab9 (atL [] y1.c.progs ((aab y1.recs (tpI y0.stack)).prog)) ((aab y1.recs (tpI y0.stack)).pc)).a)) + 1)))).bind fun r2 =>
   (aac ({ y0 with child := afP ((aab y1.recs (tpI y0.stack)).kids) ((ab9 (atL [] y1.c.progs ((aab y1.recs (tpI y0.stack)).prog)) ((aab y1.recs (tpI y0.stack)).pc)).a) } : (RunV MV)) (wi (y0.line + 1)) MV.nil).bind fun r3 =>
   some ((r3.1.1, ()), (r3.2.1, ({ y1 with m := r2.2.1, recs := ((y1.recs.set (tpI y0.stack).toNat (aab y1.recs (tpI y0.stack))).set (tpI y0.stack).toNat ({ aab (y1.recs.set (tpI y0.stack).toNat (aab y1.recs (tpI y0.stack))) (tpI y0.stack) with pc := wi (((aab (y1.recs.set (tpI y0.stack).toNat (aab y1.recs (tpI y0.stack))) (tpI y0.stack)).pc) + 1) } : RecP)).set (tpI y0.stack).toNat ({ aab ((y1.recs.set (tpI y0.stack).toNat (aab y1.recs (tpI y0.stack))).set (tpI y0.stack).toNat ({ aab (y1.recs.set (tpI y0.stack).toNat (aab y1.recs (tpI y0.stack))) (tpI y0.stack) with pc := wi (((aab (y1.recs.set (tpI y0.stack).toNat (aab y1.recs (tpI y0.stack))) (tpI y0.stack)).pc) + 1) } : RecP)) (tpI y0.stack) with waiting := afP ((aab y1.recs (tpI y0.stack)).kids) ((ab9 (atL [] y1.c.progs ((aab y1.recs (tpI y0.stack)).prog)) ((aab y1.recs (tpI y0.stack)).pc)).a) } : RecP) } : EnvP), ()))
   else none
   else none
   else none
   else none
   else none
   else none
   else none
   else none
   else none
   else none
   else none
   else none
   else
   if y0.line = 10 then
   (aer y1.l (tpI y0.stack)).bind fun r4 =>
   (aa2 y1.m r4.1.1 3).bind fun r5 =>
   (aac y0 (wi (y0.line + 1)) MV.nil).bind fun r6 =>
   some ((r6.1.1, ()), (r6.2.1, ({ y1 with m := r5.2.1 } : EnvP), ()))
   else
   if y0.line = 11 then
   (anV y1.l y0.child).bind fun r7 =>
   (ask y1.m r7.1.1 0 (wu (wi ((tpI y0.stack) + 1)))).bind fun r8 =>
   if (!r8.1.1) = true then
   (aac y0 14 MV.nil).bind fun r9 =>
   some ((r9.1.1, ()), (r9.2.1, ({ y1 with m := r8.2.1 } : EnvP), ()))
   else
   (aaC y0 ({ y1 with m := r8.2.1 } : EnvP) (⟨6, 0, tpI y0.stack, y0.child, 0⟩ : Ev)).bind fun r10 =>
   (aac r10.2.1 (wi (r10.2.1.line + 1)) MV.nil).bind fun r11 =>
   some ((r11.1.1, ()), (r11.2.1, r10.2.2.1, ()))
   else
   if y0.line = 12 then
   (ae5 y1.l (tpI y0.stack)).bind fun r12 =>
   (aco y1.m r12.1.1).bind fun r13 =>
   (ajI y0.worker y0.child (wi (r13.1.1))).bind fun r14 =>
   (aac ({ y0 with level := wi (r13.1.1) } : (RunV MV)) 13 r14.1.1).bind fun r15 =>
   some ((r15.1.1, ()), (r15.2.1, ({ y1 with m := r13.2.1 } : EnvP), ()))
   else
   if y0.line = 13 then
   (aeK y0.inside y1).bind fun r16 =>
   if (!r16.1.1) = true then
   some ((false, ()), (({ y0 with inside := r16.2.1 } : (RunV MV)), r16.2.2.1, ()))
   else
   (aaC ({ y0 with inside := r16.2.1 } : (RunV MV)) r16.2.2.1 (⟨7, 0, tpI y0.stack, 0, y0.level⟩ : Ev)).bind fun r17 =>
   (aan r17.2.1).bind fun r18 =>
   some ((r18.1.1, ()), (r18.2.1, r17.2.2.1, ()))
   else
   if y0.line = 14 then
   (aer y1.l (tpI y0.stack)).bind fun r19 =>
   (aa2 y1.m r19.1.1 2).bind fun r20 =>
   (aac y0 (wi (y0.line + 1)) MV.nil).bind fun r21 =>
   some ((r21.1.1, ()), (r21.2.1, ({ y1 with m := r20.2.1 } : EnvP), ()))
   else
   (ajh y1.l (tpI y0.stack)).bind fun r22 =>
   (aa2 y1.m r22.1.1 0).bind fun r23 =>
   if 0 ≤ (tlI y0.stack) ∧ (tlI y0.stack) < ((y0.stack.length : Nat) : Int) then
   if 0 ≤ tpI y0.stack ∧ tpI y0.stack < ((y1.recs.length : Nat) : Int) then
   (aaC y0 ({ y1 with m := r23.2.1, recs := y1.recs.set (tpI y0.stack).toNat ({ aab y1.recs (tpI y0.stack) with waiting := (-1) } : RecP) } : EnvP) (⟨8, 0, tpI y0.stack, y0.child, 0⟩ : Ev)).bind fun r24 =>
   (aac r24.2.1 0 MV.nil).bind fun r25 =>
   some ((r25.1.1, ()), (r25.2.1, r24.2.2.1, ()))
   else none
   else none
   else none
   else none
   else none
   else none
   else none
   else none
   else none
   else none
   else none
   else none
   else none
   else none
   else none
   else none
   else none
   else none
   else none
   else none
   else none
   else none
   else none
   else none
  else none
 )
noncomputable abbrev ahw : Con SR1 := ⟨227, [.ref 33, .ref 27], [.sh .b], fun x => agD x.1 x.2.1⟩
noncomputable def alq : List (Nat × Func) := [(223, Tryz.f223), (229, Tryz.f229), (232, Tryz.f232), (230, Tryz.f230)]
theorem alr : CO Tryz.prog ahw := aai aah Tryz.func227 [aog, adC, adf, agi, at9, alL, adI, agj, acq, apQ, aoa, afR] ⟨ao7, ac3, adu, afB, avt, ajn, aed, afC, abD, atB, aoO, ahv, trivial⟩ alq ⟨Tryz.func223, Tryz.func229, Tryz.func232, Tryz.func230, trivial⟩ (fun _ => []) [] fun x => by kernel_rfl
noncomputable def aaF (y0 : (RunV MV)) (y1 : EnvP) : Option ((Bool × Unit) × ((RunV MV) × EnvP × Unit)) :=
 if 0 ≤ (tlI y0.stack) ∧ (tlI y0.stack) < ((y0.stack.length : Nat) : Int) then
  if y0.line = 9 then
   if 0 ≤ (tlI y0.stack) ∧ (tlI y0.stack) < ((y0.stack.length : Nat) : Int) then
   if 0 ≤ tpI y0.stack ∧ tpI y0.stack < ((y1.recs.length : Nat) : Int) then
   if 0 ≤ (tlI y0.stack) ∧ (tlI y0.stack) < ((y0.stack.length : Nat) : Int) then
   if 0 ≤ tpI y0.stack ∧ tpI y0.stack < ((y1.recs.length : Nat) : Int) then
   if ((aab y1.recs (tpI y0.stack)).prog) < 0 then
   if 0 ≤ (tlI y0.stack) ∧ (tlI y0.stack) < ((y0.stack.length : Nat) : Int) then
   if 0 ≤ tpI y0.stack ∧ tpI y0.stack < ((y1.recs.length : Nat) : Int) then
   none
   else none
   else none
   else
   if ((y1.c.progs.length : Nat) : Int) ≤ ((aab y1.recs (tpI y0.stack)).prog) then
   if 0 ≤ (tlI y0.stack) ∧ (tlI y0.stack) < ((y0.stack.length : Nat) : Int) then
   if 0 ≤ tpI y0.stack ∧ tpI y0.stack < ((y1.recs.length : Nat) : Int) then
   none
   else none
   else none
   else
   if 0 ≤ (aab y1.recs (tpI y0.stack)).prog ∧ (aab y1.recs (tpI y0.stack)).prog < ((y1.c.progs.length : Nat) : Int) then
   if 0 ≤ (tlI y0.stack) ∧ (tlI y0.stack) < ((y0.stack.length : Nat) : Int) then
   if 0 ≤ tpI y0.stack ∧ tpI y0.stack < ((y1.recs.length : Nat) : Int) then
   if 0 ≤ (aab y1.recs (tpI y0.stack)).pc ∧ (aab y1.recs (tpI y0.stack)).pc < (((atL [] y1.c.progs ((aab y1.recs (tpI y0.stack)).prog)).length : Nat) : Int) then
   if 0 ≤ (ab9 (atL [] y1.c.progs ((aab y1.recs (tpI y0.stack)).prog)) ((aab y1.recs (tpI y0.stack)).pc)).a ∧ (ab9 (atL [] y1.c.progs ((aab y1.recs (tpI y0.stack)).prog)) ((aab y1.recs (tpI y0.stack)).pc)).a < ((((aab y1.recs (tpI y0.stack)).kids).length : Nat) : Int) then
   (ajh y1.l (tpI y0.stack)).bind fun r1 =>
   (aa2 y1.m r1.1.1 (wu (wi ((afP ((aab y1.recs (tpI y0.stack)).kids) ((ab9 (atL [] y1.c.progs ((aab y1.recs (tpI y0.stack)).prog)) ((aab y1.recs (tpI y0.stack)).pc)).a)) + 1)))).bind fun r2 =>
   (aac ({ y0 with child := afP ((aab y1.recs (tpI y0.stack)).kids) ((ab9 (atL [] y1.c.progs ((aab y1.recs (tpI y0.stack)).prog)) ((aab y1.recs (tpI y0.stack)).pc)).a) } : (RunV MV)) (wi (y0.line + 1)) MV.nil).bind fun r3 =>
   some ((r3.1.1, ()), (r3.2.1, ({ y1 with m := r2.2.1, recs := ((y1.recs.set (tpI y0.stack).toNat (aab y1.recs (tpI y0.stack))).set (tpI y0.stack).toNat ({ aab (y1.recs.set (tpI y0.stack).toNat (aab y1.recs (tpI y0.stack))) (tpI y0.stack) with pc := wi (((aab (y1.recs.set (tpI y0.stack).toNat (aab y1.recs (tpI y0.stack))) (tpI y0.stack)).pc) + 1) } : RecP)).set (tpI y0.stack).toNat ({ aab ((y1.recs.set (tpI y0.stack).toNat (aab y1.recs (tpI y0.stack))).set (tpI y0.stack).toNat ({ aab (y1.recs.set (tpI y0.stack).toNat (aab y1.recs (tpI y0.stack))) (tpI y0.stack) with pc := wi (((aab (y1.recs.set (tpI y0.stack).toNat (aab y1.recs (tpI y0.stack))) (tpI y0.stack)).pc) + 1) } : RecP)) (tpI y0.stack) with waiting := afP ((aab y1.recs (tpI y0.stack)).kids) ((ab9 (atL [] y1.c.progs ((aab y1.recs (tpI y0.stack)).prog)) ((aab y1.recs (tpI y0.stack)).pc)).a) } : RecP) } : EnvP), ()))
   else none
   else none
   else none
   else none
   else none
   else none
   else none
   else none
   else none
  else
  if y0.line = 10 then
   (aer y1.l (tpI y0.stack)).bind fun r4 =>
   (aa2 y1.m r4.1.1 3).bind fun r5 =>
   (aac y0 (wi (y0.line + 1)) MV.nil).bind fun r6 =>
   some ((r6.1.1, ()), (r6.2.1, ({ y1 with m := r5.2.1 } : EnvP), ()))
  else
  if y0.line = 11 then
   (anV y1.l y0.child).bind fun r7 =>
   (ask y1.m r7.1.1 0 (wu (wi ((tpI y0.stack) + 1)))).bind fun r8 =>
   if (!r8.1.1) = true then
   (aac y0 14 MV.nil).bind fun r9 =>
   some ((r9.1.1, ()), (r9.2.1, ({ y1 with m := r8.2.1 } : EnvP), ()))
   else
   (aaC y0 ({ y1 with m := r8.2.1 } : EnvP) (⟨6, 0, tpI y0.stack, y0.child, 0⟩ : Ev)).bind fun r10 =>
   (aac r10.2.1 (wi (r10.2.1.line + 1)) MV.nil).bind fun r11 =>
   some ((r11.1.1, ()), (r11.2.1, r10.2.2.1, ()))
  else
  if y0.line = 12 then
   (ae5 y1.l (tpI y0.stack)).bind fun r12 =>
   (aco y1.m r12.1.1).bind fun r13 =>
   (ajI y0.worker y0.child (wi (r13.1.1))).bind fun r14 =>
   (aac ({ y0 with level := wi (r13.1.1) } : (RunV MV)) 13 r14.1.1).bind fun r15 =>
   some ((r15.1.1, ()), (r15.2.1, ({ y1 with m := r13.2.1 } : EnvP), ()))
  else
  if y0.line = 13 then
   (aeK y0.inside y1).bind fun r16 =>
   if (!r16.1.1) = true then
   some ((false, ()), (({ y0 with inside := r16.2.1 } : (RunV MV)), r16.2.2.1, ()))
   else
   (aaC ({ y0 with inside := r16.2.1 } : (RunV MV)) r16.2.2.1 (⟨7, 0, tpI y0.stack, 0, y0.level⟩ : Ev)).bind fun r17 =>
   (aan r17.2.1).bind fun r18 =>
   some ((r18.1.1, ()), (r18.2.1, r17.2.2.1, ()))
  else
  if y0.line = 14 then
   (aer y1.l (tpI y0.stack)).bind fun r19 =>
   (aa2 y1.m r19.1.1 2).bind fun r20 =>
   (aac y0 (wi (y0.line + 1)) MV.nil).bind fun r21 =>
   some ((r21.1.1, ()), (r21.2.1, ({ y1 with m := r20.2.1 } : EnvP), ()))
  else
  (ajh y1.l (tpI y0.stack)).bind fun r22 =>
  (aa2 y1.m r22.1.1 0).bind fun r23 =>
  if 0 ≤ (tlI y0.stack) ∧ (tlI y0.stack) < ((y0.stack.length : Nat) : Int) then
   if 0 ≤ tpI y0.stack ∧ tpI y0.stack < ((y1.recs.length : Nat) : Int) then
   (aaC y0 ({ y1 with m := r23.2.1, recs := y1.recs.set (tpI y0.stack).toNat ({ aab y1.recs (tpI y0.stack) with waiting := (-1) } : RecP) } : EnvP) (⟨8, 0, tpI y0.stack, y0.child, 0⟩ : Ev)).bind fun r24 =>
   (aac r24.2.1 0 MV.nil).bind fun r25 =>
   some ((r25.1.1, ()), (r25.2.1, r24.2.2.1, ()))
   else none
  else none
 else none
noncomputable abbrev aja : Con SR1 := ⟨227, [.ref 33, .ref 27], [.sh .b], fun x => aaF x.1 x.2.1⟩
theorem anN (y0 : (RunV MV)) (y1 : EnvP) : agD y0 y1 = aaF y0 y1 := by
  unfold agD aaF
  simp only [if_true, akh, anb]
theorem anM : CO Tryz.prog aja := ayL alr fun x out hx => (show ahw.spec x = some out from (anN x.1 x.2.1).trans hx)
noncomputable def ahn (y0 : Int) (y1 : Int) : Option ((MV × Unit) × (Unit)) :=
 some ((MV.enter (⟨⟨false, 0, 0⟩, y0, y1, 0, 1, MV.nil⟩ : (EnterV MV)), ()), (()))
noncomputable abbrev ann : Con SR1 := ⟨239, [.sh sI_, .sh sI_], [.sh .mach], fun x => ahn x.1 x.2.1⟩
theorem aqR : CO Tryz.prog ann := aai aah Tryz.func239 [] trivial [] trivial (fun _ => []) [] fun x => by kernel_rfl
noncomputable def afb (y0 : (RunV MV)) (y1 : EnvP) : Option ((Bool × Unit) × ((RunV MV) × EnvP × Unit)) :=
 agr (
  if 0 ≤ (tlI y0.stack) ∧ (tlI y0.stack) < ((y0.stack.length : Nat) : Int) then
   if y1.l.workers = y1.l.workers then
   if y1.l.levels = y1.l.levels then
   if y1.l.classes = y1.l.classes then
   if y1.l.tasks = y1.l.tasks then
   if y1.l.deque = y1.l.deque then
   if y1.l.heap = y1.l.heap then
   if y1.l.sleepers = y1.l.sleepers then
   if y1.l.epochs = y1.l.epochs then
   if y1.l.bitmaps = y1.l.bitmaps then
   if y1.l.queues = y1.l.queues then
   if y1.l.table = y1.l.table then
   if y1.l.workers = y1.l.workers then
   if y1.l.levels = y1.l.levels then
   if y1.l.classes = y1.l.classes then
   if y1.l.tasks = y1.l.tasks then
   if y1.l.deque = y1.l.deque then
   if y1.l.heap = y1.l.heap then
   if y1.l.sleepers = y1.l.sleepers then
   if y1.l.epochs = y1.l.epochs then
   if y1.l.bitmaps = y1.l.bitmaps then
   if y1.l.queues = y1.l.queues then
   if y1.l.table = y1.l.table then
   if y0.line = 16 then
   (aer y1.l (tpI y0.stack)).bind fun r29 =>
   (aa2 y1.m r29.1.1 4).bind fun r30 =>
   (aac y0 17 MV.nil).bind fun r31 =>
   some ((r31.1.1, ()), (r31.2.1, ({ y1 with m := r30.2.1 } : EnvP), ()))
   else
   if y0.line = 17 then
   (anV y1.l (tpI y0.stack)).bind fun r32 =>
   (ask y1.m r32.1.1 0 4294967296).bind fun r33 =>
   (aaC y0 ({ y1 with m := r33.2.1 } : EnvP) (⟨10, 0, tpI y0.stack, 0, 0⟩ : Ev)).bind fun r34 =>
   if r33.1.1 = true then
   (aan r34.2.1).bind fun r35 =>
   some ((r35.1.1, ()), (r35.2.1, r34.2.2.1, ()))
   else
   (aac r34.2.1 18 MV.nil).bind fun r36 =>
   some ((r36.1.1, ()), (r36.2.1, r34.2.2.1, ()))
   else
   if y0.line = 18 then
   (anV y1.l (tpI y0.stack)).bind fun r37 =>
   (aco y1.m r37.1.1).bind fun r38 =>
   if (wi ((wi (r38.1.1)) - 1)) < 0 then
   (aan ({ y0 with waiter := wi ((wi (r38.1.1)) - 1) } : (RunV MV))).bind fun r39 =>
   some ((r39.1.1, ()), (r39.2.1, ({ y1 with m := r38.2.1 } : EnvP), ()))
   else
   if y1.c.tasks ≤ (wi ((wi (r38.1.1)) - 1)) then
   (aan ({ y0 with waiter := wi ((wi (r38.1.1)) - 1) } : (RunV MV))).bind fun r40 =>
   some ((r40.1.1, ()), (r40.2.1, ({ y1 with m := r38.2.1 } : EnvP), ()))
   else
   (ahn y0.worker (wi ((wi (r38.1.1)) - 1))).bind fun r41 =>
   (aac ({ y0 with waiter := wi ((wi (r38.1.1)) - 1) } : (RunV MV)) 19 r41.1.1).bind fun r42 =>
   some ((r42.1.1, ()), (r42.2.1, ({ y1 with m := r38.2.1 } : EnvP), ()))
   else
   (aeK y0.inside y1).bind fun r43 =>
   if (!r43.1.1) = true then
   some ((false, ()), (({ y0 with inside := r43.2.1 } : (RunV MV)), r43.2.2.1, ()))
   else
   (adg r43.2.1).bind fun r44 =>
   if y0.line = 19 then
   if r44.1.1 = 3 then
   (acn y0.worker y0.waiter).bind fun r45 =>
   (aac ({ y0 with inside := r44.2.1 } : (RunV MV)) 21 r45.1.1).bind fun r46 =>
   some ((r46.1.1, ()), (r46.2.1, r43.2.2.1, ()))
   else
   if y0.line = 19 then
   (acJ y0.worker r44.1.2.1).bind fun r47 =>
   (aac ({ y0 with inside := r44.2.1 } : (RunV MV)) 20 r47.1.1).bind fun r48 =>
   some ((r48.1.1, ()), (r48.2.1, r43.2.2.1, ()))
   else
   if y0.line = 21 then
   if r44.1.1 = 1 then
   if 0 ≤ (tlI y0.stack) ∧ (tlI y0.stack) < ((y0.stack.length : Nat) : Int) then
   (aac ({ y0 with stack := y0.stack.set (tlI y0.stack).toNat y0.waiter, inside := r44.2.1 } : (RunV MV)) 0 MV.nil).bind fun r49 =>
   some ((r49.1.1, ()), (r49.2.1, r43.2.2.1, ()))
   else none
   else
   (aan ({ y0 with inside := r44.2.1 } : (RunV MV))).bind fun r50 =>
   some ((r50.1.1, ()), (r50.2.1, r43.2.2.1, ()))
   else
   (aan ({ y0 with inside := r44.2.1 } : (RunV MV))).bind fun r51 =>
   some ((r51.1.1, ()), (r51.2.1, r43.2.2.1, ()))
   else
   if y0.line = 19 then
   (acJ y0.worker r44.1.2.1).bind fun r52 =>
   (aac ({ y0 with inside := r44.2.1 } : (RunV MV)) 20 r52.1.1).bind fun r53 =>
   some ((r53.1.1, ()), (r53.2.1, r43.2.2.1, ()))
   else
   if y0.line = 21 then
   if r44.1.1 = 1 then
   if 0 ≤ (tlI y0.stack) ∧ (tlI y0.stack) < ((y0.stack.length : Nat) : Int) then
   (aac ({ y0 with stack := y0.stack.set (tlI y0.stack).toNat y0.waiter, inside := r44.2.1 } : (RunV MV)) 0 MV.nil).bind fun r54 =>
   some ((r54.1.1, ()), (r54.2.1, r43.2.2.1, ()))
   else none
   else
   (aan ({ y0 with inside := r44.2.1 } : (RunV MV))).bind fun r55 =>
   some ((r55.1.1, ()), (r55.2.1, r43.2.2.1, ()))
   else
   (aan ({ y0 with inside := r44.2.1 } : (RunV MV))).bind fun r56 =>
   some ((r56.1.1, ()), (r56.2.1, r43.2.2.1, ()))
   else none
   else none
   else none
   else none
   else none
   else none
   else none
   else none
   else none
   else none
   else none
   else none
   else none
   else none
   else none
   else none
   else none
   else none
   else none
   else none
   else none
   else none
  else none
 ) (
  if y1.l.workers = y1.l.workers then
   if y1.l.levels = y1.l.levels then
   if y1.l.classes = y1.l.classes then
   if y1.l.tasks = y1.l.tasks then
   if y1.l.deque = y1.l.deque then
   if y1.l.heap = y1.l.heap then
   if y1.l.sleepers = y1.l.sleepers then
   if y1.l.epochs = y1.l.epochs then
   if y1.l.bitmaps = y1.l.bitmaps then
   if y1.l.queues = y1.l.queues then
   if y1.l.table = y1.l.table then
   if 0 ≤ (tlI y0.stack) ∧ (tlI y0.stack) < ((y0.stack.length : Nat) : Int) then
   if y1.l.workers = y1.l.workers then
   if y1.l.levels = y1.l.levels then
   if y1.l.classes = y1.l.classes then
   if y1.l.tasks = y1.l.tasks then
   if y1.l.deque = y1.l.deque then
   if y1.l.heap = y1.l.heap then
   if y1.l.sleepers = y1.l.sleepers then
   if y1.l.epochs = y1.l.epochs then
   if y1.l.bitmaps = y1.l.bitmaps then
   if y1.l.queues = y1.l.queues then
   if y1.l.table = y1.l.table then
   if y0.line = 16 then
   (aer y1.l (tpI y0.stack)).bind fun r1 =>
   (aa2 y1.m r1.1.1 4).bind fun r2 =>
   (aac y0 17 MV.nil).bind fun r3 =>
   some ((r3.1.1, ()), (r3.2.1, ({ y1 with m := r2.2.1 } : EnvP), ()))
   else
   if y0.line = 17 then
   (anV y1.l (tpI y0.stack)).bind fun r4 =>
   (ask y1.m r4.1.1 0 4294967296).bind fun r5 =>
   (aaC y0 ({ y1 with m := r5.2.1 } : EnvP) (⟨10, 0, tpI y0.stack, 0, 0⟩ : Ev)).bind fun r6 =>
   if r5.1.1 = true then
   (aan r6.2.1).bind fun r7 =>
   some ((r7.1.1, ()), (r7.2.1, r6.2.2.1, ()))
   else
   (aac r6.2.1 18 MV.nil).bind fun r8 =>
   some ((r8.1.1, ()), (r8.2.1, r6.2.2.1, ()))
   else
   if y0.line = 18 then
   (anV y1.l (tpI y0.stack)).bind fun r9 =>
   (aco y1.m r9.1.1).bind fun r10 =>
   if (wi ((wi (r10.1.1)) - 1)) < 0 then
   (aan ({ y0 with waiter := wi ((wi (r10.1.1)) - 1) } : (RunV MV))).bind fun r11 =>
   some ((r11.1.1, ()), (r11.2.1, ({ y1 with m := r10.2.1 } : EnvP), ()))
   else
   if y1.c.tasks ≤ (wi ((wi (r10.1.1)) - 1)) then
   (aan ({ y0 with waiter := wi ((wi (r10.1.1)) - 1) } : (RunV MV))).bind fun r12 =>
   some ((r12.1.1, ()), (r12.2.1, ({ y1 with m := r10.2.1 } : EnvP), ()))
   else
   (ahn y0.worker (wi ((wi (r10.1.1)) - 1))).bind fun r13 =>
   (aac ({ y0 with waiter := wi ((wi (r10.1.1)) - 1) } : (RunV MV)) 19 r13.1.1).bind fun r14 =>
   some ((r14.1.1, ()), (r14.2.1, ({ y1 with m := r10.2.1 } : EnvP), ()))
   else
   (aeK y0.inside y1).bind fun r15 =>
   if (!r15.1.1) = true then
   some ((false, ()), (({ y0 with inside := r15.2.1 } : (RunV MV)), r15.2.2.1, ()))
   else
   (adg r15.2.1).bind fun r16 =>
   if y0.line = 19 then
   if r16.1.1 = 3 then
   (acn y0.worker y0.waiter).bind fun r17 =>
   (aac ({ y0 with inside := r16.2.1 } : (RunV MV)) 21 r17.1.1).bind fun r18 =>
   some ((r18.1.1, ()), (r18.2.1, r15.2.2.1, ()))
   else
   if y0.line = 19 then
   (acJ y0.worker r16.1.2.1).bind fun r19 =>
   (aac ({ y0 with inside := r16.2.1 } : (RunV MV)) 20 r19.1.1).bind fun r20 =>
   some ((r20.1.1, ()), (r20.2.1, r15.2.2.1, ()))
   else
   if y0.line = 21 then
   if r16.1.1 = 1 then
   if 0 ≤ (tlI y0.stack) ∧ (tlI y0.stack) < ((y0.stack.length : Nat) : Int) then
   (aac ({ y0 with stack := y0.stack.set (tlI y0.stack).toNat y0.waiter, inside := r16.2.1 } : (RunV MV)) 0 MV.nil).bind fun r21 =>
   some ((r21.1.1, ()), (r21.2.1, r15.2.2.1, ()))
   else none
   else
   (aan ({ y0 with inside := r16.2.1 } : (RunV MV))).bind fun r22 =>
   some ((r22.1.1, ()), (r22.2.1, r15.2.2.1, ()))
   else
   (aan ({ y0 with inside := r16.2.1 } : (RunV MV))).bind fun r23 =>
   some ((r23.1.1, ()), (r23.2.1, r15.2.2.1, ()))
   else
   if y0.line = 19 then
   (acJ y0.worker r16.1.2.1).bind fun r24 =>
   (aac ({ y0 with inside := r16.2.1 } : (RunV MV)) 20 r24.1.1).bind fun r25 =>
   some ((r25.1.1, ()), (r25.2.1, r15.2.2.1, ()))
   else
   if y0.line = 21 then
   if r16.1.1 = 1 then
   if 0 ≤ (tlI y0.stack) ∧ (tlI y0.stack) < ((y0.stack.length : Nat) : Int) then
   (aac ({ y0 with stack := y0.stack.set (tlI y0.stack).toNat y0.waiter, inside := r16.2.1 } : (RunV MV)) 0 MV.nil).bind fun r26 =>
   some ((r26.1.1, ()), (r26.2.1, r15.2.2.1, ()))
   else none
   else
   (aan ({ y0 with inside := r16.2.1 } : (RunV MV))).bind fun r27 =>
   some ((r27.1.1, ()), (r27.2.1, r15.2.2.1, ()))
   else
   (aan ({ y0 with inside := r16.2.1 } : (RunV MV))).bind fun r28 =>
   some ((r28.1.1, ()), (r28.2.1, r15.2.2.1, ()))
   else none
   else none
   else none
   else none
   else none
   else none
   else none
   else none
   else none
   else none
   else none
   else none
   else none
   else none
   else none
   else none
   else none
   else none
   else none
   else none
   else none
   else none
  else none
 )
noncomputable abbrev agE : Con SR1 := ⟨228, [.ref 33, .ref 27], [.sh .b], fun x => afb x.1 x.2.1⟩
noncomputable def akl : List (Nat × Func) := [(223, Tryz.f223)]
theorem akm : CO Tryz.prog agE := aai aah Tryz.func228 [agi, adC, adf, at9, alL, adI, afR, acq, ann, aoa, amC, afz, ahD] ⟨afB, ac3, adu, avt, ajn, aed, ahv, abD, aqR, aoO, aoY, agc, ah4, trivial⟩ akl ⟨Tryz.func223, trivial⟩ (fun _ => []) [] fun x => by kernel_rfl
noncomputable def aap (y0 : (RunV MV)) (y1 : EnvP) : Option ((Bool × Unit) × ((RunV MV) × EnvP × Unit)) :=
 if 0 ≤ (tlI y0.stack) ∧ (tlI y0.stack) < ((y0.stack.length : Nat) : Int) then
  if y0.line = 16 then
   (aer y1.l (tpI y0.stack)).bind fun r1 =>
   (aa2 y1.m r1.1.1 4).bind fun r2 =>
   (aac y0 17 MV.nil).bind fun r3 =>
   some ((r3.1.1, ()), (r3.2.1, ({ y1 with m := r2.2.1 } : EnvP), ()))
  else
  if y0.line = 17 then
   (anV y1.l (tpI y0.stack)).bind fun r4 =>
   (ask y1.m r4.1.1 0 4294967296).bind fun r5 =>
   (aaC y0 ({ y1 with m := r5.2.1 } : EnvP) (⟨10, 0, tpI y0.stack, 0, 0⟩ : Ev)).bind fun r6 =>
   if r5.1.1 = true then
   (aan r6.2.1).bind fun r7 =>
   some ((r7.1.1, ()), (r7.2.1, r6.2.2.1, ()))
   else
   (aac r6.2.1 18 MV.nil).bind fun r8 =>
   some ((r8.1.1, ()), (r8.2.1, r6.2.2.1, ()))
  else
  if y0.line = 18 then
   (anV y1.l (tpI y0.stack)).bind fun r9 =>
   (aco y1.m r9.1.1).bind fun r10 =>
   if (wi ((wi (r10.1.1)) - 1)) < 0 then
   (aan ({ y0 with waiter := wi ((wi (r10.1.1)) - 1) } : (RunV MV))).bind fun r11 =>
   some ((r11.1.1, ()), (r11.2.1, ({ y1 with m := r10.2.1 } : EnvP), ()))
   else
   if y1.c.tasks ≤ (wi ((wi (r10.1.1)) - 1)) then
   (aan ({ y0 with waiter := wi ((wi (r10.1.1)) - 1) } : (RunV MV))).bind fun r12 =>
   some ((r12.1.1, ()), (r12.2.1, ({ y1 with m := r10.2.1 } : EnvP), ()))
   else
   (ahn y0.worker (wi ((wi (r10.1.1)) - 1))).bind fun r13 =>
   (aac ({ y0 with waiter := wi ((wi (r10.1.1)) - 1) } : (RunV MV)) 19 r13.1.1).bind fun r14 =>
   some ((r14.1.1, ()), (r14.2.1, ({ y1 with m := r10.2.1 } : EnvP), ()))
  else
  (aeK y0.inside y1).bind fun r15 =>
  if (!r15.1.1) = true then
   some ((false, ()), (({ y0 with inside := r15.2.1 } : (RunV MV)), r15.2.2.1, ()))
  else
  (adg r15.2.1).bind fun r16 =>
  if y0.line = 19 then
   if r16.1.1 = 3 then
   (acn y0.worker y0.waiter).bind fun r17 =>
   (aac ({ y0 with inside := r16.2.1 } : (RunV MV)) 21 r17.1.1).bind fun r18 =>
   some ((r18.1.1, ()), (r18.2.1, r15.2.2.1, ()))
   else
   if y0.line = 19 then
   (acJ y0.worker r16.1.2.1).bind fun r19 =>
   (aac ({ y0 with inside := r16.2.1 } : (RunV MV)) 20 r19.1.1).bind fun r20 =>
   some ((r20.1.1, ()), (r20.2.1, r15.2.2.1, ()))
   else
   if y0.line = 21 then
   if r16.1.1 = 1 then
   if 0 ≤ (tlI y0.stack) ∧ (tlI y0.stack) < ((y0.stack.length : Nat) : Int) then
   (aac ({ y0 with stack := y0.stack.set (tlI y0.stack).toNat y0.waiter, inside := r16.2.1 } : (RunV MV)) 0 MV.nil).bind fun r21 =>
   some ((r21.1.1, ()), (r21.2.1, r15.2.2.1, ()))
   else none
   else
   (aan ({ y0 with inside := r16.2.1 } : (RunV MV))).bind fun r22 =>
   some ((r22.1.1, ()), (r22.2.1, r15.2.2.1, ()))
   else
   (aan ({ y0 with inside := r16.2.1 } : (RunV MV))).bind fun r23 =>
   some ((r23.1.1, ()), (r23.2.1, r15.2.2.1, ()))
  else
  if y0.line = 19 then
   (acJ y0.worker r16.1.2.1).bind fun r24 =>
   (aac ({ y0 with inside := r16.2.1 } : (RunV MV)) 20 r24.1.1).bind fun r25 =>
   some ((r25.1.1, ()), (r25.2.1, r15.2.2.1, ()))
  else
  if y0.line = 21 then
   if r16.1.1 = 1 then
   if 0 ≤ (tlI y0.stack) ∧ (tlI y0.stack) < ((y0.stack.length : Nat) : Int) then
   (aac ({ y0 with stack := y0.stack.set (tlI y0.stack).toNat y0.waiter, inside := r16.2.1 } : (RunV MV)) 0 MV.nil).bind fun r26 =>
   some ((r26.1.1, ()), (r26.2.1, r15.2.2.1, ()))
   else none
   else
   (aan ({ y0 with inside := r16.2.1 } : (RunV MV))).bind fun r27 =>
   some ((r27.1.1, ()), (r27.2.1, r15.2.2.1, ()))
  else
  (aan ({ y0 with inside := r16.2.1 } : (RunV MV))).bind fun r28 =>
  some ((r28.1.1, ()), (r28.2.1, r15.2.2.1, ()))
 else none
noncomputable abbrev ahx : Con SR1 := ⟨228, [.ref 33, .ref 27], [.sh .b], fun x => aap x.1 x.2.1⟩
theorem alt (y0 : (RunV MV)) (y1 : EnvP) : afb y0 y1 = aap y0 y1 := by
  unfold afb aap
  simp only [if_true, akh, anb]
theorem als : CO Tryz.prog ahx := ayL akm fun x out hx => (show agE.spec x = some out from (alt x.1 x.2.1).trans hx)
noncomputable def abi (y0 : (RunV MV)) (y1 : EnvP) : Option ((Bool × Unit) × ((RunV MV) × EnvP × Unit)) :=
 (aau y0.o).bind fun r1 =>
 if r1.1.1 = true then
  some ((true, ()), (({ y0 with o := r1.2.1 } : (RunV MV)), y1, ()))
 else
 if 0 ≤ (tlI y0.stack) ∧ (tlI y0.stack) < ((y0.stack.length : Nat) : Int) then
  if (tpI y0.stack) < 0 then
   (aba r1.2.1 4 0).bind fun r2 =>
   some ((r2.1.1, ()), (({ y0 with o := r2.2.1 } : (RunV MV)), y1, ()))
  else
  if y1.c.tasks ≤ (tpI y0.stack) then
   (aba r1.2.1 4 0).bind fun r3 =>
   some ((r3.1.1, ()), (({ y0 with o := r3.2.1 } : (RunV MV)), y1, ()))
  else
  if ((y1.recs.length : Nat) : Int) ≤ (tpI y0.stack) then
   (aba r1.2.1 4 0).bind fun r4 =>
   some ((r4.1.1, ()), (({ y0 with o := r4.2.1 } : (RunV MV)), y1, ()))
  else
  if y0.line = 0 then
   (aeL ({ y0 with o := r1.2.1 } : (RunV MV)) y1).bind fun r5 =>
   if r5.1.1 = 4 then
   (aeJ).bind fun r6 =>
   if r5.1.1 = 1 then
   (aaA ({ r5.2.1 with line := r5.1.1, inside := r6.1.1 } : (RunV MV)) r5.2.2.1).bind fun r7 =>
   some ((r7.1.1, ()), (r7.2.1, r7.2.2.1, ()))
   else
   if r5.1.1 = 2 then
   (aaA ({ r5.2.1 with line := r5.1.1, inside := r6.1.1 } : (RunV MV)) r5.2.2.1).bind fun r8 =>
   some ((r8.1.1, ()), (r8.2.1, r8.2.2.1, ()))
   else
   if r5.1.1 = 3 then
   (aaA ({ r5.2.1 with line := r5.1.1, inside := r6.1.1 } : (RunV MV)) r5.2.2.1).bind fun r9 =>
   some ((r9.1.1, ()), (r9.2.1, r9.2.2.1, ()))
   else
   if 4 ≤ r5.1.1 then
   if r5.1.1 ≤ 8 then
   (abf ({ r5.2.1 with line := r5.1.1, inside := r6.1.1 } : (RunV MV)) r5.2.2.1).bind fun r10 =>
   some ((r10.1.1, ()), (r10.2.1, r10.2.2.1, ()))
   else
   if 9 ≤ r5.1.1 then
   if r5.1.1 ≤ 15 then
   (aaF ({ r5.2.1 with line := r5.1.1, inside := r6.1.1 } : (RunV MV)) r5.2.2.1).bind fun r11 =>
   some ((r11.1.1, ()), (r11.2.1, r11.2.2.1, ()))
   else
   (aap ({ r5.2.1 with line := r5.1.1, inside := r6.1.1 } : (RunV MV)) r5.2.2.1).bind fun r12 =>
   some ((r12.1.1, ()), (r12.2.1, r12.2.2.1, ()))
   else
   (aap ({ r5.2.1 with line := r5.1.1, inside := r6.1.1 } : (RunV MV)) r5.2.2.1).bind fun r13 =>
   some ((r13.1.1, ()), (r13.2.1, r13.2.2.1, ()))
   else
   if 9 ≤ r5.1.1 then
   if r5.1.1 ≤ 15 then
   (aaF ({ r5.2.1 with line := r5.1.1, inside := r6.1.1 } : (RunV MV)) r5.2.2.1).bind fun r14 =>
   some ((r14.1.1, ()), (r14.2.1, r14.2.2.1, ()))
   else
   (aap ({ r5.2.1 with line := r5.1.1, inside := r6.1.1 } : (RunV MV)) r5.2.2.1).bind fun r15 =>
   some ((r15.1.1, ()), (r15.2.1, r15.2.2.1, ()))
   else
   (aap ({ r5.2.1 with line := r5.1.1, inside := r6.1.1 } : (RunV MV)) r5.2.2.1).bind fun r16 =>
   some ((r16.1.1, ()), (r16.2.1, r16.2.2.1, ()))
   else
   if r5.1.1 = 1 then
   (aaA ({ r5.2.1 with line := r5.1.1 } : (RunV MV)) r5.2.2.1).bind fun r17 =>
   some ((r17.1.1, ()), (r17.2.1, r17.2.2.1, ()))
   else
   if r5.1.1 = 2 then
   (aaA ({ r5.2.1 with line := r5.1.1 } : (RunV MV)) r5.2.2.1).bind fun r18 =>
   some ((r18.1.1, ()), (r18.2.1, r18.2.2.1, ()))
   else
   if r5.1.1 = 3 then
   (aaA ({ r5.2.1 with line := r5.1.1 } : (RunV MV)) r5.2.2.1).bind fun r19 =>
   some ((r19.1.1, ()), (r19.2.1, r19.2.2.1, ()))
   else
   if 4 ≤ r5.1.1 then
   if r5.1.1 ≤ 8 then
   (abf ({ r5.2.1 with line := r5.1.1 } : (RunV MV)) r5.2.2.1).bind fun r20 =>
   some ((r20.1.1, ()), (r20.2.1, r20.2.2.1, ()))
   else
   if 9 ≤ r5.1.1 then
   if r5.1.1 ≤ 15 then
   (aaF ({ r5.2.1 with line := r5.1.1 } : (RunV MV)) r5.2.2.1).bind fun r21 =>
   some ((r21.1.1, ()), (r21.2.1, r21.2.2.1, ()))
   else
   (aap ({ r5.2.1 with line := r5.1.1 } : (RunV MV)) r5.2.2.1).bind fun r22 =>
   some ((r22.1.1, ()), (r22.2.1, r22.2.2.1, ()))
   else
   (aap ({ r5.2.1 with line := r5.1.1 } : (RunV MV)) r5.2.2.1).bind fun r23 =>
   some ((r23.1.1, ()), (r23.2.1, r23.2.2.1, ()))
   else
   if 9 ≤ r5.1.1 then
   if r5.1.1 ≤ 15 then
   (aaF ({ r5.2.1 with line := r5.1.1 } : (RunV MV)) r5.2.2.1).bind fun r24 =>
   some ((r24.1.1, ()), (r24.2.1, r24.2.2.1, ()))
   else
   (aap ({ r5.2.1 with line := r5.1.1 } : (RunV MV)) r5.2.2.1).bind fun r25 =>
   some ((r25.1.1, ()), (r25.2.1, r25.2.2.1, ()))
   else
   (aap ({ r5.2.1 with line := r5.1.1 } : (RunV MV)) r5.2.2.1).bind fun r26 =>
   some ((r26.1.1, ()), (r26.2.1, r26.2.2.1, ()))
  else
  if y0.line = 1 then
   (aaA ({ y0 with o := r1.2.1 } : (RunV MV)) y1).bind fun r27 =>
   some ((r27.1.1, ()), (r27.2.1, r27.2.2.1, ()))
  else
  if y0.line = 2 then
   (aaA ({ y0 with o := r1.2.1 } : (RunV MV)) y1).bind fun r28 =>
   some ((r28.1.1, ()), (r28.2.1, r28.2.2.1, ()))
  else
  if y0.line = 3 then
   (aaA ({ y0 with o := r1.2.1 } : (RunV MV)) y1).bind fun r29 =>
   some ((r29.1.1, ()), (r29.2.1, r29.2.2.1, ()))
  else
  if 4 ≤ y0.line then
   if y0.line ≤ 8 then
   (abf ({ y0 with o := r1.2.1 } : (RunV MV)) y1).bind fun r30 =>
   some ((r30.1.1, ()), (r30.2.1, r30.2.2.1, ()))
   else
   if 9 ≤ y0.line then
   if y0.line ≤ 15 then
   (aaF ({ y0 with o := r1.2.1 } : (RunV MV)) y1).bind fun r31 =>
   some ((r31.1.1, ()), (r31.2.1, r31.2.2.1, ()))
   else
   (aap ({ y0 with o := r1.2.1 } : (RunV MV)) y1).bind fun r32 =>
   some ((r32.1.1, ()), (r32.2.1, r32.2.2.1, ()))
   else
   (aap ({ y0 with o := r1.2.1 } : (RunV MV)) y1).bind fun r33 =>
   some ((r33.1.1, ()), (r33.2.1, r33.2.2.1, ()))
  else
  if 9 ≤ y0.line then
   if y0.line ≤ 15 then
   (aaF ({ y0 with o := r1.2.1 } : (RunV MV)) y1).bind fun r34 =>
   some ((r34.1.1, ()), (r34.2.1, r34.2.2.1, ()))
   else
   (aap ({ y0 with o := r1.2.1 } : (RunV MV)) y1).bind fun r35 =>
   some ((r35.1.1, ()), (r35.2.1, r35.2.2.1, ()))
  else
  (aap ({ y0 with o := r1.2.1 } : (RunV MV)) y1).bind fun r36 =>
  some ((r36.1.1, ()), (r36.2.1, r36.2.2.1, ()))
 else none
noncomputable abbrev aoT : Con SR1 := ⟨222, [.ref 33, .ref 27], [.sh .b], fun x => abi x.1 x.2.1⟩
noncomputable def anK : List (Nat × Func) := [(223, Tryz.f223)]
theorem anL : CO Tryz.prog aoT := aai aah Tryz.func222 [abj, acr, ahy, agz, ahu, aiD, aja, ahx] ⟨aa4, abu, alv, aiA, alp, amz, anM, als, trivial⟩ anK ⟨Tryz.func223, trivial⟩ (fun _ => []) [] fun x => by kernel_rfl
noncomputable def adz (m : MV) (e : EnvP) : Option ((Bool × Unit) × (MV × EnvP × Unit)) :=
 match m with
 | .alloc x => (abK x e).bind fun o => some (o.1, (MV.alloc o.2.1, o.2.2))
 | .publish x => (abC x e).bind fun o => some (o.1, (MV.publish o.2.1, o.2.2))
 | .claim x => (acS x e).bind fun o => some (o.1, (MV.claim o.2.1, o.2.2))
 | .attempt x => (acv x e).bind fun o => some (o.1, (MV.attempt o.2.1, o.2.2))
 | .release x => (acu x e).bind fun o => some (o.1, (MV.release o.2.1, o.2.2))
 | .opush x => (adi x e).bind fun o => some (o.1, (MV.opush o.2.1, o.2.2))
 | .opop x => (adJ x e).bind fun o => some (o.1, (MV.opop o.2.1, o.2.2))
 | .steal x => (acR x e).bind fun o => some (o.1, (MV.steal o.2.1, o.2.2))
 | .set x => (adm x e).bind fun o => some (o.1, (MV.set o.2.1, o.2.2))
 | .reset x => (acx x e).bind fun o => some (o.1, (MV.reset o.2.1, o.2.2))
 | .insert x => (aby x e).bind fun o => some (o.1, (MV.insert o.2.1, o.2.2))
 | .remove x => (abx x e).bind fun o => some (o.1, (MV.remove o.2.1, o.2.2))
 | .sleep x => (acK x e).bind fun o => some (o.1, (MV.sleep o.2.1, o.2.2))
 | .wake x => (ac8 x e).bind fun o => some (o.1, (MV.wake o.2.1, o.2.2))
 | .raise x => (ack x e).bind fun o => some (o.1, (MV.raise o.2.1, o.2.2))
 | .probe x => (abg x e).bind fun o => some (o.1, (MV.probe o.2.1, o.2.2))
 | .lpush x => (ach x e).bind fun o => some (o.1, (MV.lpush o.2.1, o.2.2))
 | .lpop x => (acN x e).bind fun o => some (o.1, (MV.lpop o.2.1, o.2.2))
 | .walk x => (abQ x e).bind fun o => some (o.1, (MV.walk o.2.1, o.2.2))
 | .take x => (aeq x e).bind fun o => some (o.1, (MV.take o.2.1, o.2.2))
 | .sweep x => (aay x e).bind fun o => some (o.1, (MV.sweep o.2.1, o.2.2))
 | .enter x => (abN x e).bind fun o => some (o.1, (MV.enter o.2.1, o.2.2))
 | .drain x => (abh x e).bind fun o => some (o.1, (MV.drain o.2.1, o.2.2))
 | .run x => (abi x e).bind fun o => some (o.1, (MV.run o.2.1, o.2.2))
 | _ => none
noncomputable abbrev aqS : Con SR1 := ⟨1000000000, [.mch, .ref 27], [.sh .b], fun x => adz x.1 x.2.1⟩
theorem azQ (m : MV) (xs : ak7 SR1 [.ref 27]) (out : ak9 SR1 [.sh .b] × (MV × ajP SR1 [.ref 27])) (h : adz m xs.1 = some out) : aqc SR1 Tryz.prog 0 [.ref 27] [.sh .b] m xs out := by
  cases m with
  | alloc x => exact aax (.alloc x) xs out h
  | publish x => exact aax (.publish x) xs out h
  | claim x => exact aax (.claim x) xs out h
  | attempt x => exact aax (.attempt x) xs out h
  | release x => exact aax (.release x) xs out h
  | opush x => exact aax (.opush x) xs out h
  | opop x => exact aax (.opop x) xs out h
  | steal x => exact aax (.steal x) xs out h
  | set x => exact aax (.set x) xs out h
  | reset x => exact aax (.reset x) xs out h
  | insert x => exact aax (.insert x) xs out h
  | remove x => exact aax (.remove x) xs out h
  | sleep x => exact aax (.sleep x) xs out h
  | wake x => exact aax (.wake x) xs out h
  | raise x => exact aax (.raise x) xs out h
  | probe x => exact aax (.probe x) xs out h
  | lpush x => exact alg (.lpush x) xs out h
  | lpop x => exact alg (.lpop x) xs out h
  | walk x => exact ajT (.walk x) xs out h
  | take x => exact ajT (.take x) xs out h
  | sweep x => exact ajT (.sweep x) xs out h
  | enter x => exact ajT (.enter x) xs out h
  | drain x => exact ajT (.drain x) xs out h
  | run x => exact aa6 (S := SR1) (ps := [.ref 27]) (rs := [.sh .b]) (c := 33) (mk := MV.run) (fun _ => rfl) rfl (fun _ _ _ _ => by kernel_rfl) anL h
  | _ => cases h
theorem asw : CO Tryz.prog aqS := ajB (S := SR1) (i := 0) (ps := [.ref 27]) (rs := [.sh .b]) (spec := fun m xs => adz m xs.1) azQ
noncomputable def abp (m : MV) : Option ((Int × Int × Unit) × (MV × Unit)) :=
 match m with
 | .alloc x => some ((x.o.code, x.o.value, ()), (MV.alloc x, ()))
 | .publish x => some ((x.o.code, x.o.value, ()), (MV.publish x, ()))
 | .claim x => some ((x.o.code, x.o.value, ()), (MV.claim x, ()))
 | .attempt x => some ((x.o.code, x.o.value, ()), (MV.attempt x, ()))
 | .release x => some ((x.o.code, x.o.value, ()), (MV.release x, ()))
 | .opush x => some ((x.o.code, x.o.value, ()), (MV.opush x, ()))
 | .opop x => some ((x.o.code, x.o.value, ()), (MV.opop x, ()))
 | .steal x => some ((x.o.code, x.o.value, ()), (MV.steal x, ()))
 | .set x => some ((x.o.code, x.o.value, ()), (MV.set x, ()))
 | .reset x => some ((x.o.code, x.o.value, ()), (MV.reset x, ()))
 | .insert x => some ((x.o.code, x.o.value, ()), (MV.insert x, ()))
 | .remove x => some ((x.o.code, x.o.value, ()), (MV.remove x, ()))
 | .sleep x => some ((x.o.code, x.o.value, ()), (MV.sleep x, ()))
 | .wake x => some ((x.o.code, x.o.value, ()), (MV.wake x, ()))
 | .raise x => some ((x.o.code, x.o.value, ()), (MV.raise x, ()))
 | .probe x => some ((x.o.code, x.o.value, ()), (MV.probe x, ()))
 | .lpush x => some ((x.o.code, x.o.value, ()), (MV.lpush x, ()))
 | .lpop x => some ((x.o.code, x.o.value, ()), (MV.lpop x, ()))
 | .walk x => some ((x.o.code, x.o.value, ()), (MV.walk x, ()))
 | .take x => some ((x.o.code, x.o.value, ()), (MV.take x, ()))
 | .sweep x => some ((x.o.code, x.o.value, ()), (MV.sweep x, ()))
 | .enter x => some ((x.o.code, x.o.value, ()), (MV.enter x, ()))
 | .drain x => some ((x.o.code, x.o.value, ()), (MV.drain x, ()))
 | .run x => some ((x.o.code, x.o.value, ()), (MV.run x, ()))
 | _ => none
noncomputable abbrev amB : Con SR1 := ⟨1000000001, [.mch], [.sh sI_, .sh sI_], fun x => abp x.1⟩
theorem awn (m : MV) (xs : ak7 SR1 []) (out : ak9 SR1 [.sh sI_, .sh sI_] × (MV × ajP SR1 [])) (h : abp m = some out) : aqc SR1 Tryz.prog 1 [] [.sh sI_, .sh sI_] m xs out := by
  cases m with
  | alloc x => exact aal (.alloc x) xs out h
  | publish x => exact aal (.publish x) xs out h
  | claim x => exact aal (.claim x) xs out h
  | attempt x => exact aal (.attempt x) xs out h
  | release x => exact aal (.release x) xs out h
  | opush x => exact aal (.opush x) xs out h
  | opop x => exact aal (.opop x) xs out h
  | steal x => exact aal (.steal x) xs out h
  | set x => exact aal (.set x) xs out h
  | reset x => exact aal (.reset x) xs out h
  | insert x => exact aal (.insert x) xs out h
  | remove x => exact aal (.remove x) xs out h
  | sleep x => exact aal (.sleep x) xs out h
  | wake x => exact aal (.wake x) xs out h
  | raise x => exact aal (.raise x) xs out h
  | probe x => exact aal (.probe x) xs out h
  | lpush x => exact ahA (.lpush x) xs out h
  | lpop x => exact ahA (.lpop x) xs out h
  | walk x => exact ags (.walk x) xs out h
  | take x => exact ags (.take x) xs out h
  | sweep x => exact ags (.sweep x) xs out h
  | enter x => exact ags (.enter x) xs out h
  | drain x => exact ags (.drain x) xs out h
  | run x => exact aa6 (S := SR1) (ps := []) (rs := [.sh sI_, .sh sI_]) (c := 33) (mk := MV.run) (f := 161) (sp := fun x => some ((x.1.o.code, x.1.o.value, ()), (x.1, ()))) (fun _ => rfl) rfl (fun _ _ _ _ => by kernel_rfl) (acf [aaX] ⟨aaQ, trivial⟩ fun x => by kernel_rfl) h
  | _ => cases h
theorem aoX : CO Tryz.prog amB := ajB (S := SR1) (i := 1) (ps := []) (rs := [.sh sI_, .sh sI_]) (spec := fun m _ => abp m) awn
noncomputable def aav (y0 : (ClientV MV)) : Option ((Bool × Unit) × ((ClientV MV) × Unit)) :=
 some ((decide (((y0.subs.length : Nat) : Int) ≤ y0.i), ()), (y0, ()))
noncomputable abbrev aeT : Con SR1 := ⟨77, [.ref 30], [.sh .b], fun x => aav x.1⟩
theorem agQ : CO Tryz.prog aeT := aai aah Tryz.func77 [] trivial [] trivial (fun _ => []) [] fun x => by kernel_rfl
noncomputable def akU (y0 : Int) : Option ((MV × Unit) × (Unit)) :=
 some ((MV.attempt (⟨⟨false, 0, 0⟩, y0, false⟩ : AttemptV), ()), (()))
noncomputable abbrev alW : Con SR1 := ⟨118, [.sh sI_], [.sh .mach], fun x => akU x.1⟩
theorem ap8 : CO Tryz.prog alW := aai aah Tryz.func118 [] trivial [] trivial (fun _ => []) [] fun x => by kernel_rfl
noncomputable def ahf (y0 : Int) (y1 : Int) : Option ((MV × Unit) × (Unit)) :=
 some ((MV.insert (⟨⟨false, 0, 0⟩, y0, y1, 1, 0, 0, 0, 0⟩ : InsertV), ()), (()))
noncomputable abbrev aiJ : Con SR1 := ⟨120, [.sh sI_, .sh sI_], [.sh .mach], fun x => ahf x.1 x.2.1⟩
theorem am2 : CO Tryz.prog aiJ := aai aah Tryz.func120 [] trivial [] trivial (fun _ => []) [] fun x => by kernel_rfl
noncomputable def ac0 (y0 : (ClientV MV)) : Option ((MV × Unit) × ((ClientV MV) × Unit)) :=
 if 0 ≤ y0.i ∧ y0.i < ((y0.subs.length : Nat) : Int) then
  if ((ab8 y0.subs y0.i).prog) = ((ab8 y0.subs y0.i).prog) then
   if ((ab8 y0.subs y0.i).level) = ((ab8 y0.subs y0.i).level) then
   if ((ab8 y0.subs y0.i).deadline) = ((ab8 y0.subs y0.i).deadline) then
   if y0.i = y0.i then
   (akU y0.me).bind fun r1 =>
   if y0.line = y0.line then
   if ((ab8 y0.subs y0.i).level) = ((ab8 y0.subs y0.i).level) then
   if y0.me = y0.me then
   if y0.id = y0.id then
   if ((ab8 y0.subs y0.i).deadline) = ((ab8 y0.subs y0.i).deadline) then
   (aeJ).bind fun r2 =>
   if y0.line = y0.line then
   if ((ab8 y0.subs y0.i).level) = ((ab8 y0.subs y0.i).level) then
   if y0.me = y0.me then
   if y0.id = y0.id then
   if ((ab8 y0.subs y0.i).deadline) = ((ab8 y0.subs y0.i).deadline) then
   (ahf ((ab8 y0.subs y0.i).deadline) y0.id).bind fun r3 =>
   if y0.line = y0.line then
   if ((ab8 y0.subs y0.i).level) = ((ab8 y0.subs y0.i).level) then
   if y0.me = y0.me then
   (aff).bind fun r4 =>
   if y0.line = y0.line then
   if ((ab8 y0.subs y0.i).level) = ((ab8 y0.subs y0.i).level) then
   if y0.me = y0.me then
   (acJ y0.me ((ab8 y0.subs y0.i).level)).bind fun r5 =>
   if y0.line = y0.line then
   if y0.line = y0.line then
   if 0 ≤ wi (y0.line - 1) ∧ wi (y0.line - 1) < ((([r1.1.1, MV.nil, r2.1.1, MV.nil, MV.nil, r3.1.1, MV.nil, r4.1.1, r5.1.1] : List MV).length : Nat) : Int) then
   some ((aG6 ([r1.1.1, MV.nil, r2.1.1, MV.nil, MV.nil, r3.1.1, MV.nil, r4.1.1, r5.1.1]) (wi (y0.line - 1)), ()), (y0, ()))
   else none
   else none
   else none
   else none
   else none
   else none
   else none
   else none
   else none
   else none
   else none
   else none
   else none
   else none
   else none
   else none
   else none
   else none
   else none
   else none
   else none
   else none
  else none
 else none
noncomputable abbrev ae7 : Con SR1 := ⟨115, [.ref 30], [.sh .mach], fun x => ac0 x.1⟩
theorem aiq : CO Tryz.prog ae7 := aai aah Tryz.func115 [alW, agz, aiJ, aia, ahD] ⟨ap8, aiA, am2, akC, ah4, trivial⟩ [] trivial (fun _ => []) [] fun x => by kernel_rfl
noncomputable def aak (y0 : (ClientV MV)) (y1 : Int) : Option ((Bool × Unit) × ((ClientV MV) × Unit)) :=
 some ((false, ()), (({ y0 with line := y1, inside := MV.nil, fresh := true } : (ClientV MV)), ()))
noncomputable abbrev adr : Con SR1 := ⟨130, [.ref 30, .sh sI_], [.sh .b], fun x => aak x.1 x.2.1⟩
theorem adU : CO Tryz.prog adr := aai aah Tryz.func130 [] trivial [] trivial (fun _ => []) [] fun x => by kernel_rfl
noncomputable def abz (y0 : (ClientV MV)) (y1 : EnvP) (y2 : Int) : Option ((Bool × Unit) × ((ClientV MV) × EnvP × Unit)) :=
 (adW y1 (⟨2, y0.me, 0, y0.i, y2⟩ : Ev)).bind fun r1 =>
 (aak y0 8).bind fun r2 =>
 some ((r2.1.1, ()), (r2.2.1, r1.2.1, ()))
noncomputable abbrev ad2 : Con SR1 := ⟨125, [.ref 30, .ref 27, .sh sI_], [.sh .b], fun x => abz x.1 x.2.1 x.2.2.1⟩
theorem afL : CO Tryz.prog ad2 := aai aah Tryz.func125 [afe, adr] ⟨aee, adU, trivial⟩ [] trivial (fun _ => []) [] fun x => by kernel_rfl
end
end Go.Proofs.YteapeojalliebaaGreat
