/- The program's machines in the evaluator's form. The program's machines in the evaluator's form. -/
import Derived.Test.YteapeojalliebaaGreatMqak
set_option linter.all false
namespace Go.Proofs.YteapeojalliebaaGreat
section
open Go Go.RowKit
set_option maxRecDepth 100000
variable [Tb]
noncomputable def aaG (y0 : (RunV MV)) (y1 : EnvP) : Option ((Bool × Unit) × ((RunV MV) × EnvP × Unit)) :=
 if 0 ≤ (tlI y0.stack) ∧ (tlI y0.stack) < ((y0.stack.length : Nat) : Int) then
 if 0 ≤ tpI y0.stack ∧ tpI y0.stack < ((y1.recs.length : Nat) : Int) then
 if y0.line = 1 then
 if 0 ≤ (tlI y0.stack) ∧ (tlI y0.stack) < ((y0.stack.length : Nat) : Int) then
 if y1.l.workers = y1.l.workers then
 if y1.l.levels = y1.l.levels then
 if y1.l.classes = y1.l.classes then
 if y1.l.tasks = y1.l.tasks then
 if y1.l.deque = y1.l.deque then
 if y1.l.heap = y1.l.heap then
 if y1.l.sleepers = y1.l.sleepers then
 if y1.l.epochs = y1.l.epochs then
 if y1.l.bitmaps = y1.l.bitmaps then
 if y1.l.queues = y1.l.queues then
 if y1.l.table = y1.l.table then
 (ai6 y1.l (tpI y0.stack)).bind fun r1 =>
 (aa4 y1.m r1.1.1 0).bind fun r2 =>
 (aac y0 0 MV.nil).bind fun r3 =>
 some ((r3.1.1,()),(r3.2.1,({ y1 with m := r2.2.1,recs := y1.recs.set (tpI y0.stack).toNat ({ aab y1.recs (tpI y0.stack) with waiting := (-1) } : RecP) } : EnvP),()))
 else none
 else none
 else none
 else none
 else none
 else none
 else none
 else none
 else none
 else none
 else none
 else none
 else
 if y0.line = 2 then
 if ((aab y1.recs (tpI y0.stack)).left) = 0 then
 if 0 ≤ (tlI y0.stack) ∧ (tlI y0.stack) < ((y0.stack.length : Nat) : Int) then
 if 0 ≤ tpI y0.stack ∧ tpI y0.stack < ((y1.recs.length : Nat) : Int) then
 if ((aab y1.recs (tpI y0.stack)).prog) < 0 then
 if 0 ≤ (tlI y0.stack) ∧ (tlI y0.stack) < ((y0.stack.length : Nat) : Int) then
 if 0 ≤ tpI y0.stack ∧ tpI y0.stack < ((y1.recs.length : Nat) : Int) then
 none
 else none
 else none
 else
 if ((y1.c.progs.length : Nat) : Int) ≤ ((aab y1.recs (tpI y0.stack)).prog) then
 if 0 ≤ (tlI y0.stack) ∧ (tlI y0.stack) < ((y0.stack.length : Nat) : Int) then
 if 0 ≤ tpI y0.stack ∧ tpI y0.stack < ((y1.recs.length : Nat) : Int) then
 none
 else none
 else none
 else
 if 0 ≤ (aab y1.recs (tpI y0.stack)).prog ∧ (aab y1.recs (tpI y0.stack)).prog < ((y1.c.progs.length : Nat) : Int) then
 if 0 ≤ (tlI y0.stack) ∧ (tlI y0.stack) < ((y0.stack.length : Nat) : Int) then
 if 0 ≤ tpI y0.stack ∧ tpI y0.stack < ((y1.recs.length : Nat) : Int) then
 if 0 ≤ (aab y1.recs (tpI y0.stack)).pc ∧ (aab y1.recs (tpI y0.stack)).pc < (((atL [] y1.c.progs ((aab y1.recs (tpI y0.stack)).prog)).length : Nat) : Int) then
 if ((aab ((y1.recs.set (tpI y0.stack).toNat ({ aab y1.recs (tpI y0.stack) with left := (acl (atL [] y1.c.progs ((aab y1.recs (tpI y0.stack)).prog)) ((aab y1.recs (tpI y0.stack)).pc)).a } : RecP)).set (tpI y0.stack).toNat ({ aab (y1.recs.set (tpI y0.stack).toNat ({ aab y1.recs (tpI y0.stack) with left := (acl (atL [] y1.c.progs ((aab y1.recs (tpI y0.stack)).prog)) ((aab y1.recs (tpI y0.stack)).pc)).a } : RecP)) (tpI y0.stack) with left := wi (((aab (y1.recs.set (tpI y0.stack).toNat ({ aab y1.recs (tpI y0.stack) with left := (acl (atL [] y1.c.progs ((aab y1.recs (tpI y0.stack)).prog)) ((aab y1.recs (tpI y0.stack)).pc)).a } : RecP)) (tpI y0.stack)).left) - 1) } : RecP)) (tpI y0.stack)).left) = 0 then
 (aac y0 0 MV.nil).bind fun r4 =>
 some ((r4.1.1,()),(r4.2.1,({ y1 with recs := ((y1.recs.set (tpI y0.stack).toNat ({ aab y1.recs (tpI y0.stack) with left := (acl (atL [] y1.c.progs ((aab y1.recs (tpI y0.stack)).prog)) ((aab y1.recs (tpI y0.stack)).pc)).a } : RecP)).set (tpI y0.stack).toNat ({ aab (y1.recs.set (tpI y0.stack).toNat ({ aab y1.recs (tpI y0.stack) with left := (acl (atL [] y1.c.progs ((aab y1.recs (tpI y0.stack)).prog)) ((aab y1.recs (tpI y0.stack)).pc)).a } : RecP)) (tpI y0.stack) with left := wi (((aab (y1.recs.set (tpI y0.stack).toNat ({ aab y1.recs (tpI y0.stack) with left := (acl (atL [] y1.c.progs ((aab y1.recs (tpI y0.stack)).prog)) ((aab y1.recs (tpI y0.stack)).pc)).a } : RecP)) (tpI y0.stack)).left) - 1) } : RecP)).set (tpI y0.stack).toNat ({ aab ((y1.recs.set (tpI y0.stack).toNat ({ aab y1.recs (tpI y0.stack) with left := (acl (atL [] y1.c.progs ((aab y1.recs (tpI y0.stack)).prog)) ((aab y1.recs (tpI y0.stack)).pc)).a } : RecP)).set (tpI y0.stack).toNat ({ aab (y1.recs.set (tpI y0.stack).toNat ({ aab y1.recs (tpI y0.stack) with left := (acl (atL [] y1.c.progs ((aab y1.recs (tpI y0.stack)).prog)) ((aab y1.recs (tpI y0.stack)).pc)).a } : RecP)) (tpI y0.stack) with left := wi (((aab (y1.recs.set (tpI y0.stack).toNat ({ aab y1.recs (tpI y0.stack) with left := (acl (atL [] y1.c.progs ((aab y1.recs (tpI y0.stack)).prog)) ((aab y1.recs (tpI y0.stack)).pc)).a } : RecP)) (tpI y0.stack)).left) - 1) } : RecP)) (tpI y0.stack) with pc := wi (((aab ((y1.recs.set (tpI y0.stack).toNat ({ aab y1.recs (tpI y0.stack) with left := (acl (atL [] y1.c.progs ((aab y1.recs (tpI y0.stack)).prog)) ((aab y1.recs (tpI y0.stack)).pc)).a } : RecP)).set (tpI y0.stack).toNat ({ aab (y1.recs.set (tpI y0.stack).toNat ({ aab y1.recs (tpI y0.stack) with left := (acl (atL [] y1.c.progs ((aab y1.recs (tpI y0.stack)).prog)) ((aab y1.recs (tpI y0.stack)).pc)).a } : RecP)) (tpI y0.stack) with left := wi (((aab (y1.recs.set (tpI y0.stack).toNat ({ aab y1.recs (tpI y0.stack) with left := (acl (atL [] y1.c.progs ((aab y1.recs (tpI y0.stack)).prog)) ((aab y1.recs (tpI y0.stack)).pc)).a } : RecP)) (tpI y0.stack)).left) - 1) } : RecP)) (tpI y0.stack)).pc) + 1) } : RecP) } : EnvP),()))
 else
 (aac y0 0 MV.nil).bind fun r5 =>
 some ((r5.1.1,()),(r5.2.1,({ y1 with recs := (y1.recs.set (tpI y0.stack).toNat ({ aab y1.recs (tpI y0.stack) with left := (acl (atL [] y1.c.progs ((aab y1.recs (tpI y0.stack)).prog)) ((aab y1.recs (tpI y0.stack)).pc)).a } : RecP)).set (tpI y0.stack).toNat ({ aab (y1.recs.set (tpI y0.stack).toNat ({ aab y1.recs (tpI y0.stack) with left := (acl (atL [] y1.c.progs ((aab y1.recs (tpI y0.stack)).prog)) ((aab y1.recs (tpI y0.stack)).pc)).a } : RecP)) (tpI y0.stack) with left := wi (((aab (y1.recs.set (tpI y0.stack).toNat ({ aab y1.recs (tpI y0.stack) with left := (acl (atL [] y1.c.progs ((aab y1.recs (tpI y0.stack)).prog)) ((aab y1.recs (tpI y0.stack)).pc)).a } : RecP)) (tpI y0.stack)).left) - 1) } : RecP) } : EnvP),()))
 else none
 else none
 else none
 else none
 else none
 else none
 else
 if ((aab (y1.recs.set (tpI y0.stack).toNat ({ aab y1.recs (tpI y0.stack) with left := wi (((aab y1.recs (tpI y0.stack)).left) - 1) } : RecP)) (tpI y0.stack)).left) = 0 then
 (aac y0 0 MV.nil).bind fun r6 =>
 some ((r6.1.1,()),(r6.2.1,({ y1 with recs := (y1.recs.set (tpI y0.stack).toNat ({ aab y1.recs (tpI y0.stack) with left := wi (((aab y1.recs (tpI y0.stack)).left) - 1) } : RecP)).set (tpI y0.stack).toNat ({ aab (y1.recs.set (tpI y0.stack).toNat ({ aab y1.recs (tpI y0.stack) with left := wi (((aab y1.recs (tpI y0.stack)).left) - 1) } : RecP)) (tpI y0.stack) with pc := wi (((aab (y1.recs.set (tpI y0.stack).toNat ({ aab y1.recs (tpI y0.stack) with left := wi (((aab y1.recs (tpI y0.stack)).left) - 1) } : RecP)) (tpI y0.stack)).pc) + 1) } : RecP) } : EnvP),()))
 else
 (aac y0 0 MV.nil).bind fun r7 =>
 some ((r7.1.1,()),(r7.2.1,({ y1 with recs := y1.recs.set (tpI y0.stack).toNat ({ aab y1.recs (tpI y0.stack) with left := wi (((aab y1.recs (tpI y0.stack)).left) - 1) } : RecP) } : EnvP),()))
 else
 (aac y0 0 MV.nil).bind fun r8 =>
 some ((r8.1.1,()),(r8.2.1,({ y1 with recs := y1.recs.set (tpI y0.stack).toNat ({ aab y1.recs (tpI y0.stack) with pc := wi (((aab y1.recs (tpI y0.stack)).pc) + 1) } : RecP) } : EnvP),()))
 else none
 else none
noncomputable abbrev ahB : Con SR1 := ⟨225,[.ref 33,.ref 27],[.sh .b],fun x =>aaG x.1 x.2.1⟩
noncomputable def ak6 : List (Nat × Func) := [(229,Tryz.f229),(223,Tryz.f223),(232,Tryz.f232),(230,Tryz.f230)]
theorem ak7 : CO Tryz.prog ahB := aal aak Tryz.func225 [aoe,adS,adr] ⟨apa,adg,adI,trivial⟩ ak6 ⟨Tryz.func229,Tryz.func223,Tryz.func232,Tryz.func230,trivial⟩ (fun _ =>[]) [] fun x =>by kernel_rfl
noncomputable def aaK (y0 : (RunV MV)) (y1 : EnvP) (y2 : Ev) : Option ((Unit) × ((RunV MV) × EnvP × Unit)) :=
 (aef y1 ({ y2 with worker := y0.worker } : Ev)).bind fun r1 =>
 some ((()),(y0,r1.2.1,()))
noncomputable abbrev adZ : Con SR1 := ⟨235,[.ref 33,.ref 27,.val 2],[],fun x =>aaK x.1 x.2.1 x.2.2.1⟩
theorem aev : CO Tryz.prog adZ := aal aak Tryz.func235 [afu] ⟨aew,trivial⟩ [] trivial (fun _ =>[]) [] fun x =>by kernel_rfl
noncomputable def aiT (y0 : Int) (y1 : Int) : Option ((MV × Unit) × (Unit)) :=
 some ((MV.publish (⟨⟨false,0,0⟩,y0,y1,1⟩ : PublishV),()),())
noncomputable abbrev akk : Con SR1 := ⟨240,[.sh sI_,.sh sI_],[.sh .mach],fun x =>aiT x.1 x.2.1⟩
theorem aoM : CO Tryz.prog akk := aal aak Tryz.func240 [] trivial [] trivial (fun _ =>[]) [] fun x =>by kernel_rfl
noncomputable def acb (y0 : (RunV MV)) (y1 : EnvP) (y2 : Int) (y3 : Int) : Option ((Bool × Unit) × ((RunV MV) × EnvP × Unit)) :=
 if 0 ≤ (tlI y0.stack) ∧ (tlI y0.stack) < ((y0.stack.length : Nat) : Int) then
 if 0 ≤ tpI y0.stack ∧ tpI y0.stack < ((y1.recs.length : Nat) : Int) then
 if 0 ≤ (tlI y0.stack) ∧ (tlI y0.stack) < ((y0.stack.length : Nat) : Int) then
 if 0 ≤ tpI y0.stack ∧ tpI y0.stack < ((y1.recs.length : Nat) : Int) then
 if ((aab y1.recs (tpI y0.stack)).prog) < 0 then
 if 0 ≤ (tlI y0.stack) ∧ (tlI y0.stack) < ((y0.stack.length : Nat) : Int) then
 if 0 ≤ tpI y0.stack ∧ tpI y0.stack < ((y1.recs.length : Nat) : Int) then
 none
 else none
 else none
 else
 if ((y1.c.progs.length : Nat) : Int) ≤ ((aab y1.recs (tpI y0.stack)).prog) then
 if 0 ≤ (tlI y0.stack) ∧ (tlI y0.stack) < ((y0.stack.length : Nat) : Int) then
 if 0 ≤ tpI y0.stack ∧ tpI y0.stack < ((y1.recs.length : Nat) : Int) then
 none
 else none
 else none
 else
 if 0 ≤ (aab y1.recs (tpI y0.stack)).prog ∧ (aab y1.recs (tpI y0.stack)).prog < ((y1.c.progs.length : Nat) : Int) then
 if 0 ≤ (tlI y0.stack) ∧ (tlI y0.stack) < ((y0.stack.length : Nat) : Int) then
 if 0 ≤ tpI y0.stack ∧ tpI y0.stack < ((y1.recs.length : Nat) : Int) then
 if 0 ≤ (aab y1.recs (tpI y0.stack)).pc ∧ (aab y1.recs (tpI y0.stack)).pc < (((atL [] y1.c.progs ((aab y1.recs (tpI y0.stack)).prog)).length : Nat) : Int) then
 if y2 = 3 then
 if (((((aab (y1.recs.set (tpI y0.stack).toNat ({ aab y1.recs (tpI y0.stack) with pc := wi (((aab y1.recs (tpI y0.stack)).pc) + 1) } : RecP)) (tpI y0.stack)).kids).length + ([(-1)] : List Int).length : Nat)) : Int) < 1000000000000 then
 if 0 ≤ (tlI y0.stack) ∧ (tlI y0.stack) < ((y0.stack.length : Nat) : Int) then
 (aaK y0 ({ y1 with recs := (y1.recs.set (tpI y0.stack).toNat ({ aab y1.recs (tpI y0.stack) with pc := wi (((aab y1.recs (tpI y0.stack)).pc) + 1) } : RecP)).set (tpI y0.stack).toNat ({ aab (y1.recs.set (tpI y0.stack).toNat ({ aab y1.recs (tpI y0.stack) with pc := wi (((aab y1.recs (tpI y0.stack)).pc) + 1) } : RecP)) (tpI y0.stack) with kids := ((aab (y1.recs.set (tpI y0.stack).toNat ({ aab y1.recs (tpI y0.stack) with pc := wi (((aab y1.recs (tpI y0.stack)).pc) + 1) } : RecP)) (tpI y0.stack)).kids) ++ ([(-1)]) } : RecP) } : EnvP) (⟨4,0,tpI y0.stack,0,0⟩ : Ev)).bind fun r1 =>
 (aac r1.2.1 0 MV.nil).bind fun r2 =>
 some ((r2.1.1,()),(r2.2.1,r1.2.2.1,()))
 else none
 else none
 else
 if (((((aab (y1.recs.set (tpI y0.stack).toNat ({ aab y1.recs (tpI y0.stack) with pc := wi (((aab y1.recs (tpI y0.stack)).pc) + 1) } : RecP)) (tpI y0.stack)).kids).length + ([y3] : List Int).length : Nat)) : Int) < 1000000000000 then
 if 0 ≤ (tlI y0.stack) ∧ (tlI y0.stack) < ((y0.stack.length : Nat) : Int) then
 if ((acl (atL [] y1.c.progs ((aab y1.recs (tpI y0.stack)).prog)) ((aab y1.recs (tpI y0.stack)).pc)).a) = ((acl (atL [] y1.c.progs ((aab y1.recs (tpI y0.stack)).prog)) ((aab y1.recs (tpI y0.stack)).pc)).a) then
 if 0 ≤ y3 ∧ y3 < ((((y1.recs.set (tpI y0.stack).toNat ({ aab y1.recs (tpI y0.stack) with pc := wi (((aab y1.recs (tpI y0.stack)).pc) + 1) } : RecP)).set (tpI y0.stack).toNat ({ aab (y1.recs.set (tpI y0.stack).toNat ({ aab y1.recs (tpI y0.stack) with pc := wi (((aab y1.recs (tpI y0.stack)).pc) + 1) } : RecP)) (tpI y0.stack) with kids := ((aab (y1.recs.set (tpI y0.stack).toNat ({ aab y1.recs (tpI y0.stack) with pc := wi (((aab y1.recs (tpI y0.stack)).pc) + 1) } : RecP)) (tpI y0.stack)).kids) ++ ([y3]) } : RecP)).length : Nat) : Int) then
 if ((acl (atL [] y1.c.progs ((aab y1.recs (tpI y0.stack)).prog)) ((aab y1.recs (tpI y0.stack)).pc)).b) = ((acl (atL [] y1.c.progs ((aab y1.recs (tpI y0.stack)).prog)) ((aab y1.recs (tpI y0.stack)).pc)).b) then
 (aiT y3 ((acl (atL [] y1.c.progs ((aab y1.recs (tpI y0.stack)).prog)) ((aab y1.recs (tpI y0.stack)).pc)).b)).bind fun r3 =>
 (aac ({ y0 with id := y3,level := (acl (atL [] y1.c.progs ((aab y1.recs (tpI y0.stack)).prog)) ((aab y1.recs (tpI y0.stack)).pc)).b } : (RunV MV)) 5 r3.1.1).bind fun r4 =>
 some ((r4.1.1,()),(r4.2.1,({ y1 with recs := ((y1.recs.set (tpI y0.stack).toNat ({ aab y1.recs (tpI y0.stack) with pc := wi (((aab y1.recs (tpI y0.stack)).pc) + 1) } : RecP)).set (tpI y0.stack).toNat ({ aab (y1.recs.set (tpI y0.stack).toNat ({ aab y1.recs (tpI y0.stack) with pc := wi (((aab y1.recs (tpI y0.stack)).pc) + 1) } : RecP)) (tpI y0.stack) with kids := ((aab (y1.recs.set (tpI y0.stack).toNat ({ aab y1.recs (tpI y0.stack) with pc := wi (((aab y1.recs (tpI y0.stack)).pc) + 1) } : RecP)) (tpI y0.stack)).kids) ++ ([y3]) } : RecP)).set y3.toNat (⟨(acl (atL [] y1.c.progs ((aab y1.recs (tpI y0.stack)).prog)) ((aab y1.recs (tpI y0.stack)).pc)).a,tpI y0.stack,0,0,(-1),[],false⟩ : RecP) } : EnvP),()))
 else none
 else none
 else none
 else none
 else none
 else none
 else none
 else none
 else none
 else none
 else none
 else none
 else none
noncomputable abbrev agk : Con SR1 := ⟨234,[.ref 33,.ref 27,.sh sI_,.sh sI_],[.sh .b],fun x =>acb x.1 x.2.1 x.2.2.1 x.2.2.2.1⟩
noncomputable def aiZ : List (Nat × Func) := [(229,Tryz.f229),(223,Tryz.f223),(232,Tryz.f232),(230,Tryz.f230)]
theorem ai0 : CO Tryz.prog agk := aal aak Tryz.func234 [adZ,adr,akk] ⟨aev,adI,aoM,trivial⟩ aiZ ⟨Tryz.func229,Tryz.func223,Tryz.func232,Tryz.func230,trivial⟩ (fun _ =>[]) [(8,.close)] fun x =>by kernel_rfl
noncomputable def abi (y0 : (RunV MV)) (y1 : EnvP) : Option ((Bool × Unit) × ((RunV MV) × EnvP × Unit)) :=
 (aeT y0.inside y1).bind fun r1 =>
 if (!r1.1.1) = true then
 some ((false,()),(({ y0 with inside := r1.2.1 } : (RunV MV)),r1.2.2.1,()))
 else
 (ads r1.2.1).bind fun r2 =>
 if y0.line = 4 then
 (acb ({ y0 with inside := r2.2.1 } : (RunV MV)) r1.2.2.1 r2.1.1 r2.1.2.1).bind fun r3 =>
 some ((r3.1.1,()),(r3.2.1,r3.2.2.1,()))
 else
 if y0.line = 5 then
 if 0 ≤ (tlI y0.stack) ∧ (tlI y0.stack) < ((y0.stack.length : Nat) : Int) then
 if y0.level = y0.level then
 if y0.id = y0.id then
 (aaK ({ y0 with inside := r2.2.1 } : (RunV MV)) r1.2.2.1 (⟨3,0,y0.id,tpI y0.stack,y0.level⟩ : Ev)).bind fun r4 =>
 (acB r4.2.1.worker r4.2.1.level r4.2.1.id).bind fun r5 =>
 (aac r4.2.1 6 r5.1.1).bind fun r6 =>
 some ((r6.1.1,()),(r6.2.1,r4.2.2.1,()))
 else none
 else none
 else none
 else
 if y0.line = 6 then
 if r2.1.1 = 3 then
 (acz y0.worker y0.id).bind fun r7 =>
 (aac ({ y0 with inside := r2.2.1 } : (RunV MV)) 8 r7.1.1).bind fun r8 =>
 some ((r8.1.1,()),(r8.2.1,r1.2.2.1,()))
 else
 (acY y0.worker y0.level).bind fun r9 =>
 (aac ({ y0 with inside := r2.2.1 } : (RunV MV)) 7 r9.1.1).bind fun r10 =>
 some ((r10.1.1,()),(r10.2.1,r1.2.2.1,()))
 else
 if y0.line = 8 then
 if r2.1.1 = 1 then
 if (((y0.stack.length + ([y0.id] : List Int).length : Nat)) : Int) < 1000000000000 then
 (aac ({ y0 with stack := y0.stack ++ ([y0.id]),inside := r2.2.1 } : (RunV MV)) 0 MV.nil).bind fun r11 =>
 some ((r11.1.1,()),(r11.2.1,r1.2.2.1,()))
 else none
 else
 (aac ({ y0 with inside := r2.2.1 } : (RunV MV)) 0 MV.nil).bind fun r12 =>
 some ((r12.1.1,()),(r12.2.1,r1.2.2.1,()))
 else
 (aac ({ y0 with inside := r2.2.1 } : (RunV MV)) 0 MV.nil).bind fun r13 =>
 some ((r13.1.1,()),(r13.2.1,r1.2.2.1,()))
noncomputable abbrev aiv : Con SR1 := ⟨226,[.ref 33,.ref 27],[.sh .b],fun x =>abi x.1 x.2.1⟩
noncomputable def amp : List (Nat × Func) := [(223,Tryz.f223)]
theorem amq : CO Tryz.prog aiv := aal aak Tryz.func226 [an8,amt,agk,adZ,aeO,adr,afR,ahJ] ⟨aoP,ao2,ai0,aev,aeZ,adI,agp,ah1,trivial⟩ amp ⟨Tryz.func223,trivial⟩ (fun _ =>[]) [] fun x =>by kernel_rfl
noncomputable def ajy (y0 : Int) (y1 : Int) (y2 : Int) : Option ((MV × Unit) × (Unit)) :=
 some ((MV.walk (⟨⟨false,0,0⟩,y0,y1,y2,1,MV.nil⟩ : (WalkV MV)),()),())
noncomputable abbrev ap8 : Con SR1 := ⟨237,[.sh sI_,.sh sI_,.sh sI_],[.sh .mach],fun x =>ajy x.1 x.2.1 x.2.2.1⟩
theorem aul : CO Tryz.prog ap8 := aal aak Tryz.func237 [] trivial [] trivial (fun _ =>[]) [] fun x =>by kernel_rfl
noncomputable def aap (y0 : (RunV MV)) : Option ((Bool × Unit) × ((RunV MV) × Unit)) :=
 if 0 ≤ (tlI y0.stack) ∧ (tlI y0.stack) ≤ ((y0.stack.length : Nat) : Int) then
 if (((y0.stack.take ((tlI y0.stack) : Int).toNat).length : Nat) : Int) = 0 then
 (abe y0.o 0 0).bind fun r1 =>
 some ((r1.1.1,()),(({ y0 with o := r1.2.1,stack := y0.stack.take ((tlI y0.stack) : Int).toNat } : (RunV MV)),()))
 else
 (aac ({ y0 with stack := y0.stack.take ((tlI y0.stack) : Int).toNat } : (RunV MV)) 0 MV.nil).bind fun r2 =>
 some ((r2.1.1,()),(r2.2.1,()))
 else none
noncomputable abbrev af7 : Con SR1 := ⟨238,[.ref 33],[.sh .b],fun x =>aap x.1⟩
theorem ahC : CO Tryz.prog af7 := aal aak Tryz.func238 [acD,adr] ⟨abB,adI,trivial⟩ [] trivial (fun _ =>[]) [] fun x =>by kernel_rfl
noncomputable def agM (y0 : (RunV MV)) (y1 : EnvP) : Option ((Bool × Unit) × ((RunV MV) × EnvP × Unit)) :=
 agr (
 if 0 ≤ (tlI y0.stack) ∧ (tlI y0.stack) < ((y0.stack.length : Nat) : Int) then
 if y1.l.workers = y1.l.workers then
 if y1.l.levels = y1.l.levels then
 if y1.l.classes = y1.l.classes then
 if y1.l.tasks = y1.l.tasks then
 if y1.l.deque = y1.l.deque then
 if y1.l.heap = y1.l.heap then
 if y1.l.sleepers = y1.l.sleepers then
 if y1.l.epochs = y1.l.epochs then
 if y1.l.bitmaps = y1.l.bitmaps then
 if y1.l.queues = y1.l.queues then
 if y1.l.table = y1.l.table then
 if y1.l.workers = y1.l.workers then
 if y1.l.levels = y1.l.levels then
 if y1.l.classes = y1.l.classes then
 if y1.l.tasks = y1.l.tasks then
 if y1.l.deque = y1.l.deque then
 if y1.l.heap = y1.l.heap then
 if y1.l.sleepers = y1.l.sleepers then
 if y1.l.epochs = y1.l.epochs then
 if y1.l.bitmaps = y1.l.bitmaps then
 if y1.l.queues = y1.l.queues then
 if y1.l.table = y1.l.table then
 if y0.line = 9 then
 if 0 ≤ (tlI y0.stack) ∧ (tlI y0.stack) < ((y0.stack.length : Nat) : Int) then
 if 0 ≤ tpI y0.stack ∧ tpI y0.stack < ((y1.recs.length : Nat) : Int) then
 if 0 ≤ (tlI y0.stack) ∧ (tlI y0.stack) < ((y0.stack.length : Nat) : Int) then
 if 0 ≤ tpI y0.stack ∧ tpI y0.stack < ((y1.recs.length : Nat) : Int) then
 if (tpI y0.stack) = (tpI y0.stack) then
 if ((aab y1.recs (tpI y0.stack)).prog) < 0 then
 if 0 ≤ (tlI y0.stack) ∧ (tlI y0.stack) < ((y0.stack.length : Nat) : Int) then
 if 0 ≤ tpI y0.stack ∧ tpI y0.stack < ((y1.recs.length : Nat) : Int) then
 if (tpI y0.stack) = (tpI y0.stack) then
 none
 else none
 else none
 else none
 else
 if ((y1.c.progs.length : Nat) : Int) ≤ ((aab y1.recs (tpI y0.stack)).prog) then
 if 0 ≤ (tlI y0.stack) ∧ (tlI y0.stack) < ((y0.stack.length : Nat) : Int) then
 if 0 ≤ tpI y0.stack ∧ tpI y0.stack < ((y1.recs.length : Nat) : Int) then
 if (tpI y0.stack) = (tpI y0.stack) then
 none
 else none
 else none
 else none
 else
 if 0 ≤ (aab y1.recs (tpI y0.stack)).prog ∧ (aab y1.recs (tpI y0.stack)).prog < ((y1.c.progs.length : Nat) : Int) then
 if 0 ≤ (tlI y0.stack) ∧ (tlI y0.stack) < ((y0.stack.length : Nat) : Int) then
 if 0 ≤ tpI y0.stack ∧ tpI y0.stack < ((y1.recs.length : Nat) : Int) then
 if (tpI y0.stack) = (tpI y0.stack) then
 if 0 ≤ (aab y1.recs (tpI y0.stack)).pc ∧ (aab y1.recs (tpI y0.stack)).pc < (((atL [] y1.c.progs ((aab y1.recs (tpI y0.stack)).prog)).length : Nat) : Int) then
 if 0 ≤ (acl (atL [] y1.c.progs ((aab y1.recs (tpI y0.stack)).prog)) ((aab y1.recs (tpI y0.stack)).pc)).a ∧ (acl (atL [] y1.c.progs ((aab y1.recs (tpI y0.stack)).prog)) ((aab y1.recs (tpI y0.stack)).pc)).a < ((((aab y1.recs (tpI y0.stack)).kids).length : Nat) : Int) then
 (ai6 y1.l (tpI y0.stack)).bind fun r26 =>
 if (aed ((aab y1.recs (tpI y0.stack)).kids) ((acl (atL [] y1.c.progs ((aab y1.recs (tpI y0.stack)).prog)) ((aab y1.recs (tpI y0.stack)).pc)).a)) = (aed ((aab y1.recs (tpI y0.stack)).kids) ((acl (atL [] y1.c.progs ((aab y1.recs (tpI y0.stack)).prog)) ((aab y1.recs (tpI y0.stack)).pc)).a)) then
 (aa4 y1.m r26.1.1 (wu (wi ((aed ((aab y1.recs (tpI y0.stack)).kids) ((acl (atL [] y1.c.progs ((aab y1.recs (tpI y0.stack)).prog)) ((aab y1.recs (tpI y0.stack)).pc)).a)) + 1)))).bind fun r27 =>
 (aac ({ y0 with child := aed ((aab y1.recs (tpI y0.stack)).kids) ((acl (atL [] y1.c.progs ((aab y1.recs (tpI y0.stack)).prog)) ((aab y1.recs (tpI y0.stack)).pc)).a) } : (RunV MV)) (wi (y0.line + 1)) MV.nil).bind fun r28 =>
 some ((r28.1.1,()),(r28.2.1,({ y1 with m := r27.2.1,recs := ((y1.recs.set (tpI y0.stack).toNat (aab y1.recs (tpI y0.stack))).set (tpI y0.stack).toNat ({ aab (y1.recs.set (tpI y0.stack).toNat (aab y1.recs (tpI y0.stack))) (tpI y0.stack) with pc := wi (((aab (y1.recs.set (tpI y0.stack).toNat (aab y1.recs (tpI y0.stack))) (tpI y0.stack)).pc) + 1) } : RecP)).set (tpI y0.stack).toNat ({ aab ((y1.recs.set (tpI y0.stack).toNat (aab y1.recs (tpI y0.stack))).set (tpI y0.stack).toNat ({ aab (y1.recs.set (tpI y0.stack).toNat (aab y1.recs (tpI y0.stack))) (tpI y0.stack) with pc := wi (((aab (y1.recs.set (tpI y0.stack).toNat (aab y1.recs (tpI y0.stack))) (tpI y0.stack)).pc) + 1) } : RecP)) (tpI y0.stack) with waiting := aed ((aab y1.recs (tpI y0.stack)).kids) ((acl (atL [] y1.c.progs ((aab y1.recs (tpI y0.stack)).prog)) ((aab y1.recs (tpI y0.stack)).pc)).a) } : RecP) } : EnvP),()))
 else none
 else none
 else none
 else none
 else none
 else none
 else none
 else none
 else none
 else none
 else none
 else none
 else
 if y0.line = 10 then
 (adT y1.l (tpI y0.stack)).bind fun r29 =>
 (aa4 y1.m r29.1.1 3).bind fun r30 =>
 (aac y0 (wi (y0.line + 1)) MV.nil).bind fun r31 =>
 some ((r31.1.1,()),(r31.2.1,({ y1 with m := r30.2.1 } : EnvP),()))
 else
 if y0.line = 11 then
 (anU y1.l y0.child).bind fun r32 =>
 (as3 y1.m r32.1.1 0 (wu (wi ((tpI y0.stack) + 1)))).bind fun r33 =>
 if (!r33.1.1) = true then
 (aac y0 14 MV.nil).bind fun r34 =>
 some ((r34.1.1,()),(r34.2.1,({ y1 with m := r33.2.1 } : EnvP),()))
 else
 (aaK y0 ({ y1 with m := r33.2.1 } : EnvP) (⟨6,0,tpI y0.stack,y0.child,0⟩ : Ev)).bind fun r35 =>
 (aac r35.2.1 (wi (r35.2.1.line + 1)) MV.nil).bind fun r36 =>
 some ((r36.1.1,()),(r36.2.1,r35.2.2.1,()))
 else
 if y0.line = 12 then
 (afc y1.l (tpI y0.stack)).bind fun r37 =>
 (acA y1.m r37.1.1).bind fun r38 =>
 (ajy y0.worker y0.child (wi (r38.1.1))).bind fun r39 =>
 (aac ({ y0 with level := wi (r38.1.1) } : (RunV MV)) 13 r39.1.1).bind fun r40 =>
 some ((r40.1.1,()),(r40.2.1,({ y1 with m := r38.2.1 } : EnvP),()))
 else
 if y0.line = 13 then
 (aeT y0.inside y1).bind fun r41 =>
 if (!r41.1.1) = true then
 some ((false,()),(({ y0 with inside := r41.2.1 } : (RunV MV)),r41.2.2.1,()))
 else
 (aaK ({ y0 with inside := r41.2.1 } : (RunV MV)) r41.2.2.1 (⟨7,0,tpI y0.stack,0,y0.level⟩ : Ev)).bind fun r42 =>
 (aap r42.2.1).bind fun r43 =>
 some ((r43.1.1,()),(r43.2.1,r42.2.2.1,()))
 else
 if y0.line = 14 then
 (adT y1.l (tpI y0.stack)).bind fun r44 =>
 (aa4 y1.m r44.1.1 2).bind fun r45 =>
 (aac y0 (wi (y0.line + 1)) MV.nil).bind fun r46 =>
 some ((r46.1.1,()),(r46.2.1,({ y1 with m := r45.2.1 } : EnvP),()))
 else
 (ai6 y1.l (tpI y0.stack)).bind fun r47 =>
 (aa4 y1.m r47.1.1 0).bind fun r48 =>
 if 0 ≤ (tlI y0.stack) ∧ (tlI y0.stack) < ((y0.stack.length : Nat) : Int) then
 if 0 ≤ tpI y0.stack ∧ tpI y0.stack < ((y1.recs.length : Nat) : Int) then
 (aaK y0 ({ y1 with m := r48.2.1,recs := y1.recs.set (tpI y0.stack).toNat ({ aab y1.recs (tpI y0.stack) with waiting := (-1) } : RecP) } : EnvP) (⟨8,0,tpI y0.stack,y0.child,0⟩ : Ev)).bind fun r49 =>
 (aac r49.2.1 0 MV.nil).bind fun r50 =>
 some ((r50.1.1,()),(r50.2.1,r49.2.2.1,()))
 else none
 else none
 else none
 else none
 else none
 else none
 else none
 else none
 else none
 else none
 else none
 else none
 else none
 else none
 else none
 else none
 else none
 else none
 else none
 else none
 else none
 else none
 else none
 else none
 else none
 ) (
 if y1.l.workers = y1.l.workers then
 if y1.l.levels = y1.l.levels then
 if y1.l.classes = y1.l.classes then
 if y1.l.tasks = y1.l.tasks then
 if y1.l.deque = y1.l.deque then
 if y1.l.heap = y1.l.heap then
 if y1.l.sleepers = y1.l.sleepers then
 if y1.l.epochs = y1.l.epochs then
 if y1.l.bitmaps = y1.l.bitmaps then
 if y1.l.queues = y1.l.queues then
 if y1.l.table = y1.l.table then
 if 0 ≤ (tlI y0.stack) ∧ (tlI y0.stack) < ((y0.stack.length : Nat) : Int) then
 if y1.l.workers = y1.l.workers then
 if y1.l.levels = y1.l.levels then
 if y1.l.classes = y1.l.classes then
 if y1.l.tasks = y1.l.tasks then
 if y1.l.deque = y1.l.deque then
 if y1.l.heap = y1.l.heap then
 if y1.l.sleepers = y1.l.sleepers then
 if y1.l.epochs = y1.l.epochs then
 if y1.l.bitmaps = y1.l.bitmaps then
 if y1.l.queues = y1.l.queues then
 if y1.l.table = y1.l.table then
 if y0.line = 9 then
 if 0 ≤ (tlI y0.stack) ∧ (tlI y0.stack) < ((y0.stack.length : Nat) : Int) then
 if 0 ≤ tpI y0.stack ∧ tpI y0.stack < ((y1.recs.length : Nat) : Int) then
 if 0 ≤ (tlI y0.stack) ∧ (tlI y0.stack) < ((y0.stack.length : Nat) : Int) then
 if 0 ≤ tpI y0.stack ∧ tpI y0.stack < ((y1.recs.length : Nat) : Int) then
 if (tpI y0.stack) = (tpI y0.stack) then
 if ((aab y1.recs (tpI y0.stack)).prog) < 0 then
 if 0 ≤ (tlI y0.stack) ∧ (tlI y0.stack) < ((y0.stack.length : Nat) : Int) then
 if 0 ≤ tpI y0.stack ∧ tpI y0.stack < ((y1.recs.length : Nat) : Int) then
 if (tpI y0.stack) = (tpI y0.stack) then
 none
 else none
 else none
 else none
 else
 if ((y1.c.progs.length : Nat) : Int) ≤ ((aab y1.recs (tpI y0.stack)).prog) then
 if 0 ≤ (tlI y0.stack) ∧ (tlI y0.stack) < ((y0.stack.length : Nat) : Int) then
 if 0 ≤ tpI y0.stack ∧ tpI y0.stack < ((y1.recs.length : Nat) : Int) then
 if (tpI y0.stack) = (tpI y0.stack) then
 none
 else none
 else none
 else none
 else
 if 0 ≤ (aab y1.recs (tpI y0.stack)).prog ∧ (aab y1.recs (tpI y0.stack)).prog < ((y1.c.progs.length : Nat) : Int) then
 if 0 ≤ (tlI y0.stack) ∧ (tlI y0.stack) < ((y0.stack.length : Nat) : Int) then
 if 0 ≤ tpI y0.stack ∧ tpI y0.stack < ((y1.recs.length : Nat) : Int) then
 if (tpI y0.stack) = (tpI y0.stack) then
 if 0 ≤ (aab y1.recs (tpI y0.stack)).pc ∧ (aab y1.recs (tpI y0.stack)).pc < (((atL [] y1.c.progs ((aab y1.recs (tpI y0.stack)).prog)).length : Nat) : Int) then
 if 0 ≤ (acl (atL [] y1.c.progs ((aab y1.recs (tpI y0.stack)).prog)) ((aab y1.recs (tpI y0.stack)).pc)).a ∧ (acl (atL [] y1.c.progs ((aab y1.recs (tpI y0.stack)).prog)) ((aab y1.recs (tpI y0.stack)).pc)).a < ((((aab y1.recs (tpI y0.stack)).kids).length : Nat) : Int) then
 (ai6 y1.l (tpI y0.stack)).bind fun r1 =>
 if (aed ((aab y1.recs (tpI y0.stack)).kids) ((acl (atL [] y1.c.progs ((aab y1.recs (tpI y0.stack)).prog)) ((aab y1.recs (tpI y0.stack)).pc)).a)) = (aed ((aab y1.recs (tpI y0.stack)).kids) ((acl (atL [] y1.c.progs ((aab y1.recs (tpI y0.stack)).prog)) ((aab y1.recs (tpI y0.stack)).pc)).a)) then
 (aa4 y1.m r1.1.1 (wu (wi ((aed ((aab y1.recs (tpI y0.stack)).kids) ((acl (atL [] y1.c.progs ((aab y1.recs (tpI y0.stack)).prog)) ((aab y1.recs (tpI y0.stack)).pc)).a)) + 1)))).bind fun r2 =>
 (aac ({ y0 with child := aed ((aab y1.recs (tpI y0.stack)).kids) ((acl (atL [] y1.c.progs ((aab y1.recs (tpI y0.stack)).prog)) ((aab y1.recs (tpI y0.stack)).pc)).a) } : (RunV MV)) (wi (y0.line + 1)) MV.nil).bind fun r3 =>
 some ((r3.1.1,()),(r3.2.1,({ y1 with m := r2.2.1,recs := ((y1.recs.set (tpI y0.stack).toNat (aab y1.recs (tpI y0.stack))).set (tpI y0.stack).toNat ({ aab (y1.recs.set (tpI y0.stack).toNat (aab y1.recs (tpI y0.stack))) (tpI y0.stack) with pc := wi (((aab (y1.recs.set (tpI y0.stack).toNat (aab y1.recs (tpI y0.stack))) (tpI y0.stack)).pc) + 1) } : RecP)).set (tpI y0.stack).toNat ({ aab ((y1.recs.set (tpI y0.stack).toNat (aab y1.recs (tpI y0.stack))).set (tpI y0.stack).toNat ({ aab (y1.recs.set (tpI y0.stack).toNat (aab y1.recs (tpI y0.stack))) (tpI y0.stack) with pc := wi (((aab (y1.recs.set (tpI y0.stack).toNat (aab y1.recs (tpI y0.stack))) (tpI y0.stack)).pc) + 1) } : RecP)) (tpI y0.stack) with waiting := aed ((aab y1.recs (tpI y0.stack)).kids) ((acl (atL [] y1.c.progs ((aab y1.recs (tpI y0.stack)).prog)) ((aab y1.recs (tpI y0.stack)).pc)).a) } : RecP) } : EnvP),()))
 else none
 else none
 else none
 else none
 else none
 else none
 else none
 else none
 else none
 else none
 else none
 else none
 else
 if y0.line = 10 then
 (adT y1.l (tpI y0.stack)).bind fun r4 =>
 (aa4 y1.m r4.1.1 3).bind fun r5 =>
 (aac y0 (wi (y0.line + 1)) MV.nil).bind fun r6 =>
 some ((r6.1.1,()),(r6.2.1,({ y1 with m := r5.2.1 } : EnvP),()))
 else
 if y0.line = 11 then
 (anU y1.l y0.child).bind fun r7 =>
 (as3 y1.m r7.1.1 0 (wu (wi ((tpI y0.stack) + 1)))).bind fun r8 =>
 if (!r8.1.1) = true then
 (aac y0 14 MV.nil).bind fun r9 =>
 some ((r9.1.1,()),(r9.2.1,({ y1 with m := r8.2.1 } : EnvP),()))
 else
 (aaK y0 ({ y1 with m := r8.2.1 } : EnvP) (⟨6,0,tpI y0.stack,y0.child,0⟩ : Ev)).bind fun r10 =>
 (aac r10.2.1 (wi (r10.2.1.line + 1)) MV.nil).bind fun r11 =>
 some ((r11.1.1,()),(r11.2.1,r10.2.2.1,()))
 else
 if y0.line = 12 then
 (afc y1.l (tpI y0.stack)).bind fun r12 =>
 (acA y1.m r12.1.1).bind fun r13 =>
 (ajy y0.worker y0.child (wi (r13.1.1))).bind fun r14 =>
 (aac ({ y0 with level := wi (r13.1.1) } : (RunV MV)) 13 r14.1.1).bind fun r15 =>
 some ((r15.1.1,()),(r15.2.1,({ y1 with m := r13.2.1 } : EnvP),()))
 else
 if y0.line = 13 then
 (aeT y0.inside y1).bind fun r16 =>
 if (!r16.1.1) = true then
 some ((false,()),(({ y0 with inside := r16.2.1 } : (RunV MV)),r16.2.2.1,()))
 else
 (aaK ({ y0 with inside := r16.2.1 } : (RunV MV)) r16.2.2.1 (⟨7,0,tpI y0.stack,0,y0.level⟩ : Ev)).bind fun r17 =>
 (aap r17.2.1).bind fun r18 =>
 some ((r18.1.1,()),(r18.2.1,r17.2.2.1,()))
 else
 if y0.line = 14 then
 (adT y1.l (tpI y0.stack)).bind fun r19 =>
 (aa4 y1.m r19.1.1 2).bind fun r20 =>
 (aac y0 (wi (y0.line + 1)) MV.nil).bind fun r21 =>
 some ((r21.1.1,()),(r21.2.1,({ y1 with m := r20.2.1 } : EnvP),()))
 else
 (ai6 y1.l (tpI y0.stack)).bind fun r22 =>
 (aa4 y1.m r22.1.1 0).bind fun r23 =>
 if 0 ≤ (tlI y0.stack) ∧ (tlI y0.stack) < ((y0.stack.length : Nat) : Int) then
 if 0 ≤ tpI y0.stack ∧ tpI y0.stack < ((y1.recs.length : Nat) : Int) then
 (aaK y0 ({ y1 with m := r23.2.1,recs := y1.recs.set (tpI y0.stack).toNat ({ aab y1.recs (tpI y0.stack) with waiting := (-1) } : RecP) } : EnvP) (⟨8,0,tpI y0.stack,y0.child,0⟩ : Ev)).bind fun r24 =>
 (aac r24.2.1 0 MV.nil).bind fun r25 =>
 some ((r25.1.1,()),(r25.2.1,r24.2.2.1,()))
 else none
 else none
 else none
 else none
 else none
 else none
 else none
 else none
 else none
 else none
 else none
 else none
 else none
 else none
 else none
 else none
 else none
 else none
 else none
 else none
 else none
 else none
 else none
 else none
 else none
 )
noncomputable abbrev ahD : Con SR1 := ⟨227,[.ref 33,.ref 27],[.sh .b],fun x =>agM x.1 x.2.1⟩
noncomputable def ak8 : List (Nat × Func) := [(223,Tryz.f223),(229,Tryz.f229),(232,Tryz.f232),(230,Tryz.f230)]
theorem ak9 : CO Tryz.prog ahD := aal aak Tryz.func227 [aoe,adS,adr,ad9,auY,alu,adZ,agt,acC,ap8,an8,af7] ⟨apa,adg,adI,adD,awi,ajc,aev,afS,abR,aul,aoP,ahC,trivial⟩ ak8 ⟨Tryz.func223,Tryz.func229,Tryz.func232,Tryz.func230,trivial⟩ (fun _ =>[]) [] fun x =>by kernel_rfl
noncomputable def aaN (y0 : (RunV MV)) (y1 : EnvP) : Option ((Bool × Unit) × ((RunV MV) × EnvP × Unit)) :=
 if 0 ≤ (tlI y0.stack) ∧ (tlI y0.stack) < ((y0.stack.length : Nat) : Int) then
 if y0.line = 9 then
 if 0 ≤ (tlI y0.stack) ∧ (tlI y0.stack) < ((y0.stack.length : Nat) : Int) then
 if 0 ≤ tpI y0.stack ∧ tpI y0.stack < ((y1.recs.length : Nat) : Int) then
 if 0 ≤ (tlI y0.stack) ∧ (tlI y0.stack) < ((y0.stack.length : Nat) : Int) then
 if 0 ≤ tpI y0.stack ∧ tpI y0.stack < ((y1.recs.length : Nat) : Int) then
 if ((aab y1.recs (tpI y0.stack)).prog) < 0 then
 if 0 ≤ (tlI y0.stack) ∧ (tlI y0.stack) < ((y0.stack.length : Nat) : Int) then
 if 0 ≤ tpI y0.stack ∧ tpI y0.stack < ((y1.recs.length : Nat) : Int) then
 none
 else none
 else none
 else
 if ((y1.c.progs.length : Nat) : Int) ≤ ((aab y1.recs (tpI y0.stack)).prog) then
 if 0 ≤ (tlI y0.stack) ∧ (tlI y0.stack) < ((y0.stack.length : Nat) : Int) then
 if 0 ≤ tpI y0.stack ∧ tpI y0.stack < ((y1.recs.length : Nat) : Int) then
 none
 else none
 else none
 else
 if 0 ≤ (aab y1.recs (tpI y0.stack)).prog ∧ (aab y1.recs (tpI y0.stack)).prog < ((y1.c.progs.length : Nat) : Int) then
 if 0 ≤ (tlI y0.stack) ∧ (tlI y0.stack) < ((y0.stack.length : Nat) : Int) then
 if 0 ≤ tpI y0.stack ∧ tpI y0.stack < ((y1.recs.length : Nat) : Int) then
 if 0 ≤ (aab y1.recs (tpI y0.stack)).pc ∧ (aab y1.recs (tpI y0.stack)).pc < (((atL [] y1.c.progs ((aab y1.recs (tpI y0.stack)).prog)).length : Nat) : Int) then
 if 0 ≤ (acl (atL [] y1.c.progs ((aab y1.recs (tpI y0.stack)).prog)) ((aab y1.recs (tpI y0.stack)).pc)).a ∧ (acl (atL [] y1.c.progs ((aab y1.recs (tpI y0.stack)).prog)) ((aab y1.recs (tpI y0.stack)).pc)).a < ((((aab y1.recs (tpI y0.stack)).kids).length : Nat) : Int) then
 (ai6 y1.l (tpI y0.stack)).bind fun r1 =>
 (aa4 y1.m r1.1.1 (wu (wi ((aed ((aab y1.recs (tpI y0.stack)).kids) ((acl (atL [] y1.c.progs ((aab y1.recs (tpI y0.stack)).prog)) ((aab y1.recs (tpI y0.stack)).pc)).a)) + 1)))).bind fun r2 =>
 (aac ({ y0 with child := aed ((aab y1.recs (tpI y0.stack)).kids) ((acl (atL [] y1.c.progs ((aab y1.recs (tpI y0.stack)).prog)) ((aab y1.recs (tpI y0.stack)).pc)).a) } : (RunV MV)) (wi (y0.line + 1)) MV.nil).bind fun r3 =>
 some ((r3.1.1,()),(r3.2.1,({ y1 with m := r2.2.1,recs := ((y1.recs.set (tpI y0.stack).toNat (aab y1.recs (tpI y0.stack))).set (tpI y0.stack).toNat ({ aab (y1.recs.set (tpI y0.stack).toNat (aab y1.recs (tpI y0.stack))) (tpI y0.stack) with pc := wi (((aab (y1.recs.set (tpI y0.stack).toNat (aab y1.recs (tpI y0.stack))) (tpI y0.stack)).pc) + 1) } : RecP)).set (tpI y0.stack).toNat ({ aab ((y1.recs.set (tpI y0.stack).toNat (aab y1.recs (tpI y0.stack))).set (tpI y0.stack).toNat ({ aab (y1.recs.set (tpI y0.stack).toNat (aab y1.recs (tpI y0.stack))) (tpI y0.stack) with pc := wi (((aab (y1.recs.set (tpI y0.stack).toNat (aab y1.recs (tpI y0.stack))) (tpI y0.stack)).pc) + 1) } : RecP)) (tpI y0.stack) with waiting := aed ((aab y1.recs (tpI y0.stack)).kids) ((acl (atL [] y1.c.progs ((aab y1.recs (tpI y0.stack)).prog)) ((aab y1.recs (tpI y0.stack)).pc)).a) } : RecP) } : EnvP),()))
 else none
 else none
 else none
 else none
 else none
 else none
 else none
 else none
 else none
 else
 if y0.line = 10 then
 (adT y1.l (tpI y0.stack)).bind fun r4 =>
 (aa4 y1.m r4.1.1 3).bind fun r5 =>
 (aac y0 (wi (y0.line + 1)) MV.nil).bind fun r6 =>
 some ((r6.1.1,()),(r6.2.1,({ y1 with m := r5.2.1 } : EnvP),()))
 else
 if y0.line = 11 then
 (anU y1.l y0.child).bind fun r7 =>
 (as3 y1.m r7.1.1 0 (wu (wi ((tpI y0.stack) + 1)))).bind fun r8 =>
 if (!r8.1.1) = true then
 (aac y0 14 MV.nil).bind fun r9 =>
 some ((r9.1.1,()),(r9.2.1,({ y1 with m := r8.2.1 } : EnvP),()))
 else
 (aaK y0 ({ y1 with m := r8.2.1 } : EnvP) (⟨6,0,tpI y0.stack,y0.child,0⟩ : Ev)).bind fun r10 =>
 (aac r10.2.1 (wi (r10.2.1.line + 1)) MV.nil).bind fun r11 =>
 some ((r11.1.1,()),(r11.2.1,r10.2.2.1,()))
 else
 if y0.line = 12 then
 (afc y1.l (tpI y0.stack)).bind fun r12 =>
 (acA y1.m r12.1.1).bind fun r13 =>
 (ajy y0.worker y0.child (wi (r13.1.1))).bind fun r14 =>
 (aac ({ y0 with level := wi (r13.1.1) } : (RunV MV)) 13 r14.1.1).bind fun r15 =>
 some ((r15.1.1,()),(r15.2.1,({ y1 with m := r13.2.1 } : EnvP),()))
 else
 if y0.line = 13 then
 (aeT y0.inside y1).bind fun r16 =>
 if (!r16.1.1) = true then
 some ((false,()),(({ y0 with inside := r16.2.1 } : (RunV MV)),r16.2.2.1,()))
 else
 (aaK ({ y0 with inside := r16.2.1 } : (RunV MV)) r16.2.2.1 (⟨7,0,tpI y0.stack,0,y0.level⟩ : Ev)).bind fun r17 =>
 (aap r17.2.1).bind fun r18 =>
 some ((r18.1.1,()),(r18.2.1,r17.2.2.1,()))
 else
 if y0.line = 14 then
 (adT y1.l (tpI y0.stack)).bind fun r19 =>
 (aa4 y1.m r19.1.1 2).bind fun r20 =>
 (aac y0 (wi (y0.line + 1)) MV.nil).bind fun r21 =>
 some ((r21.1.1,()),(r21.2.1,({ y1 with m := r20.2.1 } : EnvP),()))
 else
 (ai6 y1.l (tpI y0.stack)).bind fun r22 =>
 (aa4 y1.m r22.1.1 0).bind fun r23 =>
 if 0 ≤ (tlI y0.stack) ∧ (tlI y0.stack) < ((y0.stack.length : Nat) : Int) then
 if 0 ≤ tpI y0.stack ∧ tpI y0.stack < ((y1.recs.length : Nat) : Int) then
 (aaK y0 ({ y1 with m := r23.2.1,recs := y1.recs.set (tpI y0.stack).toNat ({ aab y1.recs (tpI y0.stack) with waiting := (-1) } : RecP) } : EnvP) (⟨8,0,tpI y0.stack,y0.child,0⟩ : Ev)).bind fun r24 =>
 (aac r24.2.1 0 MV.nil).bind fun r25 =>
 some ((r25.1.1,()),(r25.2.1,r24.2.2.1,()))
 else none
 else none
 else none
noncomputable abbrev aiY : Con SR1 := ⟨227,[.ref 33,.ref 27],[.sh .b],fun x =>aaN x.1 x.2.1⟩
theorem anM (y0 : (RunV MV)) (y1 : EnvP) : agM y0 y1 = aaN y0 y1 := by
 unfold agM aaN
 simp only [if_true,asQ,am9]
theorem anL : CO Tryz.prog aiY := aFA ak9 fun x out hx =>(show ahD.spec x = some out from (anM x.1 x.2.1).trans hx)
noncomputable def ahu (y0 : Int) (y1 : Int) : Option ((MV × Unit) × (Unit)) :=
 some ((MV.enter (⟨⟨false,0,0⟩,y0,y1,0,1,MV.nil⟩ : (EnterV MV)),()),())
noncomputable abbrev anl : Con SR1 := ⟨239,[.sh sI_,.sh sI_],[.sh .mach],fun x =>ahu x.1 x.2.1⟩
theorem ard : CO Tryz.prog anl := aal aak Tryz.func239 [] trivial [] trivial (fun _ =>[]) [] fun x =>by kernel_rfl
noncomputable def afr (y0 : (RunV MV)) (y1 : EnvP) : Option ((Bool × Unit) × ((RunV MV) × EnvP × Unit)) :=
 agr (
 if 0 ≤ (tlI y0.stack) ∧ (tlI y0.stack) < ((y0.stack.length : Nat) : Int) then
 if y1.l.workers = y1.l.workers then
 if y1.l.levels = y1.l.levels then
 if y1.l.classes = y1.l.classes then
 if y1.l.tasks = y1.l.tasks then
 if y1.l.deque = y1.l.deque then
 if y1.l.heap = y1.l.heap then
 if y1.l.sleepers = y1.l.sleepers then
 if y1.l.epochs = y1.l.epochs then
 if y1.l.bitmaps = y1.l.bitmaps then
 if y1.l.queues = y1.l.queues then
 if y1.l.table = y1.l.table then
 if y1.l.workers = y1.l.workers then
 if y1.l.levels = y1.l.levels then
 if y1.l.classes = y1.l.classes then
 if y1.l.tasks = y1.l.tasks then
 if y1.l.deque = y1.l.deque then
 if y1.l.heap = y1.l.heap then
 if y1.l.sleepers = y1.l.sleepers then
 if y1.l.epochs = y1.l.epochs then
 if y1.l.bitmaps = y1.l.bitmaps then
 if y1.l.queues = y1.l.queues then
 if y1.l.table = y1.l.table then
 if y0.line = 16 then
 (adT y1.l (tpI y0.stack)).bind fun r29 =>
 (aa4 y1.m r29.1.1 4).bind fun r30 =>
 (aac y0 17 MV.nil).bind fun r31 =>
 some ((r31.1.1,()),(r31.2.1,({ y1 with m := r30.2.1 } : EnvP),()))
 else
 if y0.line = 17 then
 (anU y1.l (tpI y0.stack)).bind fun r32 =>
 (as3 y1.m r32.1.1 0 4294967296).bind fun r33 =>
 (aaK y0 ({ y1 with m := r33.2.1 } : EnvP) (⟨10,0,tpI y0.stack,0,0⟩ : Ev)).bind fun r34 =>
 if r33.1.1 = true then
 (aap r34.2.1).bind fun r35 =>
 some ((r35.1.1,()),(r35.2.1,r34.2.2.1,()))
 else
 (aac r34.2.1 18 MV.nil).bind fun r36 =>
 some ((r36.1.1,()),(r36.2.1,r34.2.2.1,()))
 else
 if y0.line = 18 then
 (anU y1.l (tpI y0.stack)).bind fun r37 =>
 (acA y1.m r37.1.1).bind fun r38 =>
 if (wi ((wi (r38.1.1)) - 1)) < 0 then
 (aap ({ y0 with waiter := wi ((wi (r38.1.1)) - 1) } : (RunV MV))).bind fun r39 =>
 some ((r39.1.1,()),(r39.2.1,({ y1 with m := r38.2.1 } : EnvP),()))
 else
 if y1.c.tasks ≤ (wi ((wi (r38.1.1)) - 1)) then
 (aap ({ y0 with waiter := wi ((wi (r38.1.1)) - 1) } : (RunV MV))).bind fun r40 =>
 some ((r40.1.1,()),(r40.2.1,({ y1 with m := r38.2.1 } : EnvP),()))
 else
 (ahu y0.worker (wi ((wi (r38.1.1)) - 1))).bind fun r41 =>
 (aac ({ y0 with waiter := wi ((wi (r38.1.1)) - 1) } : (RunV MV)) 19 r41.1.1).bind fun r42 =>
 some ((r42.1.1,()),(r42.2.1,({ y1 with m := r38.2.1 } : EnvP),()))
 else
 (aeT y0.inside y1).bind fun r43 =>
 if (!r43.1.1) = true then
 some ((false,()),(({ y0 with inside := r43.2.1 } : (RunV MV)),r43.2.2.1,()))
 else
 (ads r43.2.1).bind fun r44 =>
 if y0.line = 19 then
 if r44.1.1 = 3 then
 (acz y0.worker y0.waiter).bind fun r45 =>
 (aac ({ y0 with inside := r44.2.1 } : (RunV MV)) 21 r45.1.1).bind fun r46 =>
 some ((r46.1.1,()),(r46.2.1,r43.2.2.1,()))
 else
 if y0.line = 19 then
 (acY y0.worker r44.1.2.1).bind fun r47 =>
 (aac ({ y0 with inside := r44.2.1 } : (RunV MV)) 20 r47.1.1).bind fun r48 =>
 some ((r48.1.1,()),(r48.2.1,r43.2.2.1,()))
 else
 if y0.line = 21 then
 if r44.1.1 = 1 then
 if 0 ≤ (tlI y0.stack) ∧ (tlI y0.stack) < ((y0.stack.length : Nat) : Int) then
 (aac ({ y0 with stack := y0.stack.set (tlI y0.stack).toNat y0.waiter,inside := r44.2.1 } : (RunV MV)) 0 MV.nil).bind fun r49 =>
 some ((r49.1.1,()),(r49.2.1,r43.2.2.1,()))
 else none
 else
 (aap ({ y0 with inside := r44.2.1 } : (RunV MV))).bind fun r50 =>
 some ((r50.1.1,()),(r50.2.1,r43.2.2.1,()))
 else
 (aap ({ y0 with inside := r44.2.1 } : (RunV MV))).bind fun r51 =>
 some ((r51.1.1,()),(r51.2.1,r43.2.2.1,()))
 else
 if y0.line = 19 then
 (acY y0.worker r44.1.2.1).bind fun r52 =>
 (aac ({ y0 with inside := r44.2.1 } : (RunV MV)) 20 r52.1.1).bind fun r53 =>
 some ((r53.1.1,()),(r53.2.1,r43.2.2.1,()))
 else
 if y0.line = 21 then
 if r44.1.1 = 1 then
 if 0 ≤ (tlI y0.stack) ∧ (tlI y0.stack) < ((y0.stack.length : Nat) : Int) then
 (aac ({ y0 with stack := y0.stack.set (tlI y0.stack).toNat y0.waiter,inside := r44.2.1 } : (RunV MV)) 0 MV.nil).bind fun r54 =>
 some ((r54.1.1,()),(r54.2.1,r43.2.2.1,()))
 else none
 else
 (aap ({ y0 with inside := r44.2.1 } : (RunV MV))).bind fun r55 =>
 some ((r55.1.1,()),(r55.2.1,r43.2.2.1,()))
 else
 (aap ({ y0 with inside := r44.2.1 } : (RunV MV))).bind fun r56 =>
 some ((r56.1.1,()),(r56.2.1,r43.2.2.1,()))
 else none
 else none
 else none
 else none
 else none
 else none
 else none
 else none
 else none
 else none
 else none
 else none
 else none
 else none
 else none
 else none
 else none
 else none
 else none
 else none
 else none
 else none
 else none
 ) (
 if y1.l.workers = y1.l.workers then
 if y1.l.levels = y1.l.levels then
 if y1.l.classes = y1.l.classes then
 if y1.l.tasks = y1.l.tasks then
 if y1.l.deque = y1.l.deque then
 if y1.l.heap = y1.l.heap then
 if y1.l.sleepers = y1.l.sleepers then
 if y1.l.epochs = y1.l.epochs then
 if y1.l.bitmaps = y1.l.bitmaps then
 if y1.l.queues = y1.l.queues then
 if y1.l.table = y1.l.table then
 if 0 ≤ (tlI y0.stack) ∧ (tlI y0.stack) < ((y0.stack.length : Nat) : Int) then
 if y1.l.workers = y1.l.workers then
 if y1.l.levels = y1.l.levels then
 if y1.l.classes = y1.l.classes then
 if y1.l.tasks = y1.l.tasks then
 if y1.l.deque = y1.l.deque then
 if y1.l.heap = y1.l.heap then
 if y1.l.sleepers = y1.l.sleepers then
 if y1.l.epochs = y1.l.epochs then
 if y1.l.bitmaps = y1.l.bitmaps then
 if y1.l.queues = y1.l.queues then
 if y1.l.table = y1.l.table then
 if y0.line = 16 then
 (adT y1.l (tpI y0.stack)).bind fun r1 =>
 (aa4 y1.m r1.1.1 4).bind fun r2 =>
 (aac y0 17 MV.nil).bind fun r3 =>
 some ((r3.1.1,()),(r3.2.1,({ y1 with m := r2.2.1 } : EnvP),()))
 else
 if y0.line = 17 then
 (anU y1.l (tpI y0.stack)).bind fun r4 =>
 (as3 y1.m r4.1.1 0 4294967296).bind fun r5 =>
 (aaK y0 ({ y1 with m := r5.2.1 } : EnvP) (⟨10,0,tpI y0.stack,0,0⟩ : Ev)).bind fun r6 =>
 if r5.1.1 = true then
 (aap r6.2.1).bind fun r7 =>
 some ((r7.1.1,()),(r7.2.1,r6.2.2.1,()))
 else
 (aac r6.2.1 18 MV.nil).bind fun r8 =>
 some ((r8.1.1,()),(r8.2.1,r6.2.2.1,()))
 else
 if y0.line = 18 then
 (anU y1.l (tpI y0.stack)).bind fun r9 =>
 (acA y1.m r9.1.1).bind fun r10 =>
 if (wi ((wi (r10.1.1)) - 1)) < 0 then
 (aap ({ y0 with waiter := wi ((wi (r10.1.1)) - 1) } : (RunV MV))).bind fun r11 =>
 some ((r11.1.1,()),(r11.2.1,({ y1 with m := r10.2.1 } : EnvP),()))
 else
 if y1.c.tasks ≤ (wi ((wi (r10.1.1)) - 1)) then
 (aap ({ y0 with waiter := wi ((wi (r10.1.1)) - 1) } : (RunV MV))).bind fun r12 =>
 some ((r12.1.1,()),(r12.2.1,({ y1 with m := r10.2.1 } : EnvP),()))
 else
 (ahu y0.worker (wi ((wi (r10.1.1)) - 1))).bind fun r13 =>
 (aac ({ y0 with waiter := wi ((wi (r10.1.1)) - 1) } : (RunV MV)) 19 r13.1.1).bind fun r14 =>
 some ((r14.1.1,()),(r14.2.1,({ y1 with m := r10.2.1 } : EnvP),()))
 else
 (aeT y0.inside y1).bind fun r15 =>
 if (!r15.1.1) = true then
 some ((false,()),(({ y0 with inside := r15.2.1 } : (RunV MV)),r15.2.2.1,()))
 else
 (ads r15.2.1).bind fun r16 =>
 if y0.line = 19 then
 if r16.1.1 = 3 then
 (acz y0.worker y0.waiter).bind fun r17 =>
 (aac ({ y0 with inside := r16.2.1 } : (RunV MV)) 21 r17.1.1).bind fun r18 =>
 some ((r18.1.1,()),(r18.2.1,r15.2.2.1,()))
 else
 if y0.line = 19 then
 (acY y0.worker r16.1.2.1).bind fun r19 =>
 (aac ({ y0 with inside := r16.2.1 } : (RunV MV)) 20 r19.1.1).bind fun r20 =>
 some ((r20.1.1,()),(r20.2.1,r15.2.2.1,()))
 else
 if y0.line = 21 then
 if r16.1.1 = 1 then
 if 0 ≤ (tlI y0.stack) ∧ (tlI y0.stack) < ((y0.stack.length : Nat) : Int) then
 (aac ({ y0 with stack := y0.stack.set (tlI y0.stack).toNat y0.waiter,inside := r16.2.1 } : (RunV MV)) 0 MV.nil).bind fun r21 =>
 some ((r21.1.1,()),(r21.2.1,r15.2.2.1,()))
 else none
 else
 (aap ({ y0 with inside := r16.2.1 } : (RunV MV))).bind fun r22 =>
 some ((r22.1.1,()),(r22.2.1,r15.2.2.1,()))
 else
 (aap ({ y0 with inside := r16.2.1 } : (RunV MV))).bind fun r23 =>
 some ((r23.1.1,()),(r23.2.1,r15.2.2.1,()))
 else
 if y0.line = 19 then
 (acY y0.worker r16.1.2.1).bind fun r24 =>
 (aac ({ y0 with inside := r16.2.1 } : (RunV MV)) 20 r24.1.1).bind fun r25 =>
 some ((r25.1.1,()),(r25.2.1,r15.2.2.1,()))
 else
 if y0.line = 21 then
 if r16.1.1 = 1 then
 if 0 ≤ (tlI y0.stack) ∧ (tlI y0.stack) < ((y0.stack.length : Nat) : Int) then
 (aac ({ y0 with stack := y0.stack.set (tlI y0.stack).toNat y0.waiter,inside := r16.2.1 } : (RunV MV)) 0 MV.nil).bind fun r26 =>
 some ((r26.1.1,()),(r26.2.1,r15.2.2.1,()))
 else none
 else
 (aap ({ y0 with inside := r16.2.1 } : (RunV MV))).bind fun r27 =>
 some ((r27.1.1,()),(r27.2.1,r15.2.2.1,()))
 else
 (aap ({ y0 with inside := r16.2.1 } : (RunV MV))).bind fun r28 =>
 some ((r28.1.1,()),(r28.2.1,r15.2.2.1,()))
 else none
 else none
 else none
 else none
 else none
 else none
 else none
 else none
 else none
 else none
 else none
 else none
 else none
 else none
 else none
 else none
 else none
 else none
 else none
 else none
 else none
 else none
 else none
 )
noncomputable abbrev agN : Con SR1 := ⟨228,[.ref 33,.ref 27],[.sh .b],fun x =>afr x.1 x.2.1⟩
noncomputable def aka : List (Nat × Func) := [(223,Tryz.f223)]
theorem akb : CO Tryz.prog agN := aal aak Tryz.func228 [ad9,adS,adr,auY,alu,adZ,af7,acC,anl,an8,amt,afR,ahJ] ⟨adD,adg,adI,awi,ajc,aev,ahC,abR,ard,aoP,ao2,agp,ah1,trivial⟩ aka ⟨Tryz.func223,trivial⟩ (fun _ =>[]) [] fun x =>by kernel_rfl
noncomputable def aas (y0 : (RunV MV)) (y1 : EnvP) : Option ((Bool × Unit) × ((RunV MV) × EnvP × Unit)) :=
 if 0 ≤ (tlI y0.stack) ∧ (tlI y0.stack) < ((y0.stack.length : Nat) : Int) then
 if y0.line = 16 then
 (adT y1.l (tpI y0.stack)).bind fun r1 =>
 (aa4 y1.m r1.1.1 4).bind fun r2 =>
 (aac y0 17 MV.nil).bind fun r3 =>
 some ((r3.1.1,()),(r3.2.1,({ y1 with m := r2.2.1 } : EnvP),()))
 else
 if y0.line = 17 then
 (anU y1.l (tpI y0.stack)).bind fun r4 =>
 (as3 y1.m r4.1.1 0 4294967296).bind fun r5 =>
 (aaK y0 ({ y1 with m := r5.2.1 } : EnvP) (⟨10,0,tpI y0.stack,0,0⟩ : Ev)).bind fun r6 =>
 if r5.1.1 = true then
 (aap r6.2.1).bind fun r7 =>
 some ((r7.1.1,()),(r7.2.1,r6.2.2.1,()))
 else
 (aac r6.2.1 18 MV.nil).bind fun r8 =>
 some ((r8.1.1,()),(r8.2.1,r6.2.2.1,()))
 else
 if y0.line = 18 then
 (anU y1.l (tpI y0.stack)).bind fun r9 =>
 (acA y1.m r9.1.1).bind fun r10 =>
 if (wi ((wi (r10.1.1)) - 1)) < 0 then
 (aap ({ y0 with waiter := wi ((wi (r10.1.1)) - 1) } : (RunV MV))).bind fun r11 =>
 some ((r11.1.1,()),(r11.2.1,({ y1 with m := r10.2.1 } : EnvP),()))
 else
 if y1.c.tasks ≤ (wi ((wi (r10.1.1)) - 1)) then
 (aap ({ y0 with waiter := wi ((wi (r10.1.1)) - 1) } : (RunV MV))).bind fun r12 =>
 some ((r12.1.1,()),(r12.2.1,({ y1 with m := r10.2.1 } : EnvP),()))
 else
 (ahu y0.worker (wi ((wi (r10.1.1)) - 1))).bind fun r13 =>
 (aac ({ y0 with waiter := wi ((wi (r10.1.1)) - 1) } : (RunV MV)) 19 r13.1.1).bind fun r14 =>
 some ((r14.1.1,()),(r14.2.1,({ y1 with m := r10.2.1 } : EnvP),()))
 else
 (aeT y0.inside y1).bind fun r15 =>
 if (!r15.1.1) = true then
 some ((false,()),(({ y0 with inside := r15.2.1 } : (RunV MV)),r15.2.2.1,()))
 else
 (ads r15.2.1).bind fun r16 =>
 if y0.line = 19 then
 if r16.1.1 = 3 then
 (acz y0.worker y0.waiter).bind fun r17 =>
 (aac ({ y0 with inside := r16.2.1 } : (RunV MV)) 21 r17.1.1).bind fun r18 =>
 some ((r18.1.1,()),(r18.2.1,r15.2.2.1,()))
 else
 if y0.line = 19 then
 (acY y0.worker r16.1.2.1).bind fun r19 =>
 (aac ({ y0 with inside := r16.2.1 } : (RunV MV)) 20 r19.1.1).bind fun r20 =>
 some ((r20.1.1,()),(r20.2.1,r15.2.2.1,()))
 else
 if y0.line = 21 then
 if r16.1.1 = 1 then
 if 0 ≤ (tlI y0.stack) ∧ (tlI y0.stack) < ((y0.stack.length : Nat) : Int) then
 (aac ({ y0 with stack := y0.stack.set (tlI y0.stack).toNat y0.waiter,inside := r16.2.1 } : (RunV MV)) 0 MV.nil).bind fun r21 =>
 some ((r21.1.1,()),(r21.2.1,r15.2.2.1,()))
 else none
 else
 (aap ({ y0 with inside := r16.2.1 } : (RunV MV))).bind fun r22 =>
 some ((r22.1.1,()),(r22.2.1,r15.2.2.1,()))
 else
 (aap ({ y0 with inside := r16.2.1 } : (RunV MV))).bind fun r23 =>
 some ((r23.1.1,()),(r23.2.1,r15.2.2.1,()))
 else
 if y0.line = 19 then
 (acY y0.worker r16.1.2.1).bind fun r24 =>
 (aac ({ y0 with inside := r16.2.1 } : (RunV MV)) 20 r24.1.1).bind fun r25 =>
 some ((r25.1.1,()),(r25.2.1,r15.2.2.1,()))
 else
 if y0.line = 21 then
 if r16.1.1 = 1 then
 if 0 ≤ (tlI y0.stack) ∧ (tlI y0.stack) < ((y0.stack.length : Nat) : Int) then
 (aac ({ y0 with stack := y0.stack.set (tlI y0.stack).toNat y0.waiter,inside := r16.2.1 } : (RunV MV)) 0 MV.nil).bind fun r26 =>
 some ((r26.1.1,()),(r26.2.1,r15.2.2.1,()))
 else none
 else
 (aap ({ y0 with inside := r16.2.1 } : (RunV MV))).bind fun r27 =>
 some ((r27.1.1,()),(r27.2.1,r15.2.2.1,()))
 else
 (aap ({ y0 with inside := r16.2.1 } : (RunV MV))).bind fun r28 =>
 some ((r28.1.1,()),(r28.2.1,r15.2.2.1,()))
 else none
noncomputable abbrev ahE : Con SR1 := ⟨228,[.ref 33,.ref 27],[.sh .b],fun x =>aas x.1 x.2.1⟩
theorem alb (y0 : (RunV MV)) (y1 : EnvP) : afr y0 y1 = aas y0 y1 := by
 unfold afr aas
 simp only [if_true,asQ,am9]
theorem ala : CO Tryz.prog ahE := aFA akb fun x out hx =>(show agN.spec x = some out from (alb x.1 x.2.1).trans hx)
noncomputable def abm (y0 : (RunV MV)) (y1 : EnvP) : Option ((Bool × Unit) × ((RunV MV) × EnvP × Unit)) :=
 (aax y0.o).bind fun r1 =>
 if r1.1.1 = true then
 some ((true,()),(({ y0 with o := r1.2.1 } : (RunV MV)),y1,()))
 else
 if 0 ≤ (tlI y0.stack) ∧ (tlI y0.stack) < ((y0.stack.length : Nat) : Int) then
 if (tpI y0.stack) < 0 then
 (abe r1.2.1 4 0).bind fun r2 =>
 some ((r2.1.1,()),(({ y0 with o := r2.2.1 } : (RunV MV)),y1,()))
 else
 if y1.c.tasks ≤ (tpI y0.stack) then
 (abe r1.2.1 4 0).bind fun r3 =>
 some ((r3.1.1,()),(({ y0 with o := r3.2.1 } : (RunV MV)),y1,()))
 else
 if ((y1.recs.length : Nat) : Int) ≤ (tpI y0.stack) then
 (abe r1.2.1 4 0).bind fun r4 =>
 some ((r4.1.1,()),(({ y0 with o := r4.2.1 } : (RunV MV)),y1,()))
 else
 if y0.line = 0 then
 (aeU ({ y0 with o := r1.2.1 } : (RunV MV)) y1).bind fun r5 =>
 if r5.1.1 = 4 then
 (aeS).bind fun r6 =>
 if r5.1.1 = 1 then
 (aaG ({ r5.2.1 with line := r5.1.1,inside := r6.1.1 } : (RunV MV)) r5.2.2.1).bind fun r7 =>
 some ((r7.1.1,()),(r7.2.1,r7.2.2.1,()))
 else
 if r5.1.1 = 2 then
 (aaG ({ r5.2.1 with line := r5.1.1,inside := r6.1.1 } : (RunV MV)) r5.2.2.1).bind fun r8 =>
 some ((r8.1.1,()),(r8.2.1,r8.2.2.1,()))
 else
 if r5.1.1 = 3 then
 (aaG ({ r5.2.1 with line := r5.1.1,inside := r6.1.1 } : (RunV MV)) r5.2.2.1).bind fun r9 =>
 some ((r9.1.1,()),(r9.2.1,r9.2.2.1,()))
 else
 if 4 ≤ r5.1.1 then
 if r5.1.1 ≤ 8 then
 (abi ({ r5.2.1 with line := r5.1.1,inside := r6.1.1 } : (RunV MV)) r5.2.2.1).bind fun r10 =>
 some ((r10.1.1,()),(r10.2.1,r10.2.2.1,()))
 else
 if 9 ≤ r5.1.1 then
 if r5.1.1 ≤ 15 then
 (aaN ({ r5.2.1 with line := r5.1.1,inside := r6.1.1 } : (RunV MV)) r5.2.2.1).bind fun r11 =>
 some ((r11.1.1,()),(r11.2.1,r11.2.2.1,()))
 else
 (aas ({ r5.2.1 with line := r5.1.1,inside := r6.1.1 } : (RunV MV)) r5.2.2.1).bind fun r12 =>
 some ((r12.1.1,()),(r12.2.1,r12.2.2.1,()))
 else
 (aas ({ r5.2.1 with line := r5.1.1,inside := r6.1.1 } : (RunV MV)) r5.2.2.1).bind fun r13 =>
 some ((r13.1.1,()),(r13.2.1,r13.2.2.1,()))
 else
 if 9 ≤ r5.1.1 then
 if r5.1.1 ≤ 15 then
 (aaN ({ r5.2.1 with line := r5.1.1,inside := r6.1.1 } : (RunV MV)) r5.2.2.1).bind fun r14 =>
 some ((r14.1.1,()),(r14.2.1,r14.2.2.1,()))
 else
 (aas ({ r5.2.1 with line := r5.1.1,inside := r6.1.1 } : (RunV MV)) r5.2.2.1).bind fun r15 =>
 some ((r15.1.1,()),(r15.2.1,r15.2.2.1,()))
 else
 (aas ({ r5.2.1 with line := r5.1.1,inside := r6.1.1 } : (RunV MV)) r5.2.2.1).bind fun r16 =>
 some ((r16.1.1,()),(r16.2.1,r16.2.2.1,()))
 else
 if r5.1.1 = 1 then
 (aaG ({ r5.2.1 with line := r5.1.1 } : (RunV MV)) r5.2.2.1).bind fun r17 =>
 some ((r17.1.1,()),(r17.2.1,r17.2.2.1,()))
 else
 if r5.1.1 = 2 then
 (aaG ({ r5.2.1 with line := r5.1.1 } : (RunV MV)) r5.2.2.1).bind fun r18 =>
 some ((r18.1.1,()),(r18.2.1,r18.2.2.1,()))
 else
 if r5.1.1 = 3 then
 (aaG ({ r5.2.1 with line := r5.1.1 } : (RunV MV)) r5.2.2.1).bind fun r19 =>
 some ((r19.1.1,()),(r19.2.1,r19.2.2.1,()))
 else
 if 4 ≤ r5.1.1 then
 if r5.1.1 ≤ 8 then
 (abi ({ r5.2.1 with line := r5.1.1 } : (RunV MV)) r5.2.2.1).bind fun r20 =>
 some ((r20.1.1,()),(r20.2.1,r20.2.2.1,()))
 else
 if 9 ≤ r5.1.1 then
 if r5.1.1 ≤ 15 then
 (aaN ({ r5.2.1 with line := r5.1.1 } : (RunV MV)) r5.2.2.1).bind fun r21 =>
 some ((r21.1.1,()),(r21.2.1,r21.2.2.1,()))
 else
 (aas ({ r5.2.1 with line := r5.1.1 } : (RunV MV)) r5.2.2.1).bind fun r22 =>
 some ((r22.1.1,()),(r22.2.1,r22.2.2.1,()))
 else
 (aas ({ r5.2.1 with line := r5.1.1 } : (RunV MV)) r5.2.2.1).bind fun r23 =>
 some ((r23.1.1,()),(r23.2.1,r23.2.2.1,()))
 else
 if 9 ≤ r5.1.1 then
 if r5.1.1 ≤ 15 then
 (aaN ({ r5.2.1 with line := r5.1.1 } : (RunV MV)) r5.2.2.1).bind fun r24 =>
 some ((r24.1.1,()),(r24.2.1,r24.2.2.1,()))
 else
 (aas ({ r5.2.1 with line := r5.1.1 } : (RunV MV)) r5.2.2.1).bind fun r25 =>
 some ((r25.1.1,()),(r25.2.1,r25.2.2.1,()))
 else
 (aas ({ r5.2.1 with line := r5.1.1 } : (RunV MV)) r5.2.2.1).bind fun r26 =>
 some ((r26.1.1,()),(r26.2.1,r26.2.2.1,()))
 else
 if y0.line = 1 then
 (aaG ({ y0 with o := r1.2.1 } : (RunV MV)) y1).bind fun r27 =>
 some ((r27.1.1,()),(r27.2.1,r27.2.2.1,()))
 else
 if y0.line = 2 then
 (aaG ({ y0 with o := r1.2.1 } : (RunV MV)) y1).bind fun r28 =>
 some ((r28.1.1,()),(r28.2.1,r28.2.2.1,()))
 else
 if y0.line = 3 then
 (aaG ({ y0 with o := r1.2.1 } : (RunV MV)) y1).bind fun r29 =>
 some ((r29.1.1,()),(r29.2.1,r29.2.2.1,()))
 else
 if 4 ≤ y0.line then
 if y0.line ≤ 8 then
 (abi ({ y0 with o := r1.2.1 } : (RunV MV)) y1).bind fun r30 =>
 some ((r30.1.1,()),(r30.2.1,r30.2.2.1,()))
 else
 if 9 ≤ y0.line then
 if y0.line ≤ 15 then
 (aaN ({ y0 with o := r1.2.1 } : (RunV MV)) y1).bind fun r31 =>
 some ((r31.1.1,()),(r31.2.1,r31.2.2.1,()))
 else
 (aas ({ y0 with o := r1.2.1 } : (RunV MV)) y1).bind fun r32 =>
 some ((r32.1.1,()),(r32.2.1,r32.2.2.1,()))
 else
 (aas ({ y0 with o := r1.2.1 } : (RunV MV)) y1).bind fun r33 =>
 some ((r33.1.1,()),(r33.2.1,r33.2.2.1,()))
 else
 if 9 ≤ y0.line then
 if y0.line ≤ 15 then
 (aaN ({ y0 with o := r1.2.1 } : (RunV MV)) y1).bind fun r34 =>
 some ((r34.1.1,()),(r34.2.1,r34.2.2.1,()))
 else
 (aas ({ y0 with o := r1.2.1 } : (RunV MV)) y1).bind fun r35 =>
 some ((r35.1.1,()),(r35.2.1,r35.2.2.1,()))
 else
 (aas ({ y0 with o := r1.2.1 } : (RunV MV)) y1).bind fun r36 =>
 some ((r36.1.1,()),(r36.2.1,r36.2.2.1,()))
 else none
noncomputable abbrev aoW : Con SR1 := ⟨222,[.ref 33,.ref 27],[.sh .b],fun x =>abm x.1 x.2.1⟩
noncomputable def anJ : List (Nat × Func) := [(223,Tryz.f223)]
theorem anK : CO Tryz.prog aoW := aal aak Tryz.func222 [abn,acD,ahF,agJ,ahB,aiv,aiY,ahE] ⟨aa7,abB,ald,aiu,ak7,amq,anL,ala,trivial⟩ anJ ⟨Tryz.func223,trivial⟩ (fun _ =>[]) [] fun x =>by kernel_rfl
noncomputable def adP (m : MV) (e : EnvP) : Option ((Bool × Unit) × (MV × EnvP × Unit)) :=
 match m with
 | .alloc x =>(abZ x e).bind fun o =>some (o.1,(MV.alloc o.2.1,o.2.2))
 | .publish x =>(abN x e).bind fun o =>some (o.1,(MV.publish o.2.1,o.2.2))
 | .claim x =>(ac7 x e).bind fun o =>some (o.1,(MV.claim o.2.1,o.2.2))
 | .attempt x =>(acH x e).bind fun o =>some (o.1,(MV.attempt o.2.1,o.2.2))
 | .release x =>(acG x e).bind fun o =>some (o.1,(MV.release o.2.1,o.2.2))
 | .opush x =>(adu x e).bind fun o =>some (o.1,(MV.opush o.2.1,o.2.2))
 | .opop x =>(ad1 x e).bind fun o =>some (o.1,(MV.opop o.2.1,o.2.2))
 | .steal x =>(ac6 x e).bind fun o =>some (o.1,(MV.steal o.2.1,o.2.2))
 | .set x =>(ady x e).bind fun o =>some (o.1,(MV.set o.2.1,o.2.2))
 | .reset x =>(acJ x e).bind fun o =>some (o.1,(MV.reset o.2.1,o.2.2))
 | .insert x =>(abJ x e).bind fun o =>some (o.1,(MV.insert o.2.1,o.2.2))
 | .remove x =>(abI x e).bind fun o =>some (o.1,(MV.remove o.2.1,o.2.2))
 | .sleep x =>(acZ x e).bind fun o =>some (o.1,(MV.sleep o.2.1,o.2.2))
 | .wake x =>(adm x e).bind fun o =>some (o.1,(MV.wake o.2.1,o.2.2))
 | .raise x =>(acv x e).bind fun o =>some (o.1,(MV.raise o.2.1,o.2.2))
 | .probe x =>(abj x e).bind fun o =>some (o.1,(MV.probe o.2.1,o.2.2))
 | .lpush x =>(acu x e).bind fun o =>some (o.1,(MV.lpush o.2.1,o.2.2))
 | .lpop x =>(ac1 x e).bind fun o =>some (o.1,(MV.lpop o.2.1,o.2.2))
 | .walk x =>(ab4 x e).bind fun o =>some (o.1,(MV.walk o.2.1,o.2.2))
 | .take x =>(aeK x e).bind fun o =>some (o.1,(MV.take o.2.1,o.2.2))
 | .sweep x =>(aaD x e).bind fun o =>some (o.1,(MV.sweep o.2.1,o.2.2))
 | .enter x =>(ab1 x e).bind fun o =>some (o.1,(MV.enter o.2.1,o.2.2))
 | .drain x =>(abl x e).bind fun o =>some (o.1,(MV.drain o.2.1,o.2.2))
 | .run x =>(abm x e).bind fun o =>some (o.1,(MV.run o.2.1,o.2.2))
 | _ =>none
noncomputable abbrev arf : Con SR1 := ⟨1000000000,[.mch,.ref 27],[.sh .b],fun x =>adP x.1 x.2.1⟩
theorem aA0 (m : MV) (xs : akR SR1 [.ref 27]) (out : akT SR1 [.sh .b] × (MV × ajF SR1 [.ref 27])) (h : adP m xs.1 = some out) : aqv SR1 Tryz.prog 0 [.ref 27] [.sh .b] m xs out := by
 cases m with
 | alloc x =>exact aaz (.alloc x) xs out h
 | publish x =>exact aaz (.publish x) xs out h
 | claim x =>exact aaz (.claim x) xs out h
 | attempt x =>exact aaz (.attempt x) xs out h
 | release x =>exact aaz (.release x) xs out h
 | opush x =>exact aaz (.opush x) xs out h
 | opop x =>exact aaz (.opop x) xs out h
 | steal x =>exact aaz (.steal x) xs out h
 | set x =>exact aaz (.set x) xs out h
 | reset x =>exact aaz (.reset x) xs out h
 | insert x =>exact aaz (.insert x) xs out h
 | remove x =>exact aaz (.remove x) xs out h
 | sleep x =>exact aaz (.sleep x) xs out h
 | wake x =>exact aaz (.wake x) xs out h
 | raise x =>exact aaz (.raise x) xs out h
 | probe x =>exact aaz (.probe x) xs out h
 | lpush x =>exact ak0 (.lpush x) xs out h
 | lpop x =>exact ak0 (.lpop x) xs out h
 | walk x =>exact ajK (.walk x) xs out h
 | take x =>exact ajK (.take x) xs out h
 | sweep x =>exact ajK (.sweep x) xs out h
 | enter x =>exact ajK (.enter x) xs out h
 | drain x =>exact ajK (.drain x) xs out h
 | run x =>exact aa9 (S := SR1) (ps := [.ref 27]) (rs := [.sh .b]) (c := 33) (mk := MV.run) (fun _ =>rfl) rfl (fun _ _ _ _ =>by kernel_rfl) anK h
 | _ =>cases h
theorem ate : CO Tryz.prog arf := ajr (S := SR1) (i := 0) (ps := [.ref 27]) (rs := [.sh .b]) (spec := fun m xs =>adP m xs.1) aA0
noncomputable def abx (m : MV) : Option ((Int × Int × Unit) × (MV × Unit)) :=
 match m with
 | .alloc x =>some ((x.o.code,x.o.value,()),(MV.alloc x,()))
 | .publish x =>some ((x.o.code,x.o.value,()),(MV.publish x,()))
 | .claim x =>some ((x.o.code,x.o.value,()),(MV.claim x,()))
 | .attempt x =>some ((x.o.code,x.o.value,()),(MV.attempt x,()))
 | .release x =>some ((x.o.code,x.o.value,()),(MV.release x,()))
 | .opush x =>some ((x.o.code,x.o.value,()),(MV.opush x,()))
 | .opop x =>some ((x.o.code,x.o.value,()),(MV.opop x,()))
 | .steal x =>some ((x.o.code,x.o.value,()),(MV.steal x,()))
 | .set x =>some ((x.o.code,x.o.value,()),(MV.set x,()))
 | .reset x =>some ((x.o.code,x.o.value,()),(MV.reset x,()))
 | .insert x =>some ((x.o.code,x.o.value,()),(MV.insert x,()))
 | .remove x =>some ((x.o.code,x.o.value,()),(MV.remove x,()))
 | .sleep x =>some ((x.o.code,x.o.value,()),(MV.sleep x,()))
 | .wake x =>some ((x.o.code,x.o.value,()),(MV.wake x,()))
 | .raise x =>some ((x.o.code,x.o.value,()),(MV.raise x,()))
 | .probe x =>some ((x.o.code,x.o.value,()),(MV.probe x,()))
 | .lpush x =>some ((x.o.code,x.o.value,()),(MV.lpush x,()))
 | .lpop x =>some ((x.o.code,x.o.value,()),(MV.lpop x,()))
 | .walk x =>some ((x.o.code,x.o.value,()),(MV.walk x,()))
 | .take x =>some ((x.o.code,x.o.value,()),(MV.take x,()))
 | .sweep x =>some ((x.o.code,x.o.value,()),(MV.sweep x,()))
 | .enter x =>some ((x.o.code,x.o.value,()),(MV.enter x,()))
 | .drain x =>some ((x.o.code,x.o.value,()),(MV.drain x,()))
 | .run x =>some ((x.o.code,x.o.value,()),(MV.run x,()))
 | _ =>none
noncomputable abbrev ams : Con SR1 := ⟨1000000001,[.mch],[.sh sI_,.sh sI_],fun x =>abx x.1⟩
theorem axp (m : MV) (xs : akR SR1 []) (out : akT SR1 [.sh sI_,.sh sI_] × (MV × ajF SR1 [])) (h : abx m = some out) : aqv SR1 Tryz.prog 1 [] [.sh sI_,.sh sI_] m xs out := by
 cases m with
 | alloc x =>exact aaj (.alloc x) xs out h
 | publish x =>exact aaj (.publish x) xs out h
 | claim x =>exact aaj (.claim x) xs out h
 | attempt x =>exact aaj (.attempt x) xs out h
 | release x =>exact aaj (.release x) xs out h
 | opush x =>exact aaj (.opush x) xs out h
 | opop x =>exact aaj (.opop x) xs out h
 | steal x =>exact aaj (.steal x) xs out h
 | set x =>exact aaj (.set x) xs out h
 | reset x =>exact aaj (.reset x) xs out h
 | insert x =>exact aaj (.insert x) xs out h
 | remove x =>exact aaj (.remove x) xs out h
 | sleep x =>exact aaj (.sleep x) xs out h
 | wake x =>exact aaj (.wake x) xs out h
 | raise x =>exact aaj (.raise x) xs out h
 | probe x =>exact aaj (.probe x) xs out h
 | lpush x =>exact ahH (.lpush x) xs out h
 | lpop x =>exact ahH (.lpop x) xs out h
 | walk x =>exact agC (.walk x) xs out h
 | take x =>exact agC (.take x) xs out h
 | sweep x =>exact agC (.sweep x) xs out h
 | enter x =>exact agC (.enter x) xs out h
 | drain x =>exact agC (.drain x) xs out h
 | run x =>exact aa9 (S := SR1) (ps := []) (rs := [.sh sI_,.sh sI_]) (c := 33) (mk := MV.run) (f := 161) (sp := fun x =>some ((x.1.o.code,x.1.o.value,()),(x.1,()))) (fun _ =>rfl) rfl (fun _ _ _ _ =>by kernel_rfl) (acs [aaZ] ⟨aaT,trivial⟩ fun x =>by kernel_rfl) h
 | _ =>cases h
theorem ao1 : CO Tryz.prog ams := ajr (S := SR1) (i := 1) (ps := []) (rs := [.sh sI_,.sh sI_]) (spec := fun m _ =>abx m) axp
noncomputable def aau (y0 : (ClientV MV)) : Option ((Bool × Unit) × ((ClientV MV) × Unit)) :=
 some ((decide (((y0.subs.length : Nat) : Int) ≤ y0.i),()),(y0,()))
noncomputable abbrev adU : Con SR1 := ⟨77,[.ref 30],[.sh .b],fun x =>aau x.1⟩
theorem aeG : CO Tryz.prog adU := aal aak Tryz.func77 [] trivial [] trivial (fun _ =>[]) [] fun x =>by kernel_rfl
noncomputable def akG (y0 : Int) : Option ((MV × Unit) × (Unit)) :=
 some ((MV.attempt (⟨⟨false,0,0⟩,y0,false⟩ : AttemptV),()),())
noncomputable abbrev alJ : Con SR1 := ⟨118,[.sh sI_],[.sh .mach],fun x =>akG x.1⟩
theorem aqp : CO Tryz.prog alJ := aal aak Tryz.func118 [] trivial [] trivial (fun _ =>[]) [] fun x =>by kernel_rfl
noncomputable def ahn (y0 : Int) (y1 : Int) : Option ((MV × Unit) × (Unit)) :=
 some ((MV.insert (⟨⟨false,0,0⟩,y0,y1,1,0,0,0,0⟩ : InsertV),()),())
noncomputable abbrev aiB : Con SR1 := ⟨120,[.sh sI_,.sh sI_],[.sh .mach],fun x =>ahn x.1 x.2.1⟩
theorem amW : CO Tryz.prog aiB := aal aak Tryz.func120 [] trivial [] trivial (fun _ =>[]) [] fun x =>by kernel_rfl
noncomputable def adc (y0 : (ClientV MV)) : Option ((MV × Unit) × ((ClientV MV) × Unit)) :=
 if 0 ≤ y0.i ∧ y0.i < ((y0.subs.length : Nat) : Int) then
 if ((abC y0.subs y0.i).prog) = ((abC y0.subs y0.i).prog) then
 if ((abC y0.subs y0.i).level) = ((abC y0.subs y0.i).level) then
 if ((abC y0.subs y0.i).deadline) = ((abC y0.subs y0.i).deadline) then
 if y0.i = y0.i then
 (akG y0.me).bind fun r1 =>
 if y0.line = y0.line then
 if ((abC y0.subs y0.i).level) = ((abC y0.subs y0.i).level) then
 if y0.me = y0.me then
 if y0.id = y0.id then
 if ((abC y0.subs y0.i).deadline) = ((abC y0.subs y0.i).deadline) then
 (aeS).bind fun r2 =>
 if y0.line = y0.line then
 if ((abC y0.subs y0.i).level) = ((abC y0.subs y0.i).level) then
 if y0.me = y0.me then
 if y0.id = y0.id then
 if ((abC y0.subs y0.i).deadline) = ((abC y0.subs y0.i).deadline) then
 (ahn ((abC y0.subs y0.i).deadline) y0.id).bind fun r3 =>
 if y0.line = y0.line then
 if ((abC y0.subs y0.i).level) = ((abC y0.subs y0.i).level) then
 if y0.me = y0.me then
 (afw).bind fun r4 =>
 if y0.line = y0.line then
 if ((abC y0.subs y0.i).level) = ((abC y0.subs y0.i).level) then
 if y0.me = y0.me then
 (acY y0.me ((abC y0.subs y0.i).level)).bind fun r5 =>
 if y0.line = y0.line then
 if y0.line = y0.line then
 if 0 ≤ wi (y0.line - 1) ∧ wi (y0.line - 1) < ((([r1.1.1,MV.nil,r2.1.1,MV.nil,MV.nil,r3.1.1,MV.nil,r4.1.1,r5.1.1] : List MV).length : Nat) : Int) then
 some ((aJi ([r1.1.1,MV.nil,r2.1.1,MV.nil,MV.nil,r3.1.1,MV.nil,r4.1.1,r5.1.1]) (wi (y0.line - 1)),()),(y0,()))
 else none
 else none
 else none
 else none
 else none
 else none
 else none
 else none
 else none
 else none
 else none
 else none
 else none
 else none
 else none
 else none
 else none
 else none
 else none
 else none
 else none
 else none
 else none
 else none
noncomputable abbrev afe : Con SR1 := ⟨115,[.ref 30],[.sh .mach],fun x =>adc x.1⟩
theorem aim : CO Tryz.prog afe := aal aak Tryz.func115 [alJ,agJ,aiB,ah7,ahJ] ⟨aqp,aiu,amW,akq,ah1,trivial⟩ [] trivial (fun _ =>[]) [] fun x =>by kernel_rfl
noncomputable def aai (y0 : (ClientV MV)) (y1 : Int) : Option ((Bool × Unit) × ((ClientV MV) × Unit)) :=
 some ((false,()),(({ y0 with line := y1,inside := MV.nil,fresh := true } : (ClientV MV)),()))
noncomputable abbrev adF : Con SR1 := ⟨130,[.ref 30,.sh sI_],[.sh .b],fun x =>aai x.1 x.2.1⟩
theorem aec : CO Tryz.prog adF := aal aak Tryz.func130 [] trivial [] trivial (fun _ =>[]) [] fun x =>by kernel_rfl
noncomputable def abL (y0 : (ClientV MV)) (y1 : EnvP) (y2 : Int) : Option ((Bool × Unit) × ((ClientV MV) × EnvP × Unit)) :=
 (aef y1 (⟨2,y0.me,0,y0.i,y2⟩ : Ev)).bind fun r1 =>
 (aai y0 8).bind fun r2 =>
 some ((r2.1.1,()),(r2.2.1,r1.2.1,()))
noncomputable abbrev aej : Con SR1 := ⟨125,[.ref 30,.ref 27,.sh sI_],[.sh .b],fun x =>abL x.1 x.2.1 x.2.2.1⟩
theorem af4 : CO Tryz.prog aej := aal aak Tryz.func125 [afu,adF] ⟨aew,aec,trivial⟩ [] trivial (fun _ =>[]) [] fun x =>by kernel_rfl
end
end Go.Proofs.YteapeojalliebaaGreat
