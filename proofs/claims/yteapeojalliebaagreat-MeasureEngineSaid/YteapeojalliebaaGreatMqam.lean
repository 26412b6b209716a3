/- The program's machines in the evaluator's form. The program's machines in the evaluator's form: all. The program's machines,said plainly: their states,and what a step does. No program occurs here but its numbers. -/
import Derived.Test.YteapeojalliebaaGreatMqal
set_option linter.all false
namespace Go.Proofs.YteapeojalliebaaGreat
section
open Go Go.RowKit
set_option maxRecDepth 100000
variable [Tb]
noncomputable def aek (y0 : (ClientV MV)) (y1 : EnvP) : Option ((Bool × Unit) × ((ClientV MV) × EnvP × Unit)) :=
 if 0 ≤ y0.i ∧ y0.i < ((y0.subs.length : Nat) : Int) then
 agr (
 if y1.l.workers = y1.l.workers then
 if y1.l.levels = y1.l.levels then
 if y1.l.classes = y1.l.classes then
 if y1.l.tasks = y1.l.tasks then
 if y1.l.deque = y1.l.deque then
 if y1.l.heap = y1.l.heap then
 if y1.l.sleepers = y1.l.sleepers then
 if y1.l.epochs = y1.l.epochs then
 if y1.l.bitmaps = y1.l.bitmaps then
 if y1.l.queues = y1.l.queues then
 if y1.l.table = y1.l.table then
 if ((abC y0.subs y0.i).prog) = ((abC y0.subs y0.i).prog) then
 if ((abC y0.subs y0.i).level) = ((abC y0.subs y0.i).level) then
 if ((abC y0.subs y0.i).deadline) = ((abC y0.subs y0.i).deadline) then
 if y0.i = y0.i then
 if y1.l.workers = y1.l.workers then
 if y1.l.levels = y1.l.levels then
 if y1.l.classes = y1.l.classes then
 if y1.l.tasks = y1.l.tasks then
 if y1.l.deque = y1.l.deque then
 if y1.l.heap = y1.l.heap then
 if y1.l.sleepers = y1.l.sleepers then
 if y1.l.epochs = y1.l.epochs then
 if y1.l.bitmaps = y1.l.bitmaps then
 if y1.l.queues = y1.l.queues then
 if y1.l.table = y1.l.table then
 if ((abC y0.subs y0.i).prog) = ((abC y0.subs y0.i).prog) then
 if ((abC y0.subs y0.i).level) = ((abC y0.subs y0.i).level) then
 if ((abC y0.subs y0.i).deadline) = ((abC y0.subs y0.i).deadline) then
 if y0.i = y0.i then
 if y1.l.workers = y1.l.workers then
 if y1.l.levels = y1.l.levels then
 if y1.l.classes = y1.l.classes then
 if y1.l.tasks = y1.l.tasks then
 if y1.l.deque = y1.l.deque then
 if y1.l.heap = y1.l.heap then
 if y1.l.sleepers = y1.l.sleepers then
 if y1.l.epochs = y1.l.epochs then
 if y1.l.bitmaps = y1.l.bitmaps then
 if y1.l.queues = y1.l.queues then
 if y1.l.table = y1.l.table then
 if y0.line = 2 then
 (agl y1.l).bind fun r15 =>
 if y1.c.heap = y1.c.heap then
 (acA y1.m r15.1.1).bind fun r16 =>
 if y1.c.heap = y1.c.heap then
 if y1.c.heap ≤ (wi (r16.1.1)) then
 (abL y0 ({ y1 with m := r16.2.1 } : EnvP) 1).bind fun r17 =>
 some ((r17.1.1,()),(r17.2.1,r17.2.2.1,()))
 else
 (aai y0 (wi (y0.line + 1))).bind fun r18 =>
 some ((r18.1.1,()),(r18.2.1,({ y1 with m := r16.2.1 } : EnvP),()))
 else none
 else none
 else
 if y0.line = 4 then
 (afc y1.l y0.id).bind fun r19 =>
 if ((abC y0.subs y0.i).level) = ((abC y0.subs y0.i).level) then
 (aa4 y1.m r19.1.1 (wu ((abC y0.subs y0.i).level))).bind fun r20 =>
 (aai y0 (wi (y0.line + 1))).bind fun r21 =>
 some ((r21.1.1,()),(r21.2.1,({ y1 with m := r20.2.1 } : EnvP),()))
 else none
 else
 if y0.line = 5 then
 (aiy y1.l y0.id).bind fun r22 =>
 (arD y1.k).bind fun r23 =>
 (aa4 y1.m r22.1.1 (wu (r23.1.1))).bind fun r24 =>
 (aai y0 (wi (y0.line + 1))).bind fun r25 =>
 some ((r25.1.1,()),(r25.2.1,({ y1 with m := r24.2.1,k := r23.2.1 } : EnvP),()))
 else
 (adT y1.l y0.id).bind fun r26 =>
 (aa4 y1.m r26.1.1 1).bind fun r27 =>
 (aai y0 (wi (y0.line + 1))).bind fun r28 =>
 some ((r28.1.1,()),(r28.2.1,({ y1 with m := r27.2.1 } : EnvP),()))
 else none
 else none
 else none
 else none
 else none
 else none
 else none
 else none
 else none
 else none
 else none
 else none
 else none
 else none
 else none
 else none
 else none
 else none
 else none
 else none
 else none
 else none
 else none
 else none
 else none
 else none
 else none
 else none
 else none
 else none
 else none
 else none
 else none
 else none
 else none
 else none
 else none
 else none
 else none
 else none
 else none
 ) (
 if y1.l.workers = y1.l.workers then
 if y1.l.levels = y1.l.levels then
 if y1.l.classes = y1.l.classes then
 if y1.l.tasks = y1.l.tasks then
 if y1.l.deque = y1.l.deque then
 if y1.l.heap = y1.l.heap then
 if y1.l.sleepers = y1.l.sleepers then
 if y1.l.epochs = y1.l.epochs then
 if y1.l.bitmaps = y1.l.bitmaps then
 if y1.l.queues = y1.l.queues then
 if y1.l.table = y1.l.table then
 if ((abC y0.subs y0.i).prog) = ((abC y0.subs y0.i).prog) then
 if ((abC y0.subs y0.i).level) = ((abC y0.subs y0.i).level) then
 if ((abC y0.subs y0.i).deadline) = ((abC y0.subs y0.i).deadline) then
 if y0.i = y0.i then
 if y1.l.workers = y1.l.workers then
 if y1.l.levels = y1.l.levels then
 if y1.l.classes = y1.l.classes then
 if y1.l.tasks = y1.l.tasks then
 if y1.l.deque = y1.l.deque then
 if y1.l.heap = y1.l.heap then
 if y1.l.sleepers = y1.l.sleepers then
 if y1.l.epochs = y1.l.epochs then
 if y1.l.bitmaps = y1.l.bitmaps then
 if y1.l.queues = y1.l.queues then
 if y1.l.table = y1.l.table then
 if ((abC y0.subs y0.i).prog) = ((abC y0.subs y0.i).prog) then
 if ((abC y0.subs y0.i).level) = ((abC y0.subs y0.i).level) then
 if ((abC y0.subs y0.i).deadline) = ((abC y0.subs y0.i).deadline) then
 if y0.i = y0.i then
 if y1.l.workers = y1.l.workers then
 if y1.l.levels = y1.l.levels then
 if y1.l.classes = y1.l.classes then
 if y1.l.tasks = y1.l.tasks then
 if y1.l.deque = y1.l.deque then
 if y1.l.heap = y1.l.heap then
 if y1.l.sleepers = y1.l.sleepers then
 if y1.l.epochs = y1.l.epochs then
 if y1.l.bitmaps = y1.l.bitmaps then
 if y1.l.queues = y1.l.queues then
 if y1.l.table = y1.l.table then
 if y0.line = 2 then
 (agl y1.l).bind fun r1 =>
 if y1.c.heap = y1.c.heap then
 (acA y1.m r1.1.1).bind fun r2 =>
 if y1.c.heap = y1.c.heap then
 if y1.c.heap ≤ (wi (r2.1.1)) then
 (abL y0 ({ y1 with m := r2.2.1 } : EnvP) 1).bind fun r3 =>
 some ((r3.1.1,()),(r3.2.1,r3.2.2.1,()))
 else
 (aai y0 (wi (y0.line + 1))).bind fun r4 =>
 some ((r4.1.1,()),(r4.2.1,({ y1 with m := r2.2.1 } : EnvP),()))
 else none
 else none
 else
 if y0.line = 4 then
 (afc y1.l y0.id).bind fun r5 =>
 if ((abC y0.subs y0.i).level) = ((abC y0.subs y0.i).level) then
 (aa4 y1.m r5.1.1 (wu ((abC y0.subs y0.i).level))).bind fun r6 =>
 (aai y0 (wi (y0.line + 1))).bind fun r7 =>
 some ((r7.1.1,()),(r7.2.1,({ y1 with m := r6.2.1 } : EnvP),()))
 else none
 else
 if y0.line = 5 then
 (aiy y1.l y0.id).bind fun r8 =>
 (arD y1.k).bind fun r9 =>
 (aa4 y1.m r8.1.1 (wu (r9.1.1))).bind fun r10 =>
 (aai y0 (wi (y0.line + 1))).bind fun r11 =>
 some ((r11.1.1,()),(r11.2.1,({ y1 with m := r10.2.1,k := r9.2.1 } : EnvP),()))
 else
 (adT y1.l y0.id).bind fun r12 =>
 (aa4 y1.m r12.1.1 1).bind fun r13 =>
 (aai y0 (wi (y0.line + 1))).bind fun r14 =>
 some ((r14.1.1,()),(r14.2.1,({ y1 with m := r13.2.1 } : EnvP),()))
 else none
 else none
 else none
 else none
 else none
 else none
 else none
 else none
 else none
 else none
 else none
 else none
 else none
 else none
 else none
 else none
 else none
 else none
 else none
 else none
 else none
 else none
 else none
 else none
 else none
 else none
 else none
 else none
 else none
 else none
 else none
 else none
 else none
 else none
 else none
 else none
 else none
 else none
 else none
 else none
 else none
 )
 else none
noncomputable abbrev aff : Con SR1 := ⟨116,[.ref 30,.ref 27],[.sh .b],fun x =>aek x.1 x.2.1⟩
theorem ain : CO Tryz.prog aff := aal aak Tryz.func116 [ajR,acC,aej,adF,agt,adS,ajP,anr,ad9] ⟨ajb,abR,af4,aec,afS,adg,ai7,akE,adD,trivial⟩ [] trivial (fun _ =>[]) [] fun x =>by kernel_rfl
noncomputable def aa8 (y0 : (ClientV MV)) (y1 : EnvP) : Option ((Bool × Unit) × ((ClientV MV) × EnvP × Unit)) :=
 if 0 ≤ y0.i ∧ y0.i < ((y0.subs.length : Nat) : Int) then
 if y0.line = 2 then
 (agl y1.l).bind fun r1 =>
 (acA y1.m r1.1.1).bind fun r2 =>
 if y1.c.heap ≤ (wi (r2.1.1)) then
 (abL y0 ({ y1 with m := r2.2.1 } : EnvP) 1).bind fun r3 =>
 some ((r3.1.1,()),(r3.2.1,r3.2.2.1,()))
 else
 (aai y0 (wi (y0.line + 1))).bind fun r4 =>
 some ((r4.1.1,()),(r4.2.1,({ y1 with m := r2.2.1 } : EnvP),()))
 else
 if y0.line = 4 then
 (afc y1.l y0.id).bind fun r5 =>
 (aa4 y1.m r5.1.1 (wu ((abC y0.subs y0.i).level))).bind fun r6 =>
 (aai y0 (wi (y0.line + 1))).bind fun r7 =>
 some ((r7.1.1,()),(r7.2.1,({ y1 with m := r6.2.1 } : EnvP),()))
 else
 if y0.line = 5 then
 (aiy y1.l y0.id).bind fun r8 =>
 (arD y1.k).bind fun r9 =>
 (aa4 y1.m r8.1.1 (wu (r9.1.1))).bind fun r10 =>
 (aai y0 (wi (y0.line + 1))).bind fun r11 =>
 some ((r11.1.1,()),(r11.2.1,({ y1 with m := r10.2.1,k := r9.2.1 } : EnvP),()))
 else
 (adT y1.l y0.id).bind fun r12 =>
 (aa4 y1.m r12.1.1 1).bind fun r13 =>
 (aai y0 (wi (y0.line + 1))).bind fun r14 =>
 some ((r14.1.1,()),(r14.2.1,({ y1 with m := r13.2.1 } : EnvP),()))
 else none
noncomputable abbrev agn : Con SR1 := ⟨116,[.ref 30,.ref 27],[.sh .b],fun x =>aa8 x.1 x.2.1⟩
theorem ajt (y0 : (ClientV MV)) (y1 : EnvP) : aek y0 y1 = aa8 y0 y1 := by
 unfold aek aa8
 simp only [if_true,asQ,am9]
theorem ajs : CO Tryz.prog agn := aFA ain fun x out hx =>(show aff.spec x = some out from (ajt x.1 x.2.1).trans hx)
noncomputable def acT (y0 : (ClientV MV)) : Option ((Bool × Unit) × ((ClientV MV) × Unit)) :=
 (aai ({ y0 with i := wi (y0.i + 1),accepted := false } : (ClientV MV)) 1).bind fun r1 =>
 (aau r1.2.1).bind fun r2 =>
 some ((r2.1.1,()),(r2.2.1,()))
noncomputable abbrev ahf : Con SR1 := ⟨132,[.ref 30],[.sh .b],fun x =>acT x.1⟩
theorem akN : CO Tryz.prog ahf := aal aak Tryz.func132 [adF,adU] ⟨aec,aeG,trivial⟩ [] trivial (fun _ =>[]) [] fun x =>by kernel_rfl
noncomputable def aaW (y0 : (ClientV MV)) (y1 : EnvP) (y2 : Int) (y3 : Int) : Option ((Bool × Unit) × ((ClientV MV) × EnvP × Unit)) :=
 if 0 ≤ y0.i ∧ y0.i < ((y0.subs.length : Nat) : Int) then
 if ((abC y0.subs y0.i).prog) = ((abC y0.subs y0.i).prog) then
 if ((abC y0.subs y0.i).level) = ((abC y0.subs y0.i).level) then
 if ((abC y0.subs y0.i).deadline) = ((abC y0.subs y0.i).deadline) then
 if y0.i = y0.i then
 if y0.line = 3 then
 if y2 = 3 then
 (abL y0 y1 2).bind fun r1 =>
 some ((r1.1.1,()),(r1.2.1,r1.2.2.1,()))
 else
 if 0 ≤ y3 ∧ y3 < ((y1.recs.length : Nat) : Int) then
 (aai ({ y0 with id := y3 } : (ClientV MV)) (wi (y0.line + 1))).bind fun r2 =>
 some ((r2.1.1,()),(r2.2.1,({ y1 with recs := y1.recs.set y3.toNat (⟨(abC y0.subs y0.i).prog,(-1),0,0,(-1),[],false⟩ : RecP) } : EnvP),()))
 else none
 else
 if y0.line = 6 then
 if y2 ≠ 0 then
 (aai y0 8).bind fun r3 =>
 some ((r3.1.1,()),(r3.2.1,y1,()))
 else
 (aef y1 (⟨1,y0.me,y0.id,y0.i,(abC y0.subs y0.i).level⟩ : Ev)).bind fun r4 =>
 (aai ({ y0 with accepted := true } : (ClientV MV)) (wi (y0.line + 1))).bind fun r5 =>
 some ((r5.1.1,()),(r5.2.1,r4.2.1,()))
 else
 if y0.line = 8 then
 if (!y0.accepted) = true then
 (acT y0).bind fun r6 =>
 some ((r6.1.1,()),(r6.2.1,y1,()))
 else
 (aai y0 (wi (y0.line + 1))).bind fun r7 =>
 some ((r7.1.1,()),(r7.2.1,y1,()))
 else
 if y0.line = 9 then
 (acT y0).bind fun r8 =>
 some ((r8.1.1,()),(r8.2.1,y1,()))
 else
 (aai y0 (wi (y0.line + 1))).bind fun r9 =>
 some ((r9.1.1,()),(r9.2.1,y1,()))
 else none
 else none
 else none
 else none
 else none
noncomputable abbrev agX : Con SR1 := ⟨117,[.ref 30,.ref 27,.sh sI_,.sh sI_],[.sh .b],fun x =>aaW x.1 x.2.1 x.2.2.1 x.2.2.2.1⟩
theorem akg : CO Tryz.prog agX := aal aak Tryz.func117 [aej,adF,afu,ahf] ⟨af4,aec,aew,akN,trivial⟩ [] trivial (fun _ =>[]) [] fun x =>by kernel_rfl
noncomputable def aat (y0 : (ClientV MV)) (y1 : EnvP) : Option ((Bool × Unit) × ((ClientV MV) × EnvP × Unit)) :=
 (aau y0).bind fun r1 =>
 if r1.1.1 = true then
 some ((true,()),(r1.2.1,y1,()))
 else
 if r1.2.1.fresh = true then
 (adc r1.2.1).bind fun r2 =>
 if (SR1.spl r2.1.1).isNone = true then
 (aa8 ({ r2.2.1 with inside := r2.1.1,fresh := false } : (ClientV MV)) y1).bind fun r3 =>
 some ((r3.1.1,()),(r3.2.1,r3.2.2.1,()))
 else
 (adP r2.1.1 y1).bind fun r4 =>
 if (!r4.1.1) = true then
 some ((false,()),(({ r2.2.1 with inside := r4.2.1,fresh := false } : (ClientV MV)),r4.2.2.1,()))
 else
 (abx r4.2.1).bind fun r5 =>
 (aaW ({ r2.2.1 with inside := r5.2.1,fresh := false } : (ClientV MV)) r4.2.2.1 r5.1.1 r5.1.2.1).bind fun r6 =>
 some ((r6.1.1,()),(r6.2.1,r6.2.2.1,()))
 else
 if (SR1.spl r1.2.1.inside).isNone = true then
 (aa8 r1.2.1 y1).bind fun r7 =>
 some ((r7.1.1,()),(r7.2.1,r7.2.2.1,()))
 else
 (adP r1.2.1.inside y1).bind fun r8 =>
 if (!r8.1.1) = true then
 some ((false,()),(({ r1.2.1 with inside := r8.2.1 } : (ClientV MV)),r8.2.2.1,()))
 else
 (abx r8.2.1).bind fun r9 =>
 (aaW ({ r1.2.1 with inside := r9.2.1 } : (ClientV MV)) r8.2.2.1 r9.1.1 r9.1.2.1).bind fun r10 =>
 some ((r10.1.1,()),(r10.2.1,r10.2.2.1,()))
noncomputable abbrev ac3 : Con SR1 := ⟨114,[.ref 30,.ref 27],[.sh .b],fun x =>aat x.1 x.2.1⟩
theorem adx : CO Tryz.prog ac3 := aal aak Tryz.func114 [adU,afe,agn,arf,ams,agX] ⟨aeG,aim,ajs,ate,ao1,akg,trivial⟩ [] trivial (fun _ =>[]) [] fun x =>by kernel_rfl
noncomputable def afC (y0 : Int) : Option ((MV × Unit) × (Unit)) :=
 (afX y0).bind fun r1 =>
 some ((MV.take (⟨⟨false,0,0⟩,y0,false,r1.1.1⟩ : (TakeV MV)),()),())
noncomputable abbrev ami : Con SR1 := ⟨144,[.sh sI_],[.sh .mach],fun x =>afC x.1⟩
theorem aoK : CO Tryz.prog ami := aal aak Tryz.func144 [akH] ⟨ant,trivial⟩ [] trivial (fun _ =>[]) [] fun x =>by kernel_rfl
noncomputable def aaf (y0 : (WorkerV MV)) (y1 : Int) (y2 : MV) : Option ((Unit) × ((WorkerV MV) × Unit)) :=
 some ((()),(({ y0 with line := y1,inside := y2 } : (WorkerV MV)),()))
noncomputable abbrev acj : Con SR1 := ⟨143,[.ref 31,.sh sI_,.sh .mach],[],fun x =>aaf x.1 x.2.1 x.2.2.1⟩
theorem acw : CO Tryz.prog acj := aal aak Tryz.func143 [] trivial [] trivial (fun _ =>[]) [] fun x =>by kernel_rfl
noncomputable def anf (y0 : Int) (y1 : Int) : Option ((MV × Unit) × (Unit)) :=
 some ((MV.sweep (⟨⟨false,0,0⟩,y0,y1,1,0,MV.nil⟩ : (SweepV MV)),()),())
noncomputable abbrev anD : Con SR1 := ⟨145,[.sh sI_,.sh sI_],[.sh .mach],fun x =>anf x.1 x.2.1⟩
theorem asR : CO Tryz.prog anD := aal aak Tryz.func145 [] trivial [] trivial (fun _ =>[]) [] fun x =>by kernel_rfl
noncomputable def ad8 (y0 : (WorkerV MV)) (y1 : EnvP) : Option ((Unit) × ((WorkerV MV) × EnvP × Unit)) :=
 if y1.c.age = 0 then
 (afC y0.worker).bind fun r1 =>
 (aaf y0 2 r1.1.1).bind fun r2 =>
 some ((()),(r2.2.1,y1,()))
 else
 (aAB y0.worker y1.c.tasks).bind fun r3 =>
 if y1.c.tasks = y1.c.tasks then
 if y0.cursor = y0.cursor then
 if y0.worker = y0.worker then
 (aAB (wi (r3.1.1 + y0.cursor)) y1.c.tasks).bind fun r4 =>
 if y0.worker = y0.worker then
 (anf y0.worker r4.1.1).bind fun r5 =>
 (aaf y0 1 r5.1.1).bind fun r6 =>
 some ((()),(r6.2.1,y1,()))
 else none
 else none
 else none
 else none
noncomputable abbrev agF : Con SR1 := ⟨139,[.ref 31,.ref 27],[],fun x =>ad8 x.1 x.2.1⟩
theorem aj7 : CO Tryz.prog agF := aal aak Tryz.func139 [ami,acj,atD,anD] ⟨aoK,acw,arE,asR,trivial⟩ [] trivial (fun _ =>[]) [] fun x =>by kernel_rfl
noncomputable def ale (y0 : Int) (y1 : Int) : Option ((MV × Unit) × (Unit)) :=
 some ((MV.run (⟨⟨false,0,0⟩,y0,[y1],0,MV.nil,0,0,0,0⟩ : (RunV MV)),()),())
noncomputable abbrev aoV : Con SR1 := ⟨155,[.sh sI_,.sh sI_],[.sh .mach],fun x =>ale x.1 x.2.1⟩
theorem atm : CO Tryz.prog aoV := aal aak Tryz.func155 [] trivial [] trivial (fun _ =>[]) [] fun x =>by kernel_rfl
noncomputable def adf (y0 : (WorkerV MV)) (y1 : Int) : Option ((Unit) × ((WorkerV MV) × Unit)) :=
 (ale y0.worker y1).bind fun r1 =>
 (aaf ({ y0 with x := y1 } : (WorkerV MV)) 7 r1.1.1).bind fun r2 =>
 some ((()),(r2.2.1,()))
noncomputable abbrev afp : Con SR1 := ⟨142,[.ref 31,.sh sI_],[],fun x =>adf x.1 x.2.1⟩
theorem ag2 : CO Tryz.prog afp := aal aak Tryz.func142 [aoV,acj] ⟨atm,acw,trivial⟩ [] trivial (fun _ =>[]) [] fun x =>by kernel_rfl
noncomputable def aj3 (y0 : Int) : Option ((MV × Unit) × (Unit)) :=
 some ((MV.drain (⟨⟨false,0,0⟩,y0,1,MV.nil,0,false,0,0,0⟩ : (DrainV MV)),()),())
noncomputable abbrev anw : Con SR1 := ⟨147,[.sh sI_],[.sh .mach],fun x =>aj3 x.1⟩
theorem asu : CO Tryz.prog anw := aal aak Tryz.func147 [] trivial [] trivial (fun _ =>[]) [] fun x =>by kernel_rfl
noncomputable def acx (y0 : (WorkerV MV)) (y1 : Int) : Option ((Unit) × ((WorkerV MV) × Unit)) :=
 (acz y0.worker y1).bind fun r1 =>
 (aaf ({ y0 with x := y1 } : (WorkerV MV)) 6 r1.1.1).bind fun r2 =>
 some ((()),(r2.2.1,()))
noncomputable abbrev aeB : Con SR1 := ⟨148,[.ref 31,.sh sI_],[],fun x =>acx x.1 x.2.1⟩
theorem agi : CO Tryz.prog aeB := aal aak Tryz.func148 [afR,acj] ⟨agp,acw,trivial⟩ [] trivial (fun _ =>[]) [] fun x =>by kernel_rfl
noncomputable def adC (y0 : Int) : Option ((MV × Unit) × (Unit)) :=
 some ((MV.sleep (⟨⟨false,0,0⟩,y0,1,0,0,0⟩ : SleepV),()),())
noncomputable abbrev akC : Con SR1 := ⟨150,[.sh sI_],[.sh .mach],fun x =>adC x.1⟩
theorem anp : CO Tryz.prog akC := aal aak Tryz.func150 [] trivial [] trivial (fun _ =>[]) [] fun x =>by kernel_rfl
noncomputable def amD (y0 : Int) : Option ((MV × Unit) × (Unit)) :=
 some ((MV.probe (⟨⟨false,0,0⟩,y0,false,0,0,⟨0,0,0,0,0,0,0,0,0,0,0,0,0,0,0,0⟩⟩ : ProbeV),()),())
noncomputable abbrev ano : Con SR1 := ⟨158,[.sh sI_],[.sh .mach],fun x =>amD x.1⟩
theorem arx : CO Tryz.prog ano := aal aak Tryz.func158 [] trivial [] trivial (fun _ =>[]) [] fun x =>by kernel_rfl
noncomputable def abb (y0 : (WorkerV MV)) (y1 : EnvP) : Option ((Unit) × ((WorkerV MV) × EnvP × Unit)) :=
 if y1.c.workers = 1 then
 (adC y0.worker).bind fun r1 =>
 (aaf y0 8 r1.1.1).bind fun r2 =>
 some ((()),(r2.2.1,y1,()))
 else
 (amD y0.worker).bind fun r3 =>
 (aaf y0 4 r3.1.1).bind fun r4 =>
 some ((()),(r4.2.1,y1,()))
noncomputable abbrev ag3 : Con SR1 := ⟨149,[.ref 31,.ref 27],[],fun x =>abb x.1 x.2.1⟩
theorem aky : CO Tryz.prog ag3 := aal aak Tryz.func149 [akC,acj,ano] ⟨anp,acw,arx,trivial⟩ [] trivial (fun _ =>[]) [] fun x =>by kernel_rfl
noncomputable def adH (y0 : QV) : Option ((MV × Unit) × (Unit)) :=
 some ((MV.steal (⟨⟨false,0,0⟩,y0,1,0,0⟩ : StealV),()),())
noncomputable abbrev ank : Con SR1 := ⟨151,[.val 14],[.sh .mach],fun x =>adH x.1⟩
theorem arb : CO Tryz.prog ank := aal aak Tryz.func151 [] trivial [] trivial (fun _ =>[]) [] fun x =>by kernel_rfl
noncomputable def abY (y0 : (WorkerV MV)) (y1 : EnvP) (y2 : Int) (y3 : Int) : Option ((Unit) × ((WorkerV MV) × EnvP × Unit)) :=
 if y0.line = 1 then
 (afC y0.worker).bind fun r1 =>
 (aaf ({ y0 with cursor := wi (y0.cursor + 1) } : (WorkerV MV)) 2 r1.1.1).bind fun r2 =>
 some ((()),(r2.2.1,y1,()))
 else
 if y0.line = 2 then
 if y2 = 1 then
 (adf y0 y3).bind fun r3 =>
 some ((()),(r3.2.1,y1,()))
 else
 if y0.line = 2 then
 (aj3 y0.worker).bind fun r4 =>
 (aaf y0 3 r4.1.1).bind fun r5 =>
 some ((()),(r5.2.1,y1,()))
 else
 if y0.line = 3 then
 if y2 = 1 then
 (acx y0 y3).bind fun r6 =>
 some ((()),(r6.2.1,y1,()))
 else
 if y0.line = 3 then
 if y2 = 0 then
 (afC y0.worker).bind fun r7 =>
 (aaf y0 2 r7.1.1).bind fun r8 =>
 some ((()),(r8.2.1,y1,()))
 else
 if y0.line = 3 then
 (abb y0 y1).bind fun r9 =>
 some ((()),(r9.2.1,r9.2.2.1,()))
 else
 if y2 = 2 then
 (adC y0.worker).bind fun r10 =>
 (aaf y0 8 r10.1.1).bind fun r11 =>
 some ((()),(r11.2.1,y1,()))
 else
 (agQ y1.l (wi (Int.tdiv y3 64)) (Int.tmod y3 64)).bind fun r12 =>
 (adH r12.1.1).bind fun r13 =>
 (aaf ({ y0 with victim := wi (Int.tdiv y3 64),level := (Int.tmod y3 64) } : (WorkerV MV)) 5 r13.1.1).bind fun r14 =>
 some ((()),(r14.2.1,y1,()))
 else
 if y0.line = 3 then
 (abb y0 y1).bind fun r15 =>
 some ((()),(r15.2.1,r15.2.2.1,()))
 else
 if y2 = 2 then
 (adC y0.worker).bind fun r16 =>
 (aaf y0 8 r16.1.1).bind fun r17 =>
 some ((()),(r17.2.1,y1,()))
 else
 (agQ y1.l (wi (Int.tdiv y3 64)) (Int.tmod y3 64)).bind fun r18 =>
 (adH r18.1.1).bind fun r19 =>
 (aaf ({ y0 with victim := wi (Int.tdiv y3 64),level := (Int.tmod y3 64) } : (WorkerV MV)) 5 r19.1.1).bind fun r20 =>
 some ((()),(r20.2.1,y1,()))
 else
 if y0.line = 3 then
 if y2 = 0 then
 (afC y0.worker).bind fun r21 =>
 (aaf y0 2 r21.1.1).bind fun r22 =>
 some ((()),(r22.2.1,y1,()))
 else
 if y0.line = 3 then
 (abb y0 y1).bind fun r23 =>
 some ((()),(r23.2.1,r23.2.2.1,()))
 else
 if y2 = 2 then
 (adC y0.worker).bind fun r24 =>
 (aaf y0 8 r24.1.1).bind fun r25 =>
 some ((()),(r25.2.1,y1,()))
 else
 (agQ y1.l (wi (Int.tdiv y3 64)) (Int.tmod y3 64)).bind fun r26 =>
 (adH r26.1.1).bind fun r27 =>
 (aaf ({ y0 with victim := wi (Int.tdiv y3 64),level := (Int.tmod y3 64) } : (WorkerV MV)) 5 r27.1.1).bind fun r28 =>
 some ((()),(r28.2.1,y1,()))
 else
 if y0.line = 3 then
 (abb y0 y1).bind fun r29 =>
 some ((()),(r29.2.1,r29.2.2.1,()))
 else
 if y2 = 2 then
 (adC y0.worker).bind fun r30 =>
 (aaf y0 8 r30.1.1).bind fun r31 =>
 some ((()),(r31.2.1,y1,()))
 else
 (agQ y1.l (wi (Int.tdiv y3 64)) (Int.tmod y3 64)).bind fun r32 =>
 (adH r32.1.1).bind fun r33 =>
 (aaf ({ y0 with victim := wi (Int.tdiv y3 64),level := (Int.tmod y3 64) } : (WorkerV MV)) 5 r33.1.1).bind fun r34 =>
 some ((()),(r34.2.1,y1,()))
 else
 if y0.line = 2 then
 (aj3 y0.worker).bind fun r35 =>
 (aaf y0 3 r35.1.1).bind fun r36 =>
 some ((()),(r36.2.1,y1,()))
 else
 if y0.line = 3 then
 if y2 = 1 then
 (acx y0 y3).bind fun r37 =>
 some ((()),(r37.2.1,y1,()))
 else
 if y0.line = 3 then
 if y2 = 0 then
 (afC y0.worker).bind fun r38 =>
 (aaf y0 2 r38.1.1).bind fun r39 =>
 some ((()),(r39.2.1,y1,()))
 else
 if y0.line = 3 then
 (abb y0 y1).bind fun r40 =>
 some ((()),(r40.2.1,r40.2.2.1,()))
 else
 if y2 = 2 then
 (adC y0.worker).bind fun r41 =>
 (aaf y0 8 r41.1.1).bind fun r42 =>
 some ((()),(r42.2.1,y1,()))
 else
 (agQ y1.l (wi (Int.tdiv y3 64)) (Int.tmod y3 64)).bind fun r43 =>
 (adH r43.1.1).bind fun r44 =>
 (aaf ({ y0 with victim := wi (Int.tdiv y3 64),level := (Int.tmod y3 64) } : (WorkerV MV)) 5 r44.1.1).bind fun r45 =>
 some ((()),(r45.2.1,y1,()))
 else
 if y0.line = 3 then
 (abb y0 y1).bind fun r46 =>
 some ((()),(r46.2.1,r46.2.2.1,()))
 else
 if y2 = 2 then
 (adC y0.worker).bind fun r47 =>
 (aaf y0 8 r47.1.1).bind fun r48 =>
 some ((()),(r48.2.1,y1,()))
 else
 (agQ y1.l (wi (Int.tdiv y3 64)) (Int.tmod y3 64)).bind fun r49 =>
 (adH r49.1.1).bind fun r50 =>
 (aaf ({ y0 with victim := wi (Int.tdiv y3 64),level := (Int.tmod y3 64) } : (WorkerV MV)) 5 r50.1.1).bind fun r51 =>
 some ((()),(r51.2.1,y1,()))
 else
 if y0.line = 3 then
 if y2 = 0 then
 (afC y0.worker).bind fun r52 =>
 (aaf y0 2 r52.1.1).bind fun r53 =>
 some ((()),(r53.2.1,y1,()))
 else
 if y0.line = 3 then
 (abb y0 y1).bind fun r54 =>
 some ((()),(r54.2.1,r54.2.2.1,()))
 else
 if y2 = 2 then
 (adC y0.worker).bind fun r55 =>
 (aaf y0 8 r55.1.1).bind fun r56 =>
 some ((()),(r56.2.1,y1,()))
 else
 (agQ y1.l (wi (Int.tdiv y3 64)) (Int.tmod y3 64)).bind fun r57 =>
 (adH r57.1.1).bind fun r58 =>
 (aaf ({ y0 with victim := wi (Int.tdiv y3 64),level := (Int.tmod y3 64) } : (WorkerV MV)) 5 r58.1.1).bind fun r59 =>
 some ((()),(r59.2.1,y1,()))
 else
 if y0.line = 3 then
 (abb y0 y1).bind fun r60 =>
 some ((()),(r60.2.1,r60.2.2.1,()))
 else
 if y2 = 2 then
 (adC y0.worker).bind fun r61 =>
 (aaf y0 8 r61.1.1).bind fun r62 =>
 some ((()),(r62.2.1,y1,()))
 else
 (agQ y1.l (wi (Int.tdiv y3 64)) (Int.tmod y3 64)).bind fun r63 =>
 (adH r63.1.1).bind fun r64 =>
 (aaf ({ y0 with victim := wi (Int.tdiv y3 64),level := (Int.tmod y3 64) } : (WorkerV MV)) 5 r64.1.1).bind fun r65 =>
 some ((()),(r65.2.1,y1,()))
noncomputable abbrev agH : Con SR1 := ⟨140,[.ref 31,.ref 27,.sh sI_,.sh sI_],[],fun x =>abY x.1 x.2.1 x.2.2.1 x.2.2.2.1⟩
theorem aj8 : CO Tryz.prog agH := aal aak Tryz.func140 [ami,acj,afp,anw,aeB,ag3,akC,ajQ,ank] ⟨aoK,acw,ag2,asu,agi,aky,anp,ai9,arb,trivial⟩ [] trivial (fun _ =>[]) [] fun x =>by kernel_rfl
noncomputable def aaY (y0 : (WorkerV MV)) : Option ((Unit) × ((WorkerV MV) × Unit)) :=
 some ((()),(({ y0 with line := 0,inside := MV.nil } : (WorkerV MV)),()))
noncomputable abbrev aeQ : Con SR1 := ⟨138,[.ref 31],[],fun x =>aaY x.1⟩
theorem agG : CO Tryz.prog aeQ := aal aak Tryz.func138 [] trivial [] trivial (fun _ =>[]) [] fun x =>by kernel_rfl
noncomputable def adN (y0 : (WorkerV MV)) (y1 : EnvP) (y2 : Int) (y3 : Int) : Option ((Unit) × ((WorkerV MV) × EnvP × Unit)) :=
 if y2 = 1 then
 (aef y1 ({ y0 with kind := 14,task := y3,other := y0.victim } : Ev)).bind fun r1 =>
 (acx y0 y3).bind fun r2 =>
 some ((()),(r2.2.1,r1.2.1,()))
 else
 if y2 = 2 then
 (ahk y1.l y0.victim).bind fun r3 =>
 if y0.level = y0.level then
 if y0.victim = y0.victim then
 if y1.l.workers = y1.l.workers then
 if y1.l.levels = y1.l.levels then
 if y1.l.classes = y1.l.classes then
 if y1.l.tasks = y1.l.tasks then
 if y1.l.deque = y1.l.deque then
 if y1.l.heap = y1.l.heap then
 if y1.l.sleepers = y1.l.sleepers then
 if y1.l.epochs = y1.l.epochs then
 if y1.l.bitmaps = y1.l.bitmaps then
 if y1.l.queues = y1.l.queues then
 if y1.l.table = y1.l.table then
 if y0.level = y0.level then
 (agQ y1.l y0.victim y0.level).bind fun r4 =>
 if y0.level = y0.level then
 (agZ r3.1.1 y0.level r4.1.1).bind fun r5 =>
 (aaf y0 9 r5.1.1).bind fun r6 =>
 some ((()),(r6.2.1,y1,()))
 else none
 else none
 else none
 else none
 else none
 else none
 else none
 else none
 else none
 else none
 else none
 else none
 else none
 else none
 else none
 else
 (aaY y0).bind fun r7 =>
 some ((()),(r7.2.1,y1,()))
noncomputable abbrev agh : Con SR1 := ⟨141,[.ref 31,.ref 27,.sh sI_,.sh sI_],[],fun x =>adN x.1 x.2.1 x.2.2.1 x.2.2.2.1⟩
theorem aiQ : CO Tryz.prog agh := aal aak Tryz.func141 [afu,aeB,agR,ajQ,aiq,acj,aeQ] ⟨aew,agi,agD,ai9,akw,acw,agG,trivial⟩ [] trivial (fun _ =>[]) [] fun x =>by kernel_rfl
noncomputable def aah (y0 : (WorkerV MV)) (y1 : EnvP) : Option ((Bool × Unit) × ((WorkerV MV) × EnvP × Unit)) :=
 if y0.line = 0 then
 (ad8 y0 y1).bind fun r1 =>
 (adP r1.2.1.inside r1.2.2.1).bind fun r2 =>
 if (!r2.1.1) = true then
 some ((false,()),(({ r1.2.1 with inside := r2.2.1 } : (WorkerV MV)),r2.2.2.1,()))
 else
 (abx r2.2.1).bind fun r3 =>
 if r1.2.1.line ≤ 4 then
 (abY ({ r1.2.1 with inside := r3.2.1 } : (WorkerV MV)) r2.2.2.1 r3.1.1 r3.1.2.1).bind fun r4 =>
 some ((false,()),(r4.2.1,r4.2.2.1,()))
 else
 if r1.2.1.line = 5 then
 (adN ({ r1.2.1 with inside := r3.2.1 } : (WorkerV MV)) r2.2.2.1 r3.1.1 r3.1.2.1).bind fun r5 =>
 some ((false,()),(r5.2.1,r5.2.2.1,()))
 else
 if r1.2.1.line = 6 then
 if r3.1.1 = 1 then
 (adf ({ r1.2.1 with inside := r3.2.1 } : (WorkerV MV)) r1.2.1.x).bind fun r6 =>
 some ((false,()),(r6.2.1,r2.2.2.1,()))
 else
 (aaY ({ r1.2.1 with inside := r3.2.1 } : (WorkerV MV))).bind fun r7 =>
 some ((false,()),(r7.2.1,r2.2.2.1,()))
 else
 (aaY ({ r1.2.1 with inside := r3.2.1 } : (WorkerV MV))).bind fun r8 =>
 some ((false,()),(r8.2.1,r2.2.2.1,()))
 else
 (adP y0.inside y1).bind fun r9 =>
 if (!r9.1.1) = true then
 some ((false,()),(({ y0 with inside := r9.2.1 } : (WorkerV MV)),r9.2.2.1,()))
 else
 (abx r9.2.1).bind fun r10 =>
 if y0.line ≤ 4 then
 (abY ({ y0 with inside := r10.2.1 } : (WorkerV MV)) r9.2.2.1 r10.1.1 r10.1.2.1).bind fun r11 =>
 some ((false,()),(r11.2.1,r11.2.2.1,()))
 else
 if y0.line = 5 then
 (adN ({ y0 with inside := r10.2.1 } : (WorkerV MV)) r9.2.2.1 r10.1.1 r10.1.2.1).bind fun r12 =>
 some ((false,()),(r12.2.1,r12.2.2.1,()))
 else
 if y0.line = 6 then
 if r10.1.1 = 1 then
 (adf ({ y0 with inside := r10.2.1 } : (WorkerV MV)) y0.x).bind fun r13 =>
 some ((false,()),(r13.2.1,r9.2.2.1,()))
 else
 (aaY ({ y0 with inside := r10.2.1 } : (WorkerV MV))).bind fun r14 =>
 some ((false,()),(r14.2.1,r9.2.2.1,()))
 else
 (aaY ({ y0 with inside := r10.2.1 } : (WorkerV MV))).bind fun r15 =>
 some ((false,()),(r15.2.1,r9.2.2.1,()))
noncomputable abbrev acV : Con SR1 := ⟨137,[.ref 31,.ref 27],[.sh .b],fun x =>aah x.1 x.2.1⟩
theorem adn : CO Tryz.prog acV := aal aak Tryz.func137 [agF,arf,ams,agH,agh,afp,aeQ] ⟨aj7,ate,ao1,aj8,aiQ,ag2,agG,trivial⟩ [] trivial (fun _ =>[]) [] fun x =>by kernel_rfl
noncomputable def afy (y0 : Cfg) : Option ((Cfg × Unit) × (Unit)) :=
 (ahS y0.progs).bind fun r1 =>
 (lpF (σ := Int × (Int × Int × Int × Int × Int × Int × Int × Int × Int × List (List Ins) × List Sub × Unit) × Unit) (β := Int × (Int × Int × Int × Int × Int × Int × Int × Int × Int × List (List Ins) × List Sub × Unit) × Unit) (fun self4 x2 =>
 if x2.1 < ((r1.1.1.length : Nat) : Int) then
 if 0 ≤ x2.1 ∧ x2.1 < ((x2.2.1.2.2.2.2.2.2.2.2.2.1.length : Nat) : Int) then
 (aj4 (aAh x2.2.1.2.2.2.2.2.2.2.2.2.1 x2.1)).bind fun r5 =>
 if 0 ≤ x2.1 ∧ x2.1 < ((x2.2.1.2.2.2.2.2.2.2.2.2.1.length : Nat) : Int) then
 self4 (wi (x2.1 + 1),(x2.2.1.1,x2.2.1.2.1,x2.2.1.2.2.1,x2.2.1.2.2.2.1,x2.2.1.2.2.2.2.1,x2.2.1.2.2.2.2.2.1,x2.2.1.2.2.2.2.2.2.1,x2.2.1.2.2.2.2.2.2.2.1,x2.2.1.2.2.2.2.2.2.2.2.1,x2.2.1.2.2.2.2.2.2.2.2.2.1.set x2.1.toNat r5.1.1,x2.2.1.2.2.2.2.2.2.2.2.2.2.1,()),())
 else none
 else none
 else
 some (x2.1,(x2.2.1.1,x2.2.1.2.1,x2.2.1.2.2.1,x2.2.1.2.2.2.1,x2.2.1.2.2.2.2.1,x2.2.1.2.2.2.2.2.1,x2.2.1.2.2.2.2.2.2.1,x2.2.1.2.2.2.2.2.2.2.1,x2.2.1.2.2.2.2.2.2.2.2.1,x2.2.1.2.2.2.2.2.2.2.2.2.1,x2.2.1.2.2.2.2.2.2.2.2.2.2.1,()),())
 ) 18446744073709551616 (0,(y0.workers,y0.levels,y0.classes,y0.tasks,y0.deque,y0.heap,y0.batch,y0.age,y0.patience,r1.1.1,y0.subs,()),())).bind fun z3 =>
 (ahR z3.2.1.2.2.2.2.2.2.2.2.2.2.1).bind fun r6 =>
 some (((⟨z3.2.1.1,z3.2.1.2.1,z3.2.1.2.2.1,z3.2.1.2.2.2.1,z3.2.1.2.2.2.2.1,z3.2.1.2.2.2.2.2.1,z3.2.1.2.2.2.2.2.2.1,z3.2.1.2.2.2.2.2.2.2.1,z3.2.1.2.2.2.2.2.2.2.2.1,z3.2.1.2.2.2.2.2.2.2.2.2.1,r6.1.1⟩ : Cfg),()),())
noncomputable abbrev aij : Con SR1 := ⟨83,[.val 13],[.val 13],fun x =>afy x.1⟩
theorem akv : CO Tryz.prog aij := aal aak Tryz.func83 [ail,aqY,apY] ⟨auf,avt,aue,trivial⟩ [] trivial (fun _ =>[]) [(3,.loop [.rg 11 sI_,.cs 11 [sI_,sI_,sI_,sI_,sI_,sI_,sI_,sI_,sI_,(.row 18),(.ro 4)]] 18446744073709551616 0)] fun x =>by kernel_rfl
noncomputable def alN (y0 : Cfg) : Option ((LayV × Int × Unit) × (Unit)) :=
 (al5 y0).bind fun r1 =>
 if r1.1.1 ≠ 0 then
 some (((⟨0,0,0,0,0,0,0,0,0,0,0⟩ : LayV),r1.1.1,()),())
 else
 some ((({ y0 with sleepers := wi (4 + y0.heap),epochs := wi ((wi (4 + y0.heap)) + y0.classes),bitmaps := wi ((wi ((wi (4 + y0.heap)) + y0.classes)) + y0.workers),queues := wi ((wi ((wi ((wi (4 + y0.heap)) + y0.classes)) + y0.workers)) + y0.workers),table := wi ((wi ((wi ((wi ((wi (4 + y0.heap)) + y0.classes)) + y0.workers)) + y0.workers)) + (wi ((wi (y0.workers * y0.levels)) * (wi (2 + y0.deque))))) } : LayV),0,()),())
noncomputable abbrev apA : Con SR1 := ⟨80,[.val 13],[.val 24,.sh sI_],fun x =>alN x.1⟩
theorem atZ : CO Tryz.prog apA := aal aak Tryz.func80 [am1] ⟨ap2,trivial⟩ [] trivial (fun _ =>[]) [] fun x =>by kernel_rfl
noncomputable def apo (y0 : Int) : Option ((MemV × Unit) × (Unit)) :=
 if (if 131072 < (if y0 < 0 then 0 else y0) then 131072 else (if y0 < 0 then 0 else y0)) = (if 131072 < (if y0 < 0 then 0 else y0) then 131072 else (if y0 < 0 then 0 else y0)) then
 if 0 ≤ (if 131072 < (if y0 < 0 then 0 else y0) then 131072 else (if y0 < 0 then 0 else y0)) ∧ (if 131072 < (if y0 < 0 then 0 else y0) then 131072 else (if y0 < 0 then 0 else y0)) ≤ 1099511627776 then
 some (((⟨List.replicate ((if 131072 < (if y0 < 0 then 0 else y0) then 131072 else (if y0 < 0 then 0 else y0)) : Int).toNat (0 : Int),⟨0,0,0,0⟩,0⟩ : MemV),()),())
 else none
 else none
noncomputable abbrev apn : Con SR1 := ⟨92,[.sh sI_],[.sh (.own 9)],fun x =>apo x.1⟩
theorem atS : CO Tryz.prog apn := aal aak Tryz.func92 [] trivial [] trivial (fun _ =>[]) [] fun x =>by kernel_rfl
noncomputable def asD  : Option ((ClkV × Unit) × (Unit)) :=
 some (((⟨0,0⟩ : ClkV),()),())
noncomputable abbrev aqZ : Con SR1 := ⟨93,[],[.sh (.own 25)],fun x =>asD ⟩
theorem avu : CO Tryz.prog aqZ := aal aak Tryz.func93 [] trivial [] trivial (fun _ =>[]) [] fun x =>by kernel_rfl
noncomputable def ah5 (y0 : Int) : Option ((EnvP × Unit) × (Unit)) :=
 (apo y0).bind fun r1 =>
 (asD).bind fun r2 =>
 some (((⟨⟨0,0,0,0,0,0,0,0,0,[],[]⟩,⟨0,0,0,0,0,0,0,0,0,0,0⟩,r1.1.1,r2.1.1,[],[]⟩ : EnvP),()),())
noncomputable abbrev alC : Con SR1 := ⟨81,[.sh sI_],[.sh (.own 27)],fun x =>ah5 x.1⟩
theorem aqn : CO Tryz.prog alC := aal aak Tryz.func81 [apn,aqZ] ⟨atS,avu,trivial⟩ [] trivial (fun _ =>[]) [] fun x =>by kernel_rfl
noncomputable def agW (y0 : Cfg) : Option (((ClientV MV) × Unit) × (Unit)) :=
 (afy y0).bind fun r1 =>
 if y0.workers = y0.workers then
 some (((⟨r1.1.1.subs,y0.workers,0,1,MV.nil,true,0,false⟩ : (ClientV MV)),()),())
 else none
noncomputable abbrev agV : Con SR1 := ⟨62,[.val 13],[.sh (.own 30)],fun x =>agW x.1⟩
theorem ahe : CO Tryz.prog agV := aal aak Tryz.func62 [aij] ⟨akv,trivial⟩ [] trivial (fun _ =>[]) [] fun x =>by kernel_rfl
noncomputable def adz (y0 : Int) : Option (((WorkerV MV) × Unit) × (Unit)) :=
 some (((⟨y0,0,0,MV.nil,0,0,0⟩ : (WorkerV MV)),()),())
noncomputable abbrev agI : Con SR1 := ⟨63,[.sh sI_],[.sh (.own 31)],fun x =>adz x.1⟩
theorem ag4 : CO Tryz.prog agI := aal aak Tryz.func63 [] trivial [] trivial (fun _ =>[]) [] fun x =>by kernel_rfl
noncomputable def abK (y0 : (ClientV MV)) : Option ((Int × Unit) × ((ClientV MV) × Unit)) :=
 (aau y0).bind fun r1 =>
 if r1.1.1 = true then
 some ((4,()),(r1.2.1,()))
 else
 if r1.2.1.line = 1 then
 some ((0,()),(r1.2.1,()))
 else
 some ((2,()),(r1.2.1,()))
noncomputable abbrev aco : Con SR1 := ⟨54,[.ref 30],[.sh sI_],fun x =>abK x.1⟩
theorem ac4 : CO Tryz.prog aco := aal aak Tryz.func54 [adU] ⟨aeG,trivial⟩ [] trivial (fun _ =>[]) [] fun x =>by kernel_rfl
noncomputable def aaJ (y0 : (WorkerV MV)) : Option ((Int × Unit) × ((WorkerV MV) × Unit)) :=
 if y0.line = 0 then
 some ((0,()),(y0,()))
 else
 if y0.line = 7 then
 some ((2,()),(y0,()))
 else
 if y0.line = 8 then
 (amG y0.inside).bind fun r1 =>
 if r1.1.1 = true then
 some ((3,()),(({ y0 with inside := r1.2.1 } : (WorkerV MV)),()))
 else
 some ((1,()),(({ y0 with inside := r1.2.1 } : (WorkerV MV)),()))
 else
 some ((1,()),(y0,()))
noncomputable abbrev acn : Con SR1 := ⟨53,[.ref 31],[.sh sI_],fun x =>aaJ x.1⟩
theorem acW : CO Tryz.prog acn := aal aak Tryz.func53 [ai5] ⟨arA,trivial⟩ [] trivial (fun _ =>[]) [] fun x =>by kernel_rfl
noncomputable def abG (r : CodV) (k : Int) : Option ((Int × Unit) × (CodV × Unit)) :=
 if r.at_ < ((r.inn.length : Nat) : Int) then
 if 0 ≤ r.at_ ∧ r.at_ < ((r.inn.length : Nat) : Int) then
 if k ≠ 0 then
 some (((Int.tmod (wi (aiM r.inn r.at_)) k),()),(({ r with at_ := wi (r.at_ + 1) } : CodV),()))
 else none
 else none
 else
 some ((0,()),(({ r with at_ := wi (r.at_ + 1) } : CodV),()))
noncomputable abbrev aqC : Con SR1 := ⟨59,[.ref 19,.sh sI_],[.sh sI_],fun x =>abG x.1 x.2.1⟩
theorem auQ : CO Tryz.prog aqC := aal aak Tryz.func59 [] trivial [] trivial (fun _ =>[]) [] fun x =>by kernel_rfl
noncomputable def aob (b : List Int) : Option ((Cfg × Unit) × (Unit)) :=
 (abG (⟨b,[],0,false⟩ : CodV) 4).bind fun r1 =>
 (abG r1.2.1 4).bind fun r2 =>
 (abG r2.2.1 (if wi (1 + r2.1.1) < 3 then wi (1 + r2.1.1) else 3)).bind fun r3 =>
 (abG r3.2.1 12).bind fun r4 =>
 (abG r4.2.1 4).bind fun r5 =>
 (abG r5.2.1 4).bind fun r6 =>
 (abG r6.2.1 (wi (1 + r5.1.1))).bind fun r7 =>
 (abG r7.2.1 6).bind fun r8 =>
 (abG r8.2.1 8).bind fun r9 =>
 (abG r9.2.1 4).bind fun r10 =>
 (lpF (σ := Int × CodV × Cfg × Unit) (β := Int × CodV × Cfg × Unit) (fun self13 x11 =>
 if x11.1 < (wi (1 + r10.1.1)) then
 (abG x11.2.1 6).bind fun r14 =>
 (lpF (σ := List Ins × Int × CodV × Unit) (β := List Ins × Int × CodV × Unit) (fun self17 x15 =>
 if 0 < x15.2.1 then
 (abG x15.2.2.1 3).bind fun r18 =>
 if r18.1.1 = 0 then
 (abG r18.2.1 4).bind fun r19 =>
 if (((x15.1.length + ([(⟨r18.1.1,wi (1 + r19.1.1),0⟩ : Ins)] : List Ins).length : Nat)) : Int) < 1000000000000 then
 self17 (x15.1 ++ ([(⟨r18.1.1,wi (1 + r19.1.1),0⟩ : Ins)]),wi (x15.2.1 - 1),r19.2.1,())
 else none
 else
 if r18.1.1 = 1 then
 (abG r18.2.1 (wi (1 + r10.1.1))).bind fun r20 =>
 (abG r20.2.1 x11.2.2.1.levels).bind fun r21 =>
 if (((x15.1.length + ([(⟨r18.1.1,r20.1.1,r21.1.1⟩ : Ins)] : List Ins).length : Nat)) : Int) < 1000000000000 then
 self17 (x15.1 ++ ([(⟨r18.1.1,r20.1.1,r21.1.1⟩ : Ins)]),wi (x15.2.1 - 1),r21.2.1,())
 else none
 else
 (abG r18.2.1 4).bind fun r22 =>
 if (((x15.1.length + ([(⟨r18.1.1,r22.1.1,0⟩ : Ins)] : List Ins).length : Nat)) : Int) < 1000000000000 then
 self17 (x15.1 ++ ([(⟨r18.1.1,r22.1.1,0⟩ : Ins)]),wi (x15.2.1 - 1),r22.2.1,())
 else none
 else
 some (x15.1,x15.2.1,x15.2.2.1,())
 ) 18446744073709551616 ([],r14.1.1,r14.2.1,())).bind fun z16 =>
 if (((x11.2.2.1.progs.length + ([z16.1] : List (List Ins)).length : Nat)) : Int) < 100000000000 then
 self13 (wi (x11.1 + 1),z16.2.2.1,({ x11.2.2.1 with progs := x11.2.2.1.progs ++ ([z16.1]) } : Cfg),())
 else none
 else
 some (x11.1,x11.2.1,x11.2.2.1,())
 ) 18446744073709551616 (0,r10.2.1,(⟨wi (1 + r1.1.1),wi (1 + r2.1.1),wi (1 + r3.1.1),wi (1 + r4.1.1),wi (1 + r5.1.1),wi (1 + r6.1.1),wi (1 + r7.1.1),r8.1.1,wi (1 + r9.1.1),[],[]⟩ : Cfg),())).bind fun z12 =>
 (abG z12.2.1 6).bind fun r23 =>
 (lpF (σ := Int × CodV × Cfg × Unit) (β := Int × CodV × Cfg × Unit) (fun self26 x24 =>
 if 0 < x24.1 then
 (abG x24.2.1 (wi (1 + r10.1.1))).bind fun r27 =>
 (abG r27.2.1 x24.2.2.1.levels).bind fun r28 =>
 (abG r28.2.1 16).bind fun r29 =>
 if (((x24.2.2.1.subs.length + ([(⟨r27.1.1,r28.1.1,r29.1.1⟩ : Sub)] : List Sub).length : Nat)) : Int) < 1000000000000 then
 self26 (wi (x24.1 - 1),r29.2.1,({ x24.2.2.1 with subs := x24.2.2.1.subs ++ ([(⟨r27.1.1,r28.1.1,r29.1.1⟩ : Sub)]) } : Cfg),())
 else none
 else
 some (x24.1,x24.2.1,x24.2.2.1,())
 ) 18446744073709551616 (r23.1.1,r23.2.1,z12.2.2.1,())).bind fun z25 =>
 some ((z25.2.2.1,()),())
noncomputable abbrev aqD : Con SR1 := ⟨27,[.sh (.ro 17)],[.val 13],fun x =>aob x.1⟩
theorem auR : CO Tryz.prog aqD := aal aak Tryz.func27 [aqC] ⟨auQ,trivial⟩ [] trivial (fun _ =>[]) [(12,.loop [.rg 6 sI_,.rg 3 (.own 19),.rg 4 (.own 20)] 18446744073709551616 0),(16,.loop [.rg 7 (.row 3),.rg 8 sI_,.rg 3 (.own 19)] 18446744073709551616 2),(29,.loop [.rg 10 sI_,.rg 3 (.own 19),.rg 4 (.own 20)] 18446744073709551616 5)] fun x =>by kernel_rfl
noncomputable def aga (b : List Int) : Option ((Cfg × Unit) × (Unit)) :=
 (aob b).bind fun r1 =>
 some ((r1.1.1,()),())
noncomputable abbrev ahO : Con SR1 := ⟨7,[.sh (.ro 17)],[.val 13],fun x =>aga x.1⟩
theorem ahN : CO Tryz.prog ahO := aal aak Tryz.func7 [aqD] ⟨auR,trivial⟩ [] trivial (fun _ =>[]) [] fun x =>by kernel_rfl
noncomputable def apB (b : List Int) (l : List (List Int)) : Option ((Bool × Unit) × (Unit)) :=
 (lpF (σ := Int × Unit) (β := (Int × Unit) ⊕ ((Bool × Unit) × (Unit))) (fun self3 x1 =>
 if x1.1 < ((l.length : Nat) : Int) then
 if 0 ≤ x1.1 ∧ x1.1 < ((l.length : Nat) : Int) then
 if 400 < (((atL [] l x1.1).length : Nat) : Int) then
 Option.map Sum.inr (
 some ((false,()),())
 )
 else
 self3 (wi (x1.1 + 1),())
 else none
 else
 some (Sum.inl (x1.1,()))
 ) 18446744073709551616 (0,())).bind fun z2 =>match z2 with
 | .inr o4 =>some o4
 | .inl z2 =>
 some ((decide (((b.length : Nat) : Int) ≤ 400),()),())
noncomputable abbrev alQ : Con SR1 := ⟨6,[.sh (.ro 17),.sh (.rr 1)],[.sh .b],fun x =>apB x.1 x.2.1⟩
theorem alP : CO Tryz.prog alQ := aal aak Tryz.func6 [] trivial [] trivial (fun _ =>[]) [(2,.loopR [.rg 5 sI_] 18446744073709551616 0)] fun x =>by kernel_rfl
noncomputable def aeN (y0 : Cfg) : Option ((EnvP × Int × Unit) × (Unit)) :=
 (alN y0).bind fun r1 =>
 if r1.1.2.1 ≠ 0 then
 none
 else
 (awn r1.1.1).bind fun r2 =>
 (ah5 r2.1.1).bind fun r3 =>
 (afy y0).bind fun r4 =>
 if r1.1.1.workers = r1.1.1.workers then
 if r1.1.1.levels = r1.1.1.levels then
 if r1.1.1.classes = r1.1.1.classes then
 if r1.1.1.tasks = r1.1.1.tasks then
 if r1.1.1.deque = r1.1.1.deque then
 if r1.1.1.heap = r1.1.1.heap then
 if r1.1.1.sleepers = r1.1.1.sleepers then
 if r1.1.1.epochs = r1.1.1.epochs then
 if r1.1.1.bitmaps = r1.1.1.bitmaps then
 if r1.1.1.queues = r1.1.1.queues then
 if r1.1.1.table = r1.1.1.table then
 if r1.1.1.workers = r1.1.1.workers then
 if r1.1.1.levels = r1.1.1.levels then
 if r1.1.1.classes = r1.1.1.classes then
 if r1.1.1.tasks = r1.1.1.tasks then
 if r1.1.1.deque = r1.1.1.deque then
 if r1.1.1.heap = r1.1.1.heap then
 if r1.1.1.sleepers = r1.1.1.sleepers then
 if r1.1.1.epochs = r1.1.1.epochs then
 if r1.1.1.bitmaps = r1.1.1.bitmaps then
 if r1.1.1.queues = r1.1.1.queues then
 if r1.1.1.table = r1.1.1.table then
 (lpF (σ := Int × EnvP × Unit) (β := Int × EnvP × Unit) (fun self7 x5 =>
 if x5.1 < y0.tasks then
 if (((x5.2.1.recs.length + ([(⟨0,(-1),0,0,(-1),[],false⟩ : RecP)] : List RecP).length : Nat)) : Int) < 100000000000 then
 self7 (wi (x5.1 + 1),({ x5.2.1 with recs := x5.2.1.recs ++ ([(⟨0,(-1),0,0,(-1),[],false⟩ : RecP)]) } : EnvP),())
 else none
 else
 some (x5.1,x5.2.1,())
 ) 18446744073709551616 (0,({ r3.1.1 with c := r4.1.1,l := r1.1.1 } : EnvP),())).bind fun z6 =>
 some ((z6.2.1,0,()),())
 else none
 else none
 else none
 else none
 else none
 else none
 else none
 else none
 else none
 else none
 else none
 else none
 else none
 else none
 else none
 else none
 else none
 else none
 else none
 else none
 else none
 else none
noncomputable abbrev afW : Con SR1 := ⟨61,[.val 13],[.sh (.own 27),.sh sI_],fun x =>aeN x.1⟩
theorem agu : CO Tryz.prog afW := aal aak Tryz.func61 [apA,awm,alC,aij] ⟨atZ,ay4,aqn,akv,trivial⟩ [] trivial (fun _ =>[]) [(7,.loop [.rg 29 sI_,.rg 6 (.own 27)] 18446744073709551616 0)] fun x =>by kernel_rfl
noncomputable def ab0 (y0 : MemV) : Option ((Int × Unit) × (MemV × Unit)) :=
 some ((y0.count,()),(y0,()))
noncomputable abbrev acE : Con SR1 := ⟨84,[.ref 9],[.sh sI_],fun x =>ab0 x.1⟩
theorem adb : CO Tryz.prog acE := aal aak Tryz.func84 [] trivial [] trivial (fun _ =>[]) [] fun x =>by kernel_rfl
noncomputable def adp (y0 : EntV) (y1 : Int) : Option ((Int × Unit) × (Unit)) :=
 if y0.kind ≠ 0 then
 some (((-1),()),())
 else
 if y1 < 1 then
 some (((-1),()),())
 else
 if y1 ≠ 0 then
 if (Int.tmod y0.value y1) < 0 then
 some ((wi ((Int.tmod y0.value y1) + y1),()),())
 else
 some (((Int.tmod y0.value y1),()),())
 else none
noncomputable abbrev adX : Con SR1 := ⟨85,[.val 5,.sh sI_],[.sh sI_],fun x =>adp x.1 x.2.1⟩
theorem aeu : CO Tryz.prog adX := aal aak Tryz.func85 [] trivial [] trivial (fun _ =>[]) [] fun x =>by kernel_rfl
noncomputable def aeq (y0 : ClkV) : Option ((Unit) × (ClkV × Unit)) :=
 some ((()),((⟨wi (y0.now + 1),y0.draw⟩ : ClkV),()))
noncomputable abbrev adE : Con SR1 := ⟨86,[.ref 25],[],fun x =>aeq x.1⟩
theorem aeb : CO Tryz.prog adE := aal aak Tryz.func86 [] trivial [] trivial (fun _ =>[]) [] fun x =>by kernel_rfl
noncomputable def ae3 (y0 : ClkV) (y1 : Int) : Option ((Unit) × (ClkV × Unit)) :=
 some ((()),((⟨y0.now,y1⟩ : ClkV),()))
noncomputable abbrev ad6 : Con SR1 := ⟨87,[.ref 25,.sh sI_],[],fun x =>ae3 x.1 x.2.1⟩
theorem aez : CO Tryz.prog ad6 := aal aak Tryz.func87 [] trivial [] trivial (fun _ =>[]) [] fun x =>by kernel_rfl
noncomputable def af9 (y0 : MemV) : Option ((AccV × Unit) × (MemV × Unit)) :=
 some ((y0.last,()),(y0,()))
noncomputable abbrev ac0 : Con SR1 := ⟨88,[.ref 9],[.val 60],fun x =>af9 x.1⟩
theorem adv : CO Tryz.prog ac0 := aal aak Tryz.func88 [] trivial [] trivial (fun _ =>[]) [] fun x =>by kernel_rfl
end
section
open Go Go.RowKit
set_option maxRecDepth 100000
end
section
open Go Go.RowKit
inductive Rs (σ : Type) where
 | go (s : σ)
 | fin (c v : Int)
inductive OPushS where
 | l1 | l2 (b : Int) | l3 (b : Int) | l4 (b : Int)
inductive OPopS where
 | l1 | l2 (b : Int) | l3 (b t : Int) | l4 (b t : Int) | l5 (b t : Int) | l6 (b t : Int) | l7 (b t : Int) | l8 (b t : Int) | l9 (b t : Int)
inductive StealS where
 | l1 | l2 (t : Int) | l3 (t : Int) | l4 (t v : Int)
inductive ResetS where
 | l1 | l2 | l3 (b : Int) | l4 (b : Int)
inductive PublishS where
 | l1 | l2 | l3
inductive InsertS where
 | l1 | l2 (n : Int) | l3 (n i k x : Int) | l4 (n i k x : Int) | l5 (n i k x : Int) | l6 (n i k x : Int)
inductive RemoveS where
 | l1 | l2 (n : Int) | l3 (n x : Int) | l4 (n x y : Int) | l5 (n i c x y z : Int) | l6 (n i c x y z : Int) | l7 (n i c x y z : Int) | l8 (n i c x y z : Int)
inductive WakeS where
 | l1 (j : Int) | l2 (j v : Int) | l3 (j v : Int)
inductive SleepS where
 | l1 | l2 (ep : Int) | l3 (ep : Int) | l4 (ep v : Int) | l5 (ep v s : Int) | l6 (ep v s : Int) | l7 (ep v s : Int)
inductive ProbeS where
 | new | run (start next : Int) (bm : B16)
inductive RaiseS where
 | l1 (q : Int) | l2 (q : Int)
inductive LPushS where
 | new | push (s : OPushS) | set
inductive LPopS where
 | l1 (v : Int) | l2 (v : Int) (s : OPopS) | l3 (v : Int) (s : ResetS)
inductive WalkS where
 | l1 (t : Int) | raise (t : Int) (s : RaiseS) | l2 (t : Int) | push (t : Int) (s : LPushS) | l4 (t : Int)
inductive EnterS where
 | l1 | l2 | l3 | l4 (v : Int) (s : LPushS)
inductive SweepS where
 | l1 | l2 | l3 | l4 (q : Int) | l5 (q : Int) | l6 (q : Int) (s : LPushS)
inductive TakeS where
 | pop (s : LPopS) | claim (t : Int)
inductive DrainC where
 | l1 | l2 | l3 (s : RemoveS) | l4 | l5 (s : LPushS) | l6 | l7 (s : WakeS)
structure DrainS where
 x : Int
 direct : Bool
 p : Int
 last : Int
 count : Int
 c : DrainC
inductive RunC where
 | next | s2 (s : PublishS) | s3 (s : LPushS) | s4 (s : WakeS) | s5 | j2 | j3 | j4 | j5 (s : WalkS) | j6 | j7 | f2 | f3 | f4 (s : EnterS) | f5 (v : Int) (s : WakeS) | f6
structure RunS where
 stack : List Int
 id : Int
 child : Int
 level : Int
 waiter : Int
 c : RunC
inductive WorkC where
 | top | t1 (t : Int) (s : SweepS) | t2 (s : TakeS) | t3 (s : DrainS) | t4 (s : ProbeS) | t5 (s : StealS) | t6 | t7 (s : RunS) | t8 (s : SleepS) | t9 (s : ResetS)
structure WorkS where
 cursor : Int
 victim : Int
 level : Int
 x : Int
 c : WorkC
inductive ClieC where
 | n1 | a1 | n2 | n3 | n4 | n5 | n6 | a6 (s : InsertS) | n7 | n8 | n9 | a9 (s : WakeS)
structure ClieS where
 i : Int
 id : Int
 acc : Bool
 c : ClieC
def MemV.gt (m : MemV) (a : Int) : Int := if 0 ≤ a ∧ a < (m.cells.length : Int) then ae7 m.cells a else 0
def MemV.pt (m : MemV) (k a v : Int) : MemV := if 0 ≤ a ∧ a < (m.cells.length : Int) then ⟨m.cells.set a.toNat v,⟨k,a,ae7 m.cells a,v⟩,wi (m.count + 1)⟩ else m
def MemV.hit (m : MemV) (a o : Int) : Bool := decide ((0 ≤ a ∧ a < (m.cells.length : Int)) ∧ ae7 m.cells a = o)
def MemV.cas (m : MemV) (a o v : Int) : MemV := m.pt 3 a (if m.gt a = o then v else m.gt a)
abbrev EnvP.gt (e : EnvP) (a : Int) : Int := e.m.gt a
def EnvP.pt (e : EnvP) (k a v : Int) : EnvP := { e with m := e.m.pt k a v }
def EnvP.lk (e : EnvP) (a : Int) : EnvP := { e with m := e.m.pt 1 a (e.m.gt a) }
abbrev EnvP.hit (e : EnvP) (a o : Int) : Bool := e.m.hit a o
def EnvP.cas (e : EnvP) (a o v : Int) : EnvP := { e with m := e.m.cas a o v }
def EnvP.em (e : EnvP) (k w t o l : Int) : EnvP := { e with evs := e.evs ++ [⟨k,w,t,o,l⟩] }
def EnvP.rc (e : EnvP) (t : Int) : RecP := aab e.recs t
def EnvP.pr (e : EnvP) (t : Int) (r : RecP) : EnvP := { e with recs := e.recs.set t.toNat r }
def IsT (e : EnvP) (t : Int) : Prop := 0 ≤ t ∧ t < e.c.tasks
instance (e : EnvP) (t : Int) : Decidable (IsT e t) := inferInstanceAs (Decidable (_ ∧ _))
def ax0 (e : EnvP) (t v : Int) : Prop := (0 ≤ t ∧ t < e.c.tasks) ∧ 0 ≤ v ∧ v < e.c.levels
instance (e : EnvP) (t v : Int) : Decidable (ax0 e t v) := inferInstanceAs (Decidable (_ ∧ _))
def szP (b t : Int) : Int := wi (wu (b - t))
def agY (q : QV) (i : Int) : Int := if q.cap < 1 then -1 else wi (q.ring + wi (Int.tmod i (wu q.cap)))
def aAG (n : Int) : Int := if n < 0 then 0 else if 63 < n then 0 else wu (1 * 2 ^ min (wu n).toNat IntKind.u64.bits)
def arT (a n : Int) : Int := if n < 1 then 0 else if Int.tmod a n < 0 then wi (Int.tmod a n + n) else Int.tmod a n
def atP (i n a w : Int) : Int := if i < 0 then -1 else if n ≤ i then -1 else wi (a + wi (i * w))
def acP (l : LayV) (t f : Int) : Int := atP t l.tasks (wi (l.table + f)) 5
def aaV (l : LayV) (t : Int) : Int := acP l t 0
def abO (l : LayV) (t : Int) : Int := acP l t 1
def acO (l : LayV) (t : Int) : Int := acP l t 2
def aeJ (l : LayV) (t : Int) : Int := acP l t 3
def akm (l : LayV) (t : Int) : Int := acP l t 4
def aeC (l : LayV) (i : Int) : Int := atP i l.heap 4 1
def afd (l : LayV) (w : Int) : Int := atP w l.workers l.epochs 1
def ahx (l : LayV) (k : Int) : Int := atP k l.classes l.sleepers 1
def aaC (l : LayV) (w : Int) : Int := atP w l.workers l.bitmaps 1
def aaq (l : LayV) (w v : Int) : QV :=
 if atP w l.workers l.queues (wi (l.levels * wi (2 + l.deque))) < 0 then ⟨-1,-1,-1,0⟩
 else if atP v l.levels (atP w l.workers l.queues (wi (l.levels * wi (2 + l.deque)))) (wi (2 + l.deque)) < 0 then ⟨-1,-1,-1,0⟩
 else ⟨atP v l.levels (atP w l.workers l.queues (wi (l.levels * wi (2 + l.deque)))) (wi (2 + l.deque)),wi (atP v l.levels (atP w l.workers l.queues (wi (l.levels * wi (2 + l.deque)))) (wi (2 + l.deque)) + 1),wi (atP v l.levels (atP w l.workers l.queues (wi (l.levels * wi (2 + l.deque)))) (wi (2 + l.deque)) + 2),l.deque⟩
def amH (d a t : Int) : Int × Bool :=
 if d < 0 then (0,false) else if 16777215 < d then (0,false) else if a < 0 then (0,false) else if 16777215 < a then (0,false) else if t < 0 then (0,false) else if 65535 < t then (0,false)
 else (orU (orU (wu ((wu (d)) * 2 ^ min (40 : Int).toNat IntKind.u64.bits)) (wu ((wu (a)) * 2 ^ min (16 : Int).toNat IntKind.u64.bits))) (wu (t)),true)
def az5 (l n c : Int) : Int := if n < 1 then 0 else if 64 < n then 0 else if c < 1 then 0 else if 8 < c then 0 else if l < 0 then 0 else if n ≤ l then 0 else wi (Int.tdiv (wi (l * c)) n)
def aqP (k : Int) : Int := wi (aos k 65535)
noncomputable def ar6 (x : Int) : Int := match ag0 x with
 | some o =>o.1.1
 | none =>0
def avm (k : ClkV) (n : Int) : Int := arT k.draw n
def aem (q : QV) (v : Int) (e : EnvP) : OPushS → Rs OPushS × EnvP
 | .l1 =>(.go (.l2 (e.gt q.bottom)),e.lk q.bottom)
 | .l2 b =>(if q.cap ≤ szP b (e.gt q.top) then .fin 3 0 else .go (.l3 b),e.lk q.top)
 | .l3 b =>(.go (.l4 b),e.pt 2 (agY q b) (wu v))
 | .l4 b =>(.fin 0 0,e.pt 2 q.bottom (wu (b + 1)))
def alv (q : QV) (e : EnvP) : OPopS → Rs OPopS × EnvP
 | .l1 =>(.go (.l2 (e.gt q.bottom)),e.lk q.bottom)
 | .l2 b =>(if szP b (e.gt q.top) ≤ 0 then .fin 2 0 else .go (.l3 b (e.gt q.top)),e.lk q.top)
 | .l3 b t =>(.go (.l4 b t),e.pt 2 q.bottom (wu (b - 1)))
 | .l4 b _ =>(if 0 < szP (wu (b - 1)) (e.gt q.top) then .go (.l5 b (e.gt q.top)) else if szP (wu (b - 1)) (e.gt q.top) = 0 then .go (.l6 b (e.gt q.top)) else .go (.l9 b (e.gt q.top)),e.lk q.top)
 | .l5 b _ =>(.fin 1 (wi (e.gt (agY q (wu (b - 1))))),e.lk (agY q (wu (b - 1))))
 | .l6 b t =>(if e.hit q.top t = true then .go (.l7 b t) else .go (.l9 b t),e.cas q.top t (wu (t + 1)))
 | .l7 b t =>(.go (.l8 b t),e.pt 2 q.bottom b)
 | .l8 b _ =>(.fin 1 (wi (e.gt (agY q (wu (b - 1))))),e.lk (agY q (wu (b - 1))))
 | .l9 b _ =>(.fin 2 0,e.pt 2 q.bottom b)
def ag5 (q : QV) (e : EnvP) : StealS → Rs StealS × EnvP
 | .l1 =>(.go (.l2 (e.gt q.top)),e.lk q.top)
 | .l2 t =>(if szP (e.gt q.bottom) t ≤ 0 then .fin 2 0 else .go (.l3 t),e.lk q.bottom)
 | .l3 t =>(.go (.l4 t (e.gt (agY q t))),e.lk (agY q t))
 | .l4 t v =>(if e.hit q.top t = true then .fin 1 (wi v) else .fin 4 0,e.cas q.top t (wu (t + 1)))
def aeW (a b : Int) (q : QV) (e : EnvP) : ResetS → Rs ResetS × EnvP
 | .l1 =>(.go .l2,e.pt 5 a (aos (e.gt a) (aCo (aAG b))))
 | .l2 =>(.go (.l3 (e.gt q.bottom)),e.lk q.bottom)
 | .l3 x =>(if szP x (e.gt q.top) ≤ 0 then .fin 2 0 else .go (.l4 x),e.lk q.top)
 | .l4 _ =>(.fin 1 0,e.pt 4 a (orU (e.gt a) (aAG b)))
def aCH (a b : Int) (e : EnvP) : EnvP := e.pt 4 a (orU (e.gt a) (aAG b))
def abV (e : EnvP) : EnvP := e.pt 6 0 (wu (e.gt 0 + 1))
def aeX (t v : Int) (e : EnvP) (s : PublishS) : Rs PublishS × EnvP :=
 if ¬ IsT e t then (.fin 4 0,e)
 else match s with
  | .l1 =>(.go .l2,e.pt 2 (abO e.l t) (wu v))
  | .l2 =>(.go .l3,e.pt 2 (akm e.l t) (wu e.k.now))
  | .l3 =>(.fin 0 0,e.pt 2 (aaV e.l t) 1)
def aer (t : Int) (e : EnvP) : Bool := e.hit (aaV e.l t) 1
def afg (w t : Int) (e : EnvP) : EnvP :=
 if aer t e = true then
  if (e.rc t).started = true then (e.cas (aaV e.l t) 1 2).em 9 w t 0 0 else ((e.cas (aaV e.l t) 1 2).pr t { e.rc t with started := true }).em 5 w t 0 0
 else (e.cas (aaV e.l t) 1 2).em 15 w t 0 0
def ahL (o : Int) (e : EnvP) : EnvP := e.cas 1 0 (wu (wi (o + 1)))
def aif (e : EnvP) : EnvP := e.pt 2 1 0
def atA (n i k x : Int) : InsertS := if 0 < i then .l3 n i k x else .l5 n i k x
abbrev upP (i : Int) : Int := wi (Int.tdiv (wi (i - 1)) 2)
def abH (d t : Int) (e : EnvP) : InsertS → Rs InsertS × EnvP
 | .l1 =>(if e.c.heap ≤ wi (e.gt 2) then .fin 3 0 else .go (.l2 (wi (e.gt 2))),e.lk 2)
 | .l2 n =>(if (amH d (wi (e.gt 3)) t).2 = true then .go (atA n n (amH d (wi (e.gt 3)) t).1 0) else .fin 4 0,e.pt 6 3 (wu (e.gt 3 + 1)))
 | .l3 n i k _ =>(if k < e.gt (aeC e.l (upP i)) then .go (.l4 n i k (e.gt (aeC e.l (upP i)))) else .go (.l5 n i k (e.gt (aeC e.l (upP i)))),e.lk (aeC e.l (upP i)))
 | .l4 n i k x =>(.go (atA n (upP i) k x),e.pt 2 (aeC e.l i) x)
 | .l5 n i k x =>(.go (.l6 n i k x),e.pt 2 (aeC e.l i) k)
 | .l6 n _ _ _ =>(.fin 0 0,e.pt 2 2 (wu (wi (n + 1))))
def auh (n i c x y z : Int) : RemoveS := if wi (wi (2 * i) + 1) < wi (n - 1) then .l5 n i c x y z else .l8 n i c x y z
def axL (n i c x y z : Int) : RemoveS := if z < y then .l7 n i c x y z else .l8 n i c x y z
def acp (w : Int) (e : EnvP) : RemoveS → Rs RemoveS × EnvP
 | .l1 =>(if wi (e.gt 2) ≤ 0 then .fin 2 0 else .go (.l2 (wi (e.gt 2))),e.lk 2)
 | .l2 n =>(.go (.l3 n (e.gt (aeC e.l 0))),e.lk (aeC e.l 0))
 | .l3 n x =>(.go (.l4 n x (e.gt (aeC e.l (wi (n - 1))))),e.lk (aeC e.l (wi (n - 1))))
 | .l4 n x y =>(if n = 1 then .fin 1 (aqP x) else .go (auh n 0 0 x y 0),(e.pt 2 2 (wu (wi (n - 1)))).em 13 w (aqP x) 0 0)
 | .l5 n i _ x y _ =>(if wi (wi (wi (2 * i) + 1) + 1) < wi (n - 1) then .go (.l6 n i (wi (wi (2 * i) + 1)) x y (e.gt (aeC e.l (wi (wi (2 * i) + 1))))) else .go (axL n i (wi (wi (2 * i) + 1)) x y (e.gt (aeC e.l (wi (wi (2 * i) + 1))))),e.lk (aeC e.l (wi (wi (2 * i) + 1))))
 | .l6 n i c x y z =>(if e.gt (aeC e.l (wi (wi (2 * i) + 2))) < z then .go (axL n i (wi (wi (2 * i) + 2)) x y (e.gt (aeC e.l (wi (wi (2 * i) + 2))))) else .go (axL n i c x y z),e.lk (aeC e.l (wi (wi (2 * i) + 2))))
 | .l7 n i c x y z =>(.go (auh n c c x y z),e.pt 2 (aeC e.l i) z)
 | .l8 _ i _ x y _ =>(.fin 1 (aqP x),e.pt 2 (aeC e.l i) y)
def ag6 (w : Int) (e : EnvP) : Int := if e.c.classes < 1 then -1 else ahx e.l (arT w e.c.classes)
def aeL (w : Int) (e : EnvP) : SleepS → Rs SleepS × EnvP
 | .l1 =>(.go (.l2 (e.gt (afd e.l w))),e.lk (afd e.l w))
 | .l2 ep =>(.go (.l3 ep),e.pt 4 (ag6 w e) (orU (e.gt (ag6 w e)) (aAG w)))
 | .l3 ep =>(if e.gt 2 ≠ 0 then .go (.l7 ep 0 0) else .go (.l4 ep 0),e.lk 2)
 | .l4 ep v =>
  if e.gt (aaC e.l v) ≠ 0 then (.go (.l7 ep v 0),e.lk (aaC e.l v))
  else if e.c.workers ≤ wi (v + 1) then (.go (.l5 ep (wi (v + 1)) e.k.now),(e.lk (aaC e.l v)).em 16 w 0 0 0)
  else (.go (.l4 ep (wi (v + 1))),e.lk (aaC e.l v))
 | .l5 ep v s =>
  if e.gt (afd e.l w) ≠ ep then (.go (.l6 ep v s),(e.lk (afd e.l w)).em 17 w 0 1 0)
  else if e.c.patience ≤ wi (e.k.now - s) then (.go (.l6 ep v s),(e.lk (afd e.l w)).em 17 w 0 2 0)
  else (.go (.l5 ep v s),e.lk (afd e.l w))
 | .l6 _ _ _ =>(.fin 1 0,e.pt 5 (ag6 w e) (aos (e.gt (ag6 w e)) (aCo (aAG w))))
 | .l7 _ _ _ =>(.fin 5 0,e.pt 5 (ag6 w e) (aos (e.gt (ag6 w e)) (aCo (aAG w))))
def akW (v j : Int) (e : EnvP) : Int := if e.c.classes < 1 then -1 else ahx e.l (arT (wi (az5 v e.c.levels e.c.classes + j)) e.c.classes)
noncomputable def aIK [Tb] (x : Int) : Int := if x = 0 then -1 else tzV x
noncomputable def ado [Tb] (w v : Int) (e : EnvP) : WakeS → Rs WakeS × EnvP
 | .l1 j =>(if e.gt (akW v j e) ≠ 0 then .go (.l2 j (aIK (e.gt (akW v j e)))) else if e.c.classes ≤ wi (j + 1) then .fin 2 0 else .go (.l1 (wi (j + 1))),e.lk (akW v j e))
 | .l2 j x =>(if aos (e.gt (akW v j e)) (aAG x) = 0 then .fin 4 0 else .go (.l3 j x),e.pt 5 (akW v j e) (aos (e.gt (akW v j e)) (aCo (aAG x))))
 | .l3 _ x =>(.fin 1 x,(e.pt 6 (afd e.l x) (wu (e.gt (afd e.l x) + 1))).em 18 w 0 x 0)
def adB (w t v : Int) (e : EnvP) (s : RaiseS) : Rs RaiseS × EnvP :=
 if ¬ ax0 e t v then (.fin 4 0,e)
 else match s with
  | .l1 _ =>(if v ≤ wi (e.gt (abO e.l t)) then .fin 0 0 else .go (.l2 (e.gt (abO e.l t))),e.lk (abO e.l t))
  | .l2 q =>if e.hit (abO e.l t) q = true then (.fin 1 0,(e.cas (abO e.l t) q (wu v)).em 11 w t 0 v) else (.go (.l1 q),e.cas (abO e.l t) q (wu v))
def B16.at (b : B16) (i : Int) : Int :=
 if i = 15 then b.b15 else if i = 14 then b.b14 else if i = 13 then b.b13 else if i = 12 then b.b12 else if i = 11 then b.b11 else if i = 10 then b.b10 else if i = 9 then b.b9 else if i = 8 then b.b8
 else if i = 7 then b.b7 else if i = 6 then b.b6 else if i = 5 then b.b5 else if i = 4 then b.b4 else if i = 3 then b.b3 else if i = 2 then b.b2 else if i = 1 then b.b1 else b.b0
def B16.put (b : B16) (i v : Int) : B16 :=
 if i = 15 then { b with b15 := v } else if i = 14 then { b with b14 := v } else if i = 13 then { b with b13 := v } else if i = 12 then { b with b12 := v } else if i = 11 then { b with b11 := v } else if i = 10 then { b with b10 := v }
 else if i = 9 then { b with b9 := v } else if i = 8 then { b with b8 := v } else if i = 7 then { b with b7 := v } else if i = 6 then { b with b6 := v } else if i = 5 then { b with b5 := v } else if i = 4 then { b with b4 := v }
 else if i = 3 then { b with b3 := v } else if i = 2 then { b with b2 := v } else if i = 1 then { b with b1 := v } else { b with b0 := v }
def aIj : B16 := ⟨0,0,0,0,0,0,0,0,0,0,0,0,0,0,0,0⟩
def ab2 (e : EnvP) : Int := if 16 < e.c.workers then 16 else e.c.workers
def amF (w n s i : Int) : Int := if i < n ∧ Int.tmod (wi (s + i)) n = w then wi (i + 1) else i
noncomputable def axu (w n s : Int) (bm : B16) : Nat → Int → Int × Int → Int × Int
 | 0,_,r =>r
 | k + 1,i,r =>axu w n s bm k (i + 1) (if Int.tmod (wi (s + i)) n ≠ w ∧ r.2 < ar6 (bm.at (Int.tmod (wi (s + i)) n)) then (Int.tmod (wi (s + i)) n,ar6 (bm.at (Int.tmod (wi (s + i)) n))) else r)
noncomputable def ap1 (w n s : Int) (bm : B16) : Int × Int := axu w n (arT s n) bm n.toNat 0 (-1,-1)
noncomputable def ag9 (w : Int) (e : EnvP) (s i : Int) (bm : B16) : Rs ProbeS × EnvP :=
 if ab2 e ≤ amF w (ab2 e) s i then (.fin 2 0,e)
 else
  let v := Int.tmod (wi (s + amF w (ab2 e) s i)) (ab2 e)
  let bm' := bm.put v (e.gt (aaC e.l v))
  let i' := amF w (ab2 e) s (wi (amF w (ab2 e) s i + 1))
  if ab2 e ≤ i' then
   (if (ap1 w (ab2 e) s bm').1 < 0 then .fin 2 0 else .fin 1 (wi (wi ((ap1 w (ab2 e) s bm').1 * 64) + (ap1 w (ab2 e) s bm').2)),e.lk (aaC e.l v))
  else (.go (.run s i' bm'),e.lk (aaC e.l v))
noncomputable def aiw (w : Int) (e : EnvP) : ProbeS → Rs ProbeS × EnvP
 | .new =>ag9 w e (avm e.k (ab2 e)) 0 aIj
 | .run s i bm =>ag9 w e s i bm
def abt (w v x : Int) (e : EnvP) : LPushS → Rs LPushS × EnvP
 | .new =>match aem (aaq e.l w v) x e .l1 with
  | (.go s,e') =>(.go (.push s),e')
  | (.fin c _,e') =>(if c = 3 then .fin 3 0 else .go .set,e')
 | .push s =>match aem (aaq e.l w v) x e s with
  | (.go s,e') =>(.go (.push s),e')
  | (.fin c _,e') =>(if c = 3 then .fin 3 0 else .go .set,e')
 | .set =>(.fin 0 0,aCH (aaC e.l w) v e)
noncomputable def agw (w : Int) (e : EnvP) : LPopS → Rs LPopS × EnvP
 | .l1 _ =>(if e.gt (aaC e.l w) = 0 then .fin 2 0 else .go (.l2 (ar6 (e.gt (aaC e.l w))) .l1),e.lk (aaC e.l w))
 | .l2 v s =>match alv (aaq e.l w v) e s with
  | (.go s,e') =>(.go (.l2 v s),e')
  | (.fin c x,e') =>(if c = 1 then .fin 1 x else .go (.l3 v .l1),e')
 | .l3 v s =>match aeW (aaC e.l w) v (aaq e.l w v) e s with
  | (.go s,e') =>(.go (.l3 v s),e')
  | (.fin _ _,e') =>(.go (.l1 v),e')
def aeR (w v : Int) (e : EnvP) : WalkS → Rs WalkS × EnvP
 | .l1 t =>if ¬ ax0 e t v then (.fin 4 0,e) else match adB w t v e (.l1 0) with
  | (.go s,e') =>(.go (.raise t s),e')
  | (.fin c _,e') =>(.go (if c = 1 then .l2 t else .l4 t),e')
 | .raise t s =>match adB w t v e s with
  | (.go s,e') =>(.go (.raise t s),e')
  | (.fin c _,e') =>(.go (if c = 1 then .l2 t else .l4 t),e')
 | .l2 t =>(.go (if e.gt (aaV e.l t) = 1 then .push t .new else .l4 t),e.lk (aaV e.l t))
 | .push t s =>match abt w v t e s with
  | (.go s,e') =>(.go (.push t s),e')
  | (.fin c _,e') =>(.go (.l4 t),if c = 3 then e'.em 19 w t 0 v else e')
 | .l4 t =>(if e.gt (aeJ e.l t) = 0 then .fin 0 0 else .go (.l1 (wi (wu (e.gt (aeJ e.l t) - 1)))),e.lk (aeJ e.l t))
def adl (w t : Int) (e : EnvP) : EnterS → Rs EnterS × EnvP
 | .l1 =>if ¬ IsT e t then (.fin 4 0,e) else (.go .l2,e.pt 2 (akm e.l t) (wu e.k.now))
 | .l2 =>(.go .l3,e.pt 2 (aaV e.l t) 1)
 | .l3 =>(.go (.l4 (wi (e.gt (abO e.l t))) .new),e.lk (abO e.l t))
 | .l4 v s =>match abt w v t e s with
  | (.go s,e') =>(.go (.l4 v s),e')
  | (.fin c _,e') =>(.fin c v,e')
def abc (w t : Int) (e : EnvP) : SweepS → Rs SweepS × EnvP
 | .l1 =>if ¬ IsT e t ∨ e.c.age = 0 then (.fin 0 0,e) else (if e.gt (aaV e.l t) = 1 then .go .l2 else .fin 0 0,e.lk (aaV e.l t))
 | .l2 =>(if wi (e.k.now - wi (e.gt (akm e.l t))) < e.c.age then .fin 0 0 else .go .l3,e.lk (akm e.l t))
 | .l3 =>(if wi (e.c.levels - 1) ≤ wi (e.gt (abO e.l t)) then .fin 0 0 else .go (.l4 (e.gt (abO e.l t))),e.lk (abO e.l t))
 | .l4 q =>if e.hit (abO e.l t) q = true then (.go (.l5 q),(e.cas (abO e.l t) q (wu (q + 1))).em 12 w t 0 (wi (wi q + 1))) else (.fin 4 0,e.cas (abO e.l t) q (wu (q + 1)))
 | .l5 q =>(.go (.l6 q .new),e.pt 2 (akm e.l t) (wu e.k.now))
 | .l6 q s =>match abt w (wi (wi q + 1)) t e s with
  | (.go s,e') =>(.go (.l6 q s),e')
  | (.fin c _,e') =>(.fin 1 0,if c = 3 then e'.em 19 w t 0 (wi (wi q + 1)) else e')
noncomputable def aiS (w : Int) (e : EnvP) : TakeS → Rs TakeS × EnvP
 | .pop s =>match agw w e s with
  | (.go s,e') =>(.go (.pop s),e')
  | (.fin c x,e') =>(if c = 2 then .fin 2 0 else .go (.claim x),e')
 | .claim t =>(if aer t e = true then .fin 1 t else .go (.pop (.l1 0)),afg w t e)
def aiC (s : DrainS) : Rs DrainS := if s.direct = true then .fin 1 s.x else if 0 < s.count then .fin 0 s.count else .fin 2 0
noncomputable def abk [Tb] (w : Int) (e : EnvP) (d : DrainS) : Rs DrainS × EnvP :=
 match d.c with
 | .l1 =>(if wi (e.gt 2) ≤ 0 then .fin 2 0 else .go { d with c := .l2 },e.lk 2)
 | .l2 =>(if e.hit 1 0 = true then .go { d with c := .l3 .l1 } else .fin 5 0,ahL w e)
 | .l3 s =>match acp w e s with
  | (.go s,e') =>(.go { d with c := .l3 s },e')
  | (.fin c x,e') =>(if c = 2 then .go { d with c := .l6 } else .go { d with x := x,c := .l4 },e')
 | .l4 =>(.go { d with p := wi (e.gt (abO e.l d.x)),c := .l5 .new },e.lk (abO e.l d.x))
 | .l5 s =>match abt w d.p d.x e s with
  | (.go s,e') =>(.go { d with c := .l5 s },e')
  | (.fin c _,e') =>(if c = 3 then .go { d with direct := true,c := .l6 } else if wi (d.count + 1) < e.c.batch then .go { d with last := d.p,count := wi (d.count + 1),c := .l3 .l1 } else .go { d with last := d.p,count := wi (d.count + 1),c := .l6 },e')
 | .l6 =>(if 0 < d.count then .go { d with c := .l7 (.l1 0) } else aiC d,aif e)
 | .l7 s =>match ado w d.last e s with
  | (.go s,e') =>(.go { d with c := .l7 s },e')
  | (.fin _ _,e') =>(aiC d,e')
def aaB (l : List Int) : Int := l.getLast?.getD 0
def agU (r : RunS) (e : EnvP) : Rs RunS × EnvP := (if r.stack.length = 1 then .fin 0 0 else .go { r with stack := r.stack.dropLast,c := .next },e)
def auc (x : RecP) (i : Ins) : RecP :=
 if wi ((if x.left = 0 then i.a else x.left) - 1) = 0 then { x with left := wi ((if x.left = 0 then i.a else x.left) - 1),pc := wi (x.pc + 1) } else { x with left := wi ((if x.left = 0 then i.a else x.left) - 1) }
def EnvP.prog (e : EnvP) (x : RecP) : List Ins := if x.prog < 0 ∨ (e.c.progs.length : Int) ≤ x.prog then [] else atL [] e.c.progs x.prog
def axX (p t : Int) : RecP := ⟨p,t,0,0,-1,[],false⟩
def aql (w : Int) (e : EnvP) (r : RunS) (t : Int) (x : RecP) (p : List Ins) : Rs RunS × EnvP :=
 if x.waiting ≠ -1 then (.go r,(e.pt 2 (aeJ e.l t) 0).pr t { x with waiting := -1 })
 else if x.pc < 0 ∨ (p.length : Int) ≤ x.pc then (.go { r with c := .f2 },e.pt 2 (aaV e.l t) 4)
 else if (acl p x.pc).op = 0 then (.go r,e.pr t (auc x (acl p x.pc)))
 else if (acl p x.pc).op = 1 then
  if IsT e (wi (e.gt 0)) then (.go { r with id := wi (e.gt 0),level := (acl p x.pc).b,c := .s2 .l1 },((abV e).pr t { x with pc := wi (x.pc + 1),kids := x.kids ++ [wi (e.gt 0)] }).pr (wi (e.gt 0)) (axX (acl p x.pc).a t))
  else (.go r,((abV e).pr t { x with pc := wi (x.pc + 1),kids := x.kids ++ [-1] }).em 4 w t 0 0)
 else if (acl p x.pc).a < 0 ∨ (x.kids.length : Int) ≤ (acl p x.pc).a ∨ aed x.kids (acl p x.pc).a = -1 then (.go r,e.pr t { x with pc := wi (x.pc + 1) })
 else (.go { r with child := aed x.kids (acl p x.pc).a,c := .j2 },(e.pt 2 (aeJ e.l t) (wu (wi (aed x.kids (acl p x.pc).a + 1)))).pr t { x with pc := wi (x.pc + 1),waiting := aed x.kids (acl p x.pc).a })
noncomputable def aee [Tb] (w : Int) (e : EnvP) (r : RunS) (t : Int) : Rs RunS × EnvP :=
 match r.c with
 | .next =>aql w e r t (e.rc t) (e.prog (e.rc t))
 | .s2 s =>match aeX r.id r.level e s with
  | (.go s,e') =>(.go { r with c := .s2 s },e')
  | (.fin _ _,e') =>(.go { r with c := .s3 .new },e'.em 3 w r.id t r.level)
 | .s3 s =>match abt w r.level r.id e s with
  | (.go s,e') =>(.go { r with c := .s3 s },e')
  | (.fin c _,e') =>(.go { r with c := if c = 3 then .s5 else .s4 (.l1 0) },e')
 | .s4 s =>match ado w r.level e s with
  | (.go s,e') =>(.go { r with c := .s4 s },e')
  | (.fin _ _,e') =>(.go { r with c := .next },e')
 | .s5 =>(.go (if aer r.id e = true then { r with stack := r.stack ++ [r.id],c := .next } else { r with c := .next }),afg w r.id e)
 | .j2 =>(.go { r with c := .j3 },e.pt 2 (aaV e.l t) 3)
 | .j3 =>if e.hit (acO e.l r.child) 0 = true then (.go { r with c := .j4 },(e.cas (acO e.l r.child) 0 (wu (wi (t + 1)))).em 6 w t r.child 0) else (.go { r with c := .j6 },e.cas (acO e.l r.child) 0 (wu (wi (t + 1))))
 | .j4 =>(.go { r with level := wi (e.gt (abO e.l t)),c := .j5 (.l1 r.child) },e.lk (abO e.l t))
 | .j5 s =>match aeR w r.level e s with
  | (.go s,e') =>(.go { r with c := .j5 s },e')
  | (.fin _ _,e') =>agU r (e'.em 7 w t 0 r.level)
 | .j6 =>(.go { r with c := .j7 },e.pt 2 (aaV e.l t) 2)
 | .j7 =>(.go { r with c := .next },((e.pt 2 (aeJ e.l t) 0).pr t { e.rc t with waiting := -1 }).em 8 w t r.child 0)
 | .f2 =>if e.hit (acO e.l t) 0 = true then agU r ((e.cas (acO e.l t) 0 4294967296).em 10 w t 0 0) else (.go { r with c := .f3 },(e.cas (acO e.l t) 0 4294967296).em 10 w t 0 0)
 | .f3 =>if IsT e (wi (wi (e.gt (acO e.l t)) - 1)) then (.go { r with waiter := wi (wi (e.gt (acO e.l t)) - 1),c := .f4 .l1 },e.lk (acO e.l t)) else agU { r with waiter := wi (wi (e.gt (acO e.l t)) - 1) } (e.lk (acO e.l t))
 | .f4 s =>match adl w r.waiter e s with
  | (.go s,e') =>(.go { r with c := .f4 s },e')
  | (.fin c v,e') =>(.go { r with c := if c = 3 then .f6 else .f5 v (.l1 0) },e')
 | .f5 v s =>match ado w v e s with
  | (.go s,e') =>(.go { r with c := .f5 v s },e')
  | (.fin _ _,e') =>agU r e'
 | .f6 =>if aer r.waiter e = true then (.go { r with stack := r.stack.dropLast ++ [r.waiter],c := .next },afg w r.waiter e) else agU r (afg w r.waiter e)
noncomputable def as2 [Tb] (w : Int) (e : EnvP) (r : RunS) : Rs RunS × EnvP := if ¬ IsT e (aaB r.stack) then (.fin 4 0,e) else aee w e r (aaB r.stack)
def aD2 (t : Int) : RunS := ⟨[t],0,0,0,0,.next⟩
def aC9 : DrainS := ⟨0,false,0,0,0,.l1⟩
def axh : TakeS := .pop (.l1 0)
def abT (w : Int) (e : EnvP) (k : WorkS) : WorkC := match k.c with
 | .top =>if e.c.age = 0 then .t2 axh else .t1 (arT (wi (arT w e.c.tasks + k.cursor)) e.c.tasks) .l1
 | c =>c
def ar5 (e : EnvP) : WorkC := if e.c.workers = 1 then .t8 .l1 else .t4 .new
noncomputable def acy [Tb] (w : Int) (e : EnvP) (k : WorkS) : WorkS × EnvP :=
 match abT w e k with
 | .top =>(k,e)
 | .t1 t s =>match abc w t e s with
  | (.go s,e') =>({ k with c := .t1 t s },e')
  | (.fin _ _,e') =>({ k with cursor := wi (k.cursor + 1),c := .t2 axh },e')
 | .t2 s =>match aiS w e s with
  | (.go s,e') =>({ k with c := .t2 s },e')
  | (.fin c x,e') =>(if c = 1 then { k with x := x,c := .t7 (aD2 x) } else { k with c := .t3 aC9 },e')
 | .t3 s =>match abk w e s with
  | (.go s,e') =>({ k with c := .t3 s },e')
  | (.fin c x,e') =>(if c = 1 then { k with x := x,c := .t6 } else if c = 0 then { k with c := .t2 axh } else { k with c := ar5 e' },e')
 | .t4 s =>match aiw w e s with
  | (.go s,e') =>({ k with c := .t4 s },e')
  | (.fin c x,e') =>(if c = 2 then { k with c := .t8 .l1 } else { k with victim := wi (Int.tdiv x 64),level := Int.tmod x 64,c := .t5 .l1 },e')
 | .t5 s =>match ag5 (aaq e.l k.victim k.level) e s with
  | (.go s,e') =>({ k with c := .t5 s },e')
  | (.fin c x,e') =>if c = 1 then ({ k with x := x,c := .t6 },e'.em 14 w x k.victim k.level) else if c = 2 then ({ k with c := .t9 .l1 },e') else ({ k with c := .top },e')
 | .t6 =>(if aer k.x e = true then { k with c := .t7 (aD2 k.x) } else { k with c := .top },afg w k.x e)
 | .t7 s =>match as2 w e s with
  | (.go s,e') =>({ k with c := .t7 s },e')
  | (.fin _ _,e') =>({ k with c := .top },e')
 | .t8 s =>match aeL w e s with
  | (.go s,e') =>({ k with c := .t8 s },e')
  | (.fin _ _,e') =>({ k with c := .top },e')
 | .t9 s =>match aeW (aaC e.l k.victim) k.level (aaq e.l k.victim k.level) e s with
  | (.go s,e') =>({ k with c := .t9 s },e')
  | (.fin _ _,e') =>({ k with c := .top },e')
def axM (subs : List Sub) (k : ClieS) (e : EnvP) : Bool × ClieS × EnvP := (decide ((subs.length : Int) ≤ wi (k.i + 1)),{ k with i := wi (k.i + 1),acc := false,c := .n1 },e)
noncomputable def abQ [Tb] (subs : List Sub) (me : Int) (e : EnvP) (k : ClieS) (s : Sub) : Bool × ClieS × EnvP :=
 match k.c with
 | .n1 =>(false,{ k with c := if e.hit 1 0 = true then .n2 else .a1 },ahL me e)
 | .a1 =>(false,{ k with c := if e.hit 1 0 = true then .n2 else .a1 },ahL me e)
 | .n2 =>if e.c.heap ≤ wi (e.gt 2) then (false,{ k with c := .n8 },(e.lk 2).em 2 me 0 k.i 1) else (false,{ k with c := .n3 },e.lk 2)
 | .n3 =>if IsT e (wi (e.gt 0)) then (false,{ k with id := wi (e.gt 0),c := .n4 },(abV e).pr (wi (e.gt 0)) (axX s.prog (-1))) else (false,{ k with c := .n8 },(abV e).em 2 me 0 k.i 2)
 | .n4 =>(false,{ k with c := .n5 },e.pt 2 (abO e.l k.id) (wu s.level))
 | .n5 =>(false,{ k with c := .n6 },e.pt 2 (akm e.l k.id) (wu e.k.now))
 | .n6 =>match abH s.deadline k.id e .l1 with
  | (.go t,e') =>(false,{ k with c := .a6 t },e')
  | (.fin c _,e') =>if c = 0 then (false,{ k with acc := true,c := .n7 },e'.em 1 me k.id k.i s.level) else (false,{ k with c := .n8 },e')
 | .a6 t =>match abH s.deadline k.id e t with
  | (.go t,e') =>(false,{ k with c := .a6 t },e')
  | (.fin c _,e') =>if c = 0 then (false,{ k with acc := true,c := .n7 },e'.em 1 me k.id k.i s.level) else (false,{ k with c := .n8 },e')
 | .n7 =>(false,{ k with c := .n8 },e.pt 2 (aaV e.l k.id) 1)
 | .n8 =>if k.acc = true then (false,{ k with c := .n9 },aif e) else axM subs k (aif e)
 | .n9 =>match ado me s.level e (.l1 0) with
  | (.go t,e') =>(false,{ k with c := .a9 t },e')
  | (.fin _ _,e') =>axM subs k e'
 | .a9 t =>match ado me s.level e t with
  | (.go t,e') =>(false,{ k with c := .a9 t },e')
  | (.fin _ _,e') =>axM subs k e'
noncomputable def am0 [Tb] (subs : List Sub) (me : Int) (e : EnvP) (k : ClieS) : Bool × ClieS × EnvP :=
 if (subs.length : Int) ≤ k.i then (true,k,e) else abQ subs me e k (abC subs k.i)
end
end Go.Proofs.YteapeojalliebaaGreat
