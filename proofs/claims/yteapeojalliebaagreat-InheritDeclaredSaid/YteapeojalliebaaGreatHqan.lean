/- The program's machines in the evaluator's form. The program's machines in the evaluator's form: all. The program's machines, said plainly: their states, and what a step does. No program occurs here but its numbers. -/
import Derived.Test.YteapeojalliebaaGreatHqam
set_option linter.all false
namespace Go.Proofs.YteapeojalliebaaGreat
section
open Go Go.RowKit
set_option maxRecDepth 100000
variable [Tb]
noncomputable def ad3 (y0 : (ClientV MV)) (y1 : EnvP) : Option ((Bool × Unit) × ((ClientV MV) × EnvP × Unit)) :=
 if 0 ≤ y0.i ∧ y0.i < ((y0.subs.length : Nat) : Int) then
  agr (
   if y1.l.workers = y1.l.workers then
   if y1.l.levels = y1.l.levels then
   if y1.l.classes = y1.l.classes then
   if y1.l.tasks = y1.l.tasks then
   if y1.l.deque = y1.l.deque then
   if y1.l.heap = y1.l.heap then
   if y1.l.sleepers = y1.l.sleepers then
   if y1.l.epochs = y1.l.epochs then
   if y1.l.bitmaps = y1.l.bitmaps then
   if y1.l.queues = y1.l.queues then
   if y1.l.table = y1.l.table then
   if ((ab8 y0.subs y0.i).prog) = ((ab8 y0.subs y0.i).prog) then
   if ((ab8 y0.subs y0.i).level) = ((ab8 y0.subs y0.i).level) then
   if ((ab8 y0.subs y0.i).deadline) = ((ab8 y0.subs y0.i).deadline) then
   if y0.i = y0.i then
   if y1.l.workers = y1.l.workers then
   if y1.l.levels = y1.l.levels then
   if y1.l.classes = y1.l.classes then
   if y1.l.tasks = y1.l.tasks then
   if y1.l.deque = y1.l.deque then
   if y1.l.heap = y1.l.heap then
   if y1.l.sleepers = y1.l.sleepers then
   if y1.l.epochs = y1.l.epochs then
   if y1.l.bitmaps = y1.l.bitmaps then
   if y1.l.queues = y1.l.queues then
   if y1.l.table = y1.l.table then
   if ((ab8 y0.subs y0.i).prog) = ((ab8 y0.subs y0.i).prog) then
   if ((ab8 y0.subs y0.i).level) = ((ab8 y0.subs y0.i).level) then
   if ((ab8 y0.subs y0.i).deadline) = ((ab8 y0.subs y0.i).deadline) then
   if y0.i = y0.i then
   if y1.l.workers = y1.l.workers then
   if y1.l.levels = y1.l.levels then
   if y1.l.classes = y1.l.classes then
   if y1.l.tasks = y1.l.tasks then
   if y1.l.deque = y1.l.deque then
   if y1.l.heap = y1.l.heap then
   if y1.l.sleepers = y1.l.sleepers then
   if y1.l.epochs = y1.l.epochs then
   if y1.l.bitmaps = y1.l.bitmaps then
   if y1.l.queues = y1.l.queues then
   if y1.l.table = y1.l.table then
   if y0.line = 2 then
   (af5 y1.l).bind fun r15 =>
   if y1.c.heap = y1.c.heap then
   (aco y1.m r15.1.1).bind fun r16 =>
   if y1.c.heap = y1.c.heap then
   if y1.c.heap ≤ (wi (r16.1.1)) then
   (abz y0 ({ y1 with m := r16.2.1 } : EnvP) 1).bind fun r17 =>
   some ((r17.1.1, ()), (r17.2.1, r17.2.2.1, ()))
   else
   (aak y0 (wi (y0.line + 1))).bind fun r18 =>
   some ((r18.1.1, ()), (r18.2.1, ({ y1 with m := r16.2.1 } : EnvP), ()))
   else none
   else none
   else
   if y0.line = 4 then
   (ae5 y1.l y0.id).bind fun r19 =>
   if ((ab8 y0.subs y0.i).level) = ((ab8 y0.subs y0.i).level) then
   (aa2 y1.m r19.1.1 (wu ((ab8 y0.subs y0.i).level))).bind fun r20 =>
   (aak y0 (wi (y0.line + 1))).bind fun r21 =>
   some ((r21.1.1, ()), (r21.2.1, ({ y1 with m := r20.2.1 } : EnvP), ()))
   else none
   else
   if y0.line = 5 then
   (aiF y1.l y0.id).bind fun r22 =>
   (arf y1.k).bind fun r23 =>
   (aa2 y1.m r22.1.1 (wu (r23.1.1))).bind fun r24 =>
   (aak y0 (wi (y0.line + 1))).bind fun r25 =>
   some ((r25.1.1, ()), (r25.2.1, ({ y1 with m := r24.2.1, k := r23.2.1 } : EnvP), ()))
   else
   (aer y1.l y0.id).bind fun r26 =>
   (aa2 y1.m r26.1.1 1).bind fun r27 =>
   (aak y0 (wi (y0.line + 1))).bind fun r28 =>
   some ((r28.1.1, ()), (r28.2.1, ({ y1 with m := r27.2.1 } : EnvP), ()))
   else none
   else none
   else none
   else none
   else none
   else none
   else none
   else none
   else none
   else none
   else none
   else none
   else none
   else none
   else none
   else none
   else none
   else none
   else none
   else none
   else none
   else none
   else none
   else none
   else none
   else none
   else none
   else none
   else none
   else none
   else none
   else none
   else none
   else none
   else none
   else none
   else none
   else none
   else none
   else none
   else none
  ) (
   if y1.l.workers = y1.l.workers then
   if y1.l.levels = y1.l.levels then
   if y1.l.classes = y1.l.classes then
   if y1.l.tasks = y1.l.tasks then
   if y1.l.deque = y1.l.deque then
   if y1.l.heap = y1.l.heap then
   if y1.l.sleepers = y1.l.sleepers then
   if y1.l.epochs = y1.l.epochs then
   if y1.l.bitmaps = y1.l.bitmaps then
   if y1.l.queues = y1.l.queues then
   if y1.l.table = y1.l.table then
   if ((ab8 y0.subs y0.i).prog) = ((ab8 y0.subs y0.i).prog) then
   if ((ab8 y0.subs y0.i).level) = ((ab8 y0.subs y0.i).level) then
   if ((ab8 y0.subs y0.i).deadline) = ((ab8 y0.subs y0.i).deadline) then
   if y0.i = y0.i then
   if y1.l.workers = y1.l.workers then
   if y1.l.levels = y1.l.levels then
   if y1.l.classes = y1.l.classes then
   if y1.l.tasks = y1.l.tasks then
   if y1.l.deque = y1.l.deque then
   if y1.l.heap = y1.l.heap then
   if y1.l.sleepers = y1.l.sleepers then
   if y1.l.epochs = y1.l.epochs then
   if y1.l.bitmaps = y1.l.bitmaps then
   if y1.l.queues = y1.l.queues then
   if y1.l.table = y1.l.table then
   if ((ab8 y0.subs y0.i).prog) = ((ab8 y0.subs y0.i).prog) then
   if ((ab8 y0.subs y0.i).level) = ((ab8 y0.subs y0.i).level) then
   if ((ab8 y0.subs y0.i).deadline) = ((ab8 y0.subs y0.i).deadline) then
   if y0.i = y0.i then
   if y1.l.workers = y1.l.workers then
   if y1.l.levels = y1.l.levels then
   if y1.l.classes = y1.l.classes then
   if y1.l.tasks = y1.l.tasks then
   if y1.l.deque = y1.l.deque then
   if y1.l.heap = y1.l.heap then
   if y1.l.sleepers = y1.l.sleepers then
   if y1.l.epochs = y1.l.epochs then
   if y1.l.bitmaps = y1.l.bitmaps then
   if y1.l.queues = y1.l.queues then
   if y1.l.table = y1.l.table then
   if y0.line = 2 then
   (af5 y1.l).bind fun r1 =>
   if y1.c.heap = y1.c.heap then
   (aco y1.m r1.1.1).bind fun r2 =>
   if y1.c.heap = y1.c.heap then
   if y1.c.heap ≤ (wi (r2.1.1)) then
   (abz y0 ({ y1 with m := r2.2.1 } : EnvP) 1).bind fun r3 =>
   some ((r3.1.1, ()), (r3.2.1, r3.2.2.1, ()))
   else
   (aak y0 (wi (y0.line + 1))).bind fun r4 =>
   some ((r4.1.1, ()), (r4.2.1, ({ y1 with m := r2.2.1 } : EnvP), ()))
   else none
   else none
   else
   if y0.line = 4 then
   (ae5 y1.l y0.id).bind fun r5 =>
   if ((ab8 y0.subs y0.i).level) = ((ab8 y0.subs y0.i).level) then
   (aa2 y1.m r5.1.1 (wu ((ab8 y0.subs y0.i).level))).bind fun r6 =>
   (aak y0 (wi (y0.line + 1))).bind fun r7 =>
   some ((r7.1.1, ()), (r7.2.1, ({ y1 with m := r6.2.1 } : EnvP), ()))
   else none
   else
   if y0.line = 5 then
   (aiF y1.l y0.id).bind fun r8 =>
   (arf y1.k).bind fun r9 =>
   (aa2 y1.m r8.1.1 (wu (r9.1.1))).bind fun r10 =>
   (aak y0 (wi (y0.line + 1))).bind fun r11 =>
   some ((r11.1.1, ()), (r11.2.1, ({ y1 with m := r10.2.1, k := r9.2.1 } : EnvP), ()))
   else
   (aer y1.l y0.id).bind fun r12 =>
   (aa2 y1.m r12.1.1 1).bind fun r13 =>
   (aak y0 (wi (y0.line + 1))).bind fun r14 =>
   some ((r14.1.1, ()), (r14.2.1, ({ y1 with m := r13.2.1 } : EnvP), ()))
   else none
   else none
   else none
   else none
   else none
   else none
   else none
   else none
   else none
   else none
   else none
   else none
   else none
   else none
   else none
   else none
   else none
   else none
   else none
   else none
   else none
   else none
   else none
   else none
   else none
   else none
   else none
   else none
   else none
   else none
   else none
   else none
   else none
   else none
   else none
   else none
   else none
   else none
   else none
   else none
   else none
  )
 else none
noncomputable abbrev ae8 : Con SR1 := ⟨116, [.ref 30, .ref 27], [.sh .b], fun x => ad3 x.1 x.2.1⟩
theorem air : CO Tryz.prog ae8 := aai aah Tryz.func116 [aj1, acq, ad2, adr, agj, adC, ajZ, ant, agi] ⟨ajm, abD, afL, adU, afC, ac3, aji, akT, afB, trivial⟩ [] trivial (fun _ => []) [] fun x => by kernel_rfl
noncomputable def aa5 (y0 : (ClientV MV)) (y1 : EnvP) : Option ((Bool × Unit) × ((ClientV MV) × EnvP × Unit)) :=
 if 0 ≤ y0.i ∧ y0.i < ((y0.subs.length : Nat) : Int) then
  if y0.line = 2 then
   (af5 y1.l).bind fun r1 =>
   (aco y1.m r1.1.1).bind fun r2 =>
   if y1.c.heap ≤ (wi (r2.1.1)) then
   (abz y0 ({ y1 with m := r2.2.1 } : EnvP) 1).bind fun r3 =>
   some ((r3.1.1, ()), (r3.2.1, r3.2.2.1, ()))
   else
   (aak y0 (wi (y0.line + 1))).bind fun r4 =>
   some ((r4.1.1, ()), (r4.2.1, ({ y1 with m := r2.2.1 } : EnvP), ()))
  else
  if y0.line = 4 then
   (ae5 y1.l y0.id).bind fun r5 =>
   (aa2 y1.m r5.1.1 (wu ((ab8 y0.subs y0.i).level))).bind fun r6 =>
   (aak y0 (wi (y0.line + 1))).bind fun r7 =>
   some ((r7.1.1, ()), (r7.2.1, ({ y1 with m := r6.2.1 } : EnvP), ()))
  else
  if y0.line = 5 then
   (aiF y1.l y0.id).bind fun r8 =>
   (arf y1.k).bind fun r9 =>
   (aa2 y1.m r8.1.1 (wu (r9.1.1))).bind fun r10 =>
   (aak y0 (wi (y0.line + 1))).bind fun r11 =>
   some ((r11.1.1, ()), (r11.2.1, ({ y1 with m := r10.2.1, k := r9.2.1 } : EnvP), ()))
  else
  (aer y1.l y0.id).bind fun r12 =>
  (aa2 y1.m r12.1.1 1).bind fun r13 =>
  (aak y0 (wi (y0.line + 1))).bind fun r14 =>
  some ((r14.1.1, ()), (r14.2.1, ({ y1 with m := r13.2.1 } : EnvP), ()))
 else none
noncomputable abbrev af9 : Con SR1 := ⟨116, [.ref 30, .ref 27], [.sh .b], fun x => aa5 x.1 x.2.1⟩
theorem ajD (y0 : (ClientV MV)) (y1 : EnvP) : ad3 y0 y1 = aa5 y0 y1 := by
  unfold ad3 aa5
  simp only [if_true, akh, anb]
theorem ajC : CO Tryz.prog af9 := ayL air fun x out hx => (show ae8.spec x = some out from (ajD x.1 x.2.1).trans hx)
noncomputable def acE (y0 : (ClientV MV)) : Option ((Bool × Unit) × ((ClientV MV) × Unit)) :=
 (aak ({ y0 with i := wi (y0.i + 1), accepted := false } : (ClientV MV)) 1).bind fun r1 =>
 (aav r1.2.1).bind fun r2 =>
 some ((r2.1.1, ()), (r2.2.1, ()))
noncomputable abbrev ag8 : Con SR1 := ⟨132, [.ref 30], [.sh .b], fun x => acE x.1⟩
theorem ak3 : CO Tryz.prog ag8 := aai aah Tryz.func132 [adr, aeT] ⟨adU, agQ, trivial⟩ [] trivial (fun _ => []) [] fun x => by kernel_rfl
noncomputable def aaT (y0 : (ClientV MV)) (y1 : EnvP) (y2 : Int) (y3 : Int) : Option ((Bool × Unit) × ((ClientV MV) × EnvP × Unit)) :=
 if 0 ≤ y0.i ∧ y0.i < ((y0.subs.length : Nat) : Int) then
  if ((ab8 y0.subs y0.i).prog) = ((ab8 y0.subs y0.i).prog) then
   if ((ab8 y0.subs y0.i).level) = ((ab8 y0.subs y0.i).level) then
   if ((ab8 y0.subs y0.i).deadline) = ((ab8 y0.subs y0.i).deadline) then
   if y0.i = y0.i then
   if y0.line = 3 then
   if y2 = 3 then
   (abz y0 y1 2).bind fun r1 =>
   some ((r1.1.1, ()), (r1.2.1, r1.2.2.1, ()))
   else
   if 0 ≤ y3 ∧ y3 < ((y1.recs.length : Nat) : Int) then
   (aak ({ y0 with id := y3 } : (ClientV MV)) (wi (y0.line + 1))).bind fun r2 =>
   some ((r2.1.1, ()), (r2.2.1, ({ y1 with recs := y1.recs.set y3.toNat (⟨(ab8 y0.subs y0.i).prog, (-1), 0, 0, (-1), [], false⟩ : RecP) } : EnvP), ()))
   else none
   else
   if y0.line = 6 then
   if y2 ≠ 0 then
   (aak y0 8).bind fun r3 =>
   some ((r3.1.1, ()), (r3.2.1, y1, ()))
   else
   (adW y1 (⟨1, y0.me, y0.id, y0.i, (ab8 y0.subs y0.i).level⟩ : Ev)).bind fun r4 =>
   (aak ({ y0 with accepted := true } : (ClientV MV)) (wi (y0.line + 1))).bind fun r5 =>
   some ((r5.1.1, ()), (r5.2.1, r4.2.1, ()))
   else
   if y0.line = 8 then
   if (!y0.accepted) = true then
   (acE y0).bind fun r6 =>
   some ((r6.1.1, ()), (r6.2.1, y1, ()))
   else
   (aak y0 (wi (y0.line + 1))).bind fun r7 =>
   some ((r7.1.1, ()), (r7.2.1, y1, ()))
   else
   if y0.line = 9 then
   (acE y0).bind fun r8 =>
   some ((r8.1.1, ()), (r8.2.1, y1, ()))
   else
   (aak y0 (wi (y0.line + 1))).bind fun r9 =>
   some ((r9.1.1, ()), (r9.2.1, y1, ()))
   else none
   else none
   else none
  else none
 else none
noncomputable abbrev agR : Con SR1 := ⟨117, [.ref 30, .ref 27, .sh sI_, .sh sI_], [.sh .b], fun x => aaT x.1 x.2.1 x.2.2.1 x.2.2.2.1⟩
theorem aks : CO Tryz.prog agR := aai aah Tryz.func117 [ad2, adr, afe, ag8] ⟨afL, adU, aee, ak3, trivial⟩ [] trivial (fun _ => []) [] fun x => by kernel_rfl
noncomputable def aas (y0 : (ClientV MV)) (y1 : EnvP) : Option ((Bool × Unit) × ((ClientV MV) × EnvP × Unit)) :=
 (aav y0).bind fun r1 =>
 if r1.1.1 = true then
  some ((true, ()), (r1.2.1, y1, ()))
 else
 if r1.2.1.fresh = true then
  (ac0 r1.2.1).bind fun r2 =>
  if (SR1.spl r2.1.1).isNone = true then
   (aa5 ({ r2.2.1 with inside := r2.1.1, fresh := false } : (ClientV MV)) y1).bind fun r3 =>
   some ((r3.1.1, ()), (r3.2.1, r3.2.2.1, ()))
  else
  (adz r2.1.1 y1).bind fun r4 =>
  if (!r4.1.1) = true then
   some ((false, ()), (({ r2.2.1 with inside := r4.2.1, fresh := false } : (ClientV MV)), r4.2.2.1, ()))
  else
  (abp r4.2.1).bind fun r5 =>
  (aaT ({ r2.2.1 with inside := r5.2.1, fresh := false } : (ClientV MV)) r4.2.2.1 r5.1.1 r5.1.2.1).bind fun r6 =>
  some ((r6.1.1, ()), (r6.2.1, r6.2.2.1, ()))
 else
 if (SR1.spl r1.2.1.inside).isNone = true then
  (aa5 r1.2.1 y1).bind fun r7 =>
  some ((r7.1.1, ()), (r7.2.1, r7.2.2.1, ()))
 else
 (adz r1.2.1.inside y1).bind fun r8 =>
 if (!r8.1.1) = true then
  some ((false, ()), (({ r1.2.1 with inside := r8.2.1 } : (ClientV MV)), r8.2.2.1, ()))
 else
 (abp r8.2.1).bind fun r9 =>
 (aaT ({ r1.2.1 with inside := r9.2.1 } : (ClientV MV)) r8.2.2.1 r9.1.1 r9.1.2.1).bind fun r10 =>
 some ((r10.1.1, ()), (r10.2.1, r10.2.2.1, ()))
noncomputable abbrev acQ : Con SR1 := ⟨114, [.ref 30, .ref 27], [.sh .b], fun x => aas x.1 x.2.1⟩
theorem adl : CO Tryz.prog acQ := aai aah Tryz.func114 [aeT, ae7, af9, aqS, amB, agR] ⟨agQ, aiq, ajC, asw, aoX, aks, trivial⟩ [] trivial (fun _ => []) [] fun x => by kernel_rfl
noncomputable def afm (y0 : Int) : Option ((MV × Unit) × (Unit)) :=
 (afF y0).bind fun r1 =>
 some ((MV.take (⟨⟨false, 0, 0⟩, y0, false, r1.1.1⟩ : (TakeV MV)), ()), (()))
noncomputable abbrev ams : Con SR1 := ⟨144, [.sh sI_], [.sh .mach], fun x => afm x.1⟩
theorem aoK : CO Tryz.prog ams := aai aah Tryz.func144 [akV] ⟨anu, trivial⟩ [] trivial (fun _ => []) [] fun x => by kernel_rfl
noncomputable def aaf (y0 : (WorkerV MV)) (y1 : Int) (y2 : MV) : Option ((Unit) × ((WorkerV MV) × Unit)) :=
 some ((()), (({ y0 with line := y1, inside := y2 } : (WorkerV MV)), ()))
noncomputable abbrev ab6 : Con SR1 := ⟨143, [.ref 31, .sh sI_, .sh .mach], [], fun x => aaf x.1 x.2.1 x.2.2.1⟩
theorem acl : CO Tryz.prog ab6 := aai aah Tryz.func143 [] trivial [] trivial (fun _ => []) [] fun x => by kernel_rfl
noncomputable def anh (y0 : Int) (y1 : Int) : Option ((MV × Unit) × (Unit)) :=
 some ((MV.sweep (⟨⟨false, 0, 0⟩, y0, y1, 1, 0, MV.nil⟩ : (SweepV MV)), ()), (()))
noncomputable abbrev anD : Con SR1 := ⟨145, [.sh sI_, .sh sI_], [.sh .mach], fun x => anh x.1 x.2.1⟩
theorem asd : CO Tryz.prog anD := aai aah Tryz.func145 [] trivial [] trivial (fun _ => []) [] fun x => by kernel_rfl
noncomputable def adR (y0 : (WorkerV MV)) (y1 : EnvP) : Option ((Unit) × ((WorkerV MV) × EnvP × Unit)) :=
 if y1.c.age = 0 then
  (afm y0.worker).bind fun r1 =>
  (aaf y0 2 r1.1.1).bind fun r2 =>
  some ((()), (r2.2.1, y1, ()))
 else
 (azr y0.worker y1.c.tasks).bind fun r3 =>
 if y1.c.tasks = y1.c.tasks then
  if y0.cursor = y0.cursor then
   if y0.worker = y0.worker then
   (azr (wi (r3.1.1 + y0.cursor)) y1.c.tasks).bind fun r4 =>
   if y0.worker = y0.worker then
   (anh y0.worker r4.1.1).bind fun r5 =>
   (aaf y0 1 r5.1.1).bind fun r6 =>
   some ((()), (r6.2.1, y1, ()))
   else none
   else none
  else none
 else none
noncomputable abbrev agv : Con SR1 := ⟨139, [.ref 31, .ref 27], [], fun x => adR x.1 x.2.1⟩
theorem aki : CO Tryz.prog agv := aai aah Tryz.func139 [ams, ab6, asX, anD] ⟨aoK, acl, arh, asd, trivial⟩ [] trivial (fun _ => []) [] fun x => by kernel_rfl
noncomputable def alw (y0 : Int) (y1 : Int) : Option ((MV × Unit) × (Unit)) :=
 some ((MV.run (⟨⟨false, 0, 0⟩, y0, [y1], 0, MV.nil, 0, 0, 0, 0⟩ : (RunV MV)), ()), (()))
noncomputable abbrev aoS : Con SR1 := ⟨155, [.sh sI_, .sh sI_], [.sh .mach], fun x => alw x.1 x.2.1⟩
theorem asE : CO Tryz.prog aoS := aai aah Tryz.func155 [] trivial [] trivial (fun _ => []) [] fun x => by kernel_rfl
noncomputable def ac2 (y0 : (WorkerV MV)) (y1 : Int) : Option ((Unit) × ((WorkerV MV) × Unit)) :=
 (alw y0.worker y1).bind fun r1 =>
 (aaf ({ y0 with x := y1 } : (WorkerV MV)) 7 r1.1.1).bind fun r2 =>
 some ((()), (r2.2.1, ()))
noncomputable abbrev ae9 : Con SR1 := ⟨142, [.ref 31, .sh sI_], [], fun x => ac2 x.1 x.2.1⟩
theorem agV : CO Tryz.prog ae9 := aai aah Tryz.func142 [aoS, ab6] ⟨asE, acl, trivial⟩ [] trivial (fun _ => []) [] fun x => by kernel_rfl
noncomputable def akc (y0 : Int) : Option ((MV × Unit) × (Unit)) :=
 some ((MV.drain (⟨⟨false, 0, 0⟩, y0, 1, MV.nil, 0, false, 0, 0, 0⟩ : (DrainV MV)), ()), (()))
noncomputable abbrev anz : Con SR1 := ⟨147, [.sh sI_], [.sh .mach], fun x => akc x.1⟩
theorem arT : CO Tryz.prog anz := aai aah Tryz.func147 [] trivial [] trivial (fun _ => []) [] fun x => by kernel_rfl
noncomputable def acm (y0 : (WorkerV MV)) (y1 : Int) : Option ((Unit) × ((WorkerV MV) × Unit)) :=
 (acn y0.worker y1).bind fun r1 =>
 (aaf ({ y0 with x := y1 } : (WorkerV MV)) 6 r1.1.1).bind fun r2 =>
 some ((()), (r2.2.1, ()))
noncomputable abbrev aej : Con SR1 := ⟨148, [.ref 31, .sh sI_], [], fun x => acm x.1 x.2.1⟩
theorem af1 : CO Tryz.prog aej := aai aah Tryz.func148 [afz, ab6] ⟨agc, acl, trivial⟩ [] trivial (fun _ => []) [] fun x => by kernel_rfl
noncomputable def adp (y0 : Int) : Option ((MV × Unit) × (Unit)) :=
 some ((MV.sleep (⟨⟨false, 0, 0⟩, y0, 1, 0, 0, 0⟩ : SleepV), ()), (()))
noncomputable abbrev akR : Con SR1 := ⟨150, [.sh sI_], [.sh .mach], fun x => adp x.1⟩
theorem anr : CO Tryz.prog akR := aai aah Tryz.func150 [] trivial [] trivial (fun _ => []) [] fun x => by kernel_rfl
noncomputable def amM (y0 : Int) : Option ((MV × Unit) × (Unit)) :=
 some ((MV.probe (⟨⟨false, 0, 0⟩, y0, false, 0, 0, ⟨0, 0, 0, 0, 0, 0, 0, 0, 0, 0, 0, 0, 0, 0, 0, 0⟩⟩ : ProbeV), ()), (()))
noncomputable abbrev anq : Con SR1 := ⟨158, [.sh sI_], [.sh .mach], fun x => amM x.1⟩
theorem aq9 : CO Tryz.prog anq := aai aah Tryz.func158 [] trivial [] trivial (fun _ => []) [] fun x => by kernel_rfl
noncomputable def aa8 (y0 : (WorkerV MV)) (y1 : EnvP) : Option ((Unit) × ((WorkerV MV) × EnvP × Unit)) :=
 if y1.c.workers = 1 then
  (adp y0.worker).bind fun r1 =>
  (aaf y0 8 r1.1.1).bind fun r2 =>
  some ((()), (r2.2.1, y1, ()))
 else
 (amM y0.worker).bind fun r3 =>
 (aaf y0 4 r3.1.1).bind fun r4 =>
 some ((()), (r4.2.1, y1, ()))
noncomputable abbrev agW : Con SR1 := ⟨149, [.ref 31, .ref 27], [], fun x => aa8 x.1 x.2.1⟩
theorem akL : CO Tryz.prog agW := aai aah Tryz.func149 [akR, ab6, anq] ⟨anr, acl, aq9, trivial⟩ [] trivial (fun _ => []) [] fun x => by kernel_rfl
noncomputable def adt (y0 : QV) : Option ((MV × Unit) × (Unit)) :=
 some ((MV.steal (⟨⟨false, 0, 0⟩, y0, 1, 0, 0⟩ : StealV), ()), (()))
noncomputable abbrev anm : Con SR1 := ⟨151, [.val 14], [.sh .mach], fun x => adt x.1⟩
theorem aqP : CO Tryz.prog anm := aai aah Tryz.func151 [] trivial [] trivial (fun _ => []) [] fun x => by kernel_rfl
noncomputable def abJ (y0 : (WorkerV MV)) (y1 : EnvP) (y2 : Int) (y3 : Int) : Option ((Unit) × ((WorkerV MV) × EnvP × Unit)) :=
 if y0.line = 1 then
  (afm y0.worker).bind fun r1 =>
  (aaf ({ y0 with cursor := wi (y0.cursor + 1) } : (WorkerV MV)) 2 r1.1.1).bind fun r2 =>
  some ((()), (r2.2.1, y1, ()))
 else
 if y0.line = 2 then
  if y2 = 1 then
   (ac2 y0 y3).bind fun r3 =>
   some ((()), (r3.2.1, y1, ()))
  else
  if y0.line = 2 then
   (akc y0.worker).bind fun r4 =>
   (aaf y0 3 r4.1.1).bind fun r5 =>
   some ((()), (r5.2.1, y1, ()))
  else
  if y0.line = 3 then
   if y2 = 1 then
   (acm y0 y3).bind fun r6 =>
   some ((()), (r6.2.1, y1, ()))
   else
   if y0.line = 3 then
   if y2 = 0 then
   (afm y0.worker).bind fun r7 =>
   (aaf y0 2 r7.1.1).bind fun r8 =>
   some ((()), (r8.2.1, y1, ()))
   else
   if y0.line = 3 then
   (aa8 y0 y1).bind fun r9 =>
   some ((()), (r9.2.1, r9.2.2.1, ()))
   else
   if y2 = 2 then
   (adp y0.worker).bind fun r10 =>
   (aaf y0 8 r10.1.1).bind fun r11 =>
   some ((()), (r11.2.1, y1, ()))
   else
   (agH y1.l (wi (Int.tdiv y3 64)) (Int.tmod y3 64)).bind fun r12 =>
   (adt r12.1.1).bind fun r13 =>
   (aaf ({ y0 with victim := wi (Int.tdiv y3 64), level := (Int.tmod y3 64) } : (WorkerV MV)) 5 r13.1.1).bind fun r14 =>
   some ((()), (r14.2.1, y1, ()))
   else
   if y0.line = 3 then
   (aa8 y0 y1).bind fun r15 =>
   some ((()), (r15.2.1, r15.2.2.1, ()))
   else
   if y2 = 2 then
   (adp y0.worker).bind fun r16 =>
   (aaf y0 8 r16.1.1).bind fun r17 =>
   some ((()), (r17.2.1, y1, ()))
   else
   (agH y1.l (wi (Int.tdiv y3 64)) (Int.tmod y3 64)).bind fun r18 =>
   (adt r18.1.1).bind fun r19 =>
   (aaf ({ y0 with victim := wi (Int.tdiv y3 64), level := (Int.tmod y3 64) } : (WorkerV MV)) 5 r19.1.1).bind fun r20 =>
   some ((()), (r20.2.1, y1, ()))
  else
  if y0.line = 3 then
   if y2 = 0 then
   (afm y0.worker).bind fun r21 =>
   (aaf y0 2 r21.1.1).bind fun r22 =>
   some ((()), (r22.2.1, y1, ()))
   else
   if y0.line = 3 then
   (aa8 y0 y1).bind fun r23 =>
   some ((()), (r23.2.1, r23.2.2.1, ()))
   else
   if y2 = 2 then
   (adp y0.worker).bind fun r24 =>
   (aaf y0 8 r24.1.1).bind fun r25 =>
   some ((()), (r25.2.1, y1, ()))
   else
   (agH y1.l (wi (Int.tdiv y3 64)) (Int.tmod y3 64)).bind fun r26 =>
   (adt r26.1.1).bind fun r27 =>
   (aaf ({ y0 with victim := wi (Int.tdiv y3 64), level := (Int.tmod y3 64) } : (WorkerV MV)) 5 r27.1.1).bind fun r28 =>
   some ((()), (r28.2.1, y1, ()))
  else
  if y0.line = 3 then
   (aa8 y0 y1).bind fun r29 =>
   some ((()), (r29.2.1, r29.2.2.1, ()))
  else
  if y2 = 2 then
   (adp y0.worker).bind fun r30 =>
   (aaf y0 8 r30.1.1).bind fun r31 =>
   some ((()), (r31.2.1, y1, ()))
  else
  (agH y1.l (wi (Int.tdiv y3 64)) (Int.tmod y3 64)).bind fun r32 =>
  (adt r32.1.1).bind fun r33 =>
  (aaf ({ y0 with victim := wi (Int.tdiv y3 64), level := (Int.tmod y3 64) } : (WorkerV MV)) 5 r33.1.1).bind fun r34 =>
  some ((()), (r34.2.1, y1, ()))
 else
 if y0.line = 2 then
  (akc y0.worker).bind fun r35 =>
  (aaf y0 3 r35.1.1).bind fun r36 =>
  some ((()), (r36.2.1, y1, ()))
 else
 if y0.line = 3 then
  if y2 = 1 then
   (acm y0 y3).bind fun r37 =>
   some ((()), (r37.2.1, y1, ()))
  else
  if y0.line = 3 then
   if y2 = 0 then
   (afm y0.worker).bind fun r38 =>
   (aaf y0 2 r38.1.1).bind fun r39 =>
   some ((()), (r39.2.1, y1, ()))
   else
   if y0.line = 3 then
   (aa8 y0 y1).bind fun r40 =>
   some ((()), (r40.2.1, r40.2.2.1, ()))
   else
   if y2 = 2 then
   (adp y0.worker).bind fun r41 =>
   (aaf y0 8 r41.1.1).bind fun r42 =>
   some ((()), (r42.2.1, y1, ()))
   else
   (agH y1.l (wi (Int.tdiv y3 64)) (Int.tmod y3 64)).bind fun r43 =>
   (adt r43.1.1).bind fun r44 =>
   (aaf ({ y0 with victim := wi (Int.tdiv y3 64), level := (Int.tmod y3 64) } : (WorkerV MV)) 5 r44.1.1).bind fun r45 =>
   some ((()), (r45.2.1, y1, ()))
  else
  if y0.line = 3 then
   (aa8 y0 y1).bind fun r46 =>
   some ((()), (r46.2.1, r46.2.2.1, ()))
  else
  if y2 = 2 then
   (adp y0.worker).bind fun r47 =>
   (aaf y0 8 r47.1.1).bind fun r48 =>
   some ((()), (r48.2.1, y1, ()))
  else
  (agH y1.l (wi (Int.tdiv y3 64)) (Int.tmod y3 64)).bind fun r49 =>
  (adt r49.1.1).bind fun r50 =>
  (aaf ({ y0 with victim := wi (Int.tdiv y3 64), level := (Int.tmod y3 64) } : (WorkerV MV)) 5 r50.1.1).bind fun r51 =>
  some ((()), (r51.2.1, y1, ()))
 else
 if y0.line = 3 then
  if y2 = 0 then
   (afm y0.worker).bind fun r52 =>
   (aaf y0 2 r52.1.1).bind fun r53 =>
   some ((()), (r53.2.1, y1, ()))
  else
  if y0.line = 3 then
   (aa8 y0 y1).bind fun r54 =>
   some ((()), (r54.2.1, r54.2.2.1, ()))
  else
  if y2 = 2 then
   (adp y0.worker).bind fun r55 =>
   (aaf y0 8 r55.1.1).bind fun r56 =>
   some ((()), (r56.2.1, y1, ()))
  else
  (agH y1.l (wi (Int.tdiv y3 64)) (Int.tmod y3 64)).bind fun r57 =>
  (adt r57.1.1).bind fun r58 =>
  (aaf ({ y0 with victim := wi (Int.tdiv y3 64), level := (Int.tmod y3 64) } : (WorkerV MV)) 5 r58.1.1).bind fun r59 =>
  some ((()), (r59.2.1, y1, ()))
 else
 if y0.line = 3 then
  (aa8 y0 y1).bind fun r60 =>
  some ((()), (r60.2.1, r60.2.2.1, ()))
 else
 if y2 = 2 then
  (adp y0.worker).bind fun r61 =>
  (aaf y0 8 r61.1.1).bind fun r62 =>
  some ((()), (r62.2.1, y1, ()))
 else
 (agH y1.l (wi (Int.tdiv y3 64)) (Int.tmod y3 64)).bind fun r63 =>
 (adt r63.1.1).bind fun r64 =>
 (aaf ({ y0 with victim := wi (Int.tdiv y3 64), level := (Int.tmod y3 64) } : (WorkerV MV)) 5 r64.1.1).bind fun r65 =>
 some ((()), (r65.2.1, y1, ()))
noncomputable abbrev agx : Con SR1 := ⟨140, [.ref 31, .ref 27, .sh sI_, .sh sI_], [], fun x => abJ x.1 x.2.1 x.2.2.1 x.2.2.2.1⟩
theorem akj : CO Tryz.prog agx := aai aah Tryz.func140 [ams, ab6, ae9, anz, aej, agW, akR, aj0, anm] ⟨aoK, acl, agV, arT, af1, akL, anr, ajk, aqP, trivial⟩ [] trivial (fun _ => []) [] fun x => by kernel_rfl
noncomputable def aaW (y0 : (WorkerV MV)) : Option ((Unit) × ((WorkerV MV) × Unit)) :=
 some ((()), (({ y0 with line := 0, inside := MV.nil } : (WorkerV MV)), ()))
noncomputable abbrev aeI : Con SR1 := ⟨138, [.ref 31], [], fun x => aaW x.1⟩
theorem agw : CO Tryz.prog aeI := aai aah Tryz.func138 [] trivial [] trivial (fun _ => []) [] fun x => by kernel_rfl
noncomputable def ady (y0 : (WorkerV MV)) (y1 : EnvP) (y2 : Int) (y3 : Int) : Option ((Unit) × ((WorkerV MV) × EnvP × Unit)) :=
 if y2 = 1 then
  (adW y1 ({ y0 with kind := 14, task := y3, other := y0.victim } : Ev)).bind fun r1 =>
  (acm y0 y3).bind fun r2 =>
  some ((()), (r2.2.1, r1.2.1, ()))
 else
 if y2 = 2 then
  (ahd y1.l y0.victim).bind fun r3 =>
  if y0.level = y0.level then
   if y0.victim = y0.victim then
   if y1.l.workers = y1.l.workers then
   if y1.l.levels = y1.l.levels then
   if y1.l.classes = y1.l.classes then
   if y1.l.tasks = y1.l.tasks then
   if y1.l.deque = y1.l.deque then
   if y1.l.heap = y1.l.heap then
   if y1.l.sleepers = y1.l.sleepers then
   if y1.l.epochs = y1.l.epochs then
   if y1.l.bitmaps = y1.l.bitmaps then
   if y1.l.queues = y1.l.queues then
   if y1.l.table = y1.l.table then
   if y0.level = y0.level then
   (agH y1.l y0.victim y0.level).bind fun r4 =>
   if y0.level = y0.level then
   (agS r3.1.1 y0.level r4.1.1).bind fun r5 =>
   (aaf y0 9 r5.1.1).bind fun r6 =>
   some ((()), (r6.2.1, y1, ()))
   else none
   else none
   else none
   else none
   else none
   else none
   else none
   else none
   else none
   else none
   else none
   else none
   else none
   else none
  else none
 else
 (aaW y0).bind fun r7 =>
 some ((()), (r7.2.1, y1, ()))
noncomputable abbrev af0 : Con SR1 := ⟨141, [.ref 31, .ref 27, .sh sI_, .sh sI_], [], fun x => ady x.1 x.2.1 x.2.2.1 x.2.2.2.1⟩
theorem ai3 : CO Tryz.prog af0 := aai aah Tryz.func141 [afe, aej, agI, aj0, aiv, ab6, aeI] ⟨aee, af1, agt, ajk, akJ, acl, agw, trivial⟩ [] trivial (fun _ => []) [] fun x => by kernel_rfl
noncomputable def aaj (y0 : (WorkerV MV)) (y1 : EnvP) : Option ((Bool × Unit) × ((WorkerV MV) × EnvP × Unit)) :=
 if y0.line = 0 then
  (adR y0 y1).bind fun r1 =>
  (adz r1.2.1.inside r1.2.2.1).bind fun r2 =>
  if (!r2.1.1) = true then
   some ((false, ()), (({ r1.2.1 with inside := r2.2.1 } : (WorkerV MV)), r2.2.2.1, ()))
  else
  (abp r2.2.1).bind fun r3 =>
  if r1.2.1.line ≤ 4 then
   (abJ ({ r1.2.1 with inside := r3.2.1 } : (WorkerV MV)) r2.2.2.1 r3.1.1 r3.1.2.1).bind fun r4 =>
   some ((false, ()), (r4.2.1, r4.2.2.1, ()))
  else
  if r1.2.1.line = 5 then
   (ady ({ r1.2.1 with inside := r3.2.1 } : (WorkerV MV)) r2.2.2.1 r3.1.1 r3.1.2.1).bind fun r5 =>
   some ((false, ()), (r5.2.1, r5.2.2.1, ()))
  else
  if r1.2.1.line = 6 then
   if r3.1.1 = 1 then
   (ac2 ({ r1.2.1 with inside := r3.2.1 } : (WorkerV MV)) r1.2.1.x).bind fun r6 =>
   some ((false, ()), (r6.2.1, r2.2.2.1, ()))
   else
   (aaW ({ r1.2.1 with inside := r3.2.1 } : (WorkerV MV))).bind fun r7 =>
   some ((false, ()), (r7.2.1, r2.2.2.1, ()))
  else
  (aaW ({ r1.2.1 with inside := r3.2.1 } : (WorkerV MV))).bind fun r8 =>
  some ((false, ()), (r8.2.1, r2.2.2.1, ()))
 else
 (adz y0.inside y1).bind fun r9 =>
 if (!r9.1.1) = true then
  some ((false, ()), (({ y0 with inside := r9.2.1 } : (WorkerV MV)), r9.2.2.1, ()))
 else
 (abp r9.2.1).bind fun r10 =>
 if y0.line ≤ 4 then
  (abJ ({ y0 with inside := r10.2.1 } : (WorkerV MV)) r9.2.2.1 r10.1.1 r10.1.2.1).bind fun r11 =>
  some ((false, ()), (r11.2.1, r11.2.2.1, ()))
 else
 if y0.line = 5 then
  (ady ({ y0 with inside := r10.2.1 } : (WorkerV MV)) r9.2.2.1 r10.1.1 r10.1.2.1).bind fun r12 =>
  some ((false, ()), (r12.2.1, r12.2.2.1, ()))
 else
 if y0.line = 6 then
  if r10.1.1 = 1 then
   (ac2 ({ y0 with inside := r10.2.1 } : (WorkerV MV)) y0.x).bind fun r13 =>
   some ((false, ()), (r13.2.1, r9.2.2.1, ()))
  else
  (aaW ({ y0 with inside := r10.2.1 } : (WorkerV MV))).bind fun r14 =>
  some ((false, ()), (r14.2.1, r9.2.2.1, ()))
 else
 (aaW ({ y0 with inside := r10.2.1 } : (WorkerV MV))).bind fun r15 =>
 some ((false, ()), (r15.2.1, r9.2.2.1, ()))
noncomputable abbrev acG : Con SR1 := ⟨137, [.ref 31, .ref 27], [.sh .b], fun x => aaj x.1 x.2.1⟩
theorem adb : CO Tryz.prog acG := aai aah Tryz.func137 [agv, aqS, amB, agx, af0, ae9, aeI] ⟨aki, asw, aoX, akj, ai3, agV, agw, trivial⟩ [] trivial (fun _ => []) [] fun x => by kernel_rfl
noncomputable def afi (y0 : Cfg) : Option ((Cfg × Unit) × (Unit)) :=
 (ahN y0.progs).bind fun r1 =>
 (lpF (σ := Int × (Int × Int × Int × Int × Int × Int × Int × Int × Int × List (List Ins) × List Sub × Unit) × Unit) (β := Int × (Int × Int × Int × Int × Int × Int × Int × Int × Int × List (List Ins) × List Sub × Unit) × Unit) (fun self4 x2 =>
  if x2.1 < ((r1.1.1.length : Nat) : Int) then
   if 0 ≤ x2.1 ∧ x2.1 < ((x2.2.1.2.2.2.2.2.2.2.2.2.1.length : Nat) : Int) then
   (ake (ay7 x2.2.1.2.2.2.2.2.2.2.2.2.1 x2.1)).bind fun r5 =>
   if 0 ≤ x2.1 ∧ x2.1 < ((x2.2.1.2.2.2.2.2.2.2.2.2.1.length : Nat) : Int) then
   self4 (wi (x2.1 + 1), (x2.2.1.1, x2.2.1.2.1, x2.2.1.2.2.1, x2.2.1.2.2.2.1, x2.2.1.2.2.2.2.1, x2.2.1.2.2.2.2.2.1, x2.2.1.2.2.2.2.2.2.1, x2.2.1.2.2.2.2.2.2.2.1, x2.2.1.2.2.2.2.2.2.2.2.1, x2.2.1.2.2.2.2.2.2.2.2.2.1.set x2.1.toNat r5.1.1, x2.2.1.2.2.2.2.2.2.2.2.2.2.1, ()), ())
   else none
   else none
  else
  some (x2.1, (x2.2.1.1, x2.2.1.2.1, x2.2.1.2.2.1, x2.2.1.2.2.2.1, x2.2.1.2.2.2.2.1, x2.2.1.2.2.2.2.2.1, x2.2.1.2.2.2.2.2.2.1, x2.2.1.2.2.2.2.2.2.2.1, x2.2.1.2.2.2.2.2.2.2.2.1, x2.2.1.2.2.2.2.2.2.2.2.2.1, x2.2.1.2.2.2.2.2.2.2.2.2.2.1, ()), ())
 ) 18446744073709551616 (0, (y0.workers, y0.levels, y0.classes, y0.tasks, y0.deque, y0.heap, y0.batch, y0.age, y0.patience, r1.1.1, y0.subs, ()), ())).bind fun z3 =>
 (ahM z3.2.1.2.2.2.2.2.2.2.2.2.2.1).bind fun r6 =>
 some (((⟨z3.2.1.1, z3.2.1.2.1, z3.2.1.2.2.1, z3.2.1.2.2.2.1, z3.2.1.2.2.2.2.1, z3.2.1.2.2.2.2.2.1, z3.2.1.2.2.2.2.2.2.1, z3.2.1.2.2.2.2.2.2.2.1, z3.2.1.2.2.2.2.2.2.2.2.1, z3.2.1.2.2.2.2.2.2.2.2.2.1, r6.1.1⟩ : Cfg), ()), (()))
noncomputable abbrev ain : Con SR1 := ⟨83, [.val 13], [.val 13], fun x => afi x.1⟩
theorem akI : CO Tryz.prog ain := aai aah Tryz.func83 [aip, aqE, apK] ⟨atv, auI, atu, trivial⟩ [] trivial (fun _ => []) [(3, .loop [.rg 11 sI_, .cs 11 [sI_, sI_, sI_, sI_, sI_, sI_, sI_, sI_, sI_, (.row 18), (.ro 4)]] 18446744073709551616 0)] fun x => by kernel_rfl
noncomputable def al0 (y0 : Cfg) : Option ((LayV × Int × Unit) × (Unit)) :=
 (akf y0).bind fun r1 =>
 if r1.1.1 ≠ 0 then
  some (((⟨0, 0, 0, 0, 0, 0, 0, 0, 0, 0, 0⟩ : LayV), r1.1.1, ()), (()))
 else
 some ((({ y0 with sleepers := wi (4 + y0.heap), epochs := wi ((wi (4 + y0.heap)) + y0.classes), bitmaps := wi ((wi ((wi (4 + y0.heap)) + y0.classes)) + y0.workers), queues := wi ((wi ((wi ((wi (4 + y0.heap)) + y0.classes)) + y0.workers)) + y0.workers), table := wi ((wi ((wi ((wi ((wi (4 + y0.heap)) + y0.classes)) + y0.workers)) + y0.workers)) + (wi ((wi (y0.workers * y0.levels)) * (wi (2 + y0.deque))))) } : LayV), 0, ()), (()))
noncomputable abbrev app : Con SR1 := ⟨80, [.val 13], [.val 24, .sh sI_], fun x => al0 x.1⟩
theorem ate : CO Tryz.prog app := aai aah Tryz.func80 [ahP] ⟨ait, trivial⟩ [] trivial (fun _ => []) [] fun x => by kernel_rfl
noncomputable def aph (y0 : Int) : Option ((MemV × Unit) × (Unit)) :=
 if (if 131072 < (if y0 < 0 then 0 else y0) then 131072 else (if y0 < 0 then 0 else y0)) = (if 131072 < (if y0 < 0 then 0 else y0) then 131072 else (if y0 < 0 then 0 else y0)) then
  if 0 ≤ (if 131072 < (if y0 < 0 then 0 else y0) then 131072 else (if y0 < 0 then 0 else y0)) ∧ (if 131072 < (if y0 < 0 then 0 else y0) then 131072 else (if y0 < 0 then 0 else y0)) ≤ 1099511627776 then
   some (((⟨List.replicate ((if 131072 < (if y0 < 0 then 0 else y0) then 131072 else (if y0 < 0 then 0 else y0)) : Int).toNat (0 : Int), ⟨0, 0, 0, 0⟩, 0⟩ : MemV), ()), (()))
  else none
 else none
noncomputable abbrev apg : Con SR1 := ⟨92, [.sh sI_], [.sh (.own 9)], fun x => aph x.1⟩
theorem as8 : CO Tryz.prog apg := aai aah Tryz.func92 [] trivial [] trivial (fun _ => []) [] fun x => by kernel_rfl
noncomputable def ar1  : Option ((ClkV × Unit) × (Unit)) :=
 some (((⟨0, 0⟩ : ClkV), ()), (()))
noncomputable abbrev aqF : Con SR1 := ⟨93, [], [.sh (.own 25)], fun x => ar1 ⟩
theorem auJ : CO Tryz.prog aqF := aai aah Tryz.func93 [] trivial [] trivial (fun _ => []) [] fun x => by kernel_rfl
noncomputable def ah8 (y0 : Int) : Option ((EnvP × Unit) × (Unit)) :=
 (aph y0).bind fun r1 =>
 (ar1).bind fun r2 =>
 some (((⟨⟨0, 0, 0, 0, 0, 0, 0, 0, 0, [], []⟩, ⟨0, 0, 0, 0, 0, 0, 0, 0, 0, 0, 0⟩, r1.1.1, r2.1.1, [], []⟩ : EnvP), ()), (()))
noncomputable abbrev alQ : Con SR1 := ⟨81, [.sh sI_], [.sh (.own 27)], fun x => ah8 x.1⟩
theorem ap6 : CO Tryz.prog alQ := aai aah Tryz.func81 [apg, aqF] ⟨as8, auJ, trivial⟩ [] trivial (fun _ => []) [] fun x => by kernel_rfl
noncomputable def agP (y0 : Cfg) : Option (((ClientV MV) × Unit) × (Unit)) :=
 (afi y0).bind fun r1 =>
 if y0.workers = y0.workers then
  some (((⟨r1.1.1.subs, y0.workers, 0, 1, MV.nil, true, 0, false⟩ : (ClientV MV)), ()), (()))
 else none
noncomputable abbrev agO : Con SR1 := ⟨62, [.val 13], [.sh (.own 30)], fun x => agP x.1⟩
theorem ag7 : CO Tryz.prog agO := aai aah Tryz.func62 [ain] ⟨akI, trivial⟩ [] trivial (fun _ => []) [] fun x => by kernel_rfl
noncomputable def adn (y0 : Int) : Option (((WorkerV MV) × Unit) × (Unit)) :=
 some (((⟨y0, 0, 0, MV.nil, 0, 0, 0⟩ : (WorkerV MV)), ()), (()))
noncomputable abbrev agy : Con SR1 := ⟨63, [.sh sI_], [.sh (.own 31)], fun x => adn x.1⟩
theorem agX : CO Tryz.prog agy := aai aah Tryz.func63 [] trivial [] trivial (fun _ => []) [] fun x => by kernel_rfl
noncomputable def abw (r : CodV) (k : Int) : Option ((Int × Unit) × (CodV × Unit)) :=
 if r.at_ < ((r.inn.length : Nat) : Int) then
  if 0 ≤ r.at_ ∧ r.at_ < ((r.inn.length : Nat) : Int) then
   if k ≠ 0 then
   some (((Int.tmod (wi (aiW r.inn r.at_)) k), ()), (({ r with at_ := wi (r.at_ + 1) } : CodV), ()))
   else none
  else none
 else
 some ((0, ()), (({ r with at_ := wi (r.at_ + 1) } : CodV), ()))
noncomputable abbrev aqi : Con SR1 := ⟨59, [.ref 19, .sh sI_], [.sh sI_], fun x => abw x.1 x.2.1⟩
theorem at0 : CO Tryz.prog aqi := aai aah Tryz.func59 [] trivial [] trivial (fun _ => []) [] fun x => by kernel_rfl
noncomputable def aod (b : List Int) : Option ((Cfg × Unit) × (Unit)) :=
 (abw (⟨b, [], 0, false⟩ : CodV) 4).bind fun r1 =>
 (abw r1.2.1 4).bind fun r2 =>
 (abw r2.2.1 (if wi (1 + r2.1.1) < 3 then wi (1 + r2.1.1) else 3)).bind fun r3 =>
 (abw r3.2.1 12).bind fun r4 =>
 (abw r4.2.1 4).bind fun r5 =>
 (abw r5.2.1 4).bind fun r6 =>
 (abw r6.2.1 (wi (1 + r5.1.1))).bind fun r7 =>
 (abw r7.2.1 6).bind fun r8 =>
 (abw r8.2.1 8).bind fun r9 =>
 (abw r9.2.1 4).bind fun r10 =>
 (lpF (σ := Int × CodV × Cfg × Unit) (β := Int × CodV × Cfg × Unit) (fun self13 x11 =>
  if x11.1 < (wi (1 + r10.1.1)) then
   (abw x11.2.1 6).bind fun r14 =>
   (lpF (σ := List Ins × Int × CodV × Unit) (β := List Ins × Int × CodV × Unit) (fun self17 x15 =>
   if 0 < x15.2.1 then
   (abw x15.2.2.1 3).bind fun r18 =>
   if r18.1.1 = 0 then
   (abw r18.2.1 4).bind fun r19 =>
   if (((x15.1.length + ([(⟨r18.1.1, wi (1 + r19.1.1), 0⟩ : Ins)] : List Ins).length : Nat)) : Int) < 1000000000000 then
   self17 (x15.1 ++ ([(⟨r18.1.1, wi (1 + r19.1.1), 0⟩ : Ins)]), wi (x15.2.1 - 1), r19.2.1, ())
   else none
   else
   if r18.1.1 = 1 then
   (abw r18.2.1 (wi (1 + r10.1.1))).bind fun r20 =>
   (abw r20.2.1 x11.2.2.1.levels).bind fun r21 =>
   if (((x15.1.length + ([(⟨r18.1.1, r20.1.1, r21.1.1⟩ : Ins)] : List Ins).length : Nat)) : Int) < 1000000000000 then
   self17 (x15.1 ++ ([(⟨r18.1.1, r20.1.1, r21.1.1⟩ : Ins)]), wi (x15.2.1 - 1), r21.2.1, ())
   else none
   else
   (abw r18.2.1 4).bind fun r22 =>
   if (((x15.1.length + ([(⟨r18.1.1, r22.1.1, 0⟩ : Ins)] : List Ins).length : Nat)) : Int) < 1000000000000 then
   self17 (x15.1 ++ ([(⟨r18.1.1, r22.1.1, 0⟩ : Ins)]), wi (x15.2.1 - 1), r22.2.1, ())
   else none
   else
   some (x15.1, x15.2.1, x15.2.2.1, ())
   ) 18446744073709551616 ([], r14.1.1, r14.2.1, ())).bind fun z16 =>
   if (((x11.2.2.1.progs.length + ([z16.1] : List (List Ins)).length : Nat)) : Int) < 100000000000 then
   self13 (wi (x11.1 + 1), z16.2.2.1, ({ x11.2.2.1 with progs := x11.2.2.1.progs ++ ([z16.1]) } : Cfg), ())
   else none
  else
  some (x11.1, x11.2.1, x11.2.2.1, ())
 ) 18446744073709551616 (0, r10.2.1, (⟨wi (1 + r1.1.1), wi (1 + r2.1.1), wi (1 + r3.1.1), wi (1 + r4.1.1), wi (1 + r5.1.1), wi (1 + r6.1.1), wi (1 + r7.1.1), r8.1.1, wi (1 + r9.1.1), [], []⟩ : Cfg), ())).bind fun z12 =>
 (abw z12.2.1 6).bind fun r23 =>
 (lpF (σ := Int × CodV × Cfg × Unit) (β := Int × CodV × Cfg × Unit) (fun self26 x24 =>
  if 0 < x24.1 then
   (abw x24.2.1 (wi (1 + r10.1.1))).bind fun r27 =>
   (abw r27.2.1 x24.2.2.1.levels).bind fun r28 =>
   (abw r28.2.1 16).bind fun r29 =>
   if (((x24.2.2.1.subs.length + ([(⟨r27.1.1, r28.1.1, r29.1.1⟩ : Sub)] : List Sub).length : Nat)) : Int) < 1000000000000 then
   self26 (wi (x24.1 - 1), r29.2.1, ({ x24.2.2.1 with subs := x24.2.2.1.subs ++ ([(⟨r27.1.1, r28.1.1, r29.1.1⟩ : Sub)]) } : Cfg), ())
   else none
  else
  some (x24.1, x24.2.1, x24.2.2.1, ())
 ) 18446744073709551616 (r23.1.1, r23.2.1, z12.2.2.1, ())).bind fun z25 =>
 some ((z25.2.2.1, ()), (()))
noncomputable abbrev aqj : Con SR1 := ⟨27, [.sh (.ro 17)], [.val 13], fun x => aod x.1⟩
theorem at1 : CO Tryz.prog aqj := aai aah Tryz.func27 [aqi] ⟨at0, trivial⟩ [] trivial (fun _ => []) [(12, .loop [.rg 6 sI_, .rg 3 (.own 19), .rg 4 (.own 20)] 18446744073709551616 0), (16, .loop [.rg 7 (.row 3), .rg 8 sI_, .rg 3 (.own 19)] 18446744073709551616 2), (29, .loop [.rg 10 sI_, .rg 3 (.own 19), .rg 4 (.own 20)] 18446744073709551616 5)] fun x => by kernel_rfl
noncomputable def afU (b : List Int) : Option ((Cfg × Unit) × (Unit)) :=
 (aod b).bind fun r1 =>
 some ((r1.1.1, ()), (()))
noncomputable abbrev ahG : Con SR1 := ⟨7, [.sh (.ro 17)], [.val 13], fun x => afU x.1⟩
theorem ahF : CO Tryz.prog ahG := aai aah Tryz.func7 [aqj] ⟨at1, trivial⟩ [] trivial (fun _ => []) [] fun x => by kernel_rfl
noncomputable def apq (b : List Int) (l : List (List Int)) : Option ((Bool × Unit) × (Unit)) :=
 (lpF (σ := Int × Unit) (β := (Int × Unit) ⊕ ((Bool × Unit) × (Unit))) (fun self3 x1 =>
  if x1.1 < ((l.length : Nat) : Int) then
   if 0 ≤ x1.1 ∧ x1.1 < ((l.length : Nat) : Int) then
   if 400 < (((atL [] l x1.1).length : Nat) : Int) then
   Option.map Sum.inr (
   some ((false, ()), (()))
   )
   else
   self3 (wi (x1.1 + 1), ())
   else none
  else
  some (Sum.inl (x1.1, ()))
 ) 18446744073709551616 (0, ())).bind fun z2 => match z2 with
 | .inr o4 => some o4
 | .inl z2 =>
 some ((decide (((b.length : Nat) : Int) ≤ 400), ()), (()))
noncomputable abbrev al4 : Con SR1 := ⟨6, [.sh (.ro 17), .sh (.rr 1)], [.sh .b], fun x => apq x.1 x.2.1⟩
theorem al3 : CO Tryz.prog al4 := aai aah Tryz.func6 [] trivial [] trivial (fun _ => []) [(2, .loopR [.rg 5 sI_] 18446744073709551616 0)] fun x => by kernel_rfl
noncomputable def aet (y0 : Cfg) : Option ((EnvP × Int × Unit) × (Unit)) :=
 (al0 y0).bind fun r1 =>
 if r1.1.2.1 ≠ 0 then
  none
 else
 (avy r1.1.1).bind fun r2 =>
 (ah8 r2.1.1).bind fun r3 =>
 (afi y0).bind fun r4 =>
 if r1.1.1.workers = r1.1.1.workers then
  if r1.1.1.levels = r1.1.1.levels then
   if r1.1.1.classes = r1.1.1.classes then
   if r1.1.1.tasks = r1.1.1.tasks then
   if r1.1.1.deque = r1.1.1.deque then
   if r1.1.1.heap = r1.1.1.heap then
   if r1.1.1.sleepers = r1.1.1.sleepers then
   if r1.1.1.epochs = r1.1.1.epochs then
   if r1.1.1.bitmaps = r1.1.1.bitmaps then
   if r1.1.1.queues = r1.1.1.queues then
   if r1.1.1.table = r1.1.1.table then
   if r1.1.1.workers = r1.1.1.workers then
   if r1.1.1.levels = r1.1.1.levels then
   if r1.1.1.classes = r1.1.1.classes then
   if r1.1.1.tasks = r1.1.1.tasks then
   if r1.1.1.deque = r1.1.1.deque then
   if r1.1.1.heap = r1.1.1.heap then
   if r1.1.1.sleepers = r1.1.1.sleepers then
   if r1.1.1.epochs = r1.1.1.epochs then
   if r1.1.1.bitmaps = r1.1.1.bitmaps then
   if r1.1.1.queues = r1.1.1.queues then
   if r1.1.1.table = r1.1.1.table then
   (lpF (σ := Int × EnvP × Unit) (β := Int × EnvP × Unit) (fun self7 x5 =>
   if x5.1 < y0.tasks then
   if (((x5.2.1.recs.length + ([(⟨0, (-1), 0, 0, (-1), [], false⟩ : RecP)] : List RecP).length : Nat)) : Int) < 100000000000 then
   self7 (wi (x5.1 + 1), ({ x5.2.1 with recs := x5.2.1.recs ++ ([(⟨0, (-1), 0, 0, (-1), [], false⟩ : RecP)]) } : EnvP), ())
   else none
   else
   some (x5.1, x5.2.1, ())
   ) 18446744073709551616 (0, ({ r3.1.1 with c := r4.1.1, l := r1.1.1 } : EnvP), ())).bind fun z6 =>
   some ((z6.2.1, 0, ()), (()))
   else none
   else none
   else none
   else none
   else none
   else none
   else none
   else none
   else none
   else none
   else none
   else none
   else none
   else none
   else none
   else none
   else none
   else none
   else none
   else none
  else none
 else none
noncomputable abbrev afE : Con SR1 := ⟨61, [.val 13], [.sh (.own 27), .sh sI_], fun x => aet x.1⟩
theorem agk : CO Tryz.prog afE := aai aah Tryz.func61 [app, avx, alQ, ain] ⟨ate, axS, ap6, akI, trivial⟩ [] trivial (fun _ => []) [(7, .loop [.rg 29 sI_, .rg 6 (.own 27)] 18446744073709551616 0)] fun x => by kernel_rfl
noncomputable def abM (y0 : MemV) : Option ((List Int × Unit) × (MemV × Unit)) :=
 (ame y0.cells).bind fun r1 =>
 some ((r1.1.1, ()), (({ y0 with cells := r1.2.1 } : MemV), ()))
noncomputable abbrev act : Con SR1 := ⟨38, [.ref 9], [.sh (.row 0)], fun x => abM x.1⟩
theorem acZ : CO Tryz.prog act := aai aah Tryz.func38 [aqD] ⟨auH, trivial⟩ [] trivial (fun _ => []) [] fun x => by kernel_rfl
noncomputable def abL (y0 : MemV) : Option ((Int × Unit) × (MemV × Unit)) :=
 some ((y0.count, ()), (y0, ()))
noncomputable abbrev acs : Con SR1 := ⟨84, [.ref 9], [.sh sI_], fun x => abL x.1⟩
theorem acY : CO Tryz.prog acs := aai aah Tryz.func84 [] trivial [] trivial (fun _ => []) [] fun x => by kernel_rfl
noncomputable def adc (y0 : EntV) (y1 : Int) : Option ((Int × Unit) × (Unit)) :=
 if y0.kind ≠ 0 then
  some (((-1), ()), (()))
 else
 if y1 < 1 then
  some (((-1), ()), (()))
 else
 if y1 ≠ 0 then
  if (Int.tmod y0.value y1) < 0 then
   some ((wi ((Int.tmod y0.value y1) + y1), ()), (()))
  else
  some (((Int.tmod y0.value y1), ()), (()))
 else none
noncomputable abbrev adG : Con SR1 := ⟨85, [.val 5, .sh sI_], [.sh sI_], fun x => adc x.1 x.2.1⟩
theorem aec : CO Tryz.prog adG := aai aah Tryz.func85 [] trivial [] trivial (fun _ => []) [] fun x => by kernel_rfl
noncomputable def ad8 (y0 : ClkV) : Option ((Unit) × (ClkV × Unit)) :=
 some ((()), ((⟨wi (y0.now + 1), y0.draw⟩ : ClkV), ()))
noncomputable abbrev adq : Con SR1 := ⟨86, [.ref 25], [], fun x => ad8 x.1⟩
theorem adT : CO Tryz.prog adq := aai aah Tryz.func86 [] trivial [] trivial (fun _ => []) [] fun x => by kernel_rfl
noncomputable def aeS (y0 : ClkV) (y1 : Int) : Option ((Unit) × (ClkV × Unit)) :=
 some ((()), ((⟨y0.now, y1⟩ : ClkV), ()))
noncomputable abbrev adP : Con SR1 := ⟨87, [.ref 25, .sh sI_], [], fun x => aeS x.1 x.2.1⟩
theorem aeg : CO Tryz.prog adP := aai aah Tryz.func87 [] trivial [] trivial (fun _ => []) [] fun x => by kernel_rfl
noncomputable def afT (y0 : MemV) : Option ((AccV × Unit) × (MemV × Unit)) :=
 some ((y0.last, ()), (y0, ()))
noncomputable abbrev acL : Con SR1 := ⟨88, [.ref 9], [.val 60], fun x => afT x.1⟩
theorem adj : CO Tryz.prog acL := aai aah Tryz.func88 [] trivial [] trivial (fun _ => []) [] fun x => by kernel_rfl
end
section
open Go Go.RowKit
set_option maxRecDepth 100000
end
section
open Go Go.RowKit
inductive Rs (σ : Type) where
  | go (s : σ)
  | fin (c v : Int)
inductive OPushS where
  | l1 | l2 (b : Int) | l3 (b : Int) | l4 (b : Int)
inductive OPopS where
  | l1 | l2 (b : Int) | l3 (b t : Int) | l4 (b t : Int) | l5 (b t : Int) | l6 (b t : Int) | l7 (b t : Int) | l8 (b t : Int) | l9 (b t : Int)
inductive StealS where
  | l1 | l2 (t : Int) | l3 (t : Int) | l4 (t v : Int)
inductive ResetS where
  | l1 | l2 | l3 (b : Int) | l4 (b : Int)
inductive PublishS where
  | l1 | l2 | l3
inductive InsertS where
  | l1 | l2 (n : Int) | l3 (n i k x : Int) | l4 (n i k x : Int) | l5 (n i k x : Int) | l6 (n i k x : Int)
inductive RemoveS where
  | l1 | l2 (n : Int) | l3 (n x : Int) | l4 (n x y : Int) | l5 (n i c x y z : Int) | l6 (n i c x y z : Int) | l7 (n i c x y z : Int) | l8 (n i c x y z : Int)
inductive WakeS where
  | l1 (j : Int) | l2 (j v : Int) | l3 (j v : Int)
inductive SleepS where
  | l1 | l2 (ep : Int) | l3 (ep : Int) | l4 (ep v : Int) | l5 (ep v s : Int) | l6 (ep v s : Int) | l7 (ep v s : Int)
inductive ProbeS where
  | new | run (start next : Int) (bm : B16)
inductive RaiseS where
  | l1 (q : Int) | l2 (q : Int)
inductive LPushS where
  | new | push (s : OPushS) | set
inductive LPopS where
  | l1 (v : Int) | l2 (v : Int) (s : OPopS) | l3 (v : Int) (s : ResetS)
inductive WalkS where
  | l1 (t : Int) | raise (t : Int) (s : RaiseS) | l2 (t : Int) | push (t : Int) (s : LPushS) | l4 (t : Int)
inductive EnterS where
  | l1 | l2 | l3 | l4 (v : Int) (s : LPushS)
inductive SweepS where
  | l1 | l2 | l3 | l4 (q : Int) | l5 (q : Int) | l6 (q : Int) (s : LPushS)
inductive TakeS where
  | pop (s : LPopS) | claim (t : Int)
inductive DrainC where
  | l1 | l2 | l3 (s : RemoveS) | l4 | l5 (s : LPushS) | l6 | l7 (s : WakeS)
structure DrainS where
  x : Int
  direct : Bool
  p : Int
  last : Int
  count : Int
  c : DrainC
inductive RunC where
  | next | s2 (s : PublishS) | s3 (s : LPushS) | s4 (s : WakeS) | s5 | j2 | j3 | j4 | j5 (s : WalkS) | j6 | j7 | f2 | f3 | f4 (s : EnterS) | f5 (v : Int) (s : WakeS) | f6
structure RunS where
  stack : List Int
  id : Int
  child : Int
  level : Int
  waiter : Int
  c : RunC
inductive WorkC where
  | top | t1 (t : Int) (s : SweepS) | t2 (s : TakeS) | t3 (s : DrainS) | t4 (s : ProbeS) | t5 (s : StealS) | t6 | t7 (s : RunS) | t8 (s : SleepS) | t9 (s : ResetS)
structure WorkS where
  cursor : Int
  victim : Int
  level : Int
  x : Int
  c : WorkC
inductive ClieC where
  | n1 | a1 | n2 | n3 | n4 | n5 | n6 | a6 (s : InsertS) | n7 | n8 | n9 | a9 (s : WakeS)
structure ClieS where
  i : Int
  id : Int
  acc : Bool
  c : ClieC
def MemV.gt (m : MemV) (a : Int) : Int := if 0 ≤ a ∧ a < (m.cells.length : Int) then afQ m.cells a else 0
def MemV.pt (m : MemV) (k a v : Int) : MemV := if 0 ≤ a ∧ a < (m.cells.length : Int) then ⟨m.cells.set a.toNat v, ⟨k, a, afQ m.cells a, v⟩, wi (m.count + 1)⟩ else m
def MemV.hit (m : MemV) (a o : Int) : Bool := decide ((0 ≤ a ∧ a < (m.cells.length : Int)) ∧ afQ m.cells a = o)
def MemV.cas (m : MemV) (a o v : Int) : MemV := m.pt 3 a (if m.gt a = o then v else m.gt a)
abbrev EnvP.gt (e : EnvP) (a : Int) : Int := e.m.gt a
def EnvP.pt (e : EnvP) (k a v : Int) : EnvP := { e with m := e.m.pt k a v }
def EnvP.lk (e : EnvP) (a : Int) : EnvP := { e with m := e.m.pt 1 a (e.m.gt a) }
abbrev EnvP.hit (e : EnvP) (a o : Int) : Bool := e.m.hit a o
def EnvP.cas (e : EnvP) (a o v : Int) : EnvP := { e with m := e.m.cas a o v }
def EnvP.em (e : EnvP) (k w t o l : Int) : EnvP := { e with evs := e.evs ++ [⟨k, w, t, o, l⟩] }
def EnvP.rc (e : EnvP) (t : Int) : RecP := aab e.recs t
def EnvP.pr (e : EnvP) (t : Int) (r : RecP) : EnvP := { e with recs := e.recs.set t.toNat r }
def IsT (e : EnvP) (t : Int) : Prop := 0 ≤ t ∧ t < e.c.tasks
instance (e : EnvP) (t : Int) : Decidable (IsT e t) := inferInstanceAs (Decidable (_ ∧ _))
def awZ (e : EnvP) (t v : Int) : Prop := (0 ≤ t ∧ t < e.c.tasks) ∧ 0 ≤ v ∧ v < e.c.levels
instance (e : EnvP) (t v : Int) : Decidable (awZ e t v) := inferInstanceAs (Decidable (_ ∧ _))
def szP (b t : Int) : Int := wi (wu (b - t))
def ahi (q : QV) (i : Int) : Int := if q.cap < 1 then -1 else wi (q.ring + wi (Int.tmod i (wu q.cap)))
def azw (n : Int) : Int := if n < 0 then 0 else if 63 < n then 0 else wu (1 * 2 ^ min (wu n).toNat IntKind.u64.bits)
def arw (a n : Int) : Int := if n < 1 then 0 else if Int.tmod a n < 0 then wi (Int.tmod a n + n) else Int.tmod a n
def atP (i n a w : Int) : Int := if i < 0 then -1 else if n ≤ i then -1 else wi (a + wi (i * w))
def aev (l : LayV) (t f : Int) : Int := atP t l.tasks (wi (l.table + f)) 5
def ac7 (l : LayV) (t : Int) : Int := aev l t 0
def aa7 (l : LayV) (t : Int) : Int := aev l t 1
def agU (l : LayV) (t : Int) : Int := aev l t 2
def af2 (l : LayV) (t : Int) : Int := aev l t 3
def ali (l : LayV) (t : Int) : Int := aev l t 4
def ae0 (l : LayV) (i : Int) : Int := atP i l.heap 4 1
def ag3 (l : LayV) (w : Int) : Int := atP w l.workers l.epochs 1
def ahq (l : LayV) (k : Int) : Int := atP k l.classes l.sleepers 1
def aaP (l : LayV) (w : Int) : Int := atP w l.workers l.bitmaps 1
def aaB (l : LayV) (w v : Int) : QV :=
  if atP w l.workers l.queues (wi (l.levels * wi (2 + l.deque))) < 0 then ⟨-1, -1, -1, 0⟩
  else if atP v l.levels (atP w l.workers l.queues (wi (l.levels * wi (2 + l.deque)))) (wi (2 + l.deque)) < 0 then ⟨-1, -1, -1, 0⟩
  else ⟨atP v l.levels (atP w l.workers l.queues (wi (l.levels * wi (2 + l.deque)))) (wi (2 + l.deque)), wi (atP v l.levels (atP w l.workers l.queues (wi (l.levels * wi (2 + l.deque)))) (wi (2 + l.deque)) + 1), wi (atP v l.levels (atP w l.workers l.queues (wi (l.levels * wi (2 + l.deque)))) (wi (2 + l.deque)) + 2), l.deque⟩
def ao6 (d a t : Int) : Int × Bool :=
  if d < 0 then (0, false) else if 16777215 < d then (0, false) else if a < 0 then (0, false) else if 16777215 < a then (0, false) else if t < 0 then (0, false) else if 65535 < t then (0, false)
  else (orU (orU (wu ((wu (d)) * 2 ^ min (40 : Int).toNat IntKind.u64.bits)) (wu ((wu (a)) * 2 ^ min (16 : Int).toNat IntKind.u64.bits))) (wu (t)), true)
def ayS (l n c : Int) : Int := if n < 1 then 0 else if 64 < n then 0 else if c < 1 then 0 else if 8 < c then 0 else if l < 0 then 0 else if n ≤ l then 0 else wi (Int.tdiv (wi (l * c)) n)
def atf (k : Int) : Int := wi (aot k 65535)
noncomputable def arE (x : Int) : Int := match agT x with
  | some o => o.1.1
  | none => 0
def auA (k : ClkV) (n : Int) : Int := arw k.draw n
def agJ (q : QV) (v : Int) (e : EnvP) : OPushS → Rs OPushS × EnvP
  | .l1 => (.go (.l2 (e.gt q.bottom)), e.lk q.bottom)
  | .l2 b => (if q.cap ≤ szP b (e.gt q.top) then .fin 3 0 else .go (.l3 b), e.lk q.top)
  | .l3 b => (.go (.l4 b), e.pt 2 (ahi q b) (wu v))
  | .l4 b => (.fin 0 0, e.pt 2 q.bottom (wu (b + 1)))
def ap3 (q : QV) (e : EnvP) : OPopS → Rs OPopS × EnvP
  | .l1 => (.go (.l2 (e.gt q.bottom)), e.lk q.bottom)
  | .l2 b => (if szP b (e.gt q.top) ≤ 0 then .fin 2 0 else .go (.l3 b (e.gt q.top)), e.lk q.top)
  | .l3 b t => (.go (.l4 b t), e.pt 2 q.bottom (wu (b - 1)))
  | .l4 b _ => (if 0 < szP (wu (b - 1)) (e.gt q.top) then .go (.l5 b (e.gt q.top)) else if szP (wu (b - 1)) (e.gt q.top) = 0 then .go (.l6 b (e.gt q.top)) else .go (.l9 b (e.gt q.top)), e.lk q.top)
  | .l5 b _ => (.fin 1 (wi (e.gt (ahi q (wu (b - 1))))), e.lk (ahi q (wu (b - 1))))
  | .l6 b t => (if e.hit q.top t = true then .go (.l7 b t) else .go (.l9 b t), e.cas q.top t (wu (t + 1)))
  | .l7 b t => (.go (.l8 b t), e.pt 2 q.bottom b)
  | .l8 b _ => (.fin 1 (wi (e.gt (ahi q (wu (b - 1))))), e.lk (ahi q (wu (b - 1))))
  | .l9 b _ => (.fin 2 0, e.pt 2 q.bottom b)
def akw (q : QV) (e : EnvP) : StealS → Rs StealS × EnvP
  | .l1 => (.go (.l2 (e.gt q.top)), e.lk q.top)
  | .l2 t => (if szP (e.gt q.bottom) t ≤ 0 then .fin 2 0 else .go (.l3 t), e.lk q.bottom)
  | .l3 t => (.go (.l4 t (e.gt (ahi q t))), e.lk (ahi q t))
  | .l4 t v => (if e.hit q.top t = true then .fin 1 (wi v) else .fin 4 0, e.cas q.top t (wu (t + 1)))
def ahB (a b : Int) (q : QV) (e : EnvP) : ResetS → Rs ResetS × EnvP
  | .l1 => (.go .l2, e.pt 5 a (aot (e.gt a) (aA5 (azw b))))
  | .l2 => (.go (.l3 (e.gt q.bottom)), e.lk q.bottom)
  | .l3 x => (if szP x (e.gt q.top) ≤ 0 then .fin 2 0 else .go (.l4 x), e.lk q.top)
  | .l4 _ => (.fin 1 0, e.pt 4 a (orU (e.gt a) (azw b)))
def aEr (a b : Int) (e : EnvP) : EnvP := e.pt 4 a (orU (e.gt a) (azw b))
def aga (e : EnvP) : EnvP := e.pt 6 0 (wu (e.gt 0 + 1))
def agd (t v : Int) (e : EnvP) (s : PublishS) : Rs PublishS × EnvP :=
  if ¬ IsT e t then (.fin 4 0, e)
  else match s with
    | .l1 => (.go .l2, e.pt 2 (aa7 e.l t) (wu v))
    | .l2 => (.go .l3, e.pt 2 (ali e.l t) (wu e.k.now))
    | .l3 => (.fin 0 0, e.pt 2 (ac7 e.l t) 1)
def ahO (t : Int) (e : EnvP) : Bool := e.hit (ac7 e.l t) 1
def ajE (w t : Int) (e : EnvP) : EnvP :=
  if ahO t e = true then
    if (e.rc t).started = true then (e.cas (ac7 e.l t) 1 2).em 9 w t 0 0 else ((e.cas (ac7 e.l t) 1 2).pr t { e.rc t with started := true }).em 5 w t 0 0
  else (e.cas (ac7 e.l t) 1 2).em 15 w t 0 0
def awy (o : Int) (e : EnvP) : EnvP := e.cas 1 0 (wu (wi (o + 1)))
def aux (e : EnvP) : EnvP := e.pt 2 1 0
def asU (n i k x : Int) : InsertS := if 0 < i then .l3 n i k x else .l5 n i k x
abbrev upP (i : Int) : Int := wi (Int.tdiv (wi (i - 1)) 2)
def adL (d t : Int) (e : EnvP) : InsertS → Rs InsertS × EnvP
  | .l1 => (if e.c.heap ≤ wi (e.gt 2) then .fin 3 0 else .go (.l2 (wi (e.gt 2))), e.lk 2)
  | .l2 n => (if (ao6 d (wi (e.gt 3)) t).2 = true then .go (asU n n (ao6 d (wi (e.gt 3)) t).1 0) else .fin 4 0, e.pt 6 3 (wu (e.gt 3 + 1)))
  | .l3 n i k _ => (if k < e.gt (ae0 e.l (upP i)) then .go (.l4 n i k (e.gt (ae0 e.l (upP i)))) else .go (.l5 n i k (e.gt (ae0 e.l (upP i)))), e.lk (ae0 e.l (upP i)))
  | .l4 n i k x => (.go (asU n (upP i) k x), e.pt 2 (ae0 e.l i) x)
  | .l5 n i k x => (.go (.l6 n i k x), e.pt 2 (ae0 e.l i) k)
  | .l6 n _ _ _ => (.fin 0 0, e.pt 2 2 (wu (wi (n + 1))))
def atx (n i c x y z : Int) : RemoveS := if wi (wi (2 * i) + 1) < wi (n - 1) then .l5 n i c x y z else .l8 n i c x y z
def awE (n i c x y z : Int) : RemoveS := if z < y then .l7 n i c x y z else .l8 n i c x y z
def adV (w : Int) (e : EnvP) : RemoveS → Rs RemoveS × EnvP
  | .l1 => (if wi (e.gt 2) ≤ 0 then .fin 2 0 else .go (.l2 (wi (e.gt 2))), e.lk 2)
  | .l2 n => (.go (.l3 n (e.gt (ae0 e.l 0))), e.lk (ae0 e.l 0))
  | .l3 n x => (.go (.l4 n x (e.gt (ae0 e.l (wi (n - 1))))), e.lk (ae0 e.l (wi (n - 1))))
  | .l4 n x y => (if n = 1 then .fin 1 (atf x) else .go (atx n 0 0 x y 0), (e.pt 2 2 (wu (wi (n - 1)))).em 13 w (atf x) 0 0)
  | .l5 n i _ x y _ => (if wi (wi (wi (2 * i) + 1) + 1) < wi (n - 1) then .go (.l6 n i (wi (wi (2 * i) + 1)) x y (e.gt (ae0 e.l (wi (wi (2 * i) + 1))))) else .go (awE n i (wi (wi (2 * i) + 1)) x y (e.gt (ae0 e.l (wi (wi (2 * i) + 1))))), e.lk (ae0 e.l (wi (wi (2 * i) + 1))))
  | .l6 n i c x y z => (if e.gt (ae0 e.l (wi (wi (2 * i) + 2))) < z then .go (awE n i (wi (wi (2 * i) + 2)) x y (e.gt (ae0 e.l (wi (wi (2 * i) + 2))))) else .go (awE n i c x y z), e.lk (ae0 e.l (wi (wi (2 * i) + 2))))
  | .l7 n i c x y z => (.go (atx n c c x y z), e.pt 2 (ae0 e.l i) z)
  | .l8 _ i _ x y _ => (.fin 1 (atf x), e.pt 2 (ae0 e.l i) y)
def aiC (w : Int) (e : EnvP) : Int := if e.c.classes < 1 then -1 else ahq e.l (arw w e.c.classes)
def aiB (w : Int) (e : EnvP) : SleepS → Rs SleepS × EnvP
  | .l1 => (.go (.l2 (e.gt (ag3 e.l w))), e.lk (ag3 e.l w))
  | .l2 ep => (.go (.l3 ep), e.pt 4 (aiC w e) (orU (e.gt (aiC w e)) (azw w)))
  | .l3 ep => (if e.gt 2 ≠ 0 then .go (.l7 ep 0 0) else .go (.l4 ep 0), e.lk 2)
  | .l4 ep v =>
    if e.gt (aaP e.l v) ≠ 0 then (.go (.l7 ep v 0), e.lk (aaP e.l v))
    else if e.c.workers ≤ wi (v + 1) then (.go (.l5 ep (wi (v + 1)) e.k.now), (e.lk (aaP e.l v)).em 16 w 0 0 0)
    else (.go (.l4 ep (wi (v + 1))), e.lk (aaP e.l v))
  | .l5 ep v s =>
    if e.gt (ag3 e.l w) ≠ ep then (.go (.l6 ep v s), (e.lk (ag3 e.l w)).em 17 w 0 1 0)
    else if e.c.patience ≤ wi (e.k.now - s) then (.go (.l6 ep v s), (e.lk (ag3 e.l w)).em 17 w 0 2 0)
    else (.go (.l5 ep v s), e.lk (ag3 e.l w))
  | .l6 _ _ _ => (.fin 1 0, e.pt 5 (aiC w e) (aot (e.gt (aiC w e)) (aA5 (azw w))))
  | .l7 _ _ _ => (.fin 5 0, e.pt 5 (aiC w e) (aot (e.gt (aiC w e)) (aA5 (azw w))))
def anE (v j : Int) (e : EnvP) : Int := if e.c.classes < 1 then -1 else ahq e.l (arw (wi (ayS v e.c.levels e.c.classes + j)) e.c.classes)
noncomputable def aGx [Tb] (x : Int) : Int := if x = 0 then -1 else tzV x
noncomputable def afy [Tb] (w v : Int) (e : EnvP) : WakeS → Rs WakeS × EnvP
  | .l1 j => (if e.gt (anE v j e) ≠ 0 then .go (.l2 j (aGx (e.gt (anE v j e)))) else if e.c.classes ≤ wi (j + 1) then .fin 2 0 else .go (.l1 (wi (j + 1))), e.lk (anE v j e))
  | .l2 j x => (if aot (e.gt (anE v j e)) (azw x) = 0 then .fin 4 0 else .go (.l3 j x), e.pt 5 (anE v j e) (aot (e.gt (anE v j e)) (aA5 (azw x))))
  | .l3 _ x => (.fin 1 x, (e.pt 6 (ag3 e.l x) (wu (e.gt (ag3 e.l x) + 1))).em 18 w 0 x 0)
def afA (w t v : Int) (e : EnvP) (s : RaiseS) : Rs RaiseS × EnvP :=
  if ¬ awZ e t v then (.fin 4 0, e)
  else match s with
    | .l1 _ => (if v ≤ wi (e.gt (aa7 e.l t)) then .fin 0 0 else .go (.l2 (e.gt (aa7 e.l t))), e.lk (aa7 e.l t))
    | .l2 q => if e.hit (aa7 e.l t) q = true then (.fin 1 0, (e.cas (aa7 e.l t) q (wu v)).em 11 w t 0 v) else (.go (.l1 q), e.cas (aa7 e.l t) q (wu v))
def B16.at (b : B16) (i : Int) : Int :=
  if i = 15 then b.b15 else if i = 14 then b.b14 else if i = 13 then b.b13 else if i = 12 then b.b12 else if i = 11 then b.b11 else if i = 10 then b.b10 else if i = 9 then b.b9 else if i = 8 then b.b8
  else if i = 7 then b.b7 else if i = 6 then b.b6 else if i = 5 then b.b5 else if i = 4 then b.b4 else if i = 3 then b.b3 else if i = 2 then b.b2 else if i = 1 then b.b1 else b.b0
def B16.put (b : B16) (i v : Int) : B16 :=
  if i = 15 then { b with b15 := v } else if i = 14 then { b with b14 := v } else if i = 13 then { b with b13 := v } else if i = 12 then { b with b12 := v } else if i = 11 then { b with b11 := v } else if i = 10 then { b with b10 := v }
  else if i = 9 then { b with b9 := v } else if i = 8 then { b with b8 := v } else if i = 7 then { b with b7 := v } else if i = 6 then { b with b6 := v } else if i = 5 then { b with b5 := v } else if i = 4 then { b with b4 := v }
  else if i = 3 then { b with b3 := v } else if i = 2 then { b with b2 := v } else if i = 1 then { b with b1 := v } else { b with b0 := v }
def aF8 : B16 := ⟨0, 0, 0, 0, 0, 0, 0, 0, 0, 0, 0, 0, 0, 0, 0, 0⟩
def abO (e : EnvP) : Int := if 16 < e.c.workers then 16 else e.c.workers
def amO (w n s i : Int) : Int := if i < n ∧ Int.tmod (wi (s + i)) n = w then wi (i + 1) else i
noncomputable def awr (w n s : Int) (bm : B16) : Nat → Int → Int × Int → Int × Int
  | 0, _, r => r
  | k + 1, i, r => awr w n s bm k (i + 1) (if Int.tmod (wi (s + i)) n ≠ w ∧ r.2 < arE (bm.at (Int.tmod (wi (s + i)) n)) then (Int.tmod (wi (s + i)) n, arE (bm.at (Int.tmod (wi (s + i)) n))) else r)
noncomputable def apM (w n s : Int) (bm : B16) : Int × Int := awr w n (arw s n) bm n.toNat 0 (-1, -1)
noncomputable def akA (w : Int) (e : EnvP) (s i : Int) (bm : B16) : Rs ProbeS × EnvP :=
  if abO e ≤ amO w (abO e) s i then (.fin 2 0, e)
  else
    let v := Int.tmod (wi (s + amO w (abO e) s i)) (abO e)
    let bm' := bm.put v (e.gt (aaP e.l v))
    let i' := amO w (abO e) s (wi (amO w (abO e) s i + 1))
    if abO e ≤ i' then
      (if (apM w (abO e) s bm').1 < 0 then .fin 2 0 else .fin 1 (wi (wi ((apM w (abO e) s bm').1 * 64) + (apM w (abO e) s bm').2)), e.lk (aaP e.l v))
    else (.go (.run s i' bm'), e.lk (aaP e.l v))
noncomputable def anp (w : Int) (e : EnvP) : ProbeS → Rs ProbeS × EnvP
  | .new => akA w e (auA e.k (abO e)) 0 aF8
  | .run s i bm => akA w e s i bm
def acM (w v x : Int) (e : EnvP) : LPushS → Rs LPushS × EnvP
  | .new => match agJ (aaB e.l w v) x e .l1 with
    | (.go s, e') => (.go (.push s), e')
    | (.fin c _, e') => (if c = 3 then .fin 3 0 else .go .set, e')
  | .push s => match agJ (aaB e.l w v) x e s with
    | (.go s, e') => (.go (.push s), e')
    | (.fin c _, e') => (if c = 3 then .fin 3 0 else .go .set, e')
  | .set => (.fin 0 0, aEr (aaP e.l w) v e)
noncomputable def ako (w : Int) (e : EnvP) : LPopS → Rs LPopS × EnvP
  | .l1 _ => (if e.gt (aaP e.l w) = 0 then .fin 2 0 else .go (.l2 (arE (e.gt (aaP e.l w))) .l1), e.lk (aaP e.l w))
  | .l2 v s => match ap3 (aaB e.l w v) e s with
    | (.go s, e') => (.go (.l2 v s), e')
    | (.fin c x, e') => (if c = 1 then .fin 1 x else .go (.l3 v .l1), e')
  | .l3 v s => match ahB (aaP e.l w) v (aaB e.l w v) e s with
    | (.go s, e') => (.go (.l3 v s), e')
    | (.fin _ _, e') => (.go (.l1 v), e')
def aha (w v : Int) (e : EnvP) : WalkS → Rs WalkS × EnvP
  | .l1 t => if ¬ awZ e t v then (.fin 4 0, e) else match afA w t v e (.l1 0) with
    | (.go s, e') => (.go (.raise t s), e')
    | (.fin c _, e') => (.go (if c = 1 then .l2 t else .l4 t), e')
  | .raise t s => match afA w t v e s with
    | (.go s, e') => (.go (.raise t s), e')
    | (.fin c _, e') => (.go (if c = 1 then .l2 t else .l4 t), e')
  | .l2 t => (.go (if e.gt (ac7 e.l t) = 1 then .push t .new else .l4 t), e.lk (ac7 e.l t))
  | .push t s => match acM w v t e s with
    | (.go s, e') => (.go (.push t s), e')
    | (.fin c _, e') => (.go (.l4 t), if c = 3 then e'.em 19 w t 0 v else e')
  | .l4 t => (if e.gt (af2 e.l t) = 0 then .fin 0 0 else .go (.l1 (wi (wu (e.gt (af2 e.l t) - 1)))), e.lk (af2 e.l t))
def aeQ (w t : Int) (e : EnvP) : EnterS → Rs EnterS × EnvP
  | .l1 => if ¬ IsT e t then (.fin 4 0, e) else (.go .l2, e.pt 2 (ali e.l t) (wu e.k.now))
  | .l2 => (.go .l3, e.pt 2 (ac7 e.l t) 1)
  | .l3 => (.go (.l4 (wi (e.gt (aa7 e.l t))) .new), e.lk (aa7 e.l t))
  | .l4 v s => match acM w v t e s with
    | (.go s, e') => (.go (.l4 v s), e')
    | (.fin c _, e') => (.fin c v, e')
def abZ (w t : Int) (e : EnvP) : SweepS → Rs SweepS × EnvP
  | .l1 => if ¬ IsT e t ∨ e.c.age = 0 then (.fin 0 0, e) else (if e.gt (ac7 e.l t) = 1 then .go .l2 else .fin 0 0, e.lk (ac7 e.l t))
  | .l2 => (if wi (e.k.now - wi (e.gt (ali e.l t))) < e.c.age then .fin 0 0 else .go .l3, e.lk (ali e.l t))
  | .l3 => (if wi (e.c.levels - 1) ≤ wi (e.gt (aa7 e.l t)) then .fin 0 0 else .go (.l4 (e.gt (aa7 e.l t))), e.lk (aa7 e.l t))
  | .l4 q => if e.hit (aa7 e.l t) q = true then (.go (.l5 q), (e.cas (aa7 e.l t) q (wu (q + 1))).em 12 w t 0 (wi (wi q + 1))) else (.fin 4 0, e.cas (aa7 e.l t) q (wu (q + 1)))
  | .l5 q => (.go (.l6 q .new), e.pt 2 (ali e.l t) (wu e.k.now))
  | .l6 q s => match acM w (wi (wi q + 1)) t e s with
    | (.go s, e') => (.go (.l6 q s), e')
    | (.fin c _, e') => (.fin 1 0, if c = 3 then e'.em 19 w t 0 (wi (wi q + 1)) else e')
noncomputable def anG (w : Int) (e : EnvP) : TakeS → Rs TakeS × EnvP
  | .pop s => match ako w e s with
    | (.go s, e') => (.go (.pop s), e')
    | (.fin c x, e') => (if c = 2 then .fin 2 0 else .go (.claim x), e')
  | .claim t => (if ahO t e = true then .fin 1 t else .go (.pop (.l1 0)), ajE w t e)
def anx (s : DrainS) : Rs DrainS := if s.direct = true then .fin 1 s.x else if 0 < s.count then .fin 0 s.count else .fin 2 0
noncomputable def aci [Tb] (w : Int) (e : EnvP) (d : DrainS) : Rs DrainS × EnvP :=
  match d.c with
  | .l1 => (if wi (e.gt 2) ≤ 0 then .fin 2 0 else .go { d with c := .l2 }, e.lk 2)
  | .l2 => (if e.hit 1 0 = true then .go { d with c := .l3 .l1 } else .fin 5 0, awy w e)
  | .l3 s => match adV w e s with
    | (.go s, e') => (.go { d with c := .l3 s }, e')
    | (.fin c x, e') => (if c = 2 then .go { d with c := .l6 } else .go { d with x := x, c := .l4 }, e')
  | .l4 => (.go { d with p := wi (e.gt (aa7 e.l d.x)), c := .l5 .new }, e.lk (aa7 e.l d.x))
  | .l5 s => match acM w d.p d.x e s with
    | (.go s, e') => (.go { d with c := .l5 s }, e')
    | (.fin c _, e') => (if c = 3 then .go { d with direct := true, c := .l6 } else if wi (d.count + 1) < e.c.batch then .go { d with last := d.p, count := wi (d.count + 1), c := .l3 .l1 } else .go { d with last := d.p, count := wi (d.count + 1), c := .l6 }, e')
  | .l6 => (if 0 < d.count then .go { d with c := .l7 (.l1 0) } else anx d, aux e)
  | .l7 s => match afy w d.last e s with
    | (.go s, e') => (.go { d with c := .l7 s }, e')
    | (.fin _ _, e') => (anx d, e')
def aaJ (l : List Int) : Int := l.getLast?.getD 0
def aiH (r : RunS) (e : EnvP) : Rs RunS × EnvP := (if r.stack.length = 1 then .fin 0 0 else .go { r with stack := r.stack.dropLast, c := .next }, e)
def awJ (x : RecP) (i : Ins) : RecP :=
  if wi ((if x.left = 0 then i.a else x.left) - 1) = 0 then { x with left := wi ((if x.left = 0 then i.a else x.left) - 1), pc := wi (x.pc + 1) } else { x with left := wi ((if x.left = 0 then i.a else x.left) - 1) }
def EnvP.prog (e : EnvP) (x : RecP) : List Ins := if x.prog < 0 ∨ (e.c.progs.length : Int) ≤ x.prog then [] else atL [] e.c.progs x.prog
def aGs (p t : Int) : RecP := ⟨p, t, 0, 0, -1, [], false⟩
def awv (w : Int) (e : EnvP) (r : RunS) (t : Int) (x : RecP) (p : List Ins) : Rs RunS × EnvP :=
  if x.waiting ≠ -1 then (.go r, (e.pt 2 (af2 e.l t) 0).pr t { x with waiting := -1 })
  else if x.pc < 0 ∨ (p.length : Int) ≤ x.pc then (.go { r with c := .f2 }, e.pt 2 (ac7 e.l t) 4)
  else if (ab9 p x.pc).op = 0 then (.go r, e.pr t (awJ x (ab9 p x.pc)))
  else if (ab9 p x.pc).op = 1 then
    if IsT e (wi (e.gt 0)) then (.go { r with id := wi (e.gt 0), level := (ab9 p x.pc).b, c := .s2 .l1 }, ((aga e).pr t { x with pc := wi (x.pc + 1), kids := x.kids ++ [wi (e.gt 0)] }).pr (wi (e.gt 0)) (aGs (ab9 p x.pc).a t))
    else (.go r, ((aga e).pr t { x with pc := wi (x.pc + 1), kids := x.kids ++ [-1] }).em 4 w t 0 0)
  else if (ab9 p x.pc).a < 0 ∨ (x.kids.length : Int) ≤ (ab9 p x.pc).a ∨ afP x.kids (ab9 p x.pc).a = -1 then (.go r, e.pr t { x with pc := wi (x.pc + 1) })
  else (.go { r with child := afP x.kids (ab9 p x.pc).a, c := .j2 }, (e.pt 2 (af2 e.l t) (wu (wi (afP x.kids (ab9 p x.pc).a + 1)))).pr t { x with pc := wi (x.pc + 1), waiting := afP x.kids (ab9 p x.pc).a })
noncomputable def ah3 [Tb] (w : Int) (e : EnvP) (r : RunS) (t : Int) : Rs RunS × EnvP :=
  match r.c with
  | .next => awv w e r t (e.rc t) (e.prog (e.rc t))
  | .s2 s => match agd r.id r.level e s with
    | (.go s, e') => (.go { r with c := .s2 s }, e')
    | (.fin _ _, e') => (.go { r with c := .s3 .new }, e'.em 3 w r.id t r.level)
  | .s3 s => match acM w r.level r.id e s with
    | (.go s, e') => (.go { r with c := .s3 s }, e')
    | (.fin c _, e') => (.go { r with c := if c = 3 then .s5 else .s4 (.l1 0) }, e')
  | .s4 s => match afy w r.level e s with
    | (.go s, e') => (.go { r with c := .s4 s }, e')
    | (.fin _ _, e') => (.go { r with c := .next }, e')
  | .s5 => (.go (if ahO r.id e = true then { r with stack := r.stack ++ [r.id], c := .next } else { r with c := .next }), ajE w r.id e)
  | .j2 => (.go { r with c := .j3 }, e.pt 2 (ac7 e.l t) 3)
  | .j3 => if e.hit (agU e.l r.child) 0 = true then (.go { r with c := .j4 }, (e.cas (agU e.l r.child) 0 (wu (wi (t + 1)))).em 6 w t r.child 0) else (.go { r with c := .j6 }, e.cas (agU e.l r.child) 0 (wu (wi (t + 1))))
  | .j4 => (.go { r with level := wi (e.gt (aa7 e.l t)), c := .j5 (.l1 r.child) }, e.lk (aa7 e.l t))
  | .j5 s => match aha w r.level e s with
    | (.go s, e') => (.go { r with c := .j5 s }, e')
    | (.fin _ _, e') => aiH r (e'.em 7 w t 0 r.level)
  | .j6 => (.go { r with c := .j7 }, e.pt 2 (ac7 e.l t) 2)
  | .j7 => (.go { r with c := .next }, ((e.pt 2 (af2 e.l t) 0).pr t { e.rc t with waiting := -1 }).em 8 w t r.child 0)
  | .f2 => if e.hit (agU e.l t) 0 = true then aiH r ((e.cas (agU e.l t) 0 4294967296).em 10 w t 0 0) else (.go { r with c := .f3 }, (e.cas (agU e.l t) 0 4294967296).em 10 w t 0 0)
  | .f3 => if IsT e (wi (wi (e.gt (agU e.l t)) - 1)) then (.go { r with waiter := wi (wi (e.gt (agU e.l t)) - 1), c := .f4 .l1 }, e.lk (agU e.l t)) else aiH { r with waiter := wi (wi (e.gt (agU e.l t)) - 1) } (e.lk (agU e.l t))
  | .f4 s => match aeQ w r.waiter e s with
    | (.go s, e') => (.go { r with c := .f4 s }, e')
    | (.fin c v, e') => (.go { r with c := if c = 3 then .f6 else .f5 v (.l1 0) }, e')
  | .f5 v s => match afy w v e s with
    | (.go s, e') => (.go { r with c := .f5 v s }, e')
    | (.fin _ _, e') => aiH r e'
  | .f6 => if ahO r.waiter e = true then (.go { r with stack := r.stack.dropLast ++ [r.waiter], c := .next }, ajE w r.waiter e) else aiH r (ajE w r.waiter e)
noncomputable def awT [Tb] (w : Int) (e : EnvP) (r : RunS) : Rs RunS × EnvP := if ¬ IsT e (aaJ r.stack) then (.fin 4 0, e) else ah3 w e r (aaJ r.stack)
def aEB (t : Int) : RunS := ⟨[t], 0, 0, 0, 0, .next⟩
def aBL : DrainS := ⟨0, false, 0, 0, 0, .l1⟩
def azH : TakeS := .pop (.l1 0)
def aca (w : Int) (e : EnvP) (k : WorkS) : WorkC := match k.c with
  | .top => if e.c.age = 0 then .t2 azH else .t1 (arw (wi (arw w e.c.tasks + k.cursor)) e.c.tasks) .l1
  | c => c
def aAF (e : EnvP) : WorkC := if e.c.workers = 1 then .t8 .l1 else .t4 .new
noncomputable def acU [Tb] (w : Int) (e : EnvP) (k : WorkS) : WorkS × EnvP :=
  match aca w e k with
  | .top => (k, e)
  | .t1 t s => match abZ w t e s with
    | (.go s, e') => ({ k with c := .t1 t s }, e')
    | (.fin _ _, e') => ({ k with cursor := wi (k.cursor + 1), c := .t2 azH }, e')
  | .t2 s => match anG w e s with
    | (.go s, e') => ({ k with c := .t2 s }, e')
    | (.fin c x, e') => (if c = 1 then { k with x := x, c := .t7 (aEB x) } else { k with c := .t3 aBL }, e')
  | .t3 s => match aci w e s with
    | (.go s, e') => ({ k with c := .t3 s }, e')
    | (.fin c x, e') => (if c = 1 then { k with x := x, c := .t6 } else if c = 0 then { k with c := .t2 azH } else { k with c := aAF e' }, e')
  | .t4 s => match anp w e s with
    | (.go s, e') => ({ k with c := .t4 s }, e')
    | (.fin c x, e') => (if c = 2 then { k with c := .t8 .l1 } else { k with victim := wi (Int.tdiv x 64), level := Int.tmod x 64, c := .t5 .l1 }, e')
  | .t5 s => match akw (aaB e.l k.victim k.level) e s with
    | (.go s, e') => ({ k with c := .t5 s }, e')
    | (.fin c x, e') => if c = 1 then ({ k with x := x, c := .t6 }, e'.em 14 w x k.victim k.level) else if c = 2 then ({ k with c := .t9 .l1 }, e') else ({ k with c := .top }, e')
  | .t6 => (if ahO k.x e = true then { k with c := .t7 (aEB k.x) } else { k with c := .top }, ajE w k.x e)
  | .t7 s => match awT w e s with
    | (.go s, e') => ({ k with c := .t7 s }, e')
    | (.fin _ _, e') => ({ k with c := .top }, e')
  | .t8 s => match aiB w e s with
    | (.go s, e') => ({ k with c := .t8 s }, e')
    | (.fin _ _, e') => ({ k with c := .top }, e')
  | .t9 s => match ahB (aaP e.l k.victim) k.level (aaB e.l k.victim k.level) e s with
    | (.go s, e') => ({ k with c := .t9 s }, e')
    | (.fin _ _, e') => ({ k with c := .top }, e')
def ayQ (subs : List Sub) (k : ClieS) (e : EnvP) : Bool × ClieS × EnvP := (decide ((subs.length : Int) ≤ wi (k.i + 1)), { k with i := wi (k.i + 1), acc := false, c := .n1 }, e)
noncomputable def ad4 [Tb] (subs : List Sub) (me : Int) (e : EnvP) (k : ClieS) (s : Sub) : Bool × ClieS × EnvP :=
  match k.c with
  | .n1 => (false, { k with c := if e.hit 1 0 = true then .n2 else .a1 }, awy me e)
  | .a1 => (false, { k with c := if e.hit 1 0 = true then .n2 else .a1 }, awy me e)
  | .n2 => if e.c.heap ≤ wi (e.gt 2) then (false, { k with c := .n8 }, (e.lk 2).em 2 me 0 k.i 1) else (false, { k with c := .n3 }, e.lk 2)
  | .n3 => if IsT e (wi (e.gt 0)) then (false, { k with id := wi (e.gt 0), c := .n4 }, (aga e).pr (wi (e.gt 0)) (aGs s.prog (-1))) else (false, { k with c := .n8 }, (aga e).em 2 me 0 k.i 2)
  | .n4 => (false, { k with c := .n5 }, e.pt 2 (aa7 e.l k.id) (wu s.level))
  | .n5 => (false, { k with c := .n6 }, e.pt 2 (ali e.l k.id) (wu e.k.now))
  | .n6 => match adL s.deadline k.id e .l1 with
    | (.go t, e') => (false, { k with c := .a6 t }, e')
    | (.fin c _, e') => if c = 0 then (false, { k with acc := true, c := .n7 }, e'.em 1 me k.id k.i s.level) else (false, { k with c := .n8 }, e')
  | .a6 t => match adL s.deadline k.id e t with
    | (.go t, e') => (false, { k with c := .a6 t }, e')
    | (.fin c _, e') => if c = 0 then (false, { k with acc := true, c := .n7 }, e'.em 1 me k.id k.i s.level) else (false, { k with c := .n8 }, e')
  | .n7 => (false, { k with c := .n8 }, e.pt 2 (ac7 e.l k.id) 1)
  | .n8 => if k.acc = true then (false, { k with c := .n9 }, aux e) else ayQ subs k (aux e)
  | .n9 => match afy me s.level e (.l1 0) with
    | (.go t, e') => (false, { k with c := .a9 t }, e')
    | (.fin _ _, e') => ayQ subs k e'
  | .a9 t => match afy me s.level e t with
    | (.go t, e') => (false, { k with c := .a9 t }, e')
    | (.fin _ _, e') => ayQ subs k e'
noncomputable def awK [Tb] (subs : List Sub) (me : Int) (e : EnvP) (k : ClieS) : Bool × ClieS × EnvP :=
  if (subs.length : Int) ≤ k.i then (true, k, e) else ad4 subs me e k (ab8 subs k.i)
end
end Go.Proofs.YteapeojalliebaaGreat
