/- The program's machines in the evaluator's form. The program's machines in the evaluator's form. -/
import Derived.Test.YteapeojalliebaaGreatMqaj
set_option linter.all false
namespace Go.Proofs.YteapeojalliebaaGreat
section
open Go Go.RowKit
set_option maxRecDepth 100000
variable [Tb]
noncomputable def abJ (y0 : InsertV) (y1 : EnvP) : Option ((Bool × Unit) × (InsertV × EnvP × Unit)) :=
 (aax y0.o).bind fun r1 =>
 if r1.1.1 = true then
 some ((true,()),(({ y0 with o := r1.2.1 } : InsertV),y1,()))
 else
 if y1.l.workers = y1.l.workers then
 if y1.l.levels = y1.l.levels then
 if y1.l.classes = y1.l.classes then
 if y1.l.tasks = y1.l.tasks then
 if y1.l.deque = y1.l.deque then
 if y1.l.heap = y1.l.heap then
 if y1.l.sleepers = y1.l.sleepers then
 if y1.l.epochs = y1.l.epochs then
 if y1.l.bitmaps = y1.l.bitmaps then
 if y1.l.queues = y1.l.queues then
 if y1.l.table = y1.l.table then
 if y0.line = 1 then
 (agl y1.l).bind fun r2 =>
 (acA y1.m r2.1.1).bind fun r3 =>
 if y1.c.heap ≤ (wi (r3.1.1)) then
 (abe r1.2.1 3 0).bind fun r4 =>
 some ((r4.1.1,()),(({ y0 with o := r4.2.1,n := wi (r3.1.1) } : InsertV),({ y1 with m := r3.2.1 } : EnvP),()))
 else
 some ((false,()),(({ y0 with o := r1.2.1,line := 2,n := wi (r3.1.1) } : InsertV),({ y1 with m := r3.2.1 } : EnvP),()))
 else
 if y0.line = 2 then
 (arK y1.l).bind fun r5 =>
 if y0.task = y0.task then
 if y0.deadline = y0.deadline then
 (aFN y1.m r5.1.1 1).bind fun r6 =>
 if y0.task = y0.task then
 if y0.deadline = y0.deadline then
 (aBv y0.deadline (wi (r6.1.1)) y0.task).bind fun r7 =>
 if (!r7.1.2.1) = true then
 (abe r1.2.1 4 0).bind fun r8 =>
 some ((r8.1.1,()),(({ y0 with o := r8.2.1 } : InsertV),({ y1 with m := r6.2.1 } : EnvP),()))
 else
 (adw ({ y0 with o := r1.2.1,i := y0.n,k := r7.1.1 } : InsertV)).bind fun r9 =>
 some ((false,()),(({ r9.2.1 with line := r9.1.1 } : InsertV),({ y1 with m := r6.2.1 } : EnvP),()))
 else none
 else none
 else none
 else none
 else
 if y0.line = 3 then
 (anT y1.l (wi (Int.tdiv (wi (y0.i - 1)) 2))).bind fun r10 =>
 (acA y1.m r10.1.1).bind fun r11 =>
 if y0.k < r11.1.1 then
 some ((false,()),(({ y0 with o := r1.2.1,line := 4,x := r11.1.1 } : InsertV),({ y1 with m := r11.2.1 } : EnvP),()))
 else
 some ((false,()),(({ y0 with o := r1.2.1,line := 5,x := r11.1.1 } : InsertV),({ y1 with m := r11.2.1 } : EnvP),()))
 else
 if y0.line = 4 then
 (anT y1.l y0.i).bind fun r12 =>
 if y0.x = y0.x then
 (aa4 y1.m r12.1.1 y0.x).bind fun r13 =>
 (adw ({ y0 with o := r1.2.1,i := wi (Int.tdiv (wi (y0.i - 1)) 2) } : InsertV)).bind fun r14 =>
 some ((false,()),(({ r14.2.1 with line := r14.1.1 } : InsertV),({ y1 with m := r13.2.1 } : EnvP),()))
 else none
 else
 if y0.line = 5 then
 (anT y1.l y0.i).bind fun r15 =>
 if y0.k = y0.k then
 (aa4 y1.m r15.1.1 y0.k).bind fun r16 =>
 some ((false,()),(({ y0 with o := r1.2.1,line := 6 } : InsertV),({ y1 with m := r16.2.1 } : EnvP),()))
 else none
 else
 (agl y1.l).bind fun r17 =>
 if y0.n = y0.n then
 (aa4 y1.m r17.1.1 (wu (wi (y0.n + 1)))).bind fun r18 =>
 (abe r1.2.1 0 0).bind fun r19 =>
 some ((r19.1.1,()),(({ y0 with o := r19.2.1 } : InsertV),({ y1 with m := r18.2.1 } : EnvP),()))
 else none
 else none
 else none
 else none
 else none
 else none
 else none
 else none
 else none
 else none
 else none
 else none
noncomputable abbrev akf : Con SR1 := ⟨186,[.ref 36,.ref 27],[.sh .b],fun x =>abJ x.1 x.2.1⟩
theorem ajn : CO Tryz.prog akf := aal aak Tryz.func186 [abn,ajR,acC,acD,aqK,awp,ayY,af1,arC,adS] ⟨aa7,ajb,abR,abB,au2,au4,aBt,aiJ,arB,adg,trivial⟩ [] trivial (fun _ =>[]) [] fun x =>by kernel_rfl
noncomputable def ab8 (y0 : RemoveV) : Option ((Int × Unit) × (RemoveV × Unit)) :=
 if y0.z < y0.y then
 some ((7,()),(y0,()))
 else
 some ((8,()),(y0,()))
noncomputable abbrev ae0 : Con SR1 := ⟨260,[.ref 51],[.sh sI_],fun x =>ab8 x.1⟩
theorem ahP : CO Tryz.prog ae0 := aal aak Tryz.func260 [] trivial [] trivial (fun _ =>[]) [] fun x =>by kernel_rfl
noncomputable def acM (y0 : RemoveV) : Option ((Int × Unit) × (RemoveV × Unit)) :=
 if (wi ((wi (2 * y0.i)) + 1)) < (wi (y0.n - 1)) then
 some ((5,()),(y0,()))
 else
 some ((8,()),(y0,()))
noncomputable abbrev adj : Con SR1 := ⟨261,[.ref 51],[.sh sI_],fun x =>acM x.1⟩
theorem aeo : CO Tryz.prog adj := aal aak Tryz.func261 [] trivial [] trivial (fun _ =>[]) [] fun x =>by kernel_rfl
noncomputable def ac2 (y0 : RemoveV) : Option ((Int × Unit) × (RemoveV × Unit)) :=
 (auV y0.x).bind fun r1 =>
 some ((r1.1.2.2.1,()),(y0,()))
noncomputable abbrev aeh : Con SR1 := ⟨262,[.ref 51],[.sh sI_],fun x =>ac2 x.1⟩
theorem afZ : CO Tryz.prog aeh := aal aak Tryz.func262 [atB] ⟨axv,trivial⟩ [] trivial (fun _ =>[]) [] fun x =>by kernel_rfl
noncomputable def aeE (y0 : RemoveV) (y1 : EnvP) : Option ((Bool × Unit) × (RemoveV × EnvP × Unit)) :=
 if y1.l.workers = y1.l.workers then
 if y1.l.levels = y1.l.levels then
 if y1.l.classes = y1.l.classes then
 if y1.l.tasks = y1.l.tasks then
 if y1.l.deque = y1.l.deque then
 if y1.l.heap = y1.l.heap then
 if y1.l.sleepers = y1.l.sleepers then
 if y1.l.epochs = y1.l.epochs then
 if y1.l.bitmaps = y1.l.bitmaps then
 if y1.l.queues = y1.l.queues then
 if y1.l.table = y1.l.table then
 if y0.line = 1 then
 (agl y1.l).bind fun r1 =>
 (acA y1.m r1.1.1).bind fun r2 =>
 if (wi (r2.1.1)) ≤ 0 then
 (abe y0.o 2 0).bind fun r3 =>
 some ((r3.1.1,()),(({ y0 with o := r3.2.1,n := wi (r2.1.1) } : RemoveV),({ y1 with m := r2.2.1 } : EnvP),()))
 else
 some ((false,()),(({ y0 with line := 2,n := wi (r2.1.1) } : RemoveV),({ y1 with m := r2.2.1 } : EnvP),()))
 else
 if y0.line = 2 then
 (anT y1.l 0).bind fun r4 =>
 (acA y1.m r4.1.1).bind fun r5 =>
 some ((false,()),(({ y0 with line := 3,x := r5.1.1 } : RemoveV),({ y1 with m := r5.2.1 } : EnvP),()))
 else
 if y0.line = 3 then
 (anT y1.l (wi (y0.n - 1))).bind fun r6 =>
 (acA y1.m r6.1.1).bind fun r7 =>
 some ((false,()),(({ y0 with line := 4,y := r7.1.1 } : RemoveV),({ y1 with m := r7.2.1 } : EnvP),()))
 else
 (agl y1.l).bind fun r8 =>
 if y0.n = y0.n then
 (aa4 y1.m r8.1.1 (wu (wi (y0.n - 1)))).bind fun r9 =>
 (ac2 y0).bind fun r10 =>
 if y0.worker = r10.2.1.worker then
 (aef ({ y1 with m := r9.2.1 } : EnvP) (⟨13,y0.worker,r10.1.1,0,0⟩ : Ev)).bind fun r11 =>
 if r10.2.1.n = 1 then
 (ac2 r10.2.1).bind fun r12 =>
 (abe r12.2.1.o 1 r12.1.1).bind fun r13 =>
 some ((r13.1.1,()),(({ r12.2.1 with o := r13.2.1 } : RemoveV),r11.2.1,()))
 else
 (acM r10.2.1).bind fun r14 =>
 some ((false,()),(({ r14.2.1 with line := r14.1.1 } : RemoveV),r11.2.1,()))
 else none
 else none
 else none
 else none
 else none
 else none
 else none
 else none
 else none
 else none
 else none
 else none
 else none
noncomputable abbrev af0 : Con SR1 := ⟨263,[.ref 51,.ref 27],[.sh .b],fun x =>aeE x.1 x.2.1⟩
theorem aiI : CO Tryz.prog af0 := aal aak Tryz.func263 [ajR,acC,acD,arC,adS,aeh,afu,adj] ⟨ajb,abR,abB,arB,adg,afZ,aew,aeo,trivial⟩ [] trivial (fun _ =>[]) [] fun x =>by kernel_rfl
noncomputable def abI (y0 : RemoveV) (y1 : EnvP) : Option ((Bool × Unit) × (RemoveV × EnvP × Unit)) :=
 (aax y0.o).bind fun r1 =>
 if r1.1.1 = true then
 some ((true,()),(({ y0 with o := r1.2.1 } : RemoveV),y1,()))
 else
 if y1.l.workers = y1.l.workers then
 if y1.l.levels = y1.l.levels then
 if y1.l.classes = y1.l.classes then
 if y1.l.tasks = y1.l.tasks then
 if y1.l.deque = y1.l.deque then
 if y1.l.heap = y1.l.heap then
 if y1.l.sleepers = y1.l.sleepers then
 if y1.l.epochs = y1.l.epochs then
 if y1.l.bitmaps = y1.l.bitmaps then
 if y1.l.queues = y1.l.queues then
 if y1.l.table = y1.l.table then
 if y0.line = 5 then
 (anT y1.l (wi ((wi (2 * y0.i)) + 1))).bind fun r2 =>
 (acA y1.m r2.1.1).bind fun r3 =>
 (ab8 ({ y0 with o := r1.2.1,c := wi ((wi (2 * y0.i)) + 1),z := r3.1.1 } : RemoveV)).bind fun r4 =>
 if (wi (r4.2.1.c + 1)) < (wi (r4.2.1.n - 1)) then
 some ((false,()),(({ r4.2.1 with line := 6 } : RemoveV),({ y1 with m := r3.2.1 } : EnvP),()))
 else
 some ((false,()),(({ r4.2.1 with line := r4.1.1 } : RemoveV),({ y1 with m := r3.2.1 } : EnvP),()))
 else
 if y0.line = 6 then
 (anT y1.l (wi ((wi (2 * y0.i)) + 2))).bind fun r5 =>
 (acA y1.m r5.1.1).bind fun r6 =>
 if r6.1.1 < y0.z then
 (ab8 ({ y0 with o := r1.2.1,c := wi ((wi (2 * y0.i)) + 2),z := r6.1.1 } : RemoveV)).bind fun r7 =>
 some ((false,()),(({ r7.2.1 with line := r7.1.1 } : RemoveV),({ y1 with m := r6.2.1 } : EnvP),()))
 else
 (ab8 ({ y0 with o := r1.2.1 } : RemoveV)).bind fun r8 =>
 some ((false,()),(({ r8.2.1 with line := r8.1.1 } : RemoveV),({ y1 with m := r6.2.1 } : EnvP),()))
 else
 if y0.line = 7 then
 (anT y1.l y0.i).bind fun r9 =>
 if y0.z = y0.z then
 (aa4 y1.m r9.1.1 y0.z).bind fun r10 =>
 (acM ({ y0 with o := r1.2.1,i := y0.c } : RemoveV)).bind fun r11 =>
 some ((false,()),(({ r11.2.1 with line := r11.1.1 } : RemoveV),({ y1 with m := r10.2.1 } : EnvP),()))
 else none
 else
 if y0.line = 8 then
 (anT y1.l y0.i).bind fun r12 =>
 if y0.y = y0.y then
 (aa4 y1.m r12.1.1 y0.y).bind fun r13 =>
 (ac2 ({ y0 with o := r1.2.1 } : RemoveV)).bind fun r14 =>
 (abe r14.2.1.o 1 r14.1.1).bind fun r15 =>
 some ((r15.1.1,()),(({ r14.2.1 with o := r15.2.1 } : RemoveV),({ y1 with m := r13.2.1 } : EnvP),()))
 else none
 else
 (aeE ({ y0 with o := r1.2.1 } : RemoveV) y1).bind fun r16 =>
 some ((r16.1.1,()),(r16.2.1,r16.2.2.1,()))
 else none
 else none
 else none
 else none
 else none
 else none
 else none
 else none
 else none
 else none
 else none
noncomputable abbrev ake : Con SR1 := ⟨259,[.ref 51,.ref 27],[.sh .b],fun x =>abI x.1 x.2.1⟩
theorem ajm : CO Tryz.prog ake := aal aak Tryz.func259 [abn,arC,acC,ae0,adS,adj,aeh,acD,af0] ⟨aa7,arB,abR,ahP,adg,aeo,afZ,abB,aiI,trivial⟩ [] trivial (fun _ =>[]) [] fun x =>by kernel_rfl
noncomputable def ags (y0 : SleepV) (y1 : EnvP) : Option ((Unit) × (SleepV × EnvP × Unit)) :=
 (ahk y1.l y0.v).bind fun r1 =>
 (acA y1.m r1.1.1).bind fun r2 =>
 if r2.1.1 ≠ 0 then
 some ((()),(({ y0 with line := 7 } : SleepV),({ y1 with m := r2.2.1 } : EnvP),()))
 else
 if y1.c.workers ≤ (wi (y0.v + 1)) then
 (aef ({ y1 with m := r2.2.1 } : EnvP) (⟨16,y0.worker,0,0,0⟩ : Ev)).bind fun r3 =>
 (arD r3.2.1.k).bind fun r4 =>
 some ((()),(({ y0 with line := 5,v := wi (y0.v + 1),since := r4.1.1 } : SleepV),({ r3.2.1 with k := r4.2.1 } : EnvP),()))
 else
 some ((()),(({ y0 with v := wi (y0.v + 1) } : SleepV),({ y1 with m := r2.2.1 } : EnvP),()))
noncomputable abbrev ai4 : Con SR1 := ⟨167,[.ref 32,.ref 27],[],fun x =>ags x.1 x.2.1⟩
theorem anS : CO Tryz.prog ai4 := aal aak Tryz.func167 [agR,acC,afu,anr] ⟨agD,abR,aew,akE,trivial⟩ [] trivial (fun _ =>[]) [] fun x =>by kernel_rfl
noncomputable def agq (y0 : SleepV) (y1 : EnvP) : Option ((Unit) × (SleepV × EnvP × Unit)) :=
 (aqH y1.l y0.worker).bind fun r1 =>
 (acA y1.m r1.1.1).bind fun r2 =>
 if r2.1.1 ≠ y0.ep then
 (aef ({ y1 with m := r2.2.1 } : EnvP) (⟨17,y0.worker,0,1,0⟩ : Ev)).bind fun r3 =>
 some ((()),(({ y0 with line := 6 } : SleepV),r3.2.1,()))
 else
 (arD y1.k).bind fun r4 =>
 if y1.c.patience = y1.c.patience then
 if y0.since = y0.since then
 if y1.c.patience ≤ (wi (r4.1.1 - y0.since)) then
 (aef ({ y1 with m := r2.2.1,k := r4.2.1 } : EnvP) (⟨17,y0.worker,0,2,0⟩ : Ev)).bind fun r5 =>
 some ((()),(({ y0 with line := 6 } : SleepV),r5.2.1,()))
 else
 some ((()),(y0,({ y1 with m := r2.2.1,k := r4.2.1 } : EnvP),()))
 else none
 else none
noncomputable abbrev ai3 : Con SR1 := ⟨168,[.ref 32,.ref 27],[],fun x =>agq x.1 x.2.1⟩
theorem anP : CO Tryz.prog ai3 := aal aak Tryz.func168 [aog,acC,afu,anr] ⟨apb,abR,aew,akE,trivial⟩ [] trivial (fun _ =>[]) [] fun x =>by kernel_rfl
noncomputable def acZ (y0 : SleepV) (y1 : EnvP) : Option ((Bool × Unit) × (SleepV × EnvP × Unit)) :=
 (aax y0.o).bind fun r1 =>
 if r1.1.1 = true then
 some ((true,()),(({ y0 with o := r1.2.1 } : SleepV),y1,()))
 else
 if y0.line = 1 then
 (aqH y1.l y0.worker).bind fun r2 =>
 (acA y1.m r2.1.1).bind fun r3 =>
 some ((false,()),(({ y0 with o := r1.2.1,line := 2,ep := r3.1.1 } : SleepV),({ y1 with m := r3.2.1 } : EnvP),()))
 else
 if y0.line = 2 then
 ((
 if y1.c.classes < 1 then
 if y0.worker = y0.worker then
 (aAC y0.worker).bind fun r4 =>
 (pOr y1.m (-1) r4.1.1).bind fun r5 =>
 some (({ y1 with m := r5.2.1 } : EnvP),())
 else none
 else
 (aAB y0.worker y1.c.classes).bind fun r6 =>
 if y1.l.workers = y1.l.workers then
 if y1.l.levels = y1.l.levels then
 if y1.l.classes = y1.l.classes then
 if y1.l.tasks = y1.l.tasks then
 if y1.l.deque = y1.l.deque then
 if y1.l.heap = y1.l.heap then
 if y1.l.sleepers = y1.l.sleepers then
 if y1.l.epochs = y1.l.epochs then
 if y1.l.bitmaps = y1.l.bitmaps then
 if y1.l.queues = y1.l.queues then
 if y1.l.table = y1.l.table then
 (agP y1.l r6.1.1).bind fun r7 =>
 if y0.worker = y0.worker then
 (aAC y0.worker).bind fun r8 =>
 (pOr y1.m r7.1.1 r8.1.1).bind fun r9 =>
 some (({ y1 with m := r9.2.1 } : EnvP),())
 else none
 else none
 else none
 else none
 else none
 else none
 else none
 else none
 else none
 else none
 else none
 else none
 ) : Option (EnvP × Unit)).bind fun z10 =>
 some ((false,()),(({ y0 with o := r1.2.1,line := 3 } : SleepV),z10.1,()))
 else
 if y0.line = 3 then
 (agl y1.l).bind fun r11 =>
 (acA y1.m r11.1.1).bind fun r12 =>
 if r12.1.1 ≠ 0 then
 some ((false,()),(({ y0 with o := r1.2.1,line := 7 } : SleepV),({ y1 with m := r12.2.1 } : EnvP),()))
 else
 some ((false,()),(({ y0 with o := r1.2.1,line := 4 } : SleepV),({ y1 with m := r12.2.1 } : EnvP),()))
 else
 if y0.line = 4 then
 (ags ({ y0 with o := r1.2.1 } : SleepV) y1).bind fun r13 =>
 some ((false,()),(r13.2.1,r13.2.2.1,()))
 else
 if y0.line = 5 then
 (agq ({ y0 with o := r1.2.1 } : SleepV) y1).bind fun r14 =>
 some ((false,()),(r14.2.1,r14.2.2.1,()))
 else
 ((
 if y1.c.classes < 1 then
 if y0.worker = y0.worker then
 (aAC y0.worker).bind fun r15 =>
 (aCQ y1.m (-1) (aCo r15.1.1)).bind fun r16 =>
 some (({ y1 with m := r16.2.1 } : EnvP),())
 else none
 else
 (aAB y0.worker y1.c.classes).bind fun r17 =>
 if y1.l.workers = y1.l.workers then
 if y1.l.levels = y1.l.levels then
 if y1.l.classes = y1.l.classes then
 if y1.l.tasks = y1.l.tasks then
 if y1.l.deque = y1.l.deque then
 if y1.l.heap = y1.l.heap then
 if y1.l.sleepers = y1.l.sleepers then
 if y1.l.epochs = y1.l.epochs then
 if y1.l.bitmaps = y1.l.bitmaps then
 if y1.l.queues = y1.l.queues then
 if y1.l.table = y1.l.table then
 (agP y1.l r17.1.1).bind fun r18 =>
 if y0.worker = y0.worker then
 (aAC y0.worker).bind fun r19 =>
 (aCQ y1.m r18.1.1 (aCo r19.1.1)).bind fun r20 =>
 some (({ y1 with m := r20.2.1 } : EnvP),())
 else none
 else none
 else none
 else none
 else none
 else none
 else none
 else none
 else none
 else none
 else none
 else none
 ) : Option (EnvP × Unit)).bind fun z21 =>
 if y0.line = 6 then
 (abe r1.2.1 1 0).bind fun r22 =>
 some ((r22.1.1,()),(({ y0 with o := r22.2.1 } : SleepV),z21.1,()))
 else
 (abe r1.2.1 5 0).bind fun r23 =>
 some ((r23.1.1,()),(({ y0 with o := r23.2.1 } : SleepV),z21.1,()))
noncomputable abbrev ao9 : Con SR1 := ⟨162,[.ref 32,.ref 27],[.sh .b],fun x =>acZ x.1 x.2.1⟩
noncomputable def anQ : List (Nat × Func) := [(165,Tryz.f165)]
theorem anR : CO Tryz.prog ao9 := aal aak Tryz.func162 [abn,aog,acC,atH,aBw,atD,akD,ajR,ai4,ai3,awo,acD] ⟨aa7,apb,abR,arJ,ayZ,arE,anq,ajb,anS,anP,au3,abB,trivial⟩ anQ ⟨Tryz.func165,trivial⟩ (fun _ =>[]) [(13,.cut [.ob 1 27] [0]),(5,.cut [.ob 1 27] [0])] fun x =>by kernel_rfl
noncomputable def adm (y0 : WakeV) (y1 : EnvP) : Option ((Bool × Unit) × (WakeV × EnvP × Unit)) :=
 (aax y0.o).bind fun r1 =>
 if r1.1.1 = true then
 some ((true,()),(({ y0 with o := r1.2.1 } : WakeV),y1,()))
 else
 if y0.line = 1 then
 ((
 if y1.c.classes < 1 then
 (acA y1.m (-1)).bind fun r2 =>
 some (r2.1.1,({ y1 with m := r2.2.1 } : EnvP),())
 else
 (atG y0.level y1.c.levels y1.c.classes).bind fun r3 =>
 if y1.c.classes = y1.c.classes then
 if y0.j = y0.j then
 if y1.l.workers = y1.l.workers then
 if y1.l.levels = y1.l.levels then
 if y1.l.classes = y1.l.classes then
 if y1.l.tasks = y1.l.tasks then
 if y1.l.deque = y1.l.deque then
 if y1.l.heap = y1.l.heap then
 if y1.l.sleepers = y1.l.sleepers then
 if y1.l.epochs = y1.l.epochs then
 if y1.l.bitmaps = y1.l.bitmaps then
 if y1.l.queues = y1.l.queues then
 if y1.l.table = y1.l.table then
 (aAB (wi (r3.1.1 + y0.j)) y1.c.classes).bind fun r4 =>
 if y1.l.workers = y1.l.workers then
 if y1.l.levels = y1.l.levels then
 if y1.l.classes = y1.l.classes then
 if y1.l.tasks = y1.l.tasks then
 if y1.l.deque = y1.l.deque then
 if y1.l.heap = y1.l.heap then
 if y1.l.sleepers = y1.l.sleepers then
 if y1.l.epochs = y1.l.epochs then
 if y1.l.bitmaps = y1.l.bitmaps then
 if y1.l.queues = y1.l.queues then
 if y1.l.table = y1.l.table then
 (agP y1.l r4.1.1).bind fun r5 =>
 (acA y1.m r5.1.1).bind fun r6 =>
 some (r6.1.1,({ y1 with m := r6.2.1 } : EnvP),())
 else none
 else none
 else none
 else none
 else none
 else none
 else none
 else none
 else none
 else none
 else none
 else none
 else none
 else none
 else none
 else none
 else none
 else none
 else none
 else none
 else none
 else none
 else none
 else none
 ) : Option (Int × EnvP × Unit)).bind fun z7 =>
 if z7.1 ≠ 0 then
 (aH9 z7.1).bind fun r8 =>
 some ((false,()),(({ y0 with o := r1.2.1,line := 2,v := r8.1.1 } : WakeV),z7.2.1,()))
 else
 if z7.2.1.c.classes ≤ (wi (y0.j + 1)) then
 (abe r1.2.1 2 0).bind fun r9 =>
 some ((r9.1.1,()),(({ y0 with o := r9.2.1,j := wi (y0.j + 1) } : WakeV),z7.2.1,()))
 else
 some ((false,()),(({ y0 with o := r1.2.1,j := wi (y0.j + 1) } : WakeV),z7.2.1,()))
 else
 if y0.line = 2 then
 (aAC y0.v).bind fun r10 =>
 ((
 if y1.c.classes < 1 then
 (aCQ y1.m (-1) (aCo r10.1.1)).bind fun r11 =>
 some (decide ((aos r11.1.1 r10.1.1) = 0),({ y1 with m := r11.2.1 } : EnvP),())
 else
 (atG y0.level y1.c.levels y1.c.classes).bind fun r12 =>
 if y1.c.classes = y1.c.classes then
 if y0.j = y0.j then
 if y1.l.workers = y1.l.workers then
 if y1.l.levels = y1.l.levels then
 if y1.l.classes = y1.l.classes then
 if y1.l.tasks = y1.l.tasks then
 if y1.l.deque = y1.l.deque then
 if y1.l.heap = y1.l.heap then
 if y1.l.sleepers = y1.l.sleepers then
 if y1.l.epochs = y1.l.epochs then
 if y1.l.bitmaps = y1.l.bitmaps then
 if y1.l.queues = y1.l.queues then
 if y1.l.table = y1.l.table then
 (aAB (wi (r12.1.1 + y0.j)) y1.c.classes).bind fun r13 =>
 if y1.l.workers = y1.l.workers then
 if y1.l.levels = y1.l.levels then
 if y1.l.classes = y1.l.classes then
 if y1.l.tasks = y1.l.tasks then
 if y1.l.deque = y1.l.deque then
 if y1.l.heap = y1.l.heap then
 if y1.l.sleepers = y1.l.sleepers then
 if y1.l.epochs = y1.l.epochs then
 if y1.l.bitmaps = y1.l.bitmaps then
 if y1.l.queues = y1.l.queues then
 if y1.l.table = y1.l.table then
 (agP y1.l r13.1.1).bind fun r14 =>
 (aCQ y1.m r14.1.1 (aCo r10.1.1)).bind fun r15 =>
 some (decide ((aos r15.1.1 r10.1.1) = 0),({ y1 with m := r15.2.1 } : EnvP),())
 else none
 else none
 else none
 else none
 else none
 else none
 else none
 else none
 else none
 else none
 else none
 else none
 else none
 else none
 else none
 else none
 else none
 else none
 else none
 else none
 else none
 else none
 else none
 else none
 ) : Option (Bool × EnvP × Unit)).bind fun z16 =>
 if z16.1 = true then
 (abe r1.2.1 4 0).bind fun r17 =>
 some ((r17.1.1,()),(({ y0 with o := r17.2.1 } : WakeV),z16.2.1,()))
 else
 some ((false,()),(({ y0 with o := r1.2.1,line := 3 } : WakeV),z16.2.1,()))
 else
 (aqH y1.l y0.v).bind fun r18 =>
 (aFN y1.m r18.1.1 1).bind fun r19 =>
 (aef ({ y1 with m := r19.2.1 } : EnvP) (⟨18,y0.me,0,y0.v,0⟩ : Ev)).bind fun r20 =>
 (abe r1.2.1 1 y0.v).bind fun r21 =>
 some ((r21.1.1,()),(({ y0 with o := r21.2.1 } : WakeV),r20.2.1,()))
noncomputable abbrev aqj : Con SR1 := ⟨193,[.ref 38,.ref 27],[.sh .b],fun x =>adm x.1 x.2.1⟩
noncomputable def ao7 : List (Nat × Func) := [(194,Tryz.f194)]
theorem ao8 : CO Tryz.prog aqj := aal aak Tryz.func193 [abn,acC,awl,atD,akD,aCP,acD,atH,awo,aog,awp,afu] ⟨aa7,abR,ay3,arE,anq,aEp,abB,arJ,au3,apb,au4,aew,trivial⟩ ao7 ⟨Tryz.func194,trivial⟩ (fun _ =>[]) [(9,.cut [.rg 5 sU_,.ob 1 27] [0]),(18,.cut [.rg 108 .b,.ob 1 27] [0])] fun x =>by kernel_rfl
noncomputable def ajz (y0 : EnvP) (y1 : Int) (y2 : Int) : Option ((Bool × Unit) × (EnvP × Unit)) :=
 if 0 ≤ y1 then
 if y1 < y0.c.tasks then
 if 0 ≤ y2 then
 some ((decide (y2 < y0.c.levels),()),(y0,()))
 else
 some ((false,()),(y0,()))
 else
 some ((false,()),(y0,()))
 else
 some ((false,()),(y0,()))
noncomputable abbrev akP : Con SR1 := ⟨269,[.ref 27,.sh sI_,.sh sI_],[.sh .b],fun x =>ajz x.1 x.2.1 x.2.2.1⟩
theorem anC : CO Tryz.prog akP := aal aak Tryz.func269 [] trivial [] trivial (fun _ =>[]) [] fun x =>by kernel_rfl
noncomputable def acv (y0 : RaiseV) (y1 : EnvP) : Option ((Bool × Unit) × (RaiseV × EnvP × Unit)) :=
 (aax y0.o).bind fun r1 =>
 if r1.1.1 = true then
 some ((true,()),(({ y0 with o := r1.2.1 } : RaiseV),y1,()))
 else
 (ajz y1 y0.task y0.level).bind fun r2 =>
 if (!r2.1.1) = true then
 (abe r1.2.1 4 0).bind fun r3 =>
 some ((r3.1.1,()),(({ y0 with o := r3.2.1 } : RaiseV),r2.2.1,()))
 else
 if y0.line = 1 then
 (afc r2.2.1.l y0.task).bind fun r4 =>
 (acA r2.2.1.m r4.1.1).bind fun r5 =>
 if y0.level ≤ (wi (r5.1.1)) then
 (abe r1.2.1 0 0).bind fun r6 =>
 some ((r6.1.1,()),(({ y0 with o := r6.2.1,q := r5.1.1 } : RaiseV),({ r2.2.1 with m := r5.2.1 } : EnvP),()))
 else
 some ((false,()),(({ y0 with o := r1.2.1,line := 2,q := r5.1.1 } : RaiseV),({ r2.2.1 with m := r5.2.1 } : EnvP),()))
 else
 (afc r2.2.1.l y0.task).bind fun r7 =>
 if y0.level = y0.level then
 if y0.q = y0.q then
 (as3 r2.2.1.m r7.1.1 y0.q (wu (y0.level))).bind fun r8 =>
 if r8.1.1 = true then
 (aef ({ r2.2.1 with m := r8.2.1 } : EnvP) ({ y0 with kind := 11,other := 0 } : Ev)).bind fun r9 =>
 (abe r1.2.1 1 0).bind fun r10 =>
 some ((r10.1.1,()),(({ y0 with o := r10.2.1 } : RaiseV),r9.2.1,()))
 else
 some ((false,()),(({ y0 with o := r1.2.1,line := 1 } : RaiseV),({ r2.2.1 with m := r8.2.1 } : EnvP),()))
 else none
 else none
noncomputable abbrev an5 : Con SR1 := ⟨283,[.ref 55,.ref 27],[.sh .b],fun x =>acv x.1 x.2.1⟩
theorem am5 : CO Tryz.prog an5 := aal aak Tryz.func283 [abn,akP,acD,agt,acC,alu,afu] ⟨aa7,anC,abB,afS,abR,ajc,aew,trivial⟩ [] trivial (fun _ =>[]) [] fun x =>by kernel_rfl
noncomputable def aiV (m : MV) (e : EnvP) : Option ((Bool × Unit) × (MV × EnvP × Unit)) :=
 match m with
 | .alloc x =>(abZ x e).bind fun o =>some (o.1,(MV.alloc o.2.1,o.2.2))
 | .publish x =>(abN x e).bind fun o =>some (o.1,(MV.publish o.2.1,o.2.2))
 | .claim x =>(ac7 x e).bind fun o =>some (o.1,(MV.claim o.2.1,o.2.2))
 | .attempt x =>(acH x e).bind fun o =>some (o.1,(MV.attempt o.2.1,o.2.2))
 | .release x =>(acG x e).bind fun o =>some (o.1,(MV.release o.2.1,o.2.2))
 | .opush x =>(adu x e).bind fun o =>some (o.1,(MV.opush o.2.1,o.2.2))
 | .opop x =>(ad1 x e).bind fun o =>some (o.1,(MV.opop o.2.1,o.2.2))
 | .steal x =>(ac6 x e).bind fun o =>some (o.1,(MV.steal o.2.1,o.2.2))
 | .set x =>(ady x e).bind fun o =>some (o.1,(MV.set o.2.1,o.2.2))
 | .reset x =>(acJ x e).bind fun o =>some (o.1,(MV.reset o.2.1,o.2.2))
 | .insert x =>(abJ x e).bind fun o =>some (o.1,(MV.insert o.2.1,o.2.2))
 | .remove x =>(abI x e).bind fun o =>some (o.1,(MV.remove o.2.1,o.2.2))
 | .sleep x =>(acZ x e).bind fun o =>some (o.1,(MV.sleep o.2.1,o.2.2))
 | .wake x =>(adm x e).bind fun o =>some (o.1,(MV.wake o.2.1,o.2.2))
 | .raise x =>(acv x e).bind fun o =>some (o.1,(MV.raise o.2.1,o.2.2))
 | .probe x =>(abj x e).bind fun o =>some (o.1,(MV.probe o.2.1,o.2.2))
 | _ =>none
noncomputable abbrev arh : Con SR1 := ⟨1000000000,[.mch,.ref 27],[.sh .b],fun x =>aiV x.1 x.2.1⟩
theorem aaz (m : MV) (xs : akR SR1 [.ref 27]) (out : akT SR1 [.sh .b] × (MV × ajF SR1 [.ref 27])) (h : aiV m xs.1 = some out) : aqv SR1 Tryz.prog 0 [.ref 27] [.sh .b] m xs out := by
 cases m with
 | alloc x =>exact aa9 (S := SR1) (ps := [.ref 27]) (rs := [.sh .b]) (c := 35) (mk := MV.alloc) (fun _ =>rfl) rfl (fun _ _ _ _ =>by kernel_rfl) aj9 h
 | publish x =>exact aa9 (S := SR1) (ps := [.ref 27]) (rs := [.sh .b]) (c := 50) (mk := MV.publish) (fun _ =>rfl) rfl (fun _ _ _ _ =>by kernel_rfl) akz h
 | claim x =>exact aa9 (S := SR1) (ps := [.ref 27]) (rs := [.sh .b]) (c := 45) (mk := MV.claim) (fun _ =>rfl) rfl (fun _ _ _ _ =>by kernel_rfl) amk h
 | attempt x =>exact aa9 (S := SR1) (ps := [.ref 27]) (rs := [.sh .b]) (c := 34) (mk := MV.attempt) (fun _ =>rfl) rfl (fun _ _ _ _ =>by kernel_rfl) alI h
 | release x =>exact aa9 (S := SR1) (ps := [.ref 27]) (rs := [.sh .b]) (c := 37) (mk := MV.release) (fun _ =>rfl) rfl (fun _ _ _ _ =>by kernel_rfl) alH h
 | opush x =>exact aa9 (S := SR1) (ps := [.ref 27]) (rs := [.sh .b]) (c := 53) (mk := MV.opush) (fun _ =>rfl) rfl (fun _ _ _ _ =>by kernel_rfl) anV h
 | opop x =>exact aa9 (S := SR1) (ps := [.ref 27]) (rs := [.sh .b]) (c := 52) (mk := MV.opop) (fun _ =>rfl) rfl (fun _ _ _ _ =>by kernel_rfl) apg h
 | steal x =>exact aa9 (S := SR1) (ps := [.ref 27]) (rs := [.sh .b]) (c := 42) (mk := MV.steal) (fun _ =>rfl) rfl (fun _ _ _ _ =>by kernel_rfl) amh h
 | set x =>exact aa9 (S := SR1) (ps := [.ref 27]) (rs := [.sh .b]) (c := 54) (mk := MV.set) (fun _ =>rfl) rfl (fun _ _ _ _ =>by kernel_rfl) an6 h
 | reset x =>exact aa9 (S := SR1) (ps := [.ref 27]) (rs := [.sh .b]) (c := 43) (mk := MV.reset) (fun _ =>rfl) rfl (fun _ _ _ _ =>by kernel_rfl) al9 h
 | insert x =>exact aa9 (S := SR1) (ps := [.ref 27]) (rs := [.sh .b]) (c := 36) (mk := MV.insert) (fun _ =>rfl) rfl (fun _ _ _ _ =>by kernel_rfl) ajn h
 | remove x =>exact aa9 (S := SR1) (ps := [.ref 27]) (rs := [.sh .b]) (c := 51) (mk := MV.remove) (fun _ =>rfl) rfl (fun _ _ _ _ =>by kernel_rfl) ajm h
 | sleep x =>exact aa9 (S := SR1) (ps := [.ref 27]) (rs := [.sh .b]) (c := 32) (mk := MV.sleep) (fun _ =>rfl) rfl (fun _ _ _ _ =>by kernel_rfl) anR h
 | wake x =>exact aa9 (S := SR1) (ps := [.ref 27]) (rs := [.sh .b]) (c := 38) (mk := MV.wake) (fun _ =>rfl) rfl (fun _ _ _ _ =>by kernel_rfl) ao8 h
 | raise x =>exact aa9 (S := SR1) (ps := [.ref 27]) (rs := [.sh .b]) (c := 55) (mk := MV.raise) (fun _ =>rfl) rfl (fun _ _ _ _ =>by kernel_rfl) am5 h
 | probe x =>exact aa9 (S := SR1) (ps := [.ref 27]) (rs := [.sh .b]) (c := 46) (mk := MV.probe) (fun _ =>rfl) rfl (fun _ _ _ _ =>by kernel_rfl) amB h
 | _ =>cases h
theorem atf : CO Tryz.prog arh := ajr (S := SR1) (i := 0) (ps := [.ref 27]) (rs := [.sh .b]) (spec := fun m xs =>aiV m xs.1) aaz
noncomputable def aeV (m : MV) : Option ((Int × Int × Unit) × (MV × Unit)) :=
 match m with
 | .alloc x =>some ((x.o.code,x.o.value,()),(MV.alloc x,()))
 | .publish x =>some ((x.o.code,x.o.value,()),(MV.publish x,()))
 | .claim x =>some ((x.o.code,x.o.value,()),(MV.claim x,()))
 | .attempt x =>some ((x.o.code,x.o.value,()),(MV.attempt x,()))
 | .release x =>some ((x.o.code,x.o.value,()),(MV.release x,()))
 | .opush x =>some ((x.o.code,x.o.value,()),(MV.opush x,()))
 | .opop x =>some ((x.o.code,x.o.value,()),(MV.opop x,()))
 | .steal x =>some ((x.o.code,x.o.value,()),(MV.steal x,()))
 | .set x =>some ((x.o.code,x.o.value,()),(MV.set x,()))
 | .reset x =>some ((x.o.code,x.o.value,()),(MV.reset x,()))
 | .insert x =>some ((x.o.code,x.o.value,()),(MV.insert x,()))
 | .remove x =>some ((x.o.code,x.o.value,()),(MV.remove x,()))
 | .sleep x =>some ((x.o.code,x.o.value,()),(MV.sleep x,()))
 | .wake x =>some ((x.o.code,x.o.value,()),(MV.wake x,()))
 | .raise x =>some ((x.o.code,x.o.value,()),(MV.raise x,()))
 | .probe x =>some ((x.o.code,x.o.value,()),(MV.probe x,()))
 | _ =>none
noncomputable abbrev amu : Con SR1 := ⟨1000000001,[.mch],[.sh sI_,.sh sI_],fun x =>aeV x.1⟩
theorem aaj (m : MV) (xs : akR SR1 []) (out : akT SR1 [.sh sI_,.sh sI_] × (MV × ajF SR1 [])) (h : aeV m = some out) : aqv SR1 Tryz.prog 1 [] [.sh sI_,.sh sI_] m xs out := by
 cases m with
 | alloc x =>exact aa9 (S := SR1) (ps := []) (rs := [.sh sI_,.sh sI_]) (c := 35) (mk := MV.alloc) (f := 161) (sp := fun x =>some ((x.1.o.code,x.1.o.value,()),(x.1,()))) (fun _ =>rfl) rfl (fun _ _ _ _ =>by kernel_rfl) (acs [aaZ] ⟨aaT,trivial⟩ fun x =>by kernel_rfl) h
 | publish x =>exact aa9 (S := SR1) (ps := []) (rs := [.sh sI_,.sh sI_]) (c := 50) (mk := MV.publish) (f := 161) (sp := fun x =>some ((x.1.o.code,x.1.o.value,()),(x.1,()))) (fun _ =>rfl) rfl (fun _ _ _ _ =>by kernel_rfl) (acs [aaZ] ⟨aaT,trivial⟩ fun x =>by kernel_rfl) h
 | claim x =>exact aa9 (S := SR1) (ps := []) (rs := [.sh sI_,.sh sI_]) (c := 45) (mk := MV.claim) (f := 161) (sp := fun x =>some ((x.1.o.code,x.1.o.value,()),(x.1,()))) (fun _ =>rfl) rfl (fun _ _ _ _ =>by kernel_rfl) (acs [aaZ] ⟨aaT,trivial⟩ fun x =>by kernel_rfl) h
 | attempt x =>exact aa9 (S := SR1) (ps := []) (rs := [.sh sI_,.sh sI_]) (c := 34) (mk := MV.attempt) (f := 161) (sp := fun x =>some ((x.1.o.code,x.1.o.value,()),(x.1,()))) (fun _ =>rfl) rfl (fun _ _ _ _ =>by kernel_rfl) (acs [aaZ] ⟨aaT,trivial⟩ fun x =>by kernel_rfl) h
 | release x =>exact aa9 (S := SR1) (ps := []) (rs := [.sh sI_,.sh sI_]) (c := 37) (mk := MV.release) (f := 161) (sp := fun x =>some ((x.1.o.code,x.1.o.value,()),(x.1,()))) (fun _ =>rfl) rfl (fun _ _ _ _ =>by kernel_rfl) (acs [aaZ] ⟨aaT,trivial⟩ fun x =>by kernel_rfl) h
 | opush x =>exact aa9 (S := SR1) (ps := []) (rs := [.sh sI_,.sh sI_]) (c := 53) (mk := MV.opush) (f := 161) (sp := fun x =>some ((x.1.o.code,x.1.o.value,()),(x.1,()))) (fun _ =>rfl) rfl (fun _ _ _ _ =>by kernel_rfl) (acs [aaZ] ⟨aaT,trivial⟩ fun x =>by kernel_rfl) h
 | opop x =>exact aa9 (S := SR1) (ps := []) (rs := [.sh sI_,.sh sI_]) (c := 52) (mk := MV.opop) (f := 161) (sp := fun x =>some ((x.1.o.code,x.1.o.value,()),(x.1,()))) (fun _ =>rfl) rfl (fun _ _ _ _ =>by kernel_rfl) (acs [aaZ] ⟨aaT,trivial⟩ fun x =>by kernel_rfl) h
 | steal x =>exact aa9 (S := SR1) (ps := []) (rs := [.sh sI_,.sh sI_]) (c := 42) (mk := MV.steal) (f := 161) (sp := fun x =>some ((x.1.o.code,x.1.o.value,()),(x.1,()))) (fun _ =>rfl) rfl (fun _ _ _ _ =>by kernel_rfl) (acs [aaZ] ⟨aaT,trivial⟩ fun x =>by kernel_rfl) h
 | set x =>exact aa9 (S := SR1) (ps := []) (rs := [.sh sI_,.sh sI_]) (c := 54) (mk := MV.set) (f := 161) (sp := fun x =>some ((x.1.o.code,x.1.o.value,()),(x.1,()))) (fun _ =>rfl) rfl (fun _ _ _ _ =>by kernel_rfl) (acs [aaZ] ⟨aaT,trivial⟩ fun x =>by kernel_rfl) h
 | reset x =>exact aa9 (S := SR1) (ps := []) (rs := [.sh sI_,.sh sI_]) (c := 43) (mk := MV.reset) (f := 161) (sp := fun x =>some ((x.1.o.code,x.1.o.value,()),(x.1,()))) (fun _ =>rfl) rfl (fun _ _ _ _ =>by kernel_rfl) (acs [aaZ] ⟨aaT,trivial⟩ fun x =>by kernel_rfl) h
 | insert x =>exact aa9 (S := SR1) (ps := []) (rs := [.sh sI_,.sh sI_]) (c := 36) (mk := MV.insert) (f := 161) (sp := fun x =>some ((x.1.o.code,x.1.o.value,()),(x.1,()))) (fun _ =>rfl) rfl (fun _ _ _ _ =>by kernel_rfl) (acs [aaZ] ⟨aaT,trivial⟩ fun x =>by kernel_rfl) h
 | remove x =>exact aa9 (S := SR1) (ps := []) (rs := [.sh sI_,.sh sI_]) (c := 51) (mk := MV.remove) (f := 161) (sp := fun x =>some ((x.1.o.code,x.1.o.value,()),(x.1,()))) (fun _ =>rfl) rfl (fun _ _ _ _ =>by kernel_rfl) (acs [aaZ] ⟨aaT,trivial⟩ fun x =>by kernel_rfl) h
 | sleep x =>exact aa9 (S := SR1) (ps := []) (rs := [.sh sI_,.sh sI_]) (c := 32) (mk := MV.sleep) (f := 161) (sp := fun x =>some ((x.1.o.code,x.1.o.value,()),(x.1,()))) (fun _ =>rfl) rfl (fun _ _ _ _ =>by kernel_rfl) (acs [aaZ] ⟨aaT,trivial⟩ fun x =>by kernel_rfl) h
 | wake x =>exact aa9 (S := SR1) (ps := []) (rs := [.sh sI_,.sh sI_]) (c := 38) (mk := MV.wake) (f := 161) (sp := fun x =>some ((x.1.o.code,x.1.o.value,()),(x.1,()))) (fun _ =>rfl) rfl (fun _ _ _ _ =>by kernel_rfl) (acs [aaZ] ⟨aaT,trivial⟩ fun x =>by kernel_rfl) h
 | raise x =>exact aa9 (S := SR1) (ps := []) (rs := [.sh sI_,.sh sI_]) (c := 55) (mk := MV.raise) (f := 161) (sp := fun x =>some ((x.1.o.code,x.1.o.value,()),(x.1,()))) (fun _ =>rfl) rfl (fun _ _ _ _ =>by kernel_rfl) (acs [aaZ] ⟨aaT,trivial⟩ fun x =>by kernel_rfl) h
 | probe x =>exact aa9 (S := SR1) (ps := []) (rs := [.sh sI_,.sh sI_]) (c := 46) (mk := MV.probe) (f := 161) (sp := fun x =>some ((x.1.o.code,x.1.o.value,()),(x.1,()))) (fun _ =>rfl) rfl (fun _ _ _ _ =>by kernel_rfl) (acs [aaZ] ⟨aaT,trivial⟩ fun x =>by kernel_rfl) h
 | _ =>cases h
theorem ao3 : CO Tryz.prog amu := ajr (S := SR1) (i := 1) (ps := []) (rs := [.sh sI_,.sh sI_]) (spec := fun m _ =>aeV m) aaj
noncomputable def apf (y0 : QV) (y1 : Int) : Option ((MV × Unit) × (Unit)) :=
 some ((MV.opush (⟨⟨false,0,0⟩,y0,y1,1,0⟩ : OPushV),()),())
noncomputable abbrev apd : Con SR1 := ⟨256,[.val 14,.sh sI_],[.sh .mach],fun x =>apf x.1 x.2.1⟩
theorem atI : CO Tryz.prog apd := aal aak Tryz.func256 [] trivial [] trivial (fun _ =>[]) [] fun x =>by kernel_rfl
noncomputable def ajB (y0 : Int) (y1 : Int) : Option ((MV × Unit) × (Unit)) :=
 some ((MV.set (⟨⟨false,0,0⟩,y0,y1⟩ : SetV),()),())
noncomputable abbrev aqa : Con SR1 := ⟨257,[.sh sI_,.sh sI_],[.sh .mach],fun x =>ajB x.1 x.2.1⟩
theorem aum : CO Tryz.prog aqa := aal aak Tryz.func257 [] trivial [] trivial (fun _ =>[]) [] fun x =>by kernel_rfl
noncomputable def acu (y0 : (LPushV MV)) (y1 : EnvP) : Option ((Bool × Unit) × ((LPushV MV) × EnvP × Unit)) :=
 (aax y0.o).bind fun r1 =>
 if r1.1.1 = true then
 some ((true,()),(({ y0 with o := r1.2.1 } : (LPushV MV)),y1,()))
 else
 if (SR1.spl y0.inside).isNone = true then
 (agQ y1.l y0.worker y0.level).bind fun r2 =>
 if y0.value = y0.value then
 (apf r2.1.1 y0.value).bind fun r3 =>
 (aiV r3.1.1 y1).bind fun r4 =>
 if (!r4.1.1) = true then
 some ((false,()),(({ y0 with o := r1.2.1,inside := r4.2.1 } : (LPushV MV)),r4.2.2.1,()))
 else
 (aeV r4.2.1).bind fun r5 =>
 if r5.1.1 = 3 then
 (abe r1.2.1 3 0).bind fun r6 =>
 some ((r6.1.1,()),(({ y0 with o := r6.2.1,inside := r5.2.1 } : (LPushV MV)),r4.2.2.1,()))
 else
 if y0.line = 2 then
 (abe r1.2.1 0 0).bind fun r7 =>
 some ((r7.1.1,()),(({ y0 with o := r7.2.1,inside := r5.2.1 } : (LPushV MV)),r4.2.2.1,()))
 else
 (ahk r4.2.2.1.l y0.worker).bind fun r8 =>
 if y0.level = y0.level then
 (ajB r8.1.1 y0.level).bind fun r9 =>
 some ((false,()),(({ y0 with o := r1.2.1,line := 2,inside := r9.1.1 } : (LPushV MV)),r4.2.2.1,()))
 else none
 else none
 else
 (aiV y0.inside y1).bind fun r10 =>
 if (!r10.1.1) = true then
 some ((false,()),(({ y0 with o := r1.2.1,inside := r10.2.1 } : (LPushV MV)),r10.2.2.1,()))
 else
 (aeV r10.2.1).bind fun r11 =>
 if r11.1.1 = 3 then
 (abe r1.2.1 3 0).bind fun r12 =>
 some ((r12.1.1,()),(({ y0 with o := r12.2.1,inside := r11.2.1 } : (LPushV MV)),r10.2.2.1,()))
 else
 if y0.line = 2 then
 (abe r1.2.1 0 0).bind fun r13 =>
 some ((r13.1.1,()),(({ y0 with o := r13.2.1,inside := r11.2.1 } : (LPushV MV)),r10.2.2.1,()))
 else
 (ahk r10.2.2.1.l y0.worker).bind fun r14 =>
 if y0.level = y0.level then
 (ajB r14.1.1 y0.level).bind fun r15 =>
 some ((false,()),(({ y0 with o := r1.2.1,line := 2,inside := r15.1.1 } : (LPushV MV)),r10.2.2.1,()))
 else none
noncomputable abbrev anW : Con SR1 := ⟨255,[.ref 47,.ref 27],[.sh .b],fun x =>acu x.1 x.2.1⟩
theorem amS : CO Tryz.prog anW := aal aak Tryz.func255 [abn,ajQ,apd,arh,amu,acD,agR,aqa] ⟨aa7,ai9,atI,atf,ao3,abB,agD,aum,trivial⟩ [] trivial (fun _ =>[]) [] fun x =>by kernel_rfl
noncomputable def arM (y0 : QV) : Option ((MV × Unit) × (Unit)) :=
 some ((MV.opop (⟨⟨false,0,0⟩,y0,1,0,0⟩ : OPopV),()),())
noncomputable abbrev aqL : Con SR1 := ⟨245,[.val 14],[.sh .mach],fun x =>arM x.1⟩
theorem au5 : CO Tryz.prog aqL := aal aak Tryz.func245 [] trivial [] trivial (fun _ =>[]) [] fun x =>by kernel_rfl
noncomputable def ah9 (y0 : (LPopV MV)) (y1 : EnvP) : Option ((Bool × Unit) × ((LPopV MV) × EnvP × Unit)) :=
 (ahk y1.l y0.worker).bind fun r1 =>
 (acA y1.m r1.1.1).bind fun r2 =>
 if r2.1.1 = 0 then
 (abe y0.o 2 0).bind fun r3 =>
 some ((r3.1.1,()),(({ y0 with o := r3.2.1 } : (LPopV MV)),({ y1 with m := r2.2.1 } : EnvP),()))
 else
 (ag0 r2.1.1).bind fun r4 =>
 (agQ y1.l y0.worker r4.1.1).bind fun r5 =>
 (arM r5.1.1).bind fun r6 =>
 some ((false,()),(({ y0 with level := r4.1.1,line := 2,inside := r6.1.1 } : (LPopV MV)),({ y1 with m := r2.2.1 } : EnvP),()))
noncomputable abbrev aji : Con SR1 := ⟨243,[.ref 44,.ref 27],[.sh .b],fun x =>ah9 x.1 x.2.1⟩
theorem anY : CO Tryz.prog aji := aal aak Tryz.func243 [agR,acC,acD,auZ,ajQ,aqL] ⟨agD,abR,abB,awj,ai9,au5,trivial⟩ [] trivial (fun _ =>[]) [] fun x =>by kernel_rfl
noncomputable def agZ (y0 : Int) (y1 : Int) (y2 : QV) : Option ((MV × Unit) × (Unit)) :=
 some ((MV.reset (⟨⟨false,0,0⟩,y0,y1,y2,1,0⟩ : ResetV),()),())
noncomputable abbrev aiq : Con SR1 := ⟨153,[.sh sI_,.sh sI_,.val 14],[.sh .mach],fun x =>agZ x.1 x.2.1 x.2.2.1⟩
theorem akw : CO Tryz.prog aiq := aal aak Tryz.func153 [] trivial [] trivial (fun _ =>[]) [] fun x =>by kernel_rfl
noncomputable def ac1 (y0 : (LPopV MV)) (y1 : EnvP) : Option ((Bool × Unit) × ((LPopV MV) × EnvP × Unit)) :=
 (aax y0.o).bind fun r1 =>
 if r1.1.1 = true then
 some ((true,()),(({ y0 with o := r1.2.1 } : (LPopV MV)),y1,()))
 else
 if y0.line = 1 then
 (ah9 ({ y0 with o := r1.2.1 } : (LPopV MV)) y1).bind fun r2 =>
 some ((r2.1.1,()),(r2.2.1,r2.2.2.1,()))
 else
 (aiV y0.inside y1).bind fun r3 =>
 if (!r3.1.1) = true then
 some ((false,()),(({ y0 with o := r1.2.1,inside := r3.2.1 } : (LPopV MV)),r3.2.2.1,()))
 else
 (aeV r3.2.1).bind fun r4 =>
 if y0.line = 3 then
 some ((false,()),(({ y0 with o := r1.2.1,line := 1,inside := MV.nil } : (LPopV MV)),r3.2.2.1,()))
 else
 if r4.1.1 = 1 then
 (abe r1.2.1 1 r4.1.2.1).bind fun r5 =>
 some ((r5.1.1,()),(({ y0 with o := r5.2.1,inside := r4.2.1 } : (LPopV MV)),r3.2.2.1,()))
 else
 (ahk r3.2.2.1.l y0.worker).bind fun r6 =>
 if y0.level = y0.level then
 if y0.worker = y0.worker then
 if r3.2.2.1.l.workers = r3.2.2.1.l.workers then
 if r3.2.2.1.l.levels = r3.2.2.1.l.levels then
 if r3.2.2.1.l.classes = r3.2.2.1.l.classes then
 if r3.2.2.1.l.tasks = r3.2.2.1.l.tasks then
 if r3.2.2.1.l.deque = r3.2.2.1.l.deque then
 if r3.2.2.1.l.heap = r3.2.2.1.l.heap then
 if r3.2.2.1.l.sleepers = r3.2.2.1.l.sleepers then
 if r3.2.2.1.l.epochs = r3.2.2.1.l.epochs then
 if r3.2.2.1.l.bitmaps = r3.2.2.1.l.bitmaps then
 if r3.2.2.1.l.queues = r3.2.2.1.l.queues then
 if r3.2.2.1.l.table = r3.2.2.1.l.table then
 if y0.level = y0.level then
 (agQ r3.2.2.1.l y0.worker y0.level).bind fun r7 =>
 if y0.level = y0.level then
 (agZ r6.1.1 y0.level r7.1.1).bind fun r8 =>
 some ((false,()),(({ y0 with o := r1.2.1,line := 3,inside := r8.1.1 } : (LPopV MV)),r3.2.2.1,()))
 else none
 else none
 else none
 else none
 else none
 else none
 else none
 else none
 else none
 else none
 else none
 else none
 else none
 else none
 else none
noncomputable abbrev apw : Con SR1 := ⟨242,[.ref 44,.ref 27],[.sh .b],fun x =>ac1 x.1 x.2.1⟩
theorem anX : CO Tryz.prog apw := aal aak Tryz.func242 [abn,aji,arh,amu,acD,agR,ajQ,aiq] ⟨aa7,anY,atf,ao3,abB,agD,ai9,akw,trivial⟩ [] trivial (fun _ =>[]) [] fun x =>by kernel_rfl
noncomputable def adQ (m : MV) (e : EnvP) : Option ((Bool × Unit) × (MV × EnvP × Unit)) :=
 match m with
 | .alloc x =>(abZ x e).bind fun o =>some (o.1,(MV.alloc o.2.1,o.2.2))
 | .publish x =>(abN x e).bind fun o =>some (o.1,(MV.publish o.2.1,o.2.2))
 | .claim x =>(ac7 x e).bind fun o =>some (o.1,(MV.claim o.2.1,o.2.2))
 | .attempt x =>(acH x e).bind fun o =>some (o.1,(MV.attempt o.2.1,o.2.2))
 | .release x =>(acG x e).bind fun o =>some (o.1,(MV.release o.2.1,o.2.2))
 | .opush x =>(adu x e).bind fun o =>some (o.1,(MV.opush o.2.1,o.2.2))
 | .opop x =>(ad1 x e).bind fun o =>some (o.1,(MV.opop o.2.1,o.2.2))
 | .steal x =>(ac6 x e).bind fun o =>some (o.1,(MV.steal o.2.1,o.2.2))
 | .set x =>(ady x e).bind fun o =>some (o.1,(MV.set o.2.1,o.2.2))
 | .reset x =>(acJ x e).bind fun o =>some (o.1,(MV.reset o.2.1,o.2.2))
 | .insert x =>(abJ x e).bind fun o =>some (o.1,(MV.insert o.2.1,o.2.2))
 | .remove x =>(abI x e).bind fun o =>some (o.1,(MV.remove o.2.1,o.2.2))
 | .sleep x =>(acZ x e).bind fun o =>some (o.1,(MV.sleep o.2.1,o.2.2))
 | .wake x =>(adm x e).bind fun o =>some (o.1,(MV.wake o.2.1,o.2.2))
 | .raise x =>(acv x e).bind fun o =>some (o.1,(MV.raise o.2.1,o.2.2))
 | .probe x =>(abj x e).bind fun o =>some (o.1,(MV.probe o.2.1,o.2.2))
 | .lpush x =>(acu x e).bind fun o =>some (o.1,(MV.lpush o.2.1,o.2.2))
 | .lpop x =>(ac1 x e).bind fun o =>some (o.1,(MV.lpop o.2.1,o.2.2))
 | _ =>none
noncomputable abbrev ah0 : Con SR1 := ⟨1000000000,[.mch,.ref 27],[.sh .b],fun x =>adQ x.1 x.2.1⟩
theorem ak0 (m : MV) (xs : akR SR1 [.ref 27]) (out : akT SR1 [.sh .b] × (MV × ajF SR1 [.ref 27])) (h : adQ m xs.1 = some out) : aqv SR1 Tryz.prog 0 [.ref 27] [.sh .b] m xs out := by
 cases m with
 | alloc x =>exact aaz (.alloc x) xs out h
 | publish x =>exact aaz (.publish x) xs out h
 | claim x =>exact aaz (.claim x) xs out h
 | attempt x =>exact aaz (.attempt x) xs out h
 | release x =>exact aaz (.release x) xs out h
 | opush x =>exact aaz (.opush x) xs out h
 | opop x =>exact aaz (.opop x) xs out h
 | steal x =>exact aaz (.steal x) xs out h
 | set x =>exact aaz (.set x) xs out h
 | reset x =>exact aaz (.reset x) xs out h
 | insert x =>exact aaz (.insert x) xs out h
 | remove x =>exact aaz (.remove x) xs out h
 | sleep x =>exact aaz (.sleep x) xs out h
 | wake x =>exact aaz (.wake x) xs out h
 | raise x =>exact aaz (.raise x) xs out h
 | probe x =>exact aaz (.probe x) xs out h
 | lpush x =>exact aa9 (S := SR1) (ps := [.ref 27]) (rs := [.sh .b]) (c := 47) (mk := MV.lpush) (fun _ =>rfl) rfl (fun _ _ _ _ =>by kernel_rfl) amS h
 | lpop x =>exact aa9 (S := SR1) (ps := [.ref 27]) (rs := [.sh .b]) (c := 44) (mk := MV.lpop) (fun _ =>rfl) rfl (fun _ _ _ _ =>by kernel_rfl) anX h
 | _ =>cases h
theorem ahv : CO Tryz.prog ah0 := ajr (S := SR1) (i := 0) (ps := [.ref 27]) (rs := [.sh .b]) (spec := fun m xs =>adQ m xs.1) ak0
noncomputable def aby (m : MV) : Option ((Int × Int × Unit) × (MV × Unit)) :=
 match m with
 | .alloc x =>some ((x.o.code,x.o.value,()),(MV.alloc x,()))
 | .publish x =>some ((x.o.code,x.o.value,()),(MV.publish x,()))
 | .claim x =>some ((x.o.code,x.o.value,()),(MV.claim x,()))
 | .attempt x =>some ((x.o.code,x.o.value,()),(MV.attempt x,()))
 | .release x =>some ((x.o.code,x.o.value,()),(MV.release x,()))
 | .opush x =>some ((x.o.code,x.o.value,()),(MV.opush x,()))
 | .opop x =>some ((x.o.code,x.o.value,()),(MV.opop x,()))
 | .steal x =>some ((x.o.code,x.o.value,()),(MV.steal x,()))
 | .set x =>some ((x.o.code,x.o.value,()),(MV.set x,()))
 | .reset x =>some ((x.o.code,x.o.value,()),(MV.reset x,()))
 | .insert x =>some ((x.o.code,x.o.value,()),(MV.insert x,()))
 | .remove x =>some ((x.o.code,x.o.value,()),(MV.remove x,()))
 | .sleep x =>some ((x.o.code,x.o.value,()),(MV.sleep x,()))
 | .wake x =>some ((x.o.code,x.o.value,()),(MV.wake x,()))
 | .raise x =>some ((x.o.code,x.o.value,()),(MV.raise x,()))
 | .probe x =>some ((x.o.code,x.o.value,()),(MV.probe x,()))
 | .lpush x =>some ((x.o.code,x.o.value,()),(MV.lpush x,()))
 | .lpop x =>some ((x.o.code,x.o.value,()),(MV.lpop x,()))
 | _ =>none
noncomputable abbrev aft : Con SR1 := ⟨1000000001,[.mch],[.sh sI_,.sh sI_],fun x =>aby x.1⟩
theorem ahH (m : MV) (xs : akR SR1 []) (out : akT SR1 [.sh sI_,.sh sI_] × (MV × ajF SR1 [])) (h : aby m = some out) : aqv SR1 Tryz.prog 1 [] [.sh sI_,.sh sI_] m xs out := by
 cases m with
 | alloc x =>exact aaj (.alloc x) xs out h
 | publish x =>exact aaj (.publish x) xs out h
 | claim x =>exact aaj (.claim x) xs out h
 | attempt x =>exact aaj (.attempt x) xs out h
 | release x =>exact aaj (.release x) xs out h
 | opush x =>exact aaj (.opush x) xs out h
 | opop x =>exact aaj (.opop x) xs out h
 | steal x =>exact aaj (.steal x) xs out h
 | set x =>exact aaj (.set x) xs out h
 | reset x =>exact aaj (.reset x) xs out h
 | insert x =>exact aaj (.insert x) xs out h
 | remove x =>exact aaj (.remove x) xs out h
 | sleep x =>exact aaj (.sleep x) xs out h
 | wake x =>exact aaj (.wake x) xs out h
 | raise x =>exact aaj (.raise x) xs out h
 | probe x =>exact aaj (.probe x) xs out h
 | lpush x =>exact aa9 (S := SR1) (ps := []) (rs := [.sh sI_,.sh sI_]) (c := 47) (mk := MV.lpush) (f := 161) (sp := fun x =>some ((x.1.o.code,x.1.o.value,()),(x.1,()))) (fun _ =>rfl) rfl (fun _ _ _ _ =>by kernel_rfl) (acs [aaZ] ⟨aaT,trivial⟩ fun x =>by kernel_rfl) h
 | lpop x =>exact aa9 (S := SR1) (ps := []) (rs := [.sh sI_,.sh sI_]) (c := 44) (mk := MV.lpop) (f := 161) (sp := fun x =>some ((x.1.o.code,x.1.o.value,()),(x.1,()))) (fun _ =>rfl) rfl (fun _ _ _ _ =>by kernel_rfl) (acs [aaZ] ⟨aaT,trivial⟩ fun x =>by kernel_rfl) h
 | _ =>cases h
theorem afs : CO Tryz.prog aft := ajr (S := SR1) (i := 1) (ps := []) (rs := [.sh sI_,.sh sI_]) (spec := fun m _ =>aby m) ahH
noncomputable def am6 (y0 : Int) (y1 : Int) (y2 : Int) : Option ((MV × Unit) × (Unit)) :=
 some ((MV.raise (⟨⟨false,0,0⟩,y0,y1,y2,1,0⟩ : RaiseV),()),())
noncomputable abbrev anB : Con SR1 := ⟨270,[.sh sI_,.sh sI_,.sh sI_],[.sh .mach],fun x =>am6 x.1 x.2.1 x.2.2.1⟩
theorem asG : CO Tryz.prog anB := aal aak Tryz.func270 [] trivial [] trivial (fun _ =>[]) [] fun x =>by kernel_rfl
noncomputable def aes (y0 : (WalkV MV)) (y1 : EnvP) : Option ((Bool × Unit) × ((WalkV MV) × EnvP × Unit)) :=
 if (SR1.spl y0.inside).isNone = true then
 (ajz y1 y0.task y0.level).bind fun r1 =>
 if (!r1.1.1) = true then
 (abe y0.o 4 0).bind fun r2 =>
 some ((r2.1.1,()),(({ y0 with o := r2.2.1 } : (WalkV MV)),r1.2.1,()))
 else
 (am6 y0.worker y0.task y0.level).bind fun r3 =>
 (adQ r3.1.1 r1.2.1).bind fun r4 =>
 if (!r4.1.1) = true then
 some ((false,()),(({ y0 with inside := r4.2.1 } : (WalkV MV)),r4.2.2.1,()))
 else
 (aby r4.2.1).bind fun r5 =>
 if r5.1.1 = 1 then
 some ((false,()),(({ y0 with line := 2,inside := MV.nil } : (WalkV MV)),r4.2.2.1,()))
 else
 some ((false,()),(({ y0 with line := 4,inside := MV.nil } : (WalkV MV)),r4.2.2.1,()))
 else
 (adQ y0.inside y1).bind fun r6 =>
 if (!r6.1.1) = true then
 some ((false,()),(({ y0 with inside := r6.2.1 } : (WalkV MV)),r6.2.2.1,()))
 else
 (aby r6.2.1).bind fun r7 =>
 if r7.1.1 = 1 then
 some ((false,()),(({ y0 with line := 2,inside := MV.nil } : (WalkV MV)),r6.2.2.1,()))
 else
 some ((false,()),(({ y0 with line := 4,inside := MV.nil } : (WalkV MV)),r6.2.2.1,()))
noncomputable abbrev aiD : Con SR1 := ⟨267,[.ref 48,.ref 27],[.sh .b],fun x =>aes x.1 x.2.1⟩
theorem am4 : CO Tryz.prog aiD := aal aak Tryz.func267 [akP,acD,anB,ah0,aft] ⟨anC,abB,asG,ahv,afs,trivial⟩ [] trivial (fun _ =>[]) [] fun x =>by kernel_rfl
noncomputable def acB (y0 : Int) (y1 : Int) (y2 : Int) : Option ((MV × Unit) × (Unit)) :=
 some ((MV.lpush (⟨⟨false,0,0⟩,y0,y1,y2,1,MV.nil⟩ : (LPushV MV)),()),())
noncomputable abbrev aeO : Con SR1 := ⟨204,[.sh sI_,.sh sI_,.sh sI_],[.sh .mach],fun x =>acB x.1 x.2.1 x.2.2.1⟩
theorem aeZ : CO Tryz.prog aeO := aal aak Tryz.func204 [] trivial [] trivial (fun _ =>[]) [] fun x =>by kernel_rfl
noncomputable def aip (y0 : (WalkV MV)) (y1 : EnvP) : Option ((Unit) × ((WalkV MV) × EnvP × Unit)) :=
 (adQ y0.inside y1).bind fun r1 =>
 if (!r1.1.1) = true then
 some ((()),(({ y0 with inside := r1.2.1 } : (WalkV MV)),r1.2.2.1,()))
 else
 (aby r1.2.1).bind fun r2 =>
 if r2.1.1 = 3 then
 (aef r1.2.2.1 ({ y0 with kind := 19,other := 0 } : Ev)).bind fun r3 =>
 some ((()),(({ y0 with line := 4,inside := MV.nil } : (WalkV MV)),r3.2.1,()))
 else
 some ((()),(({ y0 with line := 4,inside := MV.nil } : (WalkV MV)),r1.2.2.1,()))
noncomputable abbrev ajx : Con SR1 := ⟨268,[.ref 48,.ref 27],[],fun x =>aip x.1 x.2.1⟩
theorem an4 : CO Tryz.prog ajx := aal aak Tryz.func268 [ah0,aft,afu] ⟨ahv,afs,aew,trivial⟩ [] trivial (fun _ =>[]) [] fun x =>by kernel_rfl
noncomputable def ab4 (y0 : (WalkV MV)) (y1 : EnvP) : Option ((Bool × Unit) × ((WalkV MV) × EnvP × Unit)) :=
 (aax y0.o).bind fun r1 =>
 if r1.1.1 = true then
 some ((true,()),(({ y0 with o := r1.2.1 } : (WalkV MV)),y1,()))
 else
 if y0.line = 1 then
 (aes ({ y0 with o := r1.2.1 } : (WalkV MV)) y1).bind fun r2 =>
 some ((r2.1.1,()),(r2.2.1,r2.2.2.1,()))
 else
 if y0.line = 2 then
 (adT y1.l y0.task).bind fun r3 =>
 (acA y1.m r3.1.1).bind fun r4 =>
 if r4.1.1 = 1 then
 (acB y0.worker y0.level y0.task).bind fun r5 =>
 some ((false,()),(({ y0 with o := r1.2.1,line := 3,inside := r5.1.1 } : (WalkV MV)),({ y1 with m := r4.2.1 } : EnvP),()))
 else
 some ((false,()),(({ y0 with o := r1.2.1,line := 4 } : (WalkV MV)),({ y1 with m := r4.2.1 } : EnvP),()))
 else
 if y0.line = 3 then
 (aip ({ y0 with o := r1.2.1 } : (WalkV MV)) y1).bind fun r6 =>
 some ((false,()),(r6.2.1,r6.2.2.1,()))
 else
 (ai6 y1.l y0.task).bind fun r7 =>
 (acA y1.m r7.1.1).bind fun r8 =>
 if r8.1.1 = 0 then
 (abe r1.2.1 0 0).bind fun r9 =>
 some ((r9.1.1,()),(({ y0 with o := r9.2.1 } : (WalkV MV)),({ y1 with m := r8.2.1 } : EnvP),()))
 else
 some ((false,()),(({ y0 with o := r1.2.1,task := wi (wu (r8.1.1 - 1)),line := 1 } : (WalkV MV)),({ y1 with m := r8.2.1 } : EnvP),()))
noncomputable abbrev ap9 : Con SR1 := ⟨266,[.ref 48,.ref 27],[.sh .b],fun x =>ab4 x.1 x.2.1⟩
theorem an3 : CO Tryz.prog ap9 := aal aak Tryz.func266 [abn,aiD,ad9,acC,aeO,ajx,aoe,acD] ⟨aa7,am4,adD,abR,aeZ,an4,apa,abB,trivial⟩ [] trivial (fun _ =>[]) [] fun x =>by kernel_rfl
noncomputable def afX (y0 : Int) : Option ((MV × Unit) × (Unit)) :=
 some ((MV.lpop (⟨⟨false,0,0⟩,y0,0,1,MV.nil⟩ : (LPopV MV)),()),())
noncomputable abbrev akH : Con SR1 := ⟨156,[.sh sI_],[.sh .mach],fun x =>afX x.1⟩
theorem ant : CO Tryz.prog akH := aal aak Tryz.func156 [] trivial [] trivial (fun _ =>[]) [] fun x =>by kernel_rfl
noncomputable def acz (y0 : Int) (y1 : Int) : Option ((MV × Unit) × (Unit)) :=
 some ((MV.claim (⟨⟨false,0,0⟩,y0,y1⟩ : ClaimV),()),())
noncomputable abbrev afR : Con SR1 := ⟨157,[.sh sI_,.sh sI_],[.sh .mach],fun x =>acz x.1 x.2.1⟩
theorem agp : CO Tryz.prog afR := aal aak Tryz.func157 [] trivial [] trivial (fun _ =>[]) [] fun x =>by kernel_rfl
noncomputable def aeK (y0 : (TakeV MV)) (y1 : EnvP) : Option ((Bool × Unit) × ((TakeV MV) × EnvP × Unit)) :=
 (aax y0.o).bind fun r1 =>
 if r1.1.1 = true then
 some ((true,()),(({ y0 with o := r1.2.1 } : (TakeV MV)),y1,()))
 else
 (adQ y0.inside y1).bind fun r2 =>
 if (!r2.1.1) = true then
 some ((false,()),(({ y0 with o := r1.2.1,inside := r2.2.1 } : (TakeV MV)),r2.2.2.1,()))
 else
 (aby r2.2.1).bind fun r3 =>
 if y0.claiming = true then
 if r3.1.1 = 1 then
 (abe r1.2.1 1 r3.1.2.1).bind fun r4 =>
 some ((r4.1.1,()),(({ y0 with o := r4.2.1,inside := r3.2.1 } : (TakeV MV)),r2.2.2.1,()))
 else
 if y0.claiming = true then
 (afX y0.worker).bind fun r5 =>
 some ((false,()),((⟨r1.2.1,y0.worker,false,r5.1.1⟩ : (TakeV MV)),r2.2.2.1,()))
 else
 if r3.1.1 = 2 then
 (abe r1.2.1 2 0).bind fun r6 =>
 some ((r6.1.1,()),(({ y0 with o := r6.2.1,inside := r3.2.1 } : (TakeV MV)),r2.2.2.1,()))
 else
 (acz y0.worker r3.1.2.1).bind fun r7 =>
 some ((false,()),((⟨r1.2.1,y0.worker,true,r7.1.1⟩ : (TakeV MV)),r2.2.2.1,()))
 else
 if y0.claiming = true then
 (afX y0.worker).bind fun r8 =>
 some ((false,()),((⟨r1.2.1,y0.worker,false,r8.1.1⟩ : (TakeV MV)),r2.2.2.1,()))
 else
 if r3.1.1 = 2 then
 (abe r1.2.1 2 0).bind fun r9 =>
 some ((r9.1.1,()),(({ y0 with o := r9.2.1,inside := r3.2.1 } : (TakeV MV)),r2.2.2.1,()))
 else
 (acz y0.worker r3.1.2.1).bind fun r10 =>
 some ((false,()),((⟨r1.2.1,y0.worker,true,r10.1.1⟩ : (TakeV MV)),r2.2.2.1,()))
noncomputable abbrev aqh : Con SR1 := ⟨199,[.ref 39,.ref 27],[.sh .b],fun x =>aeK x.1 x.2.1⟩
theorem aoL : CO Tryz.prog aqh := aal aak Tryz.func199 [abn,ah0,aft,acD,akH,afR] ⟨aa7,ahv,afs,abB,ant,agp,trivial⟩ [] trivial (fun _ =>[]) [] fun x =>by kernel_rfl
noncomputable def abE (y0 : (SweepV MV)) (y1 : EnvP) : Option ((Bool × Unit) × ((SweepV MV) × EnvP × Unit)) :=
 if y0.line = 1 then
 ((
 if y0.task < 0 then
 some (true,y0,y1,())
 else
 if y1.c.tasks ≤ y0.task then
 some (true,y0,y1,())
 else
 some (decide (y1.c.age = 0),y0,y1,())
 ) : Option (Bool × (SweepV MV) × EnvP × Unit)).bind fun z1 =>
 if z1.1 = true then
 some ((true,()),(z1.2.1,z1.2.2.1,()))
 else
 (adT z1.2.2.1.l z1.2.1.task).bind fun r2 =>
 (acA z1.2.2.1.m r2.1.1).bind fun r3 =>
 some ((decide (r3.1.1 ≠ 1),()),(z1.2.1,({ z1.2.2.1 with m := r3.2.1 } : EnvP),()))
 else
 if y0.line = 2 then
 (aiy y1.l y0.task).bind fun r4 =>
 (acA y1.m r4.1.1).bind fun r5 =>
 (arD y1.k).bind fun r6 =>
 if y1.c.age = y1.c.age then
 some ((decide ((wi (r6.1.1 - (wi (r5.1.1)))) < y1.c.age),()),(y0,({ y1 with m := r5.2.1,k := r6.2.1 } : EnvP),()))
 else none
 else
 (afc y1.l y0.task).bind fun r7 =>
 (acA y1.m r7.1.1).bind fun r8 =>
 some ((decide ((wi (y1.c.levels - 1)) ≤ (wi (r8.1.1))),()),(({ y0 with q := r8.1.1 } : (SweepV MV)),({ y1 with m := r8.2.1 } : EnvP),()))
noncomputable abbrev aiE : Con SR1 := ⟨202,[.ref 40,.ref 27],[.sh .b],fun x =>abE x.1 x.2.1⟩
theorem ane : CO Tryz.prog aiE := aal aak Tryz.func202 [ad9,acC,ajP,anr,agt] ⟨adD,abR,ai7,akE,afS,trivial⟩ [] trivial (fun _ =>[]) [(4,.cut [.rg 36 .b,.ob 0 40,.ob 1 27] [])] fun x =>by kernel_rfl
noncomputable def abM (y0 : (SweepV MV)) (y1 : Int) : Option ((Ev × Unit) × ((SweepV MV) × Unit)) :=
 some ((({ y0 with kind := y1,other := 0,level := wi ((wi (y0.q)) + 1) } : Ev),()),(y0,()))
noncomputable abbrev ahV : Con SR1 := ⟨203,[.ref 40,.sh sI_],[.val 2],fun x =>abM x.1 x.2.1⟩
theorem amd : CO Tryz.prog ahV := aal aak Tryz.func203 [] trivial [] trivial (fun _ =>[]) [] fun x =>by kernel_rfl
noncomputable def aaD (y0 : (SweepV MV)) (y1 : EnvP) : Option ((Bool × Unit) × ((SweepV MV) × EnvP × Unit)) :=
 (aax y0.o).bind fun r1 =>
 if r1.1.1 = true then
 some ((true,()),(({ y0 with o := r1.2.1 } : (SweepV MV)),y1,()))
 else
 if y0.line = 1 then
 if y0.line = 1 then
 (abE ({ y0 with o := r1.2.1 } : (SweepV MV)) y1).bind fun r2 =>
 if r2.1.1 = true then
 (abe r2.2.1.o 0 0).bind fun r3 =>
 some ((r3.1.1,()),(({ r2.2.1 with o := r3.2.1 } : (SweepV MV)),r2.2.2.1,()))
 else
 some ((false,()),(({ r2.2.1 with line := wi (r2.2.1.line + 1) } : (SweepV MV)),r2.2.2.1,()))
 else
 if y0.line = 4 then
 (afc y1.l y0.task).bind fun r4 =>
 if y0.q = y0.q then
 if y0.q = y0.q then
 (as3 y1.m r4.1.1 y0.q (wu (y0.q + 1))).bind fun r5 =>
 if (!r5.1.1) = true then
 (abe r1.2.1 4 0).bind fun r6 =>
 some ((r6.1.1,()),(({ y0 with o := r6.2.1 } : (SweepV MV)),({ y1 with m := r5.2.1 } : EnvP),()))
 else
 (abM ({ y0 with o := r1.2.1 } : (SweepV MV)) 12).bind fun r7 =>
 (aef ({ y1 with m := r5.2.1 } : EnvP) r7.1.1).bind fun r8 =>
 some ((false,()),(({ r7.2.1 with line := wi (r7.2.1.line + 1) } : (SweepV MV)),r8.2.1,()))
 else none
 else none
 else
 if y0.line = 5 then
 (aiy y1.l y0.task).bind fun r9 =>
 (arD y1.k).bind fun r10 =>
 (aa4 y1.m r9.1.1 (wu (r10.1.1))).bind fun r11 =>
 (acB y0.worker (wi ((wi (y0.q)) + 1)) y0.task).bind fun r12 =>
 some ((false,()),(({ y0 with o := r1.2.1,line := wi (y0.line + 1),push := r12.1.1 } : (SweepV MV)),({ y1 with m := r11.2.1,k := r10.2.1 } : EnvP),()))
 else
 (adQ y0.push y1).bind fun r13 =>
 if (!r13.1.1) = true then
 some ((false,()),(({ y0 with o := r1.2.1,push := r13.2.1 } : (SweepV MV)),r13.2.2.1,()))
 else
 (aby r13.2.1).bind fun r14 =>
 if r14.1.1 = 3 then
 (abM ({ y0 with o := r1.2.1,push := r14.2.1 } : (SweepV MV)) 19).bind fun r15 =>
 (aef r13.2.2.1 r15.1.1).bind fun r16 =>
 (abe r15.2.1.o 1 0).bind fun r17 =>
 some ((r17.1.1,()),(({ r15.2.1 with o := r17.2.1 } : (SweepV MV)),r16.2.1,()))
 else
 (abe r1.2.1 1 0).bind fun r18 =>
 some ((r18.1.1,()),(({ y0 with o := r18.2.1,push := r14.2.1 } : (SweepV MV)),r13.2.2.1,()))
 else
 if y0.line = 2 then
 if y0.line = 2 then
 (abE ({ y0 with o := r1.2.1 } : (SweepV MV)) y1).bind fun r19 =>
 if r19.1.1 = true then
 (abe r19.2.1.o 0 0).bind fun r20 =>
 some ((r20.1.1,()),(({ r19.2.1 with o := r20.2.1 } : (SweepV MV)),r19.2.2.1,()))
 else
 some ((false,()),(({ r19.2.1 with line := wi (r19.2.1.line + 1) } : (SweepV MV)),r19.2.2.1,()))
 else
 if y0.line = 4 then
 (afc y1.l y0.task).bind fun r21 =>
 if y0.q = y0.q then
 if y0.q = y0.q then
 (as3 y1.m r21.1.1 y0.q (wu (y0.q + 1))).bind fun r22 =>
 if (!r22.1.1) = true then
 (abe r1.2.1 4 0).bind fun r23 =>
 some ((r23.1.1,()),(({ y0 with o := r23.2.1 } : (SweepV MV)),({ y1 with m := r22.2.1 } : EnvP),()))
 else
 (abM ({ y0 with o := r1.2.1 } : (SweepV MV)) 12).bind fun r24 =>
 (aef ({ y1 with m := r22.2.1 } : EnvP) r24.1.1).bind fun r25 =>
 some ((false,()),(({ r24.2.1 with line := wi (r24.2.1.line + 1) } : (SweepV MV)),r25.2.1,()))
 else none
 else none
 else
 if y0.line = 5 then
 (aiy y1.l y0.task).bind fun r26 =>
 (arD y1.k).bind fun r27 =>
 (aa4 y1.m r26.1.1 (wu (r27.1.1))).bind fun r28 =>
 (acB y0.worker (wi ((wi (y0.q)) + 1)) y0.task).bind fun r29 =>
 some ((false,()),(({ y0 with o := r1.2.1,line := wi (y0.line + 1),push := r29.1.1 } : (SweepV MV)),({ y1 with m := r28.2.1,k := r27.2.1 } : EnvP),()))
 else
 (adQ y0.push y1).bind fun r30 =>
 if (!r30.1.1) = true then
 some ((false,()),(({ y0 with o := r1.2.1,push := r30.2.1 } : (SweepV MV)),r30.2.2.1,()))
 else
 (aby r30.2.1).bind fun r31 =>
 if r31.1.1 = 3 then
 (abM ({ y0 with o := r1.2.1,push := r31.2.1 } : (SweepV MV)) 19).bind fun r32 =>
 (aef r30.2.2.1 r32.1.1).bind fun r33 =>
 (abe r32.2.1.o 1 0).bind fun r34 =>
 some ((r34.1.1,()),(({ r32.2.1 with o := r34.2.1 } : (SweepV MV)),r33.2.1,()))
 else
 (abe r1.2.1 1 0).bind fun r35 =>
 some ((r35.1.1,()),(({ y0 with o := r35.2.1,push := r31.2.1 } : (SweepV MV)),r30.2.2.1,()))
 else
 if y0.line = 3 then
 (abE ({ y0 with o := r1.2.1 } : (SweepV MV)) y1).bind fun r36 =>
 if r36.1.1 = true then
 (abe r36.2.1.o 0 0).bind fun r37 =>
 some ((r37.1.1,()),(({ r36.2.1 with o := r37.2.1 } : (SweepV MV)),r36.2.2.1,()))
 else
 some ((false,()),(({ r36.2.1 with line := wi (r36.2.1.line + 1) } : (SweepV MV)),r36.2.2.1,()))
 else
 if y0.line = 4 then
 (afc y1.l y0.task).bind fun r38 =>
 if y0.q = y0.q then
 if y0.q = y0.q then
 (as3 y1.m r38.1.1 y0.q (wu (y0.q + 1))).bind fun r39 =>
 if (!r39.1.1) = true then
 (abe r1.2.1 4 0).bind fun r40 =>
 some ((r40.1.1,()),(({ y0 with o := r40.2.1 } : (SweepV MV)),({ y1 with m := r39.2.1 } : EnvP),()))
 else
 (abM ({ y0 with o := r1.2.1 } : (SweepV MV)) 12).bind fun r41 =>
 (aef ({ y1 with m := r39.2.1 } : EnvP) r41.1.1).bind fun r42 =>
 some ((false,()),(({ r41.2.1 with line := wi (r41.2.1.line + 1) } : (SweepV MV)),r42.2.1,()))
 else none
 else none
 else
 if y0.line = 5 then
 (aiy y1.l y0.task).bind fun r43 =>
 (arD y1.k).bind fun r44 =>
 (aa4 y1.m r43.1.1 (wu (r44.1.1))).bind fun r45 =>
 (acB y0.worker (wi ((wi (y0.q)) + 1)) y0.task).bind fun r46 =>
 some ((false,()),(({ y0 with o := r1.2.1,line := wi (y0.line + 1),push := r46.1.1 } : (SweepV MV)),({ y1 with m := r45.2.1,k := r44.2.1 } : EnvP),()))
 else
 (adQ y0.push y1).bind fun r47 =>
 if (!r47.1.1) = true then
 some ((false,()),(({ y0 with o := r1.2.1,push := r47.2.1 } : (SweepV MV)),r47.2.2.1,()))
 else
 (aby r47.2.1).bind fun r48 =>
 if r48.1.1 = 3 then
 (abM ({ y0 with o := r1.2.1,push := r48.2.1 } : (SweepV MV)) 19).bind fun r49 =>
 (aef r47.2.2.1 r49.1.1).bind fun r50 =>
 (abe r49.2.1.o 1 0).bind fun r51 =>
 some ((r51.1.1,()),(({ r49.2.1 with o := r51.2.1 } : (SweepV MV)),r50.2.1,()))
 else
 (abe r1.2.1 1 0).bind fun r52 =>
 some ((r52.1.1,()),(({ y0 with o := r52.2.1,push := r48.2.1 } : (SweepV MV)),r47.2.2.1,()))
noncomputable abbrev an7 : Con SR1 := ⟨201,[.ref 40,.ref 27],[.sh .b],fun x =>aaD x.1 x.2.1⟩
theorem anc : CO Tryz.prog an7 := aal aak Tryz.func201 [abn,aiE,acD,agt,alu,ahV,afu,ajP,anr,adS,aeO,ah0,aft] ⟨aa7,ane,abB,afS,ajc,amd,aew,ai7,akE,adg,aeZ,ahv,afs,trivial⟩ [] trivial (fun _ =>[]) [] fun x =>by kernel_rfl
noncomputable def ab1 (y0 : (EnterV MV)) (y1 : EnvP) : Option ((Bool × Unit) × ((EnterV MV) × EnvP × Unit)) :=
 (aax y0.o).bind fun r1 =>
 if r1.1.1 = true then
 some ((true,()),(({ y0 with o := r1.2.1 } : (EnterV MV)),y1,()))
 else
 if y0.line = 1 then
 (afq y1 y0.task).bind fun r2 =>
 if (!r2.1.1) = true then
 (abe r1.2.1 4 0).bind fun r3 =>
 some ((r3.1.1,()),(({ y0 with o := r3.2.1 } : (EnterV MV)),r2.2.1,()))
 else
 (aiy r2.2.1.l y0.task).bind fun r4 =>
 (arD r2.2.1.k).bind fun r5 =>
 (aa4 r2.2.1.m r4.1.1 (wu (r5.1.1))).bind fun r6 =>
 some ((false,()),(({ y0 with o := r1.2.1,line := wi (y0.line + 1) } : (EnterV MV)),({ r2.2.1 with m := r6.2.1,k := r5.2.1 } : EnvP),()))
 else
 if y0.line = 2 then
 (adT y1.l y0.task).bind fun r7 =>
 (aa4 y1.m r7.1.1 1).bind fun r8 =>
 some ((false,()),(({ y0 with o := r1.2.1,line := wi (y0.line + 1) } : (EnterV MV)),({ y1 with m := r8.2.1 } : EnvP),()))
 else
 if y0.line = 3 then
 (afc y1.l y0.task).bind fun r9 =>
 (acA y1.m r9.1.1).bind fun r10 =>
 (acB y0.worker (wi (r10.1.1)) y0.task).bind fun r11 =>
 some ((false,()),(({ y0 with o := r1.2.1,level := wi (r10.1.1),line := wi (y0.line + 1),push := r11.1.1 } : (EnterV MV)),({ y1 with m := r10.2.1 } : EnvP),()))
 else
 (adQ y0.push y1).bind fun r12 =>
 if (!r12.1.1) = true then
 some ((false,()),(({ y0 with o := r1.2.1,push := r12.2.1 } : (EnterV MV)),r12.2.2.1,()))
 else
 (aby r12.2.1).bind fun r13 =>
 (abe r1.2.1 r13.1.1 y0.level).bind fun r14 =>
 some ((r14.1.1,()),(({ y0 with o := r14.2.1,push := r13.2.1 } : (EnterV MV)),r12.2.2.1,()))
noncomputable abbrev anG : Con SR1 := ⟨272,[.ref 49,.ref 27],[.sh .b],fun x =>ab1 x.1 x.2.1⟩
theorem amj : CO Tryz.prog anG := aal aak Tryz.func272 [abn,ago,acD,ajP,anr,adS,ad9,agt,acC,aeO,ah0,aft] ⟨aa7,ahi,abB,ai7,akE,adg,adD,afS,abR,aeZ,ahv,afs,trivial⟩ [] trivial (fun _ =>[]) [] fun x =>by kernel_rfl
noncomputable def ave (y0 : Int) : Option ((MV × Unit) × (Unit)) :=
 some ((MV.attempt (⟨⟨false,0,0⟩,y0,true⟩ : AttemptV),()),())
noncomputable abbrev atX : Con SR1 := ⟨209,[.sh sI_],[.sh .mach],fun x =>ave x.1⟩
theorem axD : CO Tryz.prog atX := aal aak Tryz.func209 [] trivial [] trivial (fun _ =>[]) [] fun x =>by kernel_rfl
noncomputable def aaO (y0 : (DrainV MV)) (y1 : Int) (y2 : MV) : Option ((Unit) × ((DrainV MV) × Unit)) :=
 some ((()),(({ y0 with line := y1,inside := y2 } : (DrainV MV)),()))
noncomputable abbrev ad4 : Con SR1 := ⟨208,[.ref 41,.sh sI_,.sh .mach],[],fun x =>aaO x.1 x.2.1 x.2.2.1⟩
theorem aex : CO Tryz.prog ad4 := aal aak Tryz.func208 [] trivial [] trivial (fun _ =>[]) [] fun x =>by kernel_rfl
noncomputable def afJ (y0 : Int) : Option ((MV × Unit) × (Unit)) :=
 some ((MV.remove (⟨⟨false,0,0⟩,y0,1,0,0,0,0,0,0⟩ : RemoveV),()),())
noncomputable abbrev aiA : Con SR1 := ⟨214,[.sh sI_],[.sh .mach],fun x =>afJ x.1⟩
theorem amV : CO Tryz.prog aiA := aal aak Tryz.func214 [] trivial [] trivial (fun _ =>[]) [] fun x =>by kernel_rfl
noncomputable def abo (y0 : (DrainV MV)) : Option ((Unit) × ((DrainV MV) × Unit)) :=
 (afJ y0.worker).bind fun r1 =>
 (aaO y0 3 r1.1.1).bind fun r2 =>
 some ((()),(r2.2.1,()))
noncomputable abbrev ahb : Con SR1 := ⟨211,[.ref 41],[],fun x =>abo x.1⟩
theorem akK : CO Tryz.prog ahb := aal aak Tryz.func211 [aiA,ad4] ⟨amV,aex,trivial⟩ [] trivial (fun _ =>[]) [] fun x =>by kernel_rfl
noncomputable def afw  : Option ((MV × Unit) × (Unit)) :=
 some ((MV.release (⟨⟨false,0,0⟩⟩ : ReleaseV),()),())
noncomputable abbrev ah7 : Con SR1 := ⟨121,[],[.sh .mach],fun x =>afw ⟩
theorem akq : CO Tryz.prog ah7 := aal aak Tryz.func121 [] trivial [] trivial (fun _ =>[]) [] fun x =>by kernel_rfl
noncomputable def aa2 (y0 : (DrainV MV)) : Option ((Unit) × ((DrainV MV) × Unit)) :=
 (afw).bind fun r1 =>
 (aaO y0 6 r1.1.1).bind fun r2 =>
 some ((()),(r2.2.1,()))
noncomputable abbrev aeF : Con SR1 := ⟨207,[.ref 41],[],fun x =>aa2 x.1⟩
theorem agm : CO Tryz.prog aeF := aal aak Tryz.func207 [ah7,ad4] ⟨akq,aex,trivial⟩ [] trivial (fun _ =>[]) [] fun x =>by kernel_rfl
noncomputable def acS (y0 : (DrainV MV)) (y1 : Int) : Option ((Unit) × ((DrainV MV) × Unit)) :=
 if y1 = 3 then
 (aa2 ({ y0 with direct := true } : (DrainV MV))).bind fun r1 =>
 some ((()),(r1.2.1,()))
 else
 some ((()),(({ y0 with last := y0.p,count := wi (y0.count + 1) } : (DrainV MV)),()))
noncomputable abbrev ahc : Con SR1 := ⟨212,[.ref 41,.sh sI_],[],fun x =>acS x.1 x.2.1⟩
theorem akL : CO Tryz.prog ahc := aal aak Tryz.func212 [aeF] ⟨agm,trivial⟩ [] trivial (fun _ =>[]) [] fun x =>by kernel_rfl
noncomputable def acY (y0 : Int) (y1 : Int) : Option ((MV × Unit) × (Unit)) :=
 some ((MV.wake (⟨⟨false,0,0⟩,y0,y1,1,0,0⟩ : WakeV),()),())
noncomputable abbrev ahJ : Con SR1 := ⟨122,[.sh sI_,.sh sI_],[.sh .mach],fun x =>acY x.1 x.2.1⟩
theorem ah1 : CO Tryz.prog ahJ := aal aak Tryz.func122 [] trivial [] trivial (fun _ =>[]) [] fun x =>by kernel_rfl
noncomputable def aa0 (y0 : (DrainV MV)) : Option ((Bool × Unit) × ((DrainV MV) × Unit)) :=
 if y0.direct = true then
 (abe y0.o 1 y0.x).bind fun r1 =>
 some ((r1.1.1,()),(({ y0 with o := r1.2.1 } : (DrainV MV)),()))
 else
 if 0 < y0.count then
 (abe y0.o 0 y0.count).bind fun r2 =>
 some ((r2.1.1,()),(({ y0 with o := r2.2.1 } : (DrainV MV)),()))
 else
 (abe y0.o 2 0).bind fun r3 =>
 some ((r3.1.1,()),(({ y0 with o := r3.2.1 } : (DrainV MV)),()))
noncomputable abbrev ahd : Con SR1 := ⟨213,[.ref 41],[.sh .b],fun x =>aa0 x.1⟩
theorem akM : CO Tryz.prog ahd := aal aak Tryz.func213 [acD] ⟨abB,trivial⟩ [] trivial (fun _ =>[]) [] fun x =>by kernel_rfl
noncomputable def acI (y0 : (DrainV MV)) (y1 : EnvP) (y2 : Int) (y3 : Int) : Option ((Bool × Unit) × ((DrainV MV) × EnvP × Unit)) :=
 if y0.line = 2 then
 if y2 = 5 then
 (abe y0.o 5 0).bind fun r1 =>
 some ((r1.1.1,()),(({ y0 with o := r1.2.1 } : (DrainV MV)),y1,()))
 else
 if y0.line = 2 then
 (abo y0).bind fun r2 =>
 some ((false,()),(r2.2.1,y1,()))
 else
 if y0.line = 3 then
 if y2 = 2 then
 (aa2 y0).bind fun r3 =>
 some ((false,()),(r3.2.1,y1,()))
 else
 if y0.line = 3 then
 (aaO ({ y0 with x := y3 } : (DrainV MV)) 4 MV.nil).bind fun r4 =>
 some ((false,()),(r4.2.1,y1,()))
 else
 if y0.line = 5 then
 (acS y0 y2).bind fun r5 =>
 if r5.2.1.direct = true then
 some ((false,()),(r5.2.1,y1,()))
 else
 if r5.2.1.count < y1.c.batch then
 (abo r5.2.1).bind fun r6 =>
 some ((false,()),(r6.2.1,y1,()))
 else
 (aa2 r5.2.1).bind fun r7 =>
 some ((false,()),(r7.2.1,y1,()))
 else
 if y0.line = 6 then
 if 0 < y0.count then
 (acY y0.worker y0.last).bind fun r8 =>
 (aaO y0 7 r8.1.1).bind fun r9 =>
 some ((false,()),(r9.2.1,y1,()))
 else
 (aa0 y0).bind fun r10 =>
 some ((r10.1.1,()),(r10.2.1,y1,()))
 else
 (aa0 y0).bind fun r11 =>
 some ((r11.1.1,()),(r11.2.1,y1,()))
 else
 if y0.line = 3 then
 (aaO ({ y0 with x := y3 } : (DrainV MV)) 4 MV.nil).bind fun r12 =>
 some ((false,()),(r12.2.1,y1,()))
 else
 if y0.line = 5 then
 (acS y0 y2).bind fun r13 =>
 if r13.2.1.direct = true then
 some ((false,()),(r13.2.1,y1,()))
 else
 if r13.2.1.count < y1.c.batch then
 (abo r13.2.1).bind fun r14 =>
 some ((false,()),(r14.2.1,y1,()))
 else
 (aa2 r13.2.1).bind fun r15 =>
 some ((false,()),(r15.2.1,y1,()))
 else
 if y0.line = 6 then
 if 0 < y0.count then
 (acY y0.worker y0.last).bind fun r16 =>
 (aaO y0 7 r16.1.1).bind fun r17 =>
 some ((false,()),(r17.2.1,y1,()))
 else
 (aa0 y0).bind fun r18 =>
 some ((r18.1.1,()),(r18.2.1,y1,()))
 else
 (aa0 y0).bind fun r19 =>
 some ((r19.1.1,()),(r19.2.1,y1,()))
 else
 if y0.line = 2 then
 (abo y0).bind fun r20 =>
 some ((false,()),(r20.2.1,y1,()))
 else
 if y0.line = 3 then
 if y2 = 2 then
 (aa2 y0).bind fun r21 =>
 some ((false,()),(r21.2.1,y1,()))
 else
 if y0.line = 3 then
 (aaO ({ y0 with x := y3 } : (DrainV MV)) 4 MV.nil).bind fun r22 =>
 some ((false,()),(r22.2.1,y1,()))
 else
 if y0.line = 5 then
 (acS y0 y2).bind fun r23 =>
 if r23.2.1.direct = true then
 some ((false,()),(r23.2.1,y1,()))
 else
 if r23.2.1.count < y1.c.batch then
 (abo r23.2.1).bind fun r24 =>
 some ((false,()),(r24.2.1,y1,()))
 else
 (aa2 r23.2.1).bind fun r25 =>
 some ((false,()),(r25.2.1,y1,()))
 else
 if y0.line = 6 then
 if 0 < y0.count then
 (acY y0.worker y0.last).bind fun r26 =>
 (aaO y0 7 r26.1.1).bind fun r27 =>
 some ((false,()),(r27.2.1,y1,()))
 else
 (aa0 y0).bind fun r28 =>
 some ((r28.1.1,()),(r28.2.1,y1,()))
 else
 (aa0 y0).bind fun r29 =>
 some ((r29.1.1,()),(r29.2.1,y1,()))
 else
 if y0.line = 3 then
 (aaO ({ y0 with x := y3 } : (DrainV MV)) 4 MV.nil).bind fun r30 =>
 some ((false,()),(r30.2.1,y1,()))
 else
 if y0.line = 5 then
 (acS y0 y2).bind fun r31 =>
 if r31.2.1.direct = true then
 some ((false,()),(r31.2.1,y1,()))
 else
 if r31.2.1.count < y1.c.batch then
 (abo r31.2.1).bind fun r32 =>
 some ((false,()),(r32.2.1,y1,()))
 else
 (aa2 r31.2.1).bind fun r33 =>
 some ((false,()),(r33.2.1,y1,()))
 else
 if y0.line = 6 then
 if 0 < y0.count then
 (acY y0.worker y0.last).bind fun r34 =>
 (aaO y0 7 r34.1.1).bind fun r35 =>
 some ((false,()),(r35.2.1,y1,()))
 else
 (aa0 y0).bind fun r36 =>
 some ((r36.1.1,()),(r36.2.1,y1,()))
 else
 (aa0 y0).bind fun r37 =>
 some ((r37.1.1,()),(r37.2.1,y1,()))
noncomputable abbrev ahQ : Con SR1 := ⟨210,[.ref 41,.ref 27,.sh sI_,.sh sI_],[.sh .b],fun x =>acI x.1 x.2.1 x.2.2.1 x.2.2.2.1⟩
theorem alX : CO Tryz.prog ahQ := aal aak Tryz.func210 [acD,ahb,aeF,ad4,ahc,ahJ,ahd] ⟨abB,akK,agm,aex,akL,ah1,akM,trivial⟩ [] trivial (fun _ =>[]) [] fun x =>by kernel_rfl
noncomputable def abl (y0 : (DrainV MV)) (y1 : EnvP) : Option ((Bool × Unit) × ((DrainV MV) × EnvP × Unit)) :=
 (aax y0.o).bind fun r1 =>
 if r1.1.1 = true then
 some ((true,()),(({ y0 with o := r1.2.1 } : (DrainV MV)),y1,()))
 else
 if y0.line = 1 then
 (agl y1.l).bind fun r2 =>
 (acA y1.m r2.1.1).bind fun r3 =>
 if (wi (r3.1.1)) ≤ 0 then
 (abe r1.2.1 2 0).bind fun r4 =>
 some ((r4.1.1,()),(({ y0 with o := r4.2.1 } : (DrainV MV)),({ y1 with m := r3.2.1 } : EnvP),()))
 else
 (ave y0.worker).bind fun r5 =>
 (aaO ({ y0 with o := r1.2.1 } : (DrainV MV)) 2 r5.1.1).bind fun r6 =>
 some ((false,()),(r6.2.1,({ y1 with m := r3.2.1 } : EnvP),()))
 else
 if y0.line = 4 then
 (afc y1.l y0.x).bind fun r7 =>
 (acA y1.m r7.1.1).bind fun r8 =>
 (acB y0.worker (wi (r8.1.1)) y0.x).bind fun r9 =>
 (aaO ({ y0 with o := r1.2.1,p := wi (r8.1.1) } : (DrainV MV)) 5 r9.1.1).bind fun r10 =>
 some ((false,()),(r10.2.1,({ y1 with m := r8.2.1 } : EnvP),()))
 else
 (adQ y0.inside y1).bind fun r11 =>
 if (!r11.1.1) = true then
 some ((false,()),(({ y0 with o := r1.2.1,inside := r11.2.1 } : (DrainV MV)),r11.2.2.1,()))
 else
 (aby r11.2.1).bind fun r12 =>
 (acI ({ y0 with o := r1.2.1,inside := r12.2.1 } : (DrainV MV)) r11.2.2.1 r12.1.1 r12.1.2.1).bind fun r13 =>
 some ((r13.1.1,()),(r13.2.1,r13.2.2.1,()))
noncomputable abbrev an0 : Con SR1 := ⟨206,[.ref 41,.ref 27],[.sh .b],fun x =>abl x.1 x.2.1⟩
theorem amZ : CO Tryz.prog an0 := aal aak Tryz.func206 [abn,ajR,acC,acD,atX,ad4,agt,aeO,ah0,aft,ahQ] ⟨aa7,ajb,abR,abB,axD,aex,afS,aeZ,ahv,afs,alX,trivial⟩ [] trivial (fun _ =>[]) [] fun x =>by kernel_rfl
noncomputable def aeT (m : MV) (e : EnvP) : Option ((Bool × Unit) × (MV × EnvP × Unit)) :=
 match m with
 | .alloc x =>(abZ x e).bind fun o =>some (o.1,(MV.alloc o.2.1,o.2.2))
 | .publish x =>(abN x e).bind fun o =>some (o.1,(MV.publish o.2.1,o.2.2))
 | .claim x =>(ac7 x e).bind fun o =>some (o.1,(MV.claim o.2.1,o.2.2))
 | .attempt x =>(acH x e).bind fun o =>some (o.1,(MV.attempt o.2.1,o.2.2))
 | .release x =>(acG x e).bind fun o =>some (o.1,(MV.release o.2.1,o.2.2))
 | .opush x =>(adu x e).bind fun o =>some (o.1,(MV.opush o.2.1,o.2.2))
 | .opop x =>(ad1 x e).bind fun o =>some (o.1,(MV.opop o.2.1,o.2.2))
 | .steal x =>(ac6 x e).bind fun o =>some (o.1,(MV.steal o.2.1,o.2.2))
 | .set x =>(ady x e).bind fun o =>some (o.1,(MV.set o.2.1,o.2.2))
 | .reset x =>(acJ x e).bind fun o =>some (o.1,(MV.reset o.2.1,o.2.2))
 | .insert x =>(abJ x e).bind fun o =>some (o.1,(MV.insert o.2.1,o.2.2))
 | .remove x =>(abI x e).bind fun o =>some (o.1,(MV.remove o.2.1,o.2.2))
 | .sleep x =>(acZ x e).bind fun o =>some (o.1,(MV.sleep o.2.1,o.2.2))
 | .wake x =>(adm x e).bind fun o =>some (o.1,(MV.wake o.2.1,o.2.2))
 | .raise x =>(acv x e).bind fun o =>some (o.1,(MV.raise o.2.1,o.2.2))
 | .probe x =>(abj x e).bind fun o =>some (o.1,(MV.probe o.2.1,o.2.2))
 | .lpush x =>(acu x e).bind fun o =>some (o.1,(MV.lpush o.2.1,o.2.2))
 | .lpop x =>(ac1 x e).bind fun o =>some (o.1,(MV.lpop o.2.1,o.2.2))
 | .walk x =>(ab4 x e).bind fun o =>some (o.1,(MV.walk o.2.1,o.2.2))
 | .take x =>(aeK x e).bind fun o =>some (o.1,(MV.take o.2.1,o.2.2))
 | .sweep x =>(aaD x e).bind fun o =>some (o.1,(MV.sweep o.2.1,o.2.2))
 | .enter x =>(ab1 x e).bind fun o =>some (o.1,(MV.enter o.2.1,o.2.2))
 | .drain x =>(abl x e).bind fun o =>some (o.1,(MV.drain o.2.1,o.2.2))
 | _ =>none
noncomputable abbrev an8 : Con SR1 := ⟨1000000000,[.mch,.ref 27],[.sh .b],fun x =>aeT x.1 x.2.1⟩
theorem ajK (m : MV) (xs : akR SR1 [.ref 27]) (out : akT SR1 [.sh .b] × (MV × ajF SR1 [.ref 27])) (h : aeT m xs.1 = some out) : aqv SR1 Tryz.prog 0 [.ref 27] [.sh .b] m xs out := by
 cases m with
 | alloc x =>exact aaz (.alloc x) xs out h
 | publish x =>exact aaz (.publish x) xs out h
 | claim x =>exact aaz (.claim x) xs out h
 | attempt x =>exact aaz (.attempt x) xs out h
 | release x =>exact aaz (.release x) xs out h
 | opush x =>exact aaz (.opush x) xs out h
 | opop x =>exact aaz (.opop x) xs out h
 | steal x =>exact aaz (.steal x) xs out h
 | set x =>exact aaz (.set x) xs out h
 | reset x =>exact aaz (.reset x) xs out h
 | insert x =>exact aaz (.insert x) xs out h
 | remove x =>exact aaz (.remove x) xs out h
 | sleep x =>exact aaz (.sleep x) xs out h
 | wake x =>exact aaz (.wake x) xs out h
 | raise x =>exact aaz (.raise x) xs out h
 | probe x =>exact aaz (.probe x) xs out h
 | lpush x =>exact ak0 (.lpush x) xs out h
 | lpop x =>exact ak0 (.lpop x) xs out h
 | walk x =>exact aa9 (S := SR1) (ps := [.ref 27]) (rs := [.sh .b]) (c := 48) (mk := MV.walk) (fun _ =>rfl) rfl (fun _ _ _ _ =>by kernel_rfl) an3 h
 | take x =>exact aa9 (S := SR1) (ps := [.ref 27]) (rs := [.sh .b]) (c := 39) (mk := MV.take) (fun _ =>rfl) rfl (fun _ _ _ _ =>by kernel_rfl) aoL h
 | sweep x =>exact aa9 (S := SR1) (ps := [.ref 27]) (rs := [.sh .b]) (c := 40) (mk := MV.sweep) (fun _ =>rfl) rfl (fun _ _ _ _ =>by kernel_rfl) anc h
 | enter x =>exact aa9 (S := SR1) (ps := [.ref 27]) (rs := [.sh .b]) (c := 49) (mk := MV.enter) (fun _ =>rfl) rfl (fun _ _ _ _ =>by kernel_rfl) amj h
 | drain x =>exact aa9 (S := SR1) (ps := [.ref 27]) (rs := [.sh .b]) (c := 41) (mk := MV.drain) (fun _ =>rfl) rfl (fun _ _ _ _ =>by kernel_rfl) amZ h
 | _ =>cases h
theorem aoP : CO Tryz.prog an8 := ajr (S := SR1) (i := 0) (ps := [.ref 27]) (rs := [.sh .b]) (spec := fun m xs =>aeT m xs.1) ajK
noncomputable def ads (m : MV) : Option ((Int × Int × Unit) × (MV × Unit)) :=
 match m with
 | .alloc x =>some ((x.o.code,x.o.value,()),(MV.alloc x,()))
 | .publish x =>some ((x.o.code,x.o.value,()),(MV.publish x,()))
 | .claim x =>some ((x.o.code,x.o.value,()),(MV.claim x,()))
 | .attempt x =>some ((x.o.code,x.o.value,()),(MV.attempt x,()))
 | .release x =>some ((x.o.code,x.o.value,()),(MV.release x,()))
 | .opush x =>some ((x.o.code,x.o.value,()),(MV.opush x,()))
 | .opop x =>some ((x.o.code,x.o.value,()),(MV.opop x,()))
 | .steal x =>some ((x.o.code,x.o.value,()),(MV.steal x,()))
 | .set x =>some ((x.o.code,x.o.value,()),(MV.set x,()))
 | .reset x =>some ((x.o.code,x.o.value,()),(MV.reset x,()))
 | .insert x =>some ((x.o.code,x.o.value,()),(MV.insert x,()))
 | .remove x =>some ((x.o.code,x.o.value,()),(MV.remove x,()))
 | .sleep x =>some ((x.o.code,x.o.value,()),(MV.sleep x,()))
 | .wake x =>some ((x.o.code,x.o.value,()),(MV.wake x,()))
 | .raise x =>some ((x.o.code,x.o.value,()),(MV.raise x,()))
 | .probe x =>some ((x.o.code,x.o.value,()),(MV.probe x,()))
 | .lpush x =>some ((x.o.code,x.o.value,()),(MV.lpush x,()))
 | .lpop x =>some ((x.o.code,x.o.value,()),(MV.lpop x,()))
 | .walk x =>some ((x.o.code,x.o.value,()),(MV.walk x,()))
 | .take x =>some ((x.o.code,x.o.value,()),(MV.take x,()))
 | .sweep x =>some ((x.o.code,x.o.value,()),(MV.sweep x,()))
 | .enter x =>some ((x.o.code,x.o.value,()),(MV.enter x,()))
 | .drain x =>some ((x.o.code,x.o.value,()),(MV.drain x,()))
 | _ =>none
noncomputable abbrev amt : Con SR1 := ⟨1000000001,[.mch],[.sh sI_,.sh sI_],fun x =>ads x.1⟩
theorem agC (m : MV) (xs : akR SR1 []) (out : akT SR1 [.sh sI_,.sh sI_] × (MV × ajF SR1 [])) (h : ads m = some out) : aqv SR1 Tryz.prog 1 [] [.sh sI_,.sh sI_] m xs out := by
 cases m with
 | alloc x =>exact aaj (.alloc x) xs out h
 | publish x =>exact aaj (.publish x) xs out h
 | claim x =>exact aaj (.claim x) xs out h
 | attempt x =>exact aaj (.attempt x) xs out h
 | release x =>exact aaj (.release x) xs out h
 | opush x =>exact aaj (.opush x) xs out h
 | opop x =>exact aaj (.opop x) xs out h
 | steal x =>exact aaj (.steal x) xs out h
 | set x =>exact aaj (.set x) xs out h
 | reset x =>exact aaj (.reset x) xs out h
 | insert x =>exact aaj (.insert x) xs out h
 | remove x =>exact aaj (.remove x) xs out h
 | sleep x =>exact aaj (.sleep x) xs out h
 | wake x =>exact aaj (.wake x) xs out h
 | raise x =>exact aaj (.raise x) xs out h
 | probe x =>exact aaj (.probe x) xs out h
 | lpush x =>exact ahH (.lpush x) xs out h
 | lpop x =>exact ahH (.lpop x) xs out h
 | walk x =>exact aa9 (S := SR1) (ps := []) (rs := [.sh sI_,.sh sI_]) (c := 48) (mk := MV.walk) (f := 161) (sp := fun x =>some ((x.1.o.code,x.1.o.value,()),(x.1,()))) (fun _ =>rfl) rfl (fun _ _ _ _ =>by kernel_rfl) (acs [aaZ] ⟨aaT,trivial⟩ fun x =>by kernel_rfl) h
 | take x =>exact aa9 (S := SR1) (ps := []) (rs := [.sh sI_,.sh sI_]) (c := 39) (mk := MV.take) (f := 161) (sp := fun x =>some ((x.1.o.code,x.1.o.value,()),(x.1,()))) (fun _ =>rfl) rfl (fun _ _ _ _ =>by kernel_rfl) (acs [aaZ] ⟨aaT,trivial⟩ fun x =>by kernel_rfl) h
 | sweep x =>exact aa9 (S := SR1) (ps := []) (rs := [.sh sI_,.sh sI_]) (c := 40) (mk := MV.sweep) (f := 161) (sp := fun x =>some ((x.1.o.code,x.1.o.value,()),(x.1,()))) (fun _ =>rfl) rfl (fun _ _ _ _ =>by kernel_rfl) (acs [aaZ] ⟨aaT,trivial⟩ fun x =>by kernel_rfl) h
 | enter x =>exact aa9 (S := SR1) (ps := []) (rs := [.sh sI_,.sh sI_]) (c := 49) (mk := MV.enter) (f := 161) (sp := fun x =>some ((x.1.o.code,x.1.o.value,()),(x.1,()))) (fun _ =>rfl) rfl (fun _ _ _ _ =>by kernel_rfl) (acs [aaZ] ⟨aaT,trivial⟩ fun x =>by kernel_rfl) h
 | drain x =>exact aa9 (S := SR1) (ps := []) (rs := [.sh sI_,.sh sI_]) (c := 41) (mk := MV.drain) (f := 161) (sp := fun x =>some ((x.1.o.code,x.1.o.value,()),(x.1,()))) (fun _ =>rfl) rfl (fun _ _ _ _ =>by kernel_rfl) (acs [aaZ] ⟨aaT,trivial⟩ fun x =>by kernel_rfl) h
 | _ =>cases h
theorem ao2 : CO Tryz.prog amt := ajr (S := SR1) (i := 1) (ps := []) (rs := [.sh sI_,.sh sI_]) (spec := fun m _ =>ads m) agC
noncomputable def aeU (y0 : (RunV MV)) (y1 : EnvP) : Option ((Int × Unit) × ((RunV MV) × EnvP × Unit)) :=
 if 0 ≤ (tlI y0.stack) ∧ (tlI y0.stack) < ((y0.stack.length : Nat) : Int) then
 if 0 ≤ tpI y0.stack ∧ tpI y0.stack < ((y1.recs.length : Nat) : Int) then
 if 0 ≤ (tlI y0.stack) ∧ (tlI y0.stack) < ((y0.stack.length : Nat) : Int) then
 if 0 ≤ tpI y0.stack ∧ tpI y0.stack < ((y1.recs.length : Nat) : Int) then
 if ((aab y1.recs (tpI y0.stack)).prog) < 0 then
 if ((aab y1.recs (tpI y0.stack)).waiting) ≠ (-1) then
 some ((1,()),(y0,y1,()))
 else
 if ((aab y1.recs (tpI y0.stack)).pc) < 0 then
 some ((16,()),(y0,y1,()))
 else
 if 0 ≤ ((aab y1.recs (tpI y0.stack)).pc) then
 some ((16,()),(y0,y1,()))
 else
 none
 else
 if ((y1.c.progs.length : Nat) : Int) ≤ ((aab y1.recs (tpI y0.stack)).prog) then
 if ((aab y1.recs (tpI y0.stack)).waiting) ≠ (-1) then
 some ((1,()),(y0,y1,()))
 else
 if ((aab y1.recs (tpI y0.stack)).pc) < 0 then
 some ((16,()),(y0,y1,()))
 else
 if 0 ≤ ((aab y1.recs (tpI y0.stack)).pc) then
 some ((16,()),(y0,y1,()))
 else
 none
 else
 if 0 ≤ (aab y1.recs (tpI y0.stack)).prog ∧ (aab y1.recs (tpI y0.stack)).prog < ((y1.c.progs.length : Nat) : Int) then
 if ((aab y1.recs (tpI y0.stack)).waiting) ≠ (-1) then
 some ((1,()),(y0,y1,()))
 else
 if ((aab y1.recs (tpI y0.stack)).pc) < 0 then
 some ((16,()),(y0,y1,()))
 else
 if (((atL [] y1.c.progs ((aab y1.recs (tpI y0.stack)).prog)).length : Nat) : Int) ≤ ((aab y1.recs (tpI y0.stack)).pc) then
 some ((16,()),(y0,y1,()))
 else
 if 0 ≤ (aab y1.recs (tpI y0.stack)).pc ∧ (aab y1.recs (tpI y0.stack)).pc < (((atL [] y1.c.progs ((aab y1.recs (tpI y0.stack)).prog)).length : Nat) : Int) then
 if ((acl (atL [] y1.c.progs ((aab y1.recs (tpI y0.stack)).prog)) ((aab y1.recs (tpI y0.stack)).pc)).op) = 0 then
 some ((2,()),(y0,y1,()))
 else
 if 0 ≤ (aab y1.recs (tpI y0.stack)).pc ∧ (aab y1.recs (tpI y0.stack)).pc < (((atL [] y1.c.progs ((aab y1.recs (tpI y0.stack)).prog)).length : Nat) : Int) then
 if ((acl (atL [] y1.c.progs ((aab y1.recs (tpI y0.stack)).prog)) ((aab y1.recs (tpI y0.stack)).pc)).op) = 1 then
 some ((4,()),(y0,y1,()))
 else
 if 0 ≤ (aab y1.recs (tpI y0.stack)).pc ∧ (aab y1.recs (tpI y0.stack)).pc < (((atL [] y1.c.progs ((aab y1.recs (tpI y0.stack)).prog)).length : Nat) : Int) then
 if ((acl (atL [] y1.c.progs ((aab y1.recs (tpI y0.stack)).prog)) ((aab y1.recs (tpI y0.stack)).pc)).a) < 0 then
 some ((3,()),(y0,y1,()))
 else
 if ((((aab y1.recs (tpI y0.stack)).kids).length : Nat) : Int) ≤ ((acl (atL [] y1.c.progs ((aab y1.recs (tpI y0.stack)).prog)) ((aab y1.recs (tpI y0.stack)).pc)).a) then
 some ((3,()),(y0,({ y1 with recs := y1.recs.set (tpI y0.stack).toNat (aab y1.recs (tpI y0.stack)) } : EnvP),()))
 else
 if 0 ≤ (acl (atL [] y1.c.progs ((aab y1.recs (tpI y0.stack)).prog)) ((aab y1.recs (tpI y0.stack)).pc)).a ∧ (acl (atL [] y1.c.progs ((aab y1.recs (tpI y0.stack)).prog)) ((aab y1.recs (tpI y0.stack)).pc)).a < ((((aab y1.recs (tpI y0.stack)).kids).length : Nat) : Int) then
 if (aed ((aab y1.recs (tpI y0.stack)).kids) ((acl (atL [] y1.c.progs ((aab y1.recs (tpI y0.stack)).prog)) ((aab y1.recs (tpI y0.stack)).pc)).a)) = (-1) then
 some ((3,()),(y0,({ y1 with recs := y1.recs.set (tpI y0.stack).toNat (aab y1.recs (tpI y0.stack)) } : EnvP),()))
 else
 some ((9,()),(y0,({ y1 with recs := y1.recs.set (tpI y0.stack).toNat (aab y1.recs (tpI y0.stack)) } : EnvP),()))
 else none
 else none
 else none
 else none
 else none
 else none
 else none
 else none
 else none
noncomputable abbrev ahF : Con SR1 := ⟨224,[.ref 33,.ref 27],[.sh sI_],fun x =>aeU x.1 x.2.1⟩
noncomputable def alc : List (Nat × Func) := [(229,Tryz.f229),(223,Tryz.f223),(230,Tryz.f230)]
theorem ald : CO Tryz.prog ahF := aal aak Tryz.func224 [] trivial alc ⟨Tryz.func229,Tryz.func223,Tryz.func230,trivial⟩ (fun _ =>[]) [] fun x =>by kernel_rfl
noncomputable def aeS  : Option ((MV × Unit) × (Unit)) :=
 some ((MV.alloc (⟨⟨false,0,0⟩⟩ : AllocV),()),())
noncomputable abbrev agJ : Con SR1 := ⟨119,[],[.sh .mach],fun x =>aeS ⟩
theorem aiu : CO Tryz.prog agJ := aal aak Tryz.func119 [] trivial [] trivial (fun _ =>[]) [] fun x =>by kernel_rfl
noncomputable def aac (y0 : (RunV MV)) (y1 : Int) (y2 : MV) : Option ((Bool × Unit) × ((RunV MV) × Unit)) :=
 some ((false,()),(({ y0 with line := y1,inside := y2 } : (RunV MV)),()))
noncomputable abbrev adr : Con SR1 := ⟨233,[.ref 33,.sh sI_,.sh .mach],[.sh .b],fun x =>aac x.1 x.2.1 x.2.2.1⟩
theorem adI : CO Tryz.prog adr := aal aak Tryz.func233 [] trivial [] trivial (fun _ =>[]) [] fun x =>by kernel_rfl
end
end Go.Proofs.YteapeojalliebaaGreat
