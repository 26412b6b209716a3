/- The program's machines in the evaluator's form. The program's machines in the evaluator's form. -/
import Derived.Test.YteapeojalliebaaGreatIzai
set_option linter.all false
namespace Go.Proofs.YteapeojalliebaaGreat
section
open Go Go.RowKit
set_option maxRecDepth 100000
variable [Tb]
noncomputable def abN (y0:InsertV) (y1:EnvP):Option ((Bool×Unit)×(InsertV×EnvP×Unit)) :=
 (aaw y0.o).bind fun r1 =>
 if r1.1.1=true then
 some ((true,()),(({ y0 with o:=r1.2.1 }:InsertV),y1,()))
 else
 if y1.l.workers=y1.l.workers then
 if y1.l.levels=y1.l.levels then
 if y1.l.classes=y1.l.classes then
 if y1.l.tasks=y1.l.tasks then
 if y1.l.deque=y1.l.deque then
 if y1.l.heap=y1.l.heap then
 if y1.l.sleepers=y1.l.sleepers then
 if y1.l.epochs=y1.l.epochs then
 if y1.l.bitmaps=y1.l.bitmaps then
 if y1.l.queues=y1.l.queues then
 if y1.l.table=y1.l.table then
 if y0.line=1 then
 (ag9 y1.l).bind fun r2 =>
 (acJ y1.m r2.1.1).bind fun r3 =>
 if y1.c.heap≤(wi (r3.1.1)) then
 (abi r1.2.1 3 0).bind fun r4 =>
 some ((r4.1.1,()),(({ y0 with o:=r4.2.1,n:=wi (r3.1.1) }:InsertV),({ y1 with m:=r3.2.1 }:EnvP),()))
 else
 some ((false,()),(({ y0 with o:=r1.2.1,line:=2,n:=wi (r3.1.1) }:InsertV),({ y1 with m:=r3.2.1 }:EnvP),()))
 else
 if y0.line=2 then
 (atf y1.l).bind fun r5 =>
 if y0.task=y0.task then
 if y0.deadline=y0.deadline then
 (aHI y1.m r5.1.1 1).bind fun r6 =>
 if y0.task=y0.task then
 if y0.deadline=y0.deadline then
 (aDg y0.deadline (wi (r6.1.1)) y0.task).bind fun r7 =>
 if (!r7.1.2.1)=true then
 (abi r1.2.1 4 0).bind fun r8 =>
 some ((r8.1.1,()),(({ y0 with o:=r8.2.1 }:InsertV),({ y1 with m:=r6.2.1 }:EnvP),()))
 else
 (adU ({ y0 with o:=r1.2.1,i:=y0.n,k:=r7.1.1 }:InsertV)).bind fun r9 =>
 some ((false,()),(({ r9.2.1 with line:=r9.1.1 }:InsertV),({ y1 with m:=r6.2.1 }:EnvP),()))
 else none
 else none
 else none
 else none
 else
 if y0.line=3 then
 (apo y1.l (wi (Int.tdiv (wi (y0.i-1)) 2))).bind fun r10 =>
 (acJ y1.m r10.1.1).bind fun r11 =>
 if y0.k<r11.1.1 then
 some ((false,()),(({ y0 with o:=r1.2.1,line:=4,x:=r11.1.1 }:InsertV),({ y1 with m:=r11.2.1 }:EnvP),()))
 else
 some ((false,()),(({ y0 with o:=r1.2.1,line:=5,x:=r11.1.1 }:InsertV),({ y1 with m:=r11.2.1 }:EnvP),()))
 else
 if y0.line=4 then
 (apo y1.l y0.i).bind fun r12 =>
 if y0.x=y0.x then
 (aa5 y1.m r12.1.1 y0.x).bind fun r13 =>
 (adU ({ y0 with o:=r1.2.1,i:=wi (Int.tdiv (wi (y0.i-1)) 2) }:InsertV)).bind fun r14 =>
 some ((false,()),(({ r14.2.1 with line:=r14.1.1 }:InsertV),({ y1 with m:=r13.2.1 }:EnvP),()))
 else none
 else
 if y0.line=5 then
 (apo y1.l y0.i).bind fun r15 =>
 if y0.k=y0.k then
 (aa5 y1.m r15.1.1 y0.k).bind fun r16 =>
 some ((false,()),(({ y0 with o:=r1.2.1,line:=6 }:InsertV),({ y1 with m:=r16.2.1 }:EnvP),()))
 else none
 else
 (ag9 y1.l).bind fun r17 =>
 if y0.n=y0.n then
 (aa5 y1.m r17.1.1 (wu (wi (y0.n+1)))).bind fun r18 =>
 (abi r1.2.1 0 0).bind fun r19 =>
 some ((r19.1.1,()),(({ y0 with o:=r19.2.1 }:InsertV),({ y1 with m:=r18.2.1 }:EnvP),()))
 else none
 else none
 else none
 else none
 else none
 else none
 else none
 else none
 else none
 else none
 else none
 else none
noncomputable abbrev alG:Con SR1:=⟨186,[.ref 36,.ref 27],[.sh .b],fun x =>abN x.1 x.2.1⟩
theorem akJ:CO Tryz.prog alG:=aam aah Tryz.func186 [abu,alj,acL,acM,ash,ax3,aAr,agO,as7,aeh] ⟨aa9,akx,abW,abI,awA,awC,aDe,aj1,as6,adC,trivial⟩
noncomputable def aci (y0:RemoveV):Option ((Int×Unit)×(RemoveV×Unit)) :=
 if y0.z<y0.y then
 some ((7,()),(y0,()))
 else
 some ((8,()),(y0,()))
noncomputable abbrev afE:Con SR1:=⟨260,[.ref 51],[.sh sI_],fun x =>aci x.1⟩
theorem aiV:CO Tryz.prog afE:=aam aah Tryz.func260 [] trivial
noncomputable def acZ (y0:RemoveV):Option ((Int×Unit)×(RemoveV×Unit)) :=
 if (wi ((wi (2*y0.i))+1))<(wi (y0.n-1)) then
 some ((5,()),(y0,()))
 else
 some ((8,()),(y0,()))
noncomputable abbrev adE:Con SR1:=⟨261,[.ref 51],[.sh sI_],fun x =>acZ x.1⟩
theorem aeT:CO Tryz.prog adE:=aam aah Tryz.func261 [] trivial
noncomputable def adh (y0:RemoveV):Option ((Int×Unit)×(RemoveV×Unit)) :=
 (awt y0.x).bind fun r1 =>
 some ((r1.1.2.2.1,()),(y0,()))
noncomputable abbrev aeL:Con SR1:=⟨262,[.ref 51],[.sh sI_],fun x =>adh x.1⟩
theorem agM:CO Tryz.prog aeL:=aam aah Tryz.func262 [auW] ⟨ayY,trivial⟩
noncomputable def afb (y0:RemoveV) (y1:EnvP):Option ((Bool×Unit)×(RemoveV×EnvP×Unit)) :=
 if y1.l.workers=y1.l.workers then
 if y1.l.levels=y1.l.levels then
 if y1.l.classes=y1.l.classes then
 if y1.l.tasks=y1.l.tasks then
 if y1.l.deque=y1.l.deque then
 if y1.l.heap=y1.l.heap then
 if y1.l.sleepers=y1.l.sleepers then
 if y1.l.epochs=y1.l.epochs then
 if y1.l.bitmaps=y1.l.bitmaps then
 if y1.l.queues=y1.l.queues then
 if y1.l.table=y1.l.table then
 if y0.line=1 then
 (ag9 y1.l).bind fun r1 =>
 (acJ y1.m r1.1.1).bind fun r2 =>
 if (wi (r2.1.1))≤0 then
 (abi y0.o 2 0).bind fun r3 =>
 some ((r3.1.1,()),(({ y0 with o:=r3.2.1,n:=wi (r2.1.1) }:RemoveV),({ y1 with m:=r2.2.1 }:EnvP),()))
 else
 some ((false,()),(({ y0 with line:=2,n:=wi (r2.1.1) }:RemoveV),({ y1 with m:=r2.2.1 }:EnvP),()))
 else
 if y0.line=2 then
 (apo y1.l 0).bind fun r4 =>
 (acJ y1.m r4.1.1).bind fun r5 =>
 some ((false,()),(({ y0 with line:=3,x:=r5.1.1 }:RemoveV),({ y1 with m:=r5.2.1 }:EnvP),()))
 else
 if y0.line=3 then
 (apo y1.l (wi (y0.n-1))).bind fun r6 =>
 (acJ y1.m r6.1.1).bind fun r7 =>
 some ((false,()),(({ y0 with line:=4,y:=r7.1.1 }:RemoveV),({ y1 with m:=r7.2.1 }:EnvP),()))
 else
 (ag9 y1.l).bind fun r8 =>
 if y0.n=y0.n then
 (aa5 y1.m r8.1.1 (wu (wi (y0.n-1)))).bind fun r9 =>
 (adh y0).bind fun r10 =>
 if y0.worker=r10.2.1.worker then
 (aeJ ({ y1 with m:=r9.2.1 }:EnvP) (⟨13,y0.worker,r10.1.1,0,0⟩:Ev)).bind fun r11 =>
 if r10.2.1.n=1 then
 (adh r10.2.1).bind fun r12 =>
 (abi r12.2.1.o 1 r12.1.1).bind fun r13 =>
 some ((r13.1.1,()),(({ r12.2.1 with o:=r13.2.1 }:RemoveV),r11.2.1,()))
 else
 (acZ r10.2.1).bind fun r14 =>
 some ((false,()),(({ r14.2.1 with line:=r14.1.1 }:RemoveV),r11.2.1,()))
 else none
 else none
 else none
 else none
 else none
 else none
 else none
 else none
 else none
 else none
 else none
 else none
 else none
noncomputable abbrev agN:Con SR1:=⟨263,[.ref 51,.ref 27],[.sh .b],fun x =>afb x.1 x.2.1⟩
theorem aj0:CO Tryz.prog agN:=aam aah Tryz.func263 [alj,acL,acM,as7,aeh,aeL,aga,adE] ⟨akx,abW,abI,as6,adC,agM,ae2,aeT,trivial⟩
noncomputable def abM (y0:RemoveV) (y1:EnvP):Option ((Bool×Unit)×(RemoveV×EnvP×Unit)) :=
 (aaw y0.o).bind fun r1 =>
 if r1.1.1=true then
 some ((true,()),(({ y0 with o:=r1.2.1 }:RemoveV),y1,()))
 else
 if y1.l.workers=y1.l.workers then
 if y1.l.levels=y1.l.levels then
 if y1.l.classes=y1.l.classes then
 if y1.l.tasks=y1.l.tasks then
 if y1.l.deque=y1.l.deque then
 if y1.l.heap=y1.l.heap then
 if y1.l.sleepers=y1.l.sleepers then
 if y1.l.epochs=y1.l.epochs then
 if y1.l.bitmaps=y1.l.bitmaps then
 if y1.l.queues=y1.l.queues then
 if y1.l.table=y1.l.table then
 if y0.line=5 then
 (apo y1.l (wi ((wi (2*y0.i))+1))).bind fun r2 =>
 (acJ y1.m r2.1.1).bind fun r3 =>
 (aci ({ y0 with o:=r1.2.1,c:=wi ((wi (2*y0.i))+1),z:=r3.1.1 }:RemoveV)).bind fun r4 =>
 if (wi (r4.2.1.c+1))<(wi (r4.2.1.n-1)) then
 some ((false,()),(({ r4.2.1 with line:=6 }:RemoveV),({ y1 with m:=r3.2.1 }:EnvP),()))
 else
 some ((false,()),(({ r4.2.1 with line:=r4.1.1 }:RemoveV),({ y1 with m:=r3.2.1 }:EnvP),()))
 else
 if y0.line=6 then
 (apo y1.l (wi ((wi (2*y0.i))+2))).bind fun r5 =>
 (acJ y1.m r5.1.1).bind fun r6 =>
 if r6.1.1<y0.z then
 (aci ({ y0 with o:=r1.2.1,c:=wi ((wi (2*y0.i))+2),z:=r6.1.1 }:RemoveV)).bind fun r7 =>
 some ((false,()),(({ r7.2.1 with line:=r7.1.1 }:RemoveV),({ y1 with m:=r6.2.1 }:EnvP),()))
 else
 (aci ({ y0 with o:=r1.2.1 }:RemoveV)).bind fun r8 =>
 some ((false,()),(({ r8.2.1 with line:=r8.1.1 }:RemoveV),({ y1 with m:=r6.2.1 }:EnvP),()))
 else
 if y0.line=7 then
 (apo y1.l y0.i).bind fun r9 =>
 if y0.z=y0.z then
 (aa5 y1.m r9.1.1 y0.z).bind fun r10 =>
 (acZ ({ y0 with o:=r1.2.1,i:=y0.c }:RemoveV)).bind fun r11 =>
 some ((false,()),(({ r11.2.1 with line:=r11.1.1 }:RemoveV),({ y1 with m:=r10.2.1 }:EnvP),()))
 else none
 else
 if y0.line=8 then
 (apo y1.l y0.i).bind fun r12 =>
 if y0.y=y0.y then
 (aa5 y1.m r12.1.1 y0.y).bind fun r13 =>
 (adh ({ y0 with o:=r1.2.1 }:RemoveV)).bind fun r14 =>
 (abi r14.2.1.o 1 r14.1.1).bind fun r15 =>
 some ((r15.1.1,()),(({ r14.2.1 with o:=r15.2.1 }:RemoveV),({ y1 with m:=r13.2.1 }:EnvP),()))
 else none
 else
 (afb ({ y0 with o:=r1.2.1 }:RemoveV) y1).bind fun r16 =>
 some ((r16.1.1,()),(r16.2.1,r16.2.2.1,()))
 else none
 else none
 else none
 else none
 else none
 else none
 else none
 else none
 else none
 else none
 else none
noncomputable abbrev alF:Con SR1:=⟨259,[.ref 51,.ref 27],[.sh .b],fun x =>abM x.1 x.2.1⟩
theorem akI:CO Tryz.prog alF:=aam aah Tryz.func259 [abu,as7,acL,afE,aeh,adE,aeL,acM,agN] ⟨aa9,as6,abW,aiV,adC,aeT,agM,abI,aj0,trivial⟩
noncomputable def ahj (y0:SleepV) (y1:EnvP):Option ((Unit)×(SleepV×EnvP×Unit)) :=
 (aij y1.l y0.v).bind fun r1 =>
 (acJ y1.m r1.1.1).bind fun r2 =>
 if r2.1.1≠0 then
 some ((()),(({ y0 with line:=7 }:SleepV),({ y1 with m:=r2.2.1 }:EnvP),()))
 else
 if y1.c.workers≤(wi (y0.v+1)) then
 (aeJ ({ y1 with m:=r2.2.1 }:EnvP) (⟨16,y0.worker,0,0,0⟩:Ev)).bind fun r3 =>
 (as8 r3.2.1.k).bind fun r4 =>
 some ((()),(({ y0 with line:=5,v:=wi (y0.v+1),since:=r4.1.1 }:SleepV),({ r3.2.1 with k:=r4.2.1 }:EnvP),()))
 else
 some ((()),(({ y0 with v:=wi (y0.v+1) }:SleepV),({ y1 with m:=r2.2.1 }:EnvP),()))
noncomputable abbrev akr:Con SR1:=⟨167,[.ref 32,.ref 27],[],fun x =>ahj x.1 x.2.1⟩
theorem apn:CO Tryz.prog akr:=aam aah Tryz.func167 [ahO,acL,aga,aoX] ⟨aht,abW,ae2,al6,trivial⟩
noncomputable def ahi (y0:SleepV) (y1:EnvP):Option ((Unit)×(SleepV×EnvP×Unit)) :=
 (ase y1.l y0.worker).bind fun r1 =>
 (acJ y1.m r1.1.1).bind fun r2 =>
 if r2.1.1≠y0.ep then
 (aeJ ({ y1 with m:=r2.2.1 }:EnvP) (⟨17,y0.worker,0,1,0⟩:Ev)).bind fun r3 =>
 some ((()),(({ y0 with line:=6 }:SleepV),r3.2.1,()))
 else
 (as8 y1.k).bind fun r4 =>
 if y1.c.patience=y1.c.patience then
 if y0.since=y0.since then
 if y1.c.patience≤(wi (r4.1.1-y0.since)) then
 (aeJ ({ y1 with m:=r2.2.1,k:=r4.2.1 }:EnvP) (⟨17,y0.worker,0,2,0⟩:Ev)).bind fun r5 =>
 some ((()),(({ y0 with line:=6 }:SleepV),r5.2.1,()))
 else
 some ((()),(y0,({ y1 with m:=r2.2.1,k:=r4.2.1 }:EnvP),()))
 else none
 else none
noncomputable abbrev akq:Con SR1:=⟨168,[.ref 32,.ref 27],[],fun x =>ahi x.1 x.2.1⟩
theorem apk:CO Tryz.prog akq:=aam aah Tryz.func168 [apO,acL,aga,aoX] ⟨aqR,abW,ae2,al6,trivial⟩
noncomputable def ade (y0:SleepV) (y1:EnvP):Option ((Bool×Unit)×(SleepV×EnvP×Unit)) :=
 (aaw y0.o).bind fun r1 =>
 if r1.1.1=true then
 some ((true,()),(({ y0 with o:=r1.2.1 }:SleepV),y1,()))
 else
 if y0.line=1 then
 (ase y1.l y0.worker).bind fun r2 =>
 (acJ y1.m r2.1.1).bind fun r3 =>
 some ((false,()),(({ y0 with o:=r1.2.1,line:=2,ep:=r3.1.1 }:SleepV),({ y1 with m:=r3.2.1 }:EnvP),()))
 else
 if y0.line=2 then
 ((
 if y1.c.classes<1 then
 if y0.worker=y0.worker then
 (aCm y0.worker).bind fun r4 =>
 (pOr y1.m (-1) r4.1.1).bind fun r5 =>
 some (({ y1 with m:=r5.2.1 }:EnvP),())
 else none
 else
 (aCl y0.worker y1.c.classes).bind fun r6 =>
 if y1.l.workers=y1.l.workers then
 if y1.l.levels=y1.l.levels then
 if y1.l.classes=y1.l.classes then
 if y1.l.tasks=y1.l.tasks then
 if y1.l.deque=y1.l.deque then
 if y1.l.heap=y1.l.heap then
 if y1.l.sleepers=y1.l.sleepers then
 if y1.l.epochs=y1.l.epochs then
 if y1.l.bitmaps=y1.l.bitmaps then
 if y1.l.queues=y1.l.queues then
 if y1.l.table=y1.l.table then
 (ahM y1.l r6.1.1).bind fun r7 =>
 if y0.worker=y0.worker then
 (aCm y0.worker).bind fun r8 =>
 (pOr y1.m r7.1.1 r8.1.1).bind fun r9 =>
 some (({ y1 with m:=r9.2.1 }:EnvP),())
 else none
 else none
 else none
 else none
 else none
 else none
 else none
 else none
 else none
 else none
 else none
 else none
 ):Option (EnvP×Unit)).bind fun z10 =>
 some ((false,()),(({ y0 with o:=r1.2.1,line:=3 }:SleepV),z10.1,()))
 else
 if y0.line=3 then
 (ag9 y1.l).bind fun r11 =>
 (acJ y1.m r11.1.1).bind fun r12 =>
 if r12.1.1≠0 then
 some ((false,()),(({ y0 with o:=r1.2.1,line:=7 }:SleepV),({ y1 with m:=r12.2.1 }:EnvP),()))
 else
 some ((false,()),(({ y0 with o:=r1.2.1,line:=4 }:SleepV),({ y1 with m:=r12.2.1 }:EnvP),()))
 else
 if y0.line=4 then
 (ahj ({ y0 with o:=r1.2.1 }:SleepV) y1).bind fun r13 =>
 some ((false,()),(r13.2.1,r13.2.2.1,()))
 else
 if y0.line=5 then
 (ahi ({ y0 with o:=r1.2.1 }:SleepV) y1).bind fun r14 =>
 some ((false,()),(r14.2.1,r14.2.2.1,()))
 else
 ((
 if y1.c.classes<1 then
 if y0.worker=y0.worker then
 (aCm y0.worker).bind fun r15 =>
 (aEN y1.m (-1) (aEd r15.1.1)).bind fun r16 =>
 some (({ y1 with m:=r16.2.1 }:EnvP),())
 else none
 else
 (aCl y0.worker y1.c.classes).bind fun r17 =>
 if y1.l.workers=y1.l.workers then
 if y1.l.levels=y1.l.levels then
 if y1.l.classes=y1.l.classes then
 if y1.l.tasks=y1.l.tasks then
 if y1.l.deque=y1.l.deque then
 if y1.l.heap=y1.l.heap then
 if y1.l.sleepers=y1.l.sleepers then
 if y1.l.epochs=y1.l.epochs then
 if y1.l.bitmaps=y1.l.bitmaps then
 if y1.l.queues=y1.l.queues then
 if y1.l.table=y1.l.table then
 (ahM y1.l r17.1.1).bind fun r18 =>
 if y0.worker=y0.worker then
 (aCm y0.worker).bind fun r19 =>
 (aEN y1.m r18.1.1 (aEd r19.1.1)).bind fun r20 =>
 some (({ y1 with m:=r20.2.1 }:EnvP),())
 else none
 else none
 else none
 else none
 else none
 else none
 else none
 else none
 else none
 else none
 else none
 else none
 ):Option (EnvP×Unit)).bind fun z21 =>
 if y0.line=6 then
 (abi r1.2.1 1 0).bind fun r22 =>
 some ((r22.1.1,()),(({ y0 with o:=r22.2.1 }:SleepV),z21.1,()))
 else
 (abi r1.2.1 5 0).bind fun r23 =>
 some ((r23.1.1,()),(({ y0 with o:=r23.2.1 }:SleepV),z21.1,()))
noncomputable abbrev aqO:Con SR1:=⟨162,[.ref 32,.ref 27],[.sh .b],fun x =>ade x.1 x.2.1⟩
noncomputable def apl:List (Nat×Func):=[(165,Tryz.f165)]
theorem apm:CO Tryz.prog aqO:=ahZ aah Tryz.func162 [abu,apO,acL,au1,aDh,auY,al5,alj,akr,akq,ax2,acM] ⟨aa9,aqR,abW,ate,aAs,as9,aoW,akx,apn,apk,awB,abI,trivial⟩ apl ⟨Tryz.func165,trivial⟩ (fun _ =>[]) [(13,.cut [.ob 1 27] [0]),(5,.cut [.ob 1 27] [0])] fun x =>by kernel_rfl
noncomputable def adH (y0:WakeV) (y1:EnvP):Option ((Bool×Unit)×(WakeV×EnvP×Unit)) :=
 (aaw y0.o).bind fun r1 =>
 if r1.1.1=true then
 some ((true,()),(({ y0 with o:=r1.2.1 }:WakeV),y1,()))
 else
 if y0.line=1 then
 ((
 if y1.c.classes<1 then
 (acJ y1.m (-1)).bind fun r2 =>
 some (r2.1.1,({ y1 with m:=r2.2.1 }:EnvP),())
 else
 (au0 y0.level y1.c.levels y1.c.classes).bind fun r3 =>
 if y1.c.classes=y1.c.classes then
 if y0.j=y0.j then
 if y1.l.workers=y1.l.workers then
 if y1.l.levels=y1.l.levels then
 if y1.l.classes=y1.l.classes then
 if y1.l.tasks=y1.l.tasks then
 if y1.l.deque=y1.l.deque then
 if y1.l.heap=y1.l.heap then
 if y1.l.sleepers=y1.l.sleepers then
 if y1.l.epochs=y1.l.epochs then
 if y1.l.bitmaps=y1.l.bitmaps then
 if y1.l.queues=y1.l.queues then
 if y1.l.table=y1.l.table then
 (aCl (wi (r3.1.1+y0.j)) y1.c.classes).bind fun r4 =>
 if y1.l.workers=y1.l.workers then
 if y1.l.levels=y1.l.levels then
 if y1.l.classes=y1.l.classes then
 if y1.l.tasks=y1.l.tasks then
 if y1.l.deque=y1.l.deque then
 if y1.l.heap=y1.l.heap then
 if y1.l.sleepers=y1.l.sleepers then
 if y1.l.epochs=y1.l.epochs then
 if y1.l.bitmaps=y1.l.bitmaps then
 if y1.l.queues=y1.l.queues then
 if y1.l.table=y1.l.table then
 (ahM y1.l r4.1.1).bind fun r5 =>
 (acJ y1.m r5.1.1).bind fun r6 =>
 some (r6.1.1,({ y1 with m:=r6.2.1 }:EnvP),())
 else none
 else none
 else none
 else none
 else none
 else none
 else none
 else none
 else none
 else none
 else none
 else none
 else none
 else none
 else none
 else none
 else none
 else none
 else none
 else none
 else none
 else none
 else none
 else none
 ):Option (Int×EnvP×Unit)).bind fun z7 =>
 if z7.1≠0 then
 (aKb z7.1).bind fun r8 =>
 some ((false,()),(({ y0 with o:=r1.2.1,line:=2,v:=r8.1.1 }:WakeV),z7.2.1,()))
 else
 if z7.2.1.c.classes≤(wi (y0.j+1)) then
 (abi r1.2.1 2 0).bind fun r9 =>
 some ((r9.1.1,()),(({ y0 with o:=r9.2.1,j:=wi (y0.j+1) }:WakeV),z7.2.1,()))
 else
 some ((false,()),(({ y0 with o:=r1.2.1,j:=wi (y0.j+1) }:WakeV),z7.2.1,()))
 else
 if y0.line=2 then
 (aCm y0.v).bind fun r10 =>
 ((
 if y1.c.classes<1 then
 (aEN y1.m (-1) (aEd r10.1.1)).bind fun r11 =>
 some (decide ((ap8 r11.1.1 r10.1.1)=0),({ y1 with m:=r11.2.1 }:EnvP),())
 else
 (au0 y0.level y1.c.levels y1.c.classes).bind fun r12 =>
 if y1.c.classes=y1.c.classes then
 if y0.j=y0.j then
 if y1.l.workers=y1.l.workers then
 if y1.l.levels=y1.l.levels then
 if y1.l.classes=y1.l.classes then
 if y1.l.tasks=y1.l.tasks then
 if y1.l.deque=y1.l.deque then
 if y1.l.heap=y1.l.heap then
 if y1.l.sleepers=y1.l.sleepers then
 if y1.l.epochs=y1.l.epochs then
 if y1.l.bitmaps=y1.l.bitmaps then
 if y1.l.queues=y1.l.queues then
 if y1.l.table=y1.l.table then
 (aCl (wi (r12.1.1+y0.j)) y1.c.classes).bind fun r13 =>
 if y1.l.workers=y1.l.workers then
 if y1.l.levels=y1.l.levels then
 if y1.l.classes=y1.l.classes then
 if y1.l.tasks=y1.l.tasks then
 if y1.l.deque=y1.l.deque then
 if y1.l.heap=y1.l.heap then
 if y1.l.sleepers=y1.l.sleepers then
 if y1.l.epochs=y1.l.epochs then
 if y1.l.bitmaps=y1.l.bitmaps then
 if y1.l.queues=y1.l.queues then
 if y1.l.table=y1.l.table then
 (ahM y1.l r13.1.1).bind fun r14 =>
 (aEN y1.m r14.1.1 (aEd r10.1.1)).bind fun r15 =>
 some (decide ((ap8 r15.1.1 r10.1.1)=0),({ y1 with m:=r15.2.1 }:EnvP),())
 else none
 else none
 else none
 else none
 else none
 else none
 else none
 else none
 else none
 else none
 else none
 else none
 else none
 else none
 else none
 else none
 else none
 else none
 else none
 else none
 else none
 else none
 else none
 else none
 ):Option (Bool×EnvP×Unit)).bind fun z16 =>
 if z16.1=true then
 (abi r1.2.1 4 0).bind fun r17 =>
 some ((r17.1.1,()),(({ y0 with o:=r17.2.1 }:WakeV),z16.2.1,()))
 else
 some ((false,()),(({ y0 with o:=r1.2.1,line:=3 }:WakeV),z16.2.1,()))
 else
 (ase y1.l y0.v).bind fun r18 =>
 (aHI y1.m r18.1.1 1).bind fun r19 =>
 (aeJ ({ y1 with m:=r19.2.1 }:EnvP) (⟨18,y0.me,0,y0.v,0⟩:Ev)).bind fun r20 =>
 (abi r1.2.1 1 y0.v).bind fun r21 =>
 some ((r21.1.1,()),(({ y0 with o:=r21.2.1 }:WakeV),r20.2.1,()))
noncomputable abbrev arU:Con SR1:=⟨193,[.ref 38,.ref 27],[.sh .b],fun x =>adH x.1 x.2.1⟩
noncomputable def aqM:List (Nat×Func):=[(194,Tryz.f194)]
theorem aqN:CO Tryz.prog arU:=ahZ aah Tryz.func193 [abu,acL,axZ,auY,al5,aEM,acM,au1,ax2,apO,ax3,aga] ⟨aa9,abW,aAx,as9,aoW,aGm,abI,ate,awB,aqR,awC,ae2,trivial⟩ aqM ⟨Tryz.func194,trivial⟩ (fun _ =>[]) [(9,.cut [.rg 5 sU_,.ob 1 27] [0]),(18,.cut [.rg 108 .b,.ob 1 27] [0])] fun x =>by kernel_rfl
noncomputable def ak1 (y0:EnvP) (y1:Int) (y2:Int):Option ((Bool×Unit)×(EnvP×Unit)) :=
 if 0≤y1 then
 if y1<y0.c.tasks then
 if 0≤y2 then
 some ((decide (y2<y0.c.levels),()),(y0,()))
 else
 some ((false,()),(y0,()))
 else
 some ((false,()),(y0,()))
 else
 some ((false,()),(y0,()))
noncomputable abbrev ami:Con SR1:=⟨269,[.ref 27,.sh sI_,.sh sI_],[.sh .b],fun x =>ak1 x.1 x.2.1 x.2.2.1⟩
theorem ao6:CO Tryz.prog ami:=aam aah Tryz.func269 [] trivial
noncomputable def acE (y0:RaiseV) (y1:EnvP):Option ((Bool×Unit)×(RaiseV×EnvP×Unit)) :=
 (aaw y0.o).bind fun r1 =>
 if r1.1.1=true then
 some ((true,()),(({ y0 with o:=r1.2.1 }:RaiseV),y1,()))
 else
 (ak1 y1 y0.task y0.level).bind fun r2 =>
 if (!r2.1.1)=true then
 (abi r1.2.1 4 0).bind fun r3 =>
 some ((r3.1.1,()),(({ y0 with o:=r3.2.1 }:RaiseV),r2.2.1,()))
 else
 if y0.line=1 then
 (afR r2.2.1.l y0.task).bind fun r4 =>
 (acJ r2.2.1.m r4.1.1).bind fun r5 =>
 if y0.level≤(wi (r5.1.1)) then
 (abi r1.2.1 0 0).bind fun r6 =>
 some ((r6.1.1,()),(({ y0 with o:=r6.2.1,q:=r5.1.1 }:RaiseV),({ r2.2.1 with m:=r5.2.1 }:EnvP),()))
 else
 some ((false,()),(({ y0 with o:=r1.2.1,line:=2,q:=r5.1.1 }:RaiseV),({ r2.2.1 with m:=r5.2.1 }:EnvP),()))
 else
 (afR r2.2.1.l y0.task).bind fun r7 =>
 if y0.level=y0.level then
 if y0.q=y0.q then
 (auj r2.2.1.m r7.1.1 y0.q (wu (y0.level))).bind fun r8 =>
 if r8.1.1=true then
 (aeJ ({ r2.2.1 with m:=r8.2.1 }:EnvP) ({ y0 with kind:=11,other:=0 }:Ev)).bind fun r9 =>
 (abi r1.2.1 1 0).bind fun r10 =>
 some ((r10.1.1,()),(({ y0 with o:=r10.2.1 }:RaiseV),r9.2.1,()))
 else
 some ((false,()),(({ y0 with o:=r1.2.1,line:=1 }:RaiseV),({ r2.2.1 with m:=r8.2.1 }:EnvP),()))
 else none
 else none
noncomputable abbrev apD:Con SR1:=⟨283,[.ref 55,.ref 27],[.sh .b],fun x =>acE x.1 x.2.1⟩
theorem aox:CO Tryz.prog apD:=aam aah Tryz.func283 [abu,ami,acM,ahl,acL,amZ,aga] ⟨aa9,ao6,abI,agH,abW,aky,ae2,trivial⟩
noncomputable def akf (m:MV) (e:EnvP):Option ((Bool×Unit)×(MV×EnvP×Unit)) :=
 match m with
 | .alloc x =>(ab4 x e).bind fun o =>some (o.1,(MV.alloc o.2.1,o.2.2))
 | .publish x =>(abS x e).bind fun o =>some (o.1,(MV.publish o.2.1,o.2.2))
 | .claim x =>(adk x e).bind fun o =>some (o.1,(MV.claim o.2.1,o.2.2))
 | .attempt x =>(acQ x e).bind fun o =>some (o.1,(MV.attempt o.2.1,o.2.2))
 | .release x =>(acP x e).bind fun o =>some (o.1,(MV.release o.2.1,o.2.2))
 | .opush x =>(adS x e).bind fun o =>some (o.1,(MV.opush o.2.1,o.2.2))
 | .opop x =>(aes x e).bind fun o =>some (o.1,(MV.opop o.2.1,o.2.2))
 | .steal x =>(adj x e).bind fun o =>some (o.1,(MV.steal o.2.1,o.2.2))
 | .set x =>(adW x e).bind fun o =>some (o.1,(MV.set o.2.1,o.2.2))
 | .reset x =>(acT x e).bind fun o =>some (o.1,(MV.reset o.2.1,o.2.2))
 | .insert x =>(abN x e).bind fun o =>some (o.1,(MV.insert o.2.1,o.2.2))
 | .remove x =>(abM x e).bind fun o =>some (o.1,(MV.remove o.2.1,o.2.2))
 | .sleep x =>(ade x e).bind fun o =>some (o.1,(MV.sleep o.2.1,o.2.2))
 | .wake x =>(adH x e).bind fun o =>some (o.1,(MV.wake o.2.1,o.2.2))
 | .raise x =>(acE x e).bind fun o =>some (o.1,(MV.raise o.2.1,o.2.2))
 | .probe x =>(abp x e).bind fun o =>some (o.1,(MV.probe o.2.1,o.2.2))
 | _ =>none
noncomputable abbrev asN:Con SR1:=⟨1000000000,[.mch,.ref 27],[.sh .b],fun x =>akf x.1 x.2.1⟩
theorem aaB (m:MV) (xs:amk SR1 [.ref 27]) (out:amn SR1 [.sh .b]×(MV×ak7 SR1 [.ref 27])) (h:akf m xs.1=some out):ar3 SR1 Tryz.prog 0 [.ref 27] [.sh .b] m xs out:=by
 cases m with
 | alloc x =>exact abc (S:=SR1) (ps:=[.ref 27]) (rs:=[.sh .b]) (c:=35) (mk:=MV.alloc) (fun _ =>rfl) rfl (fun _ _ _ _ =>by kernel_rfl) alB h
 | publish x =>exact abc (S:=SR1) (ps:=[.ref 27]) (rs:=[.sh .b]) (c:=50) (mk:=MV.publish) (fun _ =>rfl) rfl (fun _ _ _ _ =>by kernel_rfl) alZ h
 | claim x =>exact abc (S:=SR1) (ps:=[.ref 27]) (rs:=[.sh .b]) (c:=45) (mk:=MV.claim) (fun _ =>rfl) rfl (fun _ _ _ _ =>by kernel_rfl) anR h
 | attempt x =>exact abc (S:=SR1) (ps:=[.ref 27]) (rs:=[.sh .b]) (c:=34) (mk:=MV.attempt) (fun _ =>rfl) rfl (fun _ _ _ _ =>by kernel_rfl) ana h
 | release x =>exact abc (S:=SR1) (ps:=[.ref 27]) (rs:=[.sh .b]) (c:=37) (mk:=MV.release) (fun _ =>rfl) rfl (fun _ _ _ _ =>by kernel_rfl) am9 h
 | opush x =>exact abc (S:=SR1) (ps:=[.ref 27]) (rs:=[.sh .b]) (c:=53) (mk:=MV.opush) (fun _ =>rfl) rfl (fun _ _ _ _ =>by kernel_rfl) apq h
 | opop x =>exact abc (S:=SR1) (ps:=[.ref 27]) (rs:=[.sh .b]) (c:=52) (mk:=MV.opop) (fun _ =>rfl) rfl (fun _ _ _ _ =>by kernel_rfl) aqW h
 | steal x =>exact abc (S:=SR1) (ps:=[.ref 27]) (rs:=[.sh .b]) (c:=42) (mk:=MV.steal) (fun _ =>rfl) rfl (fun _ _ _ _ =>by kernel_rfl) anO h
 | set x =>exact abc (S:=SR1) (ps:=[.ref 27]) (rs:=[.sh .b]) (c:=54) (mk:=MV.set) (fun _ =>rfl) rfl (fun _ _ _ _ =>by kernel_rfl) apE h
 | reset x =>exact abc (S:=SR1) (ps:=[.ref 27]) (rs:=[.sh .b]) (c:=43) (mk:=MV.reset) (fun _ =>rfl) rfl (fun _ _ _ _ =>by kernel_rfl) anB h
 | insert x =>exact abc (S:=SR1) (ps:=[.ref 27]) (rs:=[.sh .b]) (c:=36) (mk:=MV.insert) (fun _ =>rfl) rfl (fun _ _ _ _ =>by kernel_rfl) akJ h
 | remove x =>exact abc (S:=SR1) (ps:=[.ref 27]) (rs:=[.sh .b]) (c:=51) (mk:=MV.remove) (fun _ =>rfl) rfl (fun _ _ _ _ =>by kernel_rfl) akI h
 | sleep x =>exact abc (S:=SR1) (ps:=[.ref 27]) (rs:=[.sh .b]) (c:=32) (mk:=MV.sleep) (fun _ =>rfl) rfl (fun _ _ _ _ =>by kernel_rfl) apm h
 | wake x =>exact abc (S:=SR1) (ps:=[.ref 27]) (rs:=[.sh .b]) (c:=38) (mk:=MV.wake) (fun _ =>rfl) rfl (fun _ _ _ _ =>by kernel_rfl) aqN h
 | raise x =>exact abc (S:=SR1) (ps:=[.ref 27]) (rs:=[.sh .b]) (c:=55) (mk:=MV.raise) (fun _ =>rfl) rfl (fun _ _ _ _ =>by kernel_rfl) aox h
 | probe x =>exact abc (S:=SR1) (ps:=[.ref 27]) (rs:=[.sh .b]) (c:=46) (mk:=MV.probe) (fun _ =>rfl) rfl (fun _ _ _ _ =>by kernel_rfl) an6 h
 | _ =>cases h
theorem auv:CO Tryz.prog asN:=akT (S:=SR1) (i:=0) (ps:=[.ref 27]) (rs:=[.sh .b]) (spec:=fun m xs =>akf m xs.1) aaB
noncomputable def afz (m:MV):Option ((Int×Int×Unit)×(MV×Unit)) :=
 match m with
 | .alloc x =>some ((x.o.code,x.o.value,()),(MV.alloc x,()))
 | .publish x =>some ((x.o.code,x.o.value,()),(MV.publish x,()))
 | .claim x =>some ((x.o.code,x.o.value,()),(MV.claim x,()))
 | .attempt x =>some ((x.o.code,x.o.value,()),(MV.attempt x,()))
 | .release x =>some ((x.o.code,x.o.value,()),(MV.release x,()))
 | .opush x =>some ((x.o.code,x.o.value,()),(MV.opush x,()))
 | .opop x =>some ((x.o.code,x.o.value,()),(MV.opop x,()))
 | .steal x =>some ((x.o.code,x.o.value,()),(MV.steal x,()))
 | .set x =>some ((x.o.code,x.o.value,()),(MV.set x,()))
 | .reset x =>some ((x.o.code,x.o.value,()),(MV.reset x,()))
 | .insert x =>some ((x.o.code,x.o.value,()),(MV.insert x,()))
 | .remove x =>some ((x.o.code,x.o.value,()),(MV.remove x,()))
 | .sleep x =>some ((x.o.code,x.o.value,()),(MV.sleep x,()))
 | .wake x =>some ((x.o.code,x.o.value,()),(MV.wake x,()))
 | .raise x =>some ((x.o.code,x.o.value,()),(MV.raise x,()))
 | .probe x =>some ((x.o.code,x.o.value,()),(MV.probe x,()))
 | _ =>none
noncomputable abbrev anZ:Con SR1:=⟨1000000001,[.mch],[.sh sI_,.sh sI_],fun x =>afz x.1⟩
theorem aal (m:MV) (xs:amk SR1 []) (out:amn SR1 [.sh sI_,.sh sI_]×(MV×ak7 SR1 [])) (h:afz m=some out):ar3 SR1 Tryz.prog 1 [] [.sh sI_,.sh sI_] m xs out:=by
 cases m with
 | alloc x =>exact abc (S:=SR1) (ps:=[]) (rs:=[.sh sI_,.sh sI_]) (c:=35) (mk:=MV.alloc) (f:=161) (sp:=fun x =>some ((x.1.o.code,x.1.o.value,()),(x.1,()))) (fun _ =>rfl) rfl (fun _ _ _ _ =>by kernel_rfl) (acA [aaY] ⟨aaS,trivial⟩ fun x =>by kernel_rfl) h
 | publish x =>exact abc (S:=SR1) (ps:=[]) (rs:=[.sh sI_,.sh sI_]) (c:=50) (mk:=MV.publish) (f:=161) (sp:=fun x =>some ((x.1.o.code,x.1.o.value,()),(x.1,()))) (fun _ =>rfl) rfl (fun _ _ _ _ =>by kernel_rfl) (acA [aaY] ⟨aaS,trivial⟩ fun x =>by kernel_rfl) h
 | claim x =>exact abc (S:=SR1) (ps:=[]) (rs:=[.sh sI_,.sh sI_]) (c:=45) (mk:=MV.claim) (f:=161) (sp:=fun x =>some ((x.1.o.code,x.1.o.value,()),(x.1,()))) (fun _ =>rfl) rfl (fun _ _ _ _ =>by kernel_rfl) (acA [aaY] ⟨aaS,trivial⟩ fun x =>by kernel_rfl) h
 | attempt x =>exact abc (S:=SR1) (ps:=[]) (rs:=[.sh sI_,.sh sI_]) (c:=34) (mk:=MV.attempt) (f:=161) (sp:=fun x =>some ((x.1.o.code,x.1.o.value,()),(x.1,()))) (fun _ =>rfl) rfl (fun _ _ _ _ =>by kernel_rfl) (acA [aaY] ⟨aaS,trivial⟩ fun x =>by kernel_rfl) h
 | release x =>exact abc (S:=SR1) (ps:=[]) (rs:=[.sh sI_,.sh sI_]) (c:=37) (mk:=MV.release) (f:=161) (sp:=fun x =>some ((x.1.o.code,x.1.o.value,()),(x.1,()))) (fun _ =>rfl) rfl (fun _ _ _ _ =>by kernel_rfl) (acA [aaY] ⟨aaS,trivial⟩ fun x =>by kernel_rfl) h
 | opush x =>exact abc (S:=SR1) (ps:=[]) (rs:=[.sh sI_,.sh sI_]) (c:=53) (mk:=MV.opush) (f:=161) (sp:=fun x =>some ((x.1.o.code,x.1.o.value,()),(x.1,()))) (fun _ =>rfl) rfl (fun _ _ _ _ =>by kernel_rfl) (acA [aaY] ⟨aaS,trivial⟩ fun x =>by kernel_rfl) h
 | opop x =>exact abc (S:=SR1) (ps:=[]) (rs:=[.sh sI_,.sh sI_]) (c:=52) (mk:=MV.opop) (f:=161) (sp:=fun x =>some ((x.1.o.code,x.1.o.value,()),(x.1,()))) (fun _ =>rfl) rfl (fun _ _ _ _ =>by kernel_rfl) (acA [aaY] ⟨aaS,trivial⟩ fun x =>by kernel_rfl) h
 | steal x =>exact abc (S:=SR1) (ps:=[]) (rs:=[.sh sI_,.sh sI_]) (c:=42) (mk:=MV.steal) (f:=161) (sp:=fun x =>some ((x.1.o.code,x.1.o.value,()),(x.1,()))) (fun _ =>rfl) rfl (fun _ _ _ _ =>by kernel_rfl) (acA [aaY] ⟨aaS,trivial⟩ fun x =>by kernel_rfl) h
 | set x =>exact abc (S:=SR1) (ps:=[]) (rs:=[.sh sI_,.sh sI_]) (c:=54) (mk:=MV.set) (f:=161) (sp:=fun x =>some ((x.1.o.code,x.1.o.value,()),(x.1,()))) (fun _ =>rfl) rfl (fun _ _ _ _ =>by kernel_rfl) (acA [aaY] ⟨aaS,trivial⟩ fun x =>by kernel_rfl) h
 | reset x =>exact abc (S:=SR1) (ps:=[]) (rs:=[.sh sI_,.sh sI_]) (c:=43) (mk:=MV.reset) (f:=161) (sp:=fun x =>some ((x.1.o.code,x.1.o.value,()),(x.1,()))) (fun _ =>rfl) rfl (fun _ _ _ _ =>by kernel_rfl) (acA [aaY] ⟨aaS,trivial⟩ fun x =>by kernel_rfl) h
 | insert x =>exact abc (S:=SR1) (ps:=[]) (rs:=[.sh sI_,.sh sI_]) (c:=36) (mk:=MV.insert) (f:=161) (sp:=fun x =>some ((x.1.o.code,x.1.o.value,()),(x.1,()))) (fun _ =>rfl) rfl (fun _ _ _ _ =>by kernel_rfl) (acA [aaY] ⟨aaS,trivial⟩ fun x =>by kernel_rfl) h
 | remove x =>exact abc (S:=SR1) (ps:=[]) (rs:=[.sh sI_,.sh sI_]) (c:=51) (mk:=MV.remove) (f:=161) (sp:=fun x =>some ((x.1.o.code,x.1.o.value,()),(x.1,()))) (fun _ =>rfl) rfl (fun _ _ _ _ =>by kernel_rfl) (acA [aaY] ⟨aaS,trivial⟩ fun x =>by kernel_rfl) h
 | sleep x =>exact abc (S:=SR1) (ps:=[]) (rs:=[.sh sI_,.sh sI_]) (c:=32) (mk:=MV.sleep) (f:=161) (sp:=fun x =>some ((x.1.o.code,x.1.o.value,()),(x.1,()))) (fun _ =>rfl) rfl (fun _ _ _ _ =>by kernel_rfl) (acA [aaY] ⟨aaS,trivial⟩ fun x =>by kernel_rfl) h
 | wake x =>exact abc (S:=SR1) (ps:=[]) (rs:=[.sh sI_,.sh sI_]) (c:=38) (mk:=MV.wake) (f:=161) (sp:=fun x =>some ((x.1.o.code,x.1.o.value,()),(x.1,()))) (fun _ =>rfl) rfl (fun _ _ _ _ =>by kernel_rfl) (acA [aaY] ⟨aaS,trivial⟩ fun x =>by kernel_rfl) h
 | raise x =>exact abc (S:=SR1) (ps:=[]) (rs:=[.sh sI_,.sh sI_]) (c:=55) (mk:=MV.raise) (f:=161) (sp:=fun x =>some ((x.1.o.code,x.1.o.value,()),(x.1,()))) (fun _ =>rfl) rfl (fun _ _ _ _ =>by kernel_rfl) (acA [aaY] ⟨aaS,trivial⟩ fun x =>by kernel_rfl) h
 | probe x =>exact abc (S:=SR1) (ps:=[]) (rs:=[.sh sI_,.sh sI_]) (c:=46) (mk:=MV.probe) (f:=161) (sp:=fun x =>some ((x.1.o.code,x.1.o.value,()),(x.1,()))) (fun _ =>rfl) rfl (fun _ _ _ _ =>by kernel_rfl) (acA [aaY] ⟨aaS,trivial⟩ fun x =>by kernel_rfl) h
 | _ =>cases h
theorem aqF:CO Tryz.prog anZ:=akT (S:=SR1) (i:=1) (ps:=[]) (rs:=[.sh sI_,.sh sI_]) (spec:=fun m _ =>afz m) aal
noncomputable def aqV (y0:QV) (y1:Int):Option ((MV×Unit)×(Unit)) :=
 some ((MV.opush (⟨⟨false,0,0⟩,y0,y1,1,0⟩:OPushV),()),())
noncomputable abbrev aqT:Con SR1:=⟨256,[.val 14,.sh sI_],[.sh .mach],fun x =>aqV x.1 x.2.1⟩
theorem au2:CO Tryz.prog aqT:=aam aah Tryz.func256 [] trivial
noncomputable def ak3 (y0:Int) (y1:Int):Option ((MV×Unit)×(Unit)) :=
 some ((MV.set (⟨⟨false,0,0⟩,y0,y1⟩:SetV),()),())
noncomputable abbrev arJ:Con SR1:=⟨257,[.sh sI_,.sh sI_],[.sh .mach],fun x =>ak3 x.1 x.2.1⟩
theorem avO:CO Tryz.prog arJ:=aam aah Tryz.func257 [] trivial
noncomputable def acC (y0:(LPushV MV)) (y1:EnvP):Option ((Bool×Unit)×((LPushV MV)×EnvP×Unit)) :=
 (aaw y0.o).bind fun r1 =>
 if r1.1.1=true then
 some ((true,()),(({ y0 with o:=r1.2.1 }:(LPushV MV)),y1,()))
 else
 if (SR1.spl y0.inside).isNone=true then
 (ahN y1.l y0.worker y0.level).bind fun r2 =>
 if y0.value=y0.value then
 (aqV r2.1.1 y0.value).bind fun r3 =>
 (akf r3.1.1 y1).bind fun r4 =>
 if (!r4.1.1)=true then
 some ((false,()),(({ y0 with o:=r1.2.1,inside:=r4.2.1 }:(LPushV MV)),r4.2.2.1,()))
 else
 (afz r4.2.1).bind fun r5 =>
 if r5.1.1=3 then
 (abi r1.2.1 3 0).bind fun r6 =>
 some ((r6.1.1,()),(({ y0 with o:=r6.2.1,inside:=r5.2.1 }:(LPushV MV)),r4.2.2.1,()))
 else
 if y0.line=2 then
 (abi r1.2.1 0 0).bind fun r7 =>
 some ((r7.1.1,()),(({ y0 with o:=r7.2.1,inside:=r5.2.1 }:(LPushV MV)),r4.2.2.1,()))
 else
 (aij r4.2.2.1.l y0.worker).bind fun r8 =>
 if y0.level=y0.level then
 (ak3 r8.1.1 y0.level).bind fun r9 =>
 some ((false,()),(({ y0 with o:=r1.2.1,line:=2,inside:=r9.1.1 }:(LPushV MV)),r4.2.2.1,()))
 else none
 else none
 else
 (akf y0.inside y1).bind fun r10 =>
 if (!r10.1.1)=true then
 some ((false,()),(({ y0 with o:=r1.2.1,inside:=r10.2.1 }:(LPushV MV)),r10.2.2.1,()))
 else
 (afz r10.2.1).bind fun r11 =>
 if r11.1.1=3 then
 (abi r1.2.1 3 0).bind fun r12 =>
 some ((r12.1.1,()),(({ y0 with o:=r12.2.1,inside:=r11.2.1 }:(LPushV MV)),r10.2.2.1,()))
 else
 if y0.line=2 then
 (abi r1.2.1 0 0).bind fun r13 =>
 some ((r13.1.1,()),(({ y0 with o:=r13.2.1,inside:=r11.2.1 }:(LPushV MV)),r10.2.2.1,()))
 else
 (aij r10.2.2.1.l y0.worker).bind fun r14 =>
 if y0.level=y0.level then
 (ak3 r14.1.1 y0.level).bind fun r15 =>
 some ((false,()),(({ y0 with o:=r1.2.1,line:=2,inside:=r15.1.1 }:(LPushV MV)),r10.2.2.1,()))
 else none
noncomputable abbrev aps:Con SR1:=⟨255,[.ref 47,.ref 27],[.sh .b],fun x =>acC x.1 x.2.1⟩
theorem aol:CO Tryz.prog aps:=aam aah Tryz.func255 [abu,ali,aqT,asN,anZ,acM,ahO,arJ] ⟨aa9,akv,au2,auv,aqF,abI,aht,avO,trivial⟩
noncomputable def ath (y0:QV):Option ((MV×Unit)×(Unit)) :=
 some ((MV.opop (⟨⟨false,0,0⟩,y0,1,0,0⟩:OPopV),()),())
noncomputable abbrev asi:Con SR1:=⟨245,[.val 14],[.sh .mach],fun x =>ath x.1⟩
theorem awD:CO Tryz.prog asi:=aam aah Tryz.func245 [] trivial
noncomputable def ajk (y0:(LPopV MV)) (y1:EnvP):Option ((Bool×Unit)×((LPopV MV)×EnvP×Unit)) :=
 (aij y1.l y0.worker).bind fun r1 =>
 (acJ y1.m r1.1.1).bind fun r2 =>
 if r2.1.1=0 then
 (abi y0.o 2 0).bind fun r3 =>
 some ((r3.1.1,()),(({ y0 with o:=r3.2.1 }:(LPopV MV)),({ y1 with m:=r2.2.1 }:EnvP),()))
 else
 (ahY r2.1.1).bind fun r4 =>
 (ahN y1.l y0.worker r4.1.1).bind fun r5 =>
 (ath r5.1.1).bind fun r6 =>
 some ((false,()),(({ y0 with level:=r4.1.1,line:=2,inside:=r6.1.1 }:(LPopV MV)),({ y1 with m:=r2.2.1 }:EnvP),()))
noncomputable abbrev akE:Con SR1:=⟨243,[.ref 44,.ref 27],[.sh .b],fun x =>ajk x.1 x.2.1⟩
theorem apu:CO Tryz.prog akE:=aam aah Tryz.func243 [ahO,acL,acM,awx,ali,asi] ⟨aht,abW,abI,axX,akv,awD,trivial⟩
noncomputable def ahW (y0:Int) (y1:Int) (y2:QV):Option ((MV×Unit)×(Unit)) :=
 some ((MV.reset (⟨⟨false,0,0⟩,y0,y1,y2,1,0⟩:ResetV),()),())
noncomputable abbrev ajD:Con SR1:=⟨153,[.sh sI_,.sh sI_,.val 14],[.sh .mach],fun x =>ahW x.1 x.2.1 x.2.2.1⟩
theorem alW:CO Tryz.prog ajD:=aam aah Tryz.func153 [] trivial
noncomputable def adg (y0:(LPopV MV)) (y1:EnvP):Option ((Bool×Unit)×((LPopV MV)×EnvP×Unit)) :=
 (aaw y0.o).bind fun r1 =>
 if r1.1.1=true then
 some ((true,()),(({ y0 with o:=r1.2.1 }:(LPopV MV)),y1,()))
 else
 if y0.line=1 then
 (ajk ({ y0 with o:=r1.2.1 }:(LPopV MV)) y1).bind fun r2 =>
 some ((r2.1.1,()),(r2.2.1,r2.2.2.1,()))
 else
 (akf y0.inside y1).bind fun r3 =>
 if (!r3.1.1)=true then
 some ((false,()),(({ y0 with o:=r1.2.1,inside:=r3.2.1 }:(LPopV MV)),r3.2.2.1,()))
 else
 (afz r3.2.1).bind fun r4 =>
 if y0.line=3 then
 some ((false,()),(({ y0 with o:=r1.2.1,line:=1,inside:=MV.nil }:(LPopV MV)),r3.2.2.1,()))
 else
 if r4.1.1=1 then
 (abi r1.2.1 1 r4.1.2.1).bind fun r5 =>
 some ((r5.1.1,()),(({ y0 with o:=r5.2.1,inside:=r4.2.1 }:(LPopV MV)),r3.2.2.1,()))
 else
 (aij r3.2.2.1.l y0.worker).bind fun r6 =>
 if y0.level=y0.level then
 if y0.worker=y0.worker then
 if r3.2.2.1.l.workers=r3.2.2.1.l.workers then
 if r3.2.2.1.l.levels=r3.2.2.1.l.levels then
 if r3.2.2.1.l.classes=r3.2.2.1.l.classes then
 if r3.2.2.1.l.tasks=r3.2.2.1.l.tasks then
 if r3.2.2.1.l.deque=r3.2.2.1.l.deque then
 if r3.2.2.1.l.heap=r3.2.2.1.l.heap then
 if r3.2.2.1.l.sleepers=r3.2.2.1.l.sleepers then
 if r3.2.2.1.l.epochs=r3.2.2.1.l.epochs then
 if r3.2.2.1.l.bitmaps=r3.2.2.1.l.bitmaps then
 if r3.2.2.1.l.queues=r3.2.2.1.l.queues then
 if r3.2.2.1.l.table=r3.2.2.1.l.table then
 if y0.level=y0.level then
 (ahN r3.2.2.1.l y0.worker y0.level).bind fun r7 =>
 if y0.level=y0.level then
 (ahW r6.1.1 y0.level r7.1.1).bind fun r8 =>
 some ((false,()),(({ y0 with o:=r1.2.1,line:=3,inside:=r8.1.1 }:(LPopV MV)),r3.2.2.1,()))
 else none
 else none
 else none
 else none
 else none
 else none
 else none
 else none
 else none
 else none
 else none
 else none
 else none
 else none
 else none
noncomputable abbrev aq8:Con SR1:=⟨242,[.ref 44,.ref 27],[.sh .b],fun x =>adg x.1 x.2.1⟩
theorem apt:CO Tryz.prog aq8:=aam aah Tryz.func242 [abu,akE,asN,anZ,acM,ahO,ali,ajD] ⟨aa9,apu,auv,aqF,abI,aht,akv,alW,trivial⟩
noncomputable def aeg (m:MV) (e:EnvP):Option ((Bool×Unit)×(MV×EnvP×Unit)) :=
 match m with
 | .alloc x =>(ab4 x e).bind fun o =>some (o.1,(MV.alloc o.2.1,o.2.2))
 | .publish x =>(abS x e).bind fun o =>some (o.1,(MV.publish o.2.1,o.2.2))
 | .claim x =>(adk x e).bind fun o =>some (o.1,(MV.claim o.2.1,o.2.2))
 | .attempt x =>(acQ x e).bind fun o =>some (o.1,(MV.attempt o.2.1,o.2.2))
 | .release x =>(acP x e).bind fun o =>some (o.1,(MV.release o.2.1,o.2.2))
 | .opush x =>(adS x e).bind fun o =>some (o.1,(MV.opush o.2.1,o.2.2))
 | .opop x =>(aes x e).bind fun o =>some (o.1,(MV.opop o.2.1,o.2.2))
 | .steal x =>(adj x e).bind fun o =>some (o.1,(MV.steal o.2.1,o.2.2))
 | .set x =>(adW x e).bind fun o =>some (o.1,(MV.set o.2.1,o.2.2))
 | .reset x =>(acT x e).bind fun o =>some (o.1,(MV.reset o.2.1,o.2.2))
 | .insert x =>(abN x e).bind fun o =>some (o.1,(MV.insert o.2.1,o.2.2))
 | .remove x =>(abM x e).bind fun o =>some (o.1,(MV.remove o.2.1,o.2.2))
 | .sleep x =>(ade x e).bind fun o =>some (o.1,(MV.sleep o.2.1,o.2.2))
 | .wake x =>(adH x e).bind fun o =>some (o.1,(MV.wake o.2.1,o.2.2))
 | .raise x =>(acE x e).bind fun o =>some (o.1,(MV.raise o.2.1,o.2.2))
 | .probe x =>(abp x e).bind fun o =>some (o.1,(MV.probe o.2.1,o.2.2))
 | .lpush x =>(acC x e).bind fun o =>some (o.1,(MV.lpush o.2.1,o.2.2))
 | .lpop x =>(adg x e).bind fun o =>some (o.1,(MV.lpop o.2.1,o.2.2))
 | _ =>none
noncomputable abbrev ajb:Con SR1:=⟨1000000000,[.mch,.ref 27],[.sh .b],fun x =>aeg x.1 x.2.1⟩
theorem amw (m:MV) (xs:amk SR1 [.ref 27]) (out:amn SR1 [.sh .b]×(MV×ak7 SR1 [.ref 27])) (h:aeg m xs.1=some out):ar3 SR1 Tryz.prog 0 [.ref 27] [.sh .b] m xs out:=by
 cases m with
 | alloc x =>exact aaB (.alloc x) xs out h
 | publish x =>exact aaB (.publish x) xs out h
 | claim x =>exact aaB (.claim x) xs out h
 | attempt x =>exact aaB (.attempt x) xs out h
 | release x =>exact aaB (.release x) xs out h
 | opush x =>exact aaB (.opush x) xs out h
 | opop x =>exact aaB (.opop x) xs out h
 | steal x =>exact aaB (.steal x) xs out h
 | set x =>exact aaB (.set x) xs out h
 | reset x =>exact aaB (.reset x) xs out h
 | insert x =>exact aaB (.insert x) xs out h
 | remove x =>exact aaB (.remove x) xs out h
 | sleep x =>exact aaB (.sleep x) xs out h
 | wake x =>exact aaB (.wake x) xs out h
 | raise x =>exact aaB (.raise x) xs out h
 | probe x =>exact aaB (.probe x) xs out h
 | lpush x =>exact abc (S:=SR1) (ps:=[.ref 27]) (rs:=[.sh .b]) (c:=47) (mk:=MV.lpush) (fun _ =>rfl) rfl (fun _ _ _ _ =>by kernel_rfl) aol h
 | lpop x =>exact abc (S:=SR1) (ps:=[.ref 27]) (rs:=[.sh .b]) (c:=44) (mk:=MV.lpop) (fun _ =>rfl) rfl (fun _ _ _ _ =>by kernel_rfl) apt h
 | _ =>cases h
theorem aiz:CO Tryz.prog ajb:=akT (S:=SR1) (i:=0) (ps:=[.ref 27]) (rs:=[.sh .b]) (spec:=fun m xs =>aeg m xs.1) amw
noncomputable def abF (m:MV):Option ((Int×Int×Unit)×(MV×Unit)) :=
 match m with
 | .alloc x =>some ((x.o.code,x.o.value,()),(MV.alloc x,()))
 | .publish x =>some ((x.o.code,x.o.value,()),(MV.publish x,()))
 | .claim x =>some ((x.o.code,x.o.value,()),(MV.claim x,()))
 | .attempt x =>some ((x.o.code,x.o.value,()),(MV.attempt x,()))
 | .release x =>some ((x.o.code,x.o.value,()),(MV.release x,()))
 | .opush x =>some ((x.o.code,x.o.value,()),(MV.opush x,()))
 | .opop x =>some ((x.o.code,x.o.value,()),(MV.opop x,()))
 | .steal x =>some ((x.o.code,x.o.value,()),(MV.steal x,()))
 | .set x =>some ((x.o.code,x.o.value,()),(MV.set x,()))
 | .reset x =>some ((x.o.code,x.o.value,()),(MV.reset x,()))
 | .insert x =>some ((x.o.code,x.o.value,()),(MV.insert x,()))
 | .remove x =>some ((x.o.code,x.o.value,()),(MV.remove x,()))
 | .sleep x =>some ((x.o.code,x.o.value,()),(MV.sleep x,()))
 | .wake x =>some ((x.o.code,x.o.value,()),(MV.wake x,()))
 | .raise x =>some ((x.o.code,x.o.value,()),(MV.raise x,()))
 | .probe x =>some ((x.o.code,x.o.value,()),(MV.probe x,()))
 | .lpush x =>some ((x.o.code,x.o.value,()),(MV.lpush x,()))
 | .lpop x =>some ((x.o.code,x.o.value,()),(MV.lpop x,()))
 | _ =>none
noncomputable abbrev af8:Con SR1:=⟨1000000001,[.mch],[.sh sI_,.sh sI_],fun x =>abF x.1⟩
theorem aiN (m:MV) (xs:amk SR1 []) (out:amn SR1 [.sh sI_,.sh sI_]×(MV×ak7 SR1 [])) (h:abF m=some out):ar3 SR1 Tryz.prog 1 [] [.sh sI_,.sh sI_] m xs out:=by
 cases m with
 | alloc x =>exact aal (.alloc x) xs out h
 | publish x =>exact aal (.publish x) xs out h
 | claim x =>exact aal (.claim x) xs out h
 | attempt x =>exact aal (.attempt x) xs out h
 | release x =>exact aal (.release x) xs out h
 | opush x =>exact aal (.opush x) xs out h
 | opop x =>exact aal (.opop x) xs out h
 | steal x =>exact aal (.steal x) xs out h
 | set x =>exact aal (.set x) xs out h
 | reset x =>exact aal (.reset x) xs out h
 | insert x =>exact aal (.insert x) xs out h
 | remove x =>exact aal (.remove x) xs out h
 | sleep x =>exact aal (.sleep x) xs out h
 | wake x =>exact aal (.wake x) xs out h
 | raise x =>exact aal (.raise x) xs out h
 | probe x =>exact aal (.probe x) xs out h
 | lpush x =>exact abc (S:=SR1) (ps:=[]) (rs:=[.sh sI_,.sh sI_]) (c:=47) (mk:=MV.lpush) (f:=161) (sp:=fun x =>some ((x.1.o.code,x.1.o.value,()),(x.1,()))) (fun _ =>rfl) rfl (fun _ _ _ _ =>by kernel_rfl) (acA [aaY] ⟨aaS,trivial⟩ fun x =>by kernel_rfl) h
 | lpop x =>exact abc (S:=SR1) (ps:=[]) (rs:=[.sh sI_,.sh sI_]) (c:=44) (mk:=MV.lpop) (f:=161) (sp:=fun x =>some ((x.1.o.code,x.1.o.value,()),(x.1,()))) (fun _ =>rfl) rfl (fun _ _ _ _ =>by kernel_rfl) (acA [aaY] ⟨aaS,trivial⟩ fun x =>by kernel_rfl) h
 | _ =>cases h
theorem af7:CO Tryz.prog af8:=akT (S:=SR1) (i:=1) (ps:=[]) (rs:=[.sh sI_,.sh sI_]) (spec:=fun m _ =>abF m) aiN
noncomputable def aoy (y0:Int) (y1:Int) (y2:Int):Option ((MV×Unit)×(Unit)) :=
 some ((MV.raise (⟨⟨false,0,0⟩,y0,y1,y2,1,0⟩:RaiseV),()),())
noncomputable abbrev ao5:Con SR1:=⟨270,[.sh sI_,.sh sI_,.sh sI_],[.sh .mach],fun x =>aoy x.1 x.2.1 x.2.2.1⟩
theorem at1:CO Tryz.prog ao5:=aam aah Tryz.func270 [] trivial
noncomputable def aeX (y0:(WalkV MV)) (y1:EnvP):Option ((Bool×Unit)×((WalkV MV)×EnvP×Unit)) :=
 if (SR1.spl y0.inside).isNone=true then
 (ak1 y1 y0.task y0.level).bind fun r1 =>
 if (!r1.1.1)=true then
 (abi y0.o 4 0).bind fun r2 =>
 some ((r2.1.1,()),(({ y0 with o:=r2.2.1 }:(WalkV MV)),r1.2.1,()))
 else
 (aoy y0.worker y0.task y0.level).bind fun r3 =>
 (aeg r3.1.1 r1.2.1).bind fun r4 =>
 if (!r4.1.1)=true then
 some ((false,()),(({ y0 with inside:=r4.2.1 }:(WalkV MV)),r4.2.2.1,()))
 else
 (abF r4.2.1).bind fun r5 =>
 if r5.1.1=1 then
 some ((false,()),(({ y0 with line:=2,inside:=MV.nil }:(WalkV MV)),r4.2.2.1,()))
 else
 some ((false,()),(({ y0 with line:=4,inside:=MV.nil }:(WalkV MV)),r4.2.2.1,()))
 else
 (aeg y0.inside y1).bind fun r6 =>
 if (!r6.1.1)=true then
 some ((false,()),(({ y0 with inside:=r6.2.1 }:(WalkV MV)),r6.2.2.1,()))
 else
 (abF r6.2.1).bind fun r7 =>
 if r7.1.1=1 then
 some ((false,()),(({ y0 with line:=2,inside:=MV.nil }:(WalkV MV)),r6.2.2.1,()))
 else
 some ((false,()),(({ y0 with line:=4,inside:=MV.nil }:(WalkV MV)),r6.2.2.1,()))
noncomputable abbrev ajR:Con SR1:=⟨267,[.ref 48,.ref 27],[.sh .b],fun x =>aeX x.1 x.2.1⟩
theorem aow:CO Tryz.prog ajR:=aam aah Tryz.func267 [ami,acM,ao5,ajb,af8] ⟨ao6,abI,at1,aiz,af7,trivial⟩
noncomputable def acK (y0:Int) (y1:Int) (y2:Int):Option ((MV×Unit)×(Unit)) :=
 some ((MV.lpush (⟨⟨false,0,0⟩,y0,y1,y2,1,MV.nil⟩:(LPushV MV)),()),())
noncomputable abbrev afk:Con SR1:=⟨204,[.sh sI_,.sh sI_,.sh sI_],[.sh .mach],fun x =>acK x.1 x.2.1 x.2.2.1⟩
theorem afC:CO Tryz.prog afk:=aam aah Tryz.func204 [] trivial
noncomputable def ajC (y0:(WalkV MV)) (y1:EnvP):Option ((Unit)×((WalkV MV)×EnvP×Unit)) :=
 (aeg y0.inside y1).bind fun r1 =>
 if (!r1.1.1)=true then
 some ((()),(({ y0 with inside:=r1.2.1 }:(WalkV MV)),r1.2.2.1,()))
 else
 (abF r1.2.1).bind fun r2 =>
 if r2.1.1=3 then
 (aeJ r1.2.2.1 ({ y0 with kind:=19,other:=0 }:Ev)).bind fun r3 =>
 some ((()),(({ y0 with line:=4,inside:=MV.nil }:(WalkV MV)),r3.2.1,()))
 else
 some ((()),(({ y0 with line:=4,inside:=MV.nil }:(WalkV MV)),r1.2.2.1,()))
noncomputable abbrev akZ:Con SR1:=⟨268,[.ref 48,.ref 27],[],fun x =>ajC x.1 x.2.1⟩
theorem apC:CO Tryz.prog akZ:=aam aah Tryz.func268 [ajb,af8,aga] ⟨aiz,af7,ae2,trivial⟩
noncomputable def acb (y0:(WalkV MV)) (y1:EnvP):Option ((Bool×Unit)×((WalkV MV)×EnvP×Unit)) :=
 (aaw y0.o).bind fun r1 =>
 if r1.1.1=true then
 some ((true,()),(({ y0 with o:=r1.2.1 }:(WalkV MV)),y1,()))
 else
 if y0.line=1 then
 (aeX ({ y0 with o:=r1.2.1 }:(WalkV MV)) y1).bind fun r2 =>
 some ((r2.1.1,()),(r2.2.1,r2.2.2.1,()))
 else
 if y0.line=2 then
 (afh y1.l y0.task).bind fun r3 =>
 (acJ y1.m r3.1.1).bind fun r4 =>
 if r4.1.1=1 then
 (acK y0.worker y0.level y0.task).bind fun r5 =>
 some ((false,()),(({ y0 with o:=r1.2.1,line:=3,inside:=r5.1.1 }:(WalkV MV)),({ y1 with m:=r4.2.1 }:EnvP),()))
 else
 some ((false,()),(({ y0 with o:=r1.2.1,line:=4 }:(WalkV MV)),({ y1 with m:=r4.2.1 }:EnvP),()))
 else
 if y0.line=3 then
 (ajC ({ y0 with o:=r1.2.1 }:(WalkV MV)) y1).bind fun r6 =>
 some ((false,()),(r6.2.1,r6.2.2.1,()))
 else
 (aks y1.l y0.task).bind fun r7 =>
 (acJ y1.m r7.1.1).bind fun r8 =>
 if r8.1.1=0 then
 (abi r1.2.1 0 0).bind fun r9 =>
 some ((r9.1.1,()),(({ y0 with o:=r9.2.1 }:(WalkV MV)),({ y1 with m:=r8.2.1 }:EnvP),()))
 else
 some ((false,()),(({ y0 with o:=r1.2.1,task:=wi (wu (r8.1.1-1)),line:=1 }:(WalkV MV)),({ y1 with m:=r8.2.1 }:EnvP),()))
noncomputable abbrev arI:Con SR1:=⟨266,[.ref 48,.ref 27],[.sh .b],fun x =>acb x.1 x.2.1⟩
theorem apB:CO Tryz.prog arI:=aam aah Tryz.func266 [abu,ajR,ahk,acL,afk,akZ,apM,acM] ⟨aa9,aow,agG,abW,afC,apC,aqQ,abI,trivial⟩
noncomputable def agK (y0:Int):Option ((MV×Unit)×(Unit)) :=
 some ((MV.lpop (⟨⟨false,0,0⟩,y0,0,1,MV.nil⟩:(LPopV MV)),()),())
noncomputable abbrev al8:Con SR1:=⟨156,[.sh sI_],[.sh .mach],fun x =>agK x.1⟩
theorem aoY:CO Tryz.prog al8:=aam aah Tryz.func156 [] trivial
noncomputable def acI (y0:Int) (y1:Int):Option ((MV×Unit)×(Unit)) :=
 some ((MV.claim (⟨⟨false,0,0⟩,y0,y1⟩:ClaimV),()),())
noncomputable abbrev agC:Con SR1:=⟨157,[.sh sI_,.sh sI_],[.sh .mach],fun x =>acI x.1 x.2.1⟩
theorem ahh:CO Tryz.prog agC:=aam aah Tryz.func157 [] trivial
noncomputable def afg (y0:(TakeV MV)) (y1:EnvP):Option ((Bool×Unit)×((TakeV MV)×EnvP×Unit)) :=
 (aaw y0.o).bind fun r1 =>
 if r1.1.1=true then
 some ((true,()),(({ y0 with o:=r1.2.1 }:(TakeV MV)),y1,()))
 else
 (aeg y0.inside y1).bind fun r2 =>
 if (!r2.1.1)=true then
 some ((false,()),(({ y0 with o:=r1.2.1,inside:=r2.2.1 }:(TakeV MV)),r2.2.2.1,()))
 else
 (abF r2.2.1).bind fun r3 =>
 if y0.claiming=true then
 if r3.1.1=1 then
 (abi r1.2.1 1 r3.1.2.1).bind fun r4 =>
 some ((r4.1.1,()),(({ y0 with o:=r4.2.1,inside:=r3.2.1 }:(TakeV MV)),r2.2.2.1,()))
 else
 if y0.claiming=true then
 (agK y0.worker).bind fun r5 =>
 some ((false,()),((⟨r1.2.1,y0.worker,false,r5.1.1⟩:(TakeV MV)),r2.2.2.1,()))
 else
 if r3.1.1=2 then
 (abi r1.2.1 2 0).bind fun r6 =>
 some ((r6.1.1,()),(({ y0 with o:=r6.2.1,inside:=r3.2.1 }:(TakeV MV)),r2.2.2.1,()))
 else
 (acI y0.worker r3.1.2.1).bind fun r7 =>
 some ((false,()),((⟨r1.2.1,y0.worker,true,r7.1.1⟩:(TakeV MV)),r2.2.2.1,()))
 else
 if y0.claiming=true then
 (agK y0.worker).bind fun r8 =>
 some ((false,()),((⟨r1.2.1,y0.worker,false,r8.1.1⟩:(TakeV MV)),r2.2.2.1,()))
 else
 if r3.1.1=2 then
 (abi r1.2.1 2 0).bind fun r9 =>
 some ((r9.1.1,()),(({ y0 with o:=r9.2.1,inside:=r3.2.1 }:(TakeV MV)),r2.2.2.1,()))
 else
 (acI y0.worker r3.1.2.1).bind fun r10 =>
 some ((false,()),((⟨r1.2.1,y0.worker,true,r10.1.1⟩:(TakeV MV)),r2.2.2.1,()))
noncomputable abbrev arS:Con SR1:=⟨199,[.ref 39,.ref 27],[.sh .b],fun x =>afg x.1 x.2.1⟩
theorem aqs:CO Tryz.prog arS:=aam aah Tryz.func199 [abu,ajb,af8,acM,al8,agC] ⟨aa9,aiz,af7,abI,aoY,ahh,trivial⟩
noncomputable def abJ (y0:(SweepV MV)) (y1:EnvP):Option ((Bool×Unit)×((SweepV MV)×EnvP×Unit)) :=
 if y0.line=1 then
 ((
 if y0.task<0 then
 some (true,y0,y1,())
 else
 if y1.c.tasks≤y0.task then
 some (true,y0,y1,())
 else
 some (decide (y1.c.age=0),y0,y1,())
 ):Option (Bool×(SweepV MV)×EnvP×Unit)).bind fun z1 =>
 if z1.1=true then
 some ((true,()),(z1.2.1,z1.2.2.1,()))
 else
 (afh z1.2.2.1.l z1.2.1.task).bind fun r2 =>
 (acJ z1.2.2.1.m r2.1.1).bind fun r3 =>
 some ((decide (r3.1.1≠1),()),(z1.2.1,({ z1.2.2.1 with m:=r3.2.1 }:EnvP),()))
 else
 if y0.line=2 then
 (ajN y1.l y0.task).bind fun r4 =>
 (acJ y1.m r4.1.1).bind fun r5 =>
 (as8 y1.k).bind fun r6 =>
 if y1.c.age=y1.c.age then
 some ((decide ((wi (r6.1.1-(wi (r5.1.1))))<y1.c.age),()),(y0,({ y1 with m:=r5.2.1,k:=r6.2.1 }:EnvP),()))
 else none
 else
 (afR y1.l y0.task).bind fun r7 =>
 (acJ y1.m r7.1.1).bind fun r8 =>
 some ((decide ((wi (y1.c.levels-1))≤(wi (r8.1.1))),()),(({ y0 with q:=r8.1.1 }:(SweepV MV)),({ y1 with m:=r8.2.1 }:EnvP),()))
noncomputable abbrev ajT:Con SR1:=⟨202,[.ref 40,.ref 27],[.sh .b],fun x =>abJ x.1 x.2.1⟩
theorem aoE:CO Tryz.prog ajT:=aam aah Tryz.func202 [ahk,acL,alh,aoX,ahl] ⟨agG,abW,akt,al6,agH,trivial⟩ [(4,.cut [.rg 36 .b,.ob 0 40,.ob 1 27] [])]
noncomputable def abQ (y0:(SweepV MV)) (y1:Int):Option ((Ev×Unit)×((SweepV MV)×Unit)) :=
 some ((({ y0 with kind:=y1,other:=0,level:=wi ((wi (y0.q))+1) }:Ev),()),(y0,()))
noncomputable abbrev ai3:Con SR1:=⟨203,[.ref 40,.sh sI_],[.val 2],fun x =>abQ x.1 x.2.1⟩
theorem anI:CO Tryz.prog ai3:=aam aah Tryz.func203 [] trivial
noncomputable def aaE (y0:(SweepV MV)) (y1:EnvP):Option ((Bool×Unit)×((SweepV MV)×EnvP×Unit)) :=
 (aaw y0.o).bind fun r1 =>
 if r1.1.1=true then
 some ((true,()),(({ y0 with o:=r1.2.1 }:(SweepV MV)),y1,()))
 else
 if y0.line=1 then
 if y0.line=1 then
 (abJ ({ y0 with o:=r1.2.1 }:(SweepV MV)) y1).bind fun r2 =>
 if r2.1.1=true then
 (abi r2.2.1.o 0 0).bind fun r3 =>
 some ((r3.1.1,()),(({ r2.2.1 with o:=r3.2.1 }:(SweepV MV)),r2.2.2.1,()))
 else
 some ((false,()),(({ r2.2.1 with line:=wi (r2.2.1.line+1) }:(SweepV MV)),r2.2.2.1,()))
 else
 if y0.line=4 then
 (afR y1.l y0.task).bind fun r4 =>
 if y0.q=y0.q then
 if y0.q=y0.q then
 (auj y1.m r4.1.1 y0.q (wu (y0.q+1))).bind fun r5 =>
 if (!r5.1.1)=true then
 (abi r1.2.1 4 0).bind fun r6 =>
 some ((r6.1.1,()),(({ y0 with o:=r6.2.1 }:(SweepV MV)),({ y1 with m:=r5.2.1 }:EnvP),()))
 else
 (abQ ({ y0 with o:=r1.2.1 }:(SweepV MV)) 12).bind fun r7 =>
 (aeJ ({ y1 with m:=r5.2.1 }:EnvP) r7.1.1).bind fun r8 =>
 some ((false,()),(({ r7.2.1 with line:=wi (r7.2.1.line+1) }:(SweepV MV)),r8.2.1,()))
 else none
 else none
 else
 if y0.line=5 then
 (ajN y1.l y0.task).bind fun r9 =>
 (as8 y1.k).bind fun r10 =>
 (aa5 y1.m r9.1.1 (wu (r10.1.1))).bind fun r11 =>
 (acK y0.worker (wi ((wi (y0.q))+1)) y0.task).bind fun r12 =>
 some ((false,()),(({ y0 with o:=r1.2.1,line:=wi (y0.line+1),push:=r12.1.1 }:(SweepV MV)),({ y1 with m:=r11.2.1,k:=r10.2.1 }:EnvP),()))
 else
 (aeg y0.push y1).bind fun r13 =>
 if (!r13.1.1)=true then
 some ((false,()),(({ y0 with o:=r1.2.1,push:=r13.2.1 }:(SweepV MV)),r13.2.2.1,()))
 else
 (abF r13.2.1).bind fun r14 =>
 if r14.1.1=3 then
 (abQ ({ y0 with o:=r1.2.1,push:=r14.2.1 }:(SweepV MV)) 19).bind fun r15 =>
 (aeJ r13.2.2.1 r15.1.1).bind fun r16 =>
 (abi r15.2.1.o 1 0).bind fun r17 =>
 some ((r17.1.1,()),(({ r15.2.1 with o:=r17.2.1 }:(SweepV MV)),r16.2.1,()))
 else
 (abi r1.2.1 1 0).bind fun r18 =>
 some ((r18.1.1,()),(({ y0 with o:=r18.2.1,push:=r14.2.1 }:(SweepV MV)),r13.2.2.1,()))
 else
 if y0.line=2 then
 if y0.line=2 then
 (abJ ({ y0 with o:=r1.2.1 }:(SweepV MV)) y1).bind fun r19 =>
 if r19.1.1=true then
 (abi r19.2.1.o 0 0).bind fun r20 =>
 some ((r20.1.1,()),(({ r19.2.1 with o:=r20.2.1 }:(SweepV MV)),r19.2.2.1,()))
 else
 some ((false,()),(({ r19.2.1 with line:=wi (r19.2.1.line+1) }:(SweepV MV)),r19.2.2.1,()))
 else
 if y0.line=4 then
 (afR y1.l y0.task).bind fun r21 =>
 if y0.q=y0.q then
 if y0.q=y0.q then
 (auj y1.m r21.1.1 y0.q (wu (y0.q+1))).bind fun r22 =>
 if (!r22.1.1)=true then
 (abi r1.2.1 4 0).bind fun r23 =>
 some ((r23.1.1,()),(({ y0 with o:=r23.2.1 }:(SweepV MV)),({ y1 with m:=r22.2.1 }:EnvP),()))
 else
 (abQ ({ y0 with o:=r1.2.1 }:(SweepV MV)) 12).bind fun r24 =>
 (aeJ ({ y1 with m:=r22.2.1 }:EnvP) r24.1.1).bind fun r25 =>
 some ((false,()),(({ r24.2.1 with line:=wi (r24.2.1.line+1) }:(SweepV MV)),r25.2.1,()))
 else none
 else none
 else
 if y0.line=5 then
 (ajN y1.l y0.task).bind fun r26 =>
 (as8 y1.k).bind fun r27 =>
 (aa5 y1.m r26.1.1 (wu (r27.1.1))).bind fun r28 =>
 (acK y0.worker (wi ((wi (y0.q))+1)) y0.task).bind fun r29 =>
 some ((false,()),(({ y0 with o:=r1.2.1,line:=wi (y0.line+1),push:=r29.1.1 }:(SweepV MV)),({ y1 with m:=r28.2.1,k:=r27.2.1 }:EnvP),()))
 else
 (aeg y0.push y1).bind fun r30 =>
 if (!r30.1.1)=true then
 some ((false,()),(({ y0 with o:=r1.2.1,push:=r30.2.1 }:(SweepV MV)),r30.2.2.1,()))
 else
 (abF r30.2.1).bind fun r31 =>
 if r31.1.1=3 then
 (abQ ({ y0 with o:=r1.2.1,push:=r31.2.1 }:(SweepV MV)) 19).bind fun r32 =>
 (aeJ r30.2.2.1 r32.1.1).bind fun r33 =>
 (abi r32.2.1.o 1 0).bind fun r34 =>
 some ((r34.1.1,()),(({ r32.2.1 with o:=r34.2.1 }:(SweepV MV)),r33.2.1,()))
 else
 (abi r1.2.1 1 0).bind fun r35 =>
 some ((r35.1.1,()),(({ y0 with o:=r35.2.1,push:=r31.2.1 }:(SweepV MV)),r30.2.2.1,()))
 else
 if y0.line=3 then
 (abJ ({ y0 with o:=r1.2.1 }:(SweepV MV)) y1).bind fun r36 =>
 if r36.1.1=true then
 (abi r36.2.1.o 0 0).bind fun r37 =>
 some ((r37.1.1,()),(({ r36.2.1 with o:=r37.2.1 }:(SweepV MV)),r36.2.2.1,()))
 else
 some ((false,()),(({ r36.2.1 with line:=wi (r36.2.1.line+1) }:(SweepV MV)),r36.2.2.1,()))
 else
 if y0.line=4 then
 (afR y1.l y0.task).bind fun r38 =>
 if y0.q=y0.q then
 if y0.q=y0.q then
 (auj y1.m r38.1.1 y0.q (wu (y0.q+1))).bind fun r39 =>
 if (!r39.1.1)=true then
 (abi r1.2.1 4 0).bind fun r40 =>
 some ((r40.1.1,()),(({ y0 with o:=r40.2.1 }:(SweepV MV)),({ y1 with m:=r39.2.1 }:EnvP),()))
 else
 (abQ ({ y0 with o:=r1.2.1 }:(SweepV MV)) 12).bind fun r41 =>
 (aeJ ({ y1 with m:=r39.2.1 }:EnvP) r41.1.1).bind fun r42 =>
 some ((false,()),(({ r41.2.1 with line:=wi (r41.2.1.line+1) }:(SweepV MV)),r42.2.1,()))
 else none
 else none
 else
 if y0.line=5 then
 (ajN y1.l y0.task).bind fun r43 =>
 (as8 y1.k).bind fun r44 =>
 (aa5 y1.m r43.1.1 (wu (r44.1.1))).bind fun r45 =>
 (acK y0.worker (wi ((wi (y0.q))+1)) y0.task).bind fun r46 =>
 some ((false,()),(({ y0 with o:=r1.2.1,line:=wi (y0.line+1),push:=r46.1.1 }:(SweepV MV)),({ y1 with m:=r45.2.1,k:=r44.2.1 }:EnvP),()))
 else
 (aeg y0.push y1).bind fun r47 =>
 if (!r47.1.1)=true then
 some ((false,()),(({ y0 with o:=r1.2.1,push:=r47.2.1 }:(SweepV MV)),r47.2.2.1,()))
 else
 (abF r47.2.1).bind fun r48 =>
 if r48.1.1=3 then
 (abQ ({ y0 with o:=r1.2.1,push:=r48.2.1 }:(SweepV MV)) 19).bind fun r49 =>
 (aeJ r47.2.2.1 r49.1.1).bind fun r50 =>
 (abi r49.2.1.o 1 0).bind fun r51 =>
 some ((r51.1.1,()),(({ r49.2.1 with o:=r51.2.1 }:(SweepV MV)),r50.2.1,()))
 else
 (abi r1.2.1 1 0).bind fun r52 =>
 some ((r52.1.1,()),(({ y0 with o:=r52.2.1,push:=r48.2.1 }:(SweepV MV)),r47.2.2.1,()))
noncomputable abbrev apF:Con SR1:=⟨201,[.ref 40,.ref 27],[.sh .b],fun x =>aaE x.1 x.2.1⟩
theorem aoD:CO Tryz.prog apF:=aam aah Tryz.func201 [abu,ajT,acM,ahl,amZ,ai3,aga,alh,aoX,aeh,afk,ajb,af8] ⟨aa9,aoE,abI,agH,aky,anI,ae2,akt,al6,adC,afC,aiz,af7,trivial⟩
noncomputable def ab8 (y0:(EnterV MV)) (y1:EnvP):Option ((Bool×Unit)×((EnterV MV)×EnvP×Unit)) :=
 (aaw y0.o).bind fun r1 =>
 if r1.1.1=true then
 some ((true,()),(({ y0 with o:=r1.2.1 }:(EnterV MV)),y1,()))
 else
 if y0.line=1 then
 (af5 y1 y0.task).bind fun r2 =>
 if (!r2.1.1)=true then
 (abi r1.2.1 4 0).bind fun r3 =>
 some ((r3.1.1,()),(({ y0 with o:=r3.2.1 }:(EnterV MV)),r2.2.1,()))
 else
 (ajN r2.2.1.l y0.task).bind fun r4 =>
 (as8 r2.2.1.k).bind fun r5 =>
 (aa5 r2.2.1.m r4.1.1 (wu (r5.1.1))).bind fun r6 =>
 some ((false,()),(({ y0 with o:=r1.2.1,line:=wi (y0.line+1) }:(EnterV MV)),({ r2.2.1 with m:=r6.2.1,k:=r5.2.1 }:EnvP),()))
 else
 if y0.line=2 then
 (afh y1.l y0.task).bind fun r7 =>
 (aa5 y1.m r7.1.1 1).bind fun r8 =>
 some ((false,()),(({ y0 with o:=r1.2.1,line:=wi (y0.line+1) }:(EnterV MV)),({ y1 with m:=r8.2.1 }:EnvP),()))
 else
 if y0.line=3 then
 (afR y1.l y0.task).bind fun r9 =>
 (acJ y1.m r9.1.1).bind fun r10 =>
 (acK y0.worker (wi (r10.1.1)) y0.task).bind fun r11 =>
 some ((false,()),(({ y0 with o:=r1.2.1,level:=wi (r10.1.1),line:=wi (y0.line+1),push:=r11.1.1 }:(EnterV MV)),({ y1 with m:=r10.2.1 }:EnvP),()))
 else
 (aeg y0.push y1).bind fun r12 =>
 if (!r12.1.1)=true then
 some ((false,()),(({ y0 with o:=r1.2.1,push:=r12.2.1 }:(EnterV MV)),r12.2.2.1,()))
 else
 (abF r12.2.1).bind fun r13 =>
 (abi r1.2.1 r13.1.1 y0.level).bind fun r14 =>
 some ((r14.1.1,()),(({ y0 with o:=r14.2.1,push:=r13.2.1 }:(EnterV MV)),r12.2.2.1,()))
noncomputable abbrev apb:Con SR1:=⟨272,[.ref 49,.ref 27],[.sh .b],fun x =>ab8 x.1 x.2.1⟩
theorem anQ:CO Tryz.prog apb:=aam aah Tryz.func272 [abu,ahg,acM,alh,aoX,aeh,ahk,ahl,acL,afk,ajb,af8] ⟨aa9,aih,abI,akt,al6,adC,agG,agH,abW,afC,aiz,af7,trivial⟩
noncomputable def awM (y0:Int):Option ((MV×Unit)×(Unit)) :=
 some ((MV.attempt (⟨⟨false,0,0⟩,y0,true⟩:AttemptV),()),())
noncomputable abbrev avd:Con SR1:=⟨209,[.sh sI_],[.sh .mach],fun x =>awM x.1⟩
theorem ay3:CO Tryz.prog avd:=aam aah Tryz.func209 [] trivial
noncomputable def aaN (y0:(DrainV MV)) (y1:Int) (y2:MV):Option ((Unit)×((DrainV MV)×Unit)) :=
 some ((()),(({ y0 with line:=y1,inside:=y2 }:(DrainV MV)),()))
noncomputable abbrev aex:Con SR1:=⟨208,[.ref 41,.sh sI_,.sh .mach],[],fun x =>aaN x.1 x.2.1 x.2.2.1⟩
theorem ae3:CO Tryz.prog aex:=aam aah Tryz.func208 [] trivial
noncomputable def agq (y0:Int):Option ((MV×Unit)×(Unit)) :=
 some ((MV.remove (⟨⟨false,0,0⟩,y0,1,0,0,0,0,0,0⟩:RemoveV),()),())
noncomputable abbrev ajP:Con SR1:=⟨214,[.sh sI_],[.sh .mach],fun x =>agq x.1⟩
theorem aor:CO Tryz.prog ajP:=aam aah Tryz.func214 [] trivial
noncomputable def abv (y0:(DrainV MV)):Option ((Unit)×((DrainV MV)×Unit)) :=
 (agq y0.worker).bind fun r1 =>
 (aaN y0 3 r1.1.1).bind fun r2 =>
 some ((()),(r2.2.1,()))
noncomputable abbrev aia:Con SR1:=⟨211,[.ref 41],[],fun x =>abv x.1⟩
theorem amd:CO Tryz.prog aia:=aam aah Tryz.func211 [ajP,aex] ⟨aor,ae3,trivial⟩
noncomputable def agb  : Option ((MV×Unit)×(Unit)) :=
 some ((MV.release (⟨⟨false,0,0⟩⟩:ReleaseV),()),())
noncomputable abbrev aji:Con SR1:=⟨121,[],[.sh .mach],fun x =>agb ⟩
theorem alQ:CO Tryz.prog aji:=aam aah Tryz.func121 [] trivial
noncomputable def aa2 (y0:(DrainV MV)):Option ((Unit)×((DrainV MV)×Unit)) :=
 (agb).bind fun r1 =>
 (aaN y0 6 r1.1.1).bind fun r2 =>
 some ((()),(r2.2.1,()))
noncomputable abbrev afd:Con SR1:=⟨207,[.ref 41],[],fun x =>aa2 x.1⟩
theorem ahd:CO Tryz.prog afd:=aam aah Tryz.func207 [aji,aex] ⟨alQ,ae3,trivial⟩
noncomputable def ac5 (y0:(DrainV MV)) (y1:Int):Option ((Unit)×((DrainV MV)×Unit)) :=
 if y1=3 then
 (aa2 ({ y0 with direct:=true }:(DrainV MV))).bind fun r1 =>
 some ((()),(r1.2.1,()))
 else
 some ((()),(({ y0 with last:=y0.p,count:=wi (y0.count+1) }:(DrainV MV)),()))
noncomputable abbrev aib:Con SR1:=⟨212,[.ref 41,.sh sI_],[],fun x =>ac5 x.1 x.2.1⟩
theorem ame:CO Tryz.prog aib:=aam aah Tryz.func212 [afd] ⟨ahd,trivial⟩
noncomputable def adc (y0:Int) (y1:Int):Option ((MV×Unit)×(Unit)) :=
 some ((MV.wake (⟨⟨false,0,0⟩,y0,y1,1,0,0⟩:WakeV),()),())
noncomputable abbrev aiQ:Con SR1:=⟨122,[.sh sI_,.sh sI_],[.sh .mach],fun x =>adc x.1 x.2.1⟩
theorem ajc:CO Tryz.prog aiQ:=aam aah Tryz.func122 [] trivial
noncomputable def aaZ (y0:(DrainV MV)):Option ((Bool×Unit)×((DrainV MV)×Unit)) :=
 if y0.direct=true then
 (abi y0.o 1 y0.x).bind fun r1 =>
 some ((r1.1.1,()),(({ y0 with o:=r1.2.1 }:(DrainV MV)),()))
 else
 if 0<y0.count then
 (abi y0.o 0 y0.count).bind fun r2 =>
 some ((r2.1.1,()),(({ y0 with o:=r2.2.1 }:(DrainV MV)),()))
 else
 (abi y0.o 2 0).bind fun r3 =>
 some ((r3.1.1,()),(({ y0 with o:=r3.2.1 }:(DrainV MV)),()))
noncomputable abbrev aic:Con SR1:=⟨213,[.ref 41],[.sh .b],fun x =>aaZ x.1⟩
theorem amf:CO Tryz.prog aic:=aam aah Tryz.func213 [acM] ⟨abI,trivial⟩
noncomputable def acR (y0:(DrainV MV)) (y1:EnvP) (y2:Int) (y3:Int):Option ((Bool×Unit)×((DrainV MV)×EnvP×Unit)) :=
 if y0.line=2 then
 if y2=5 then
 (abi y0.o 5 0).bind fun r1 =>
 some ((r1.1.1,()),(({ y0 with o:=r1.2.1 }:(DrainV MV)),y1,()))
 else
 if y0.line=2 then
 (abv y0).bind fun r2 =>
 some ((false,()),(r2.2.1,y1,()))
 else
 if y0.line=3 then
 if y2=2 then
 (aa2 y0).bind fun r3 =>
 some ((false,()),(r3.2.1,y1,()))
 else
 if y0.line=3 then
 (aaN ({ y0 with x:=y3 }:(DrainV MV)) 4 MV.nil).bind fun r4 =>
 some ((false,()),(r4.2.1,y1,()))
 else
 if y0.line=5 then
 (ac5 y0 y2).bind fun r5 =>
 if r5.2.1.direct=true then
 some ((false,()),(r5.2.1,y1,()))
 else
 if r5.2.1.count<y1.c.batch then
 (abv r5.2.1).bind fun r6 =>
 some ((false,()),(r6.2.1,y1,()))
 else
 (aa2 r5.2.1).bind fun r7 =>
 some ((false,()),(r7.2.1,y1,()))
 else
 if y0.line=6 then
 if 0<y0.count then
 (adc y0.worker y0.last).bind fun r8 =>
 (aaN y0 7 r8.1.1).bind fun r9 =>
 some ((false,()),(r9.2.1,y1,()))
 else
 (aaZ y0).bind fun r10 =>
 some ((r10.1.1,()),(r10.2.1,y1,()))
 else
 (aaZ y0).bind fun r11 =>
 some ((r11.1.1,()),(r11.2.1,y1,()))
 else
 if y0.line=3 then
 (aaN ({ y0 with x:=y3 }:(DrainV MV)) 4 MV.nil).bind fun r12 =>
 some ((false,()),(r12.2.1,y1,()))
 else
 if y0.line=5 then
 (ac5 y0 y2).bind fun r13 =>
 if r13.2.1.direct=true then
 some ((false,()),(r13.2.1,y1,()))
 else
 if r13.2.1.count<y1.c.batch then
 (abv r13.2.1).bind fun r14 =>
 some ((false,()),(r14.2.1,y1,()))
 else
 (aa2 r13.2.1).bind fun r15 =>
 some ((false,()),(r15.2.1,y1,()))
 else
 if y0.line=6 then
 if 0<y0.count then
 (adc y0.worker y0.last).bind fun r16 =>
 (aaN y0 7 r16.1.1).bind fun r17 =>
 some ((false,()),(r17.2.1,y1,()))
 else
 (aaZ y0).bind fun r18 =>
 some ((r18.1.1,()),(r18.2.1,y1,()))
 else
 (aaZ y0).bind fun r19 =>
 some ((r19.1.1,()),(r19.2.1,y1,()))
 else
 if y0.line=2 then
 (abv y0).bind fun r20 =>
 some ((false,()),(r20.2.1,y1,()))
 else
 if y0.line=3 then
 if y2=2 then
 (aa2 y0).bind fun r21 =>
 some ((false,()),(r21.2.1,y1,()))
 else
 if y0.line=3 then
 (aaN ({ y0 with x:=y3 }:(DrainV MV)) 4 MV.nil).bind fun r22 =>
 some ((false,()),(r22.2.1,y1,()))
 else
 if y0.line=5 then
 (ac5 y0 y2).bind fun r23 =>
 if r23.2.1.direct=true then
 some ((false,()),(r23.2.1,y1,()))
 else
 if r23.2.1.count<y1.c.batch then
 (abv r23.2.1).bind fun r24 =>
 some ((false,()),(r24.2.1,y1,()))
 else
 (aa2 r23.2.1).bind fun r25 =>
 some ((false,()),(r25.2.1,y1,()))
 else
 if y0.line=6 then
 if 0<y0.count then
 (adc y0.worker y0.last).bind fun r26 =>
 (aaN y0 7 r26.1.1).bind fun r27 =>
 some ((false,()),(r27.2.1,y1,()))
 else
 (aaZ y0).bind fun r28 =>
 some ((r28.1.1,()),(r28.2.1,y1,()))
 else
 (aaZ y0).bind fun r29 =>
 some ((r29.1.1,()),(r29.2.1,y1,()))
 else
 if y0.line=3 then
 (aaN ({ y0 with x:=y3 }:(DrainV MV)) 4 MV.nil).bind fun r30 =>
 some ((false,()),(r30.2.1,y1,()))
 else
 if y0.line=5 then
 (ac5 y0 y2).bind fun r31 =>
 if r31.2.1.direct=true then
 some ((false,()),(r31.2.1,y1,()))
 else
 if r31.2.1.count<y1.c.batch then
 (abv r31.2.1).bind fun r32 =>
 some ((false,()),(r32.2.1,y1,()))
 else
 (aa2 r31.2.1).bind fun r33 =>
 some ((false,()),(r33.2.1,y1,()))
 else
 if y0.line=6 then
 if 0<y0.count then
 (adc y0.worker y0.last).bind fun r34 =>
 (aaN y0 7 r34.1.1).bind fun r35 =>
 some ((false,()),(r35.2.1,y1,()))
 else
 (aaZ y0).bind fun r36 =>
 some ((r36.1.1,()),(r36.2.1,y1,()))
 else
 (aaZ y0).bind fun r37 =>
 some ((r37.1.1,()),(r37.2.1,y1,()))
noncomputable abbrev aiX:Con SR1:=⟨210,[.ref 41,.ref 27,.sh sI_,.sh sI_],[.sh .b],fun x =>acR x.1 x.2.1 x.2.2.1 x.2.2.2.1⟩
theorem anq:CO Tryz.prog aiX:=aam aah Tryz.func210 [acM,aia,afd,aex,aib,aiQ,aic] ⟨abI,amd,ahd,ae3,ame,ajc,amf,trivial⟩
noncomputable def abq (y0:(DrainV MV)) (y1:EnvP):Option ((Bool×Unit)×((DrainV MV)×EnvP×Unit)) :=
 (aaw y0.o).bind fun r1 =>
 if r1.1.1=true then
 some ((true,()),(({ y0 with o:=r1.2.1 }:(DrainV MV)),y1,()))
 else
 if y0.line=1 then
 (ag9 y1.l).bind fun r2 =>
 (acJ y1.m r2.1.1).bind fun r3 =>
 if (wi (r3.1.1))≤0 then
 (abi r1.2.1 2 0).bind fun r4 =>
 some ((r4.1.1,()),(({ y0 with o:=r4.2.1 }:(DrainV MV)),({ y1 with m:=r3.2.1 }:EnvP),()))
 else
 (awM y0.worker).bind fun r5 =>
 (aaN ({ y0 with o:=r1.2.1 }:(DrainV MV)) 2 r5.1.1).bind fun r6 =>
 some ((false,()),(r6.2.1,({ y1 with m:=r3.2.1 }:EnvP),()))
 else
 if y0.line=4 then
 (afR y1.l y0.x).bind fun r7 =>
 (acJ y1.m r7.1.1).bind fun r8 =>
 (acK y0.worker (wi (r8.1.1)) y0.x).bind fun r9 =>
 (aaN ({ y0 with o:=r1.2.1,p:=wi (r8.1.1) }:(DrainV MV)) 5 r9.1.1).bind fun r10 =>
 some ((false,()),(r10.2.1,({ y1 with m:=r8.2.1 }:EnvP),()))
 else
 (aeg y0.inside y1).bind fun r11 =>
 if (!r11.1.1)=true then
 some ((false,()),(({ y0 with o:=r1.2.1,inside:=r11.2.1 }:(DrainV MV)),r11.2.2.1,()))
 else
 (abF r11.2.1).bind fun r12 =>
 (acR ({ y0 with o:=r1.2.1,inside:=r12.2.1 }:(DrainV MV)) r11.2.2.1 r12.1.1 r12.1.2.1).bind fun r13 =>
 some ((r13.1.1,()),(r13.2.1,r13.2.2.1,()))
noncomputable abbrev apz:Con SR1:=⟨206,[.ref 41,.ref 27],[.sh .b],fun x =>abq x.1 x.2.1⟩
theorem aou:CO Tryz.prog apz:=aam aah Tryz.func206 [abu,alj,acL,acM,avd,aex,ahl,afk,ajb,af8,aiX] ⟨aa9,akx,abW,abI,ay3,ae3,agH,afC,aiz,af7,anq,trivial⟩
noncomputable def afw (m:MV) (e:EnvP):Option ((Bool×Unit)×(MV×EnvP×Unit)) :=
 match m with
 | .alloc x =>(ab4 x e).bind fun o =>some (o.1,(MV.alloc o.2.1,o.2.2))
 | .publish x =>(abS x e).bind fun o =>some (o.1,(MV.publish o.2.1,o.2.2))
 | .claim x =>(adk x e).bind fun o =>some (o.1,(MV.claim o.2.1,o.2.2))
 | .attempt x =>(acQ x e).bind fun o =>some (o.1,(MV.attempt o.2.1,o.2.2))
 | .release x =>(acP x e).bind fun o =>some (o.1,(MV.release o.2.1,o.2.2))
 | .opush x =>(adS x e).bind fun o =>some (o.1,(MV.opush o.2.1,o.2.2))
 | .opop x =>(aes x e).bind fun o =>some (o.1,(MV.opop o.2.1,o.2.2))
 | .steal x =>(adj x e).bind fun o =>some (o.1,(MV.steal o.2.1,o.2.2))
 | .set x =>(adW x e).bind fun o =>some (o.1,(MV.set o.2.1,o.2.2))
 | .reset x =>(acT x e).bind fun o =>some (o.1,(MV.reset o.2.1,o.2.2))
 | .insert x =>(abN x e).bind fun o =>some (o.1,(MV.insert o.2.1,o.2.2))
 | .remove x =>(abM x e).bind fun o =>some (o.1,(MV.remove o.2.1,o.2.2))
 | .sleep x =>(ade x e).bind fun o =>some (o.1,(MV.sleep o.2.1,o.2.2))
 | .wake x =>(adH x e).bind fun o =>some (o.1,(MV.wake o.2.1,o.2.2))
 | .raise x =>(acE x e).bind fun o =>some (o.1,(MV.raise o.2.1,o.2.2))
 | .probe x =>(abp x e).bind fun o =>some (o.1,(MV.probe o.2.1,o.2.2))
 | .lpush x =>(acC x e).bind fun o =>some (o.1,(MV.lpush o.2.1,o.2.2))
 | .lpop x =>(adg x e).bind fun o =>some (o.1,(MV.lpop o.2.1,o.2.2))
 | .walk x =>(acb x e).bind fun o =>some (o.1,(MV.walk o.2.1,o.2.2))
 | .take x =>(afg x e).bind fun o =>some (o.1,(MV.take o.2.1,o.2.2))
 | .sweep x =>(aaE x e).bind fun o =>some (o.1,(MV.sweep o.2.1,o.2.2))
 | .enter x =>(ab8 x e).bind fun o =>some (o.1,(MV.enter o.2.1,o.2.2))
 | .drain x =>(abq x e).bind fun o =>some (o.1,(MV.drain o.2.1,o.2.2))
 | _ =>none
noncomputable abbrev apG:Con SR1:=⟨1000000000,[.mch,.ref 27],[.sh .b],fun x =>afw x.1 x.2.1⟩
theorem alc (m:MV) (xs:amk SR1 [.ref 27]) (out:amn SR1 [.sh .b]×(MV×ak7 SR1 [.ref 27])) (h:afw m xs.1=some out):ar3 SR1 Tryz.prog 0 [.ref 27] [.sh .b] m xs out:=by
 cases m with
 | alloc x =>exact aaB (.alloc x) xs out h
 | publish x =>exact aaB (.publish x) xs out h
 | claim x =>exact aaB (.claim x) xs out h
 | attempt x =>exact aaB (.attempt x) xs out h
 | release x =>exact aaB (.release x) xs out h
 | opush x =>exact aaB (.opush x) xs out h
 | opop x =>exact aaB (.opop x) xs out h
 | steal x =>exact aaB (.steal x) xs out h
 | set x =>exact aaB (.set x) xs out h
 | reset x =>exact aaB (.reset x) xs out h
 | insert x =>exact aaB (.insert x) xs out h
 | remove x =>exact aaB (.remove x) xs out h
 | sleep x =>exact aaB (.sleep x) xs out h
 | wake x =>exact aaB (.wake x) xs out h
 | raise x =>exact aaB (.raise x) xs out h
 | probe x =>exact aaB (.probe x) xs out h
 | lpush x =>exact amw (.lpush x) xs out h
 | lpop x =>exact amw (.lpop x) xs out h
 | walk x =>exact abc (S:=SR1) (ps:=[.ref 27]) (rs:=[.sh .b]) (c:=48) (mk:=MV.walk) (fun _ =>rfl) rfl (fun _ _ _ _ =>by kernel_rfl) apB h
 | take x =>exact abc (S:=SR1) (ps:=[.ref 27]) (rs:=[.sh .b]) (c:=39) (mk:=MV.take) (fun _ =>rfl) rfl (fun _ _ _ _ =>by kernel_rfl) aqs h
 | sweep x =>exact abc (S:=SR1) (ps:=[.ref 27]) (rs:=[.sh .b]) (c:=40) (mk:=MV.sweep) (fun _ =>rfl) rfl (fun _ _ _ _ =>by kernel_rfl) aoD h
 | enter x =>exact abc (S:=SR1) (ps:=[.ref 27]) (rs:=[.sh .b]) (c:=49) (mk:=MV.enter) (fun _ =>rfl) rfl (fun _ _ _ _ =>by kernel_rfl) anQ h
 | drain x =>exact abc (S:=SR1) (ps:=[.ref 27]) (rs:=[.sh .b]) (c:=41) (mk:=MV.drain) (fun _ =>rfl) rfl (fun _ _ _ _ =>by kernel_rfl) aou h
 | _ =>cases h
theorem aqu:CO Tryz.prog apG:=akT (S:=SR1) (i:=0) (ps:=[.ref 27]) (rs:=[.sh .b]) (spec:=fun m xs =>afw m xs.1) alc
noncomputable def adQ (m:MV):Option ((Int×Int×Unit)×(MV×Unit)) :=
 match m with
 | .alloc x =>some ((x.o.code,x.o.value,()),(MV.alloc x,()))
 | .publish x =>some ((x.o.code,x.o.value,()),(MV.publish x,()))
 | .claim x =>some ((x.o.code,x.o.value,()),(MV.claim x,()))
 | .attempt x =>some ((x.o.code,x.o.value,()),(MV.attempt x,()))
 | .release x =>some ((x.o.code,x.o.value,()),(MV.release x,()))
 | .opush x =>some ((x.o.code,x.o.value,()),(MV.opush x,()))
 | .opop x =>some ((x.o.code,x.o.value,()),(MV.opop x,()))
 | .steal x =>some ((x.o.code,x.o.value,()),(MV.steal x,()))
 | .set x =>some ((x.o.code,x.o.value,()),(MV.set x,()))
 | .reset x =>some ((x.o.code,x.o.value,()),(MV.reset x,()))
 | .insert x =>some ((x.o.code,x.o.value,()),(MV.insert x,()))
 | .remove x =>some ((x.o.code,x.o.value,()),(MV.remove x,()))
 | .sleep x =>some ((x.o.code,x.o.value,()),(MV.sleep x,()))
 | .wake x =>some ((x.o.code,x.o.value,()),(MV.wake x,()))
 | .raise x =>some ((x.o.code,x.o.value,()),(MV.raise x,()))
 | .probe x =>some ((x.o.code,x.o.value,()),(MV.probe x,()))
 | .lpush x =>some ((x.o.code,x.o.value,()),(MV.lpush x,()))
 | .lpop x =>some ((x.o.code,x.o.value,()),(MV.lpop x,()))
 | .walk x =>some ((x.o.code,x.o.value,()),(MV.walk x,()))
 | .take x =>some ((x.o.code,x.o.value,()),(MV.take x,()))
 | .sweep x =>some ((x.o.code,x.o.value,()),(MV.sweep x,()))
 | .enter x =>some ((x.o.code,x.o.value,()),(MV.enter x,()))
 | .drain x =>some ((x.o.code,x.o.value,()),(MV.drain x,()))
 | _ =>none
noncomputable abbrev anY:Con SR1:=⟨1000000001,[.mch],[.sh sI_,.sh sI_],fun x =>adQ x.1⟩
theorem ahs (m:MV) (xs:amk SR1 []) (out:amn SR1 [.sh sI_,.sh sI_]×(MV×ak7 SR1 [])) (h:adQ m=some out):ar3 SR1 Tryz.prog 1 [] [.sh sI_,.sh sI_] m xs out:=by
 cases m with
 | alloc x =>exact aal (.alloc x) xs out h
 | publish x =>exact aal (.publish x) xs out h
 | claim x =>exact aal (.claim x) xs out h
 | attempt x =>exact aal (.attempt x) xs out h
 | release x =>exact aal (.release x) xs out h
 | opush x =>exact aal (.opush x) xs out h
 | opop x =>exact aal (.opop x) xs out h
 | steal x =>exact aal (.steal x) xs out h
 | set x =>exact aal (.set x) xs out h
 | reset x =>exact aal (.reset x) xs out h
 | insert x =>exact aal (.insert x) xs out h
 | remove x =>exact aal (.remove x) xs out h
 | sleep x =>exact aal (.sleep x) xs out h
 | wake x =>exact aal (.wake x) xs out h
 | raise x =>exact aal (.raise x) xs out h
 | probe x =>exact aal (.probe x) xs out h
 | lpush x =>exact aiN (.lpush x) xs out h
 | lpop x =>exact aiN (.lpop x) xs out h
 | walk x =>exact abc (S:=SR1) (ps:=[]) (rs:=[.sh sI_,.sh sI_]) (c:=48) (mk:=MV.walk) (f:=161) (sp:=fun x =>some ((x.1.o.code,x.1.o.value,()),(x.1,()))) (fun _ =>rfl) rfl (fun _ _ _ _ =>by kernel_rfl) (acA [aaY] ⟨aaS,trivial⟩ fun x =>by kernel_rfl) h
 | take x =>exact abc (S:=SR1) (ps:=[]) (rs:=[.sh sI_,.sh sI_]) (c:=39) (mk:=MV.take) (f:=161) (sp:=fun x =>some ((x.1.o.code,x.1.o.value,()),(x.1,()))) (fun _ =>rfl) rfl (fun _ _ _ _ =>by kernel_rfl) (acA [aaY] ⟨aaS,trivial⟩ fun x =>by kernel_rfl) h
 | sweep x =>exact abc (S:=SR1) (ps:=[]) (rs:=[.sh sI_,.sh sI_]) (c:=40) (mk:=MV.sweep) (f:=161) (sp:=fun x =>some ((x.1.o.code,x.1.o.value,()),(x.1,()))) (fun _ =>rfl) rfl (fun _ _ _ _ =>by kernel_rfl) (acA [aaY] ⟨aaS,trivial⟩ fun x =>by kernel_rfl) h
 | enter x =>exact abc (S:=SR1) (ps:=[]) (rs:=[.sh sI_,.sh sI_]) (c:=49) (mk:=MV.enter) (f:=161) (sp:=fun x =>some ((x.1.o.code,x.1.o.value,()),(x.1,()))) (fun _ =>rfl) rfl (fun _ _ _ _ =>by kernel_rfl) (acA [aaY] ⟨aaS,trivial⟩ fun x =>by kernel_rfl) h
 | drain x =>exact abc (S:=SR1) (ps:=[]) (rs:=[.sh sI_,.sh sI_]) (c:=41) (mk:=MV.drain) (f:=161) (sp:=fun x =>some ((x.1.o.code,x.1.o.value,()),(x.1,()))) (fun _ =>rfl) rfl (fun _ _ _ _ =>by kernel_rfl) (acA [aaY] ⟨aaS,trivial⟩ fun x =>by kernel_rfl) h
 | _ =>cases h
theorem aqE:CO Tryz.prog anY:=akT (S:=SR1) (i:=1) (ps:=[]) (rs:=[.sh sI_,.sh sI_]) (spec:=fun m _ =>adQ m) ahs
noncomputable def afy (y0:(RunV MV)) (y1:EnvP):Option ((Int×Unit)×((RunV MV)×EnvP×Unit)) :=
 if 0≤(tlI y0.stack)∧(tlI y0.stack)<((y0.stack.length:Nat):Int) then
 if 0≤tpI y0.stack∧tpI y0.stack<((y1.recs.length:Nat):Int) then
 if 0≤(tlI y0.stack)∧(tlI y0.stack)<((y0.stack.length:Nat):Int) then
 if 0≤tpI y0.stack∧tpI y0.stack<((y1.recs.length:Nat):Int) then
 if ((aab y1.recs (tpI y0.stack)).prog)<0 then
 if ((aab y1.recs (tpI y0.stack)).waiting)≠(-1) then
 some ((1,()),(y0,y1,()))
 else
 if ((aab y1.recs (tpI y0.stack)).pc)<0 then
 some ((16,()),(y0,y1,()))
 else
 if 0≤((aab y1.recs (tpI y0.stack)).pc) then
 some ((16,()),(y0,y1,()))
 else
 none
 else
 if ((y1.c.progs.length:Nat):Int)≤((aab y1.recs (tpI y0.stack)).prog) then
 if ((aab y1.recs (tpI y0.stack)).waiting)≠(-1) then
 some ((1,()),(y0,y1,()))
 else
 if ((aab y1.recs (tpI y0.stack)).pc)<0 then
 some ((16,()),(y0,y1,()))
 else
 if 0≤((aab y1.recs (tpI y0.stack)).pc) then
 some ((16,()),(y0,y1,()))
 else
 none
 else
 if 0≤(aab y1.recs (tpI y0.stack)).prog∧(aab y1.recs (tpI y0.stack)).prog<((y1.c.progs.length:Nat):Int) then
 if ((aab y1.recs (tpI y0.stack)).waiting)≠(-1) then
 some ((1,()),(y0,y1,()))
 else
 if ((aab y1.recs (tpI y0.stack)).pc)<0 then
 some ((16,()),(y0,y1,()))
 else
 if (((atL [] y1.c.progs ((aab y1.recs (tpI y0.stack)).prog)).length:Nat):Int)≤((aab y1.recs (tpI y0.stack)).pc) then
 some ((16,()),(y0,y1,()))
 else
 if 0≤(aab y1.recs (tpI y0.stack)).pc∧(aab y1.recs (tpI y0.stack)).pc<(((atL [] y1.c.progs ((aab y1.recs (tpI y0.stack)).prog)).length:Nat):Int) then
 if ((acl (atL [] y1.c.progs ((aab y1.recs (tpI y0.stack)).prog)) ((aab y1.recs (tpI y0.stack)).pc)).op)=0 then
 some ((2,()),(y0,y1,()))
 else
 if 0≤(aab y1.recs (tpI y0.stack)).pc∧(aab y1.recs (tpI y0.stack)).pc<(((atL [] y1.c.progs ((aab y1.recs (tpI y0.stack)).prog)).length:Nat):Int) then
 if ((acl (atL [] y1.c.progs ((aab y1.recs (tpI y0.stack)).prog)) ((aab y1.recs (tpI y0.stack)).pc)).op)=1 then
 some ((4,()),(y0,y1,()))
 else
 if 0≤(aab y1.recs (tpI y0.stack)).pc∧(aab y1.recs (tpI y0.stack)).pc<(((atL [] y1.c.progs ((aab y1.recs (tpI y0.stack)).prog)).length:Nat):Int) then
 if ((acl (atL [] y1.c.progs ((aab y1.recs (tpI y0.stack)).prog)) ((aab y1.recs (tpI y0.stack)).pc)).a)<0 then
 some ((3,()),(y0,y1,()))
 else
 if ((((aab y1.recs (tpI y0.stack)).kids).length:Nat):Int)≤((acl (atL [] y1.c.progs ((aab y1.recs (tpI y0.stack)).prog)) ((aab y1.recs (tpI y0.stack)).pc)).a) then
 some ((3,()),(y0,({ y1 with recs:=y1.recs.set (tpI y0.stack).toNat (aab y1.recs (tpI y0.stack)) }:EnvP),()))
 else
 if 0≤(acl (atL [] y1.c.progs ((aab y1.recs (tpI y0.stack)).prog)) ((aab y1.recs (tpI y0.stack)).pc)).a∧(acl (atL [] y1.c.progs ((aab y1.recs (tpI y0.stack)).prog)) ((aab y1.recs (tpI y0.stack)).pc)).a<((((aab y1.recs (tpI y0.stack)).kids).length:Nat):Int) then
 if (ady ((aab y1.recs (tpI y0.stack)).kids) ((acl (atL [] y1.c.progs ((aab y1.recs (tpI y0.stack)).prog)) ((aab y1.recs (tpI y0.stack)).pc)).a))=(-1) then
 some ((3,()),(y0,({ y1 with recs:=y1.recs.set (tpI y0.stack).toNat (aab y1.recs (tpI y0.stack)) }:EnvP),()))
 else
 some ((9,()),(y0,({ y1 with recs:=y1.recs.set (tpI y0.stack).toNat (aab y1.recs (tpI y0.stack)) }:EnvP),()))
 else none
 else none
 else none
 else none
 else none
 else none
 else none
 else none
 else none
noncomputable abbrev aiL:Con SR1:=⟨224,[.ref 33,.ref 27],[.sh sI_],fun x =>afy x.1 x.2.1⟩
noncomputable def amJ:List (Nat×Func):=[(229,Tryz.f229),(223,Tryz.f223),(230,Tryz.f230)]
theorem amK:CO Tryz.prog aiL:=ahZ aah Tryz.func224 [] trivial amJ ⟨Tryz.func229,Tryz.func223,Tryz.func230,trivial⟩ (fun _ =>[]) [] fun x =>by kernel_rfl
noncomputable def afv  : Option ((MV×Unit)×(Unit)) :=
 some ((MV.alloc (⟨⟨false,0,0⟩⟩:AllocV),()),())
noncomputable abbrev ahF:Con SR1:=⟨119,[],[.sh .mach],fun x =>afv ⟩
theorem ajI:CO Tryz.prog ahF:=aam aah Tryz.func119 [] trivial
noncomputable def aac (y0:(RunV MV)) (y1:Int) (y2:MV):Option ((Bool×Unit)×((RunV MV)×Unit)) :=
 some ((false,()),(({ y0 with line:=y1,inside:=y2 }:(RunV MV)),()))
noncomputable abbrev adP:Con SR1:=⟨233,[.ref 33,.sh sI_,.sh .mach],[.sh .b],fun x =>aac x.1 x.2.1 x.2.2.1⟩
theorem ad6:CO Tryz.prog adP:=aam aah Tryz.func233 [] trivial
end
end Go.Proofs.YteapeojalliebaaGreat
