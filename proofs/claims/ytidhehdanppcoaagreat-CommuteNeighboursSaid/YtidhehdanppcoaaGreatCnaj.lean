/- The program's machines in the evaluator's form. The program's machines in the evaluator's form. -/
import Derived.Test.YtidhehdanppcoaaGreatCnai
set_option linter.all false
namespace Go.Proofs.YtidhehdanppcoaaGreat
section
open Go Go.RowKit
set_option maxRecDepth 100000
variable [Tb]
noncomputable def ab4 (y0:InsertV) (y1:EnvP):Option ((Bool×Unit)×(InsertV×EnvP×Unit)) :=
 (aaw y0.o).bind fun r1 =>
 if r1.1.1=true then
 some ((true,()),(({ y0 with o:=r1.2.1 }:InsertV),y1,()))
 else
 gL y1.l (
 if y0.line=1 then
 (ahQ y1.l).bind fun r2 =>
 (adm y1.m r2.1.1).bind fun r3 =>
 if y1.c.heap≤(wi (r3.1.1)) then
 (abx r1.2.1 3 0).bind fun r4 =>
 some ((r4.1.1,()),(({ y0 with o:=r4.2.1,n:=wi (r3.1.1) }:InsertV),({ y1 with m:=r3.2.1 }:EnvP),()))
 else
 some ((false,()),(({ y0 with o:=r1.2.1,line:=2,n:=wi (r3.1.1) }:InsertV),({ y1 with m:=r3.2.1 }:EnvP),()))
 else
 if y0.line=2 then
 (ath y1.l).bind fun r5 =>
 if y0.task=y0.task then
 if y0.deadline=y0.deadline then
 (aIE y1.m r5.1.1 1).bind fun r6 =>
 if y0.task=y0.task then
 if y0.deadline=y0.deadline then
 (aDZ y0.deadline (wi (r6.1.1)) y0.task).bind fun r7 =>
 if (!r7.1.2.1)=true then
 (abx r1.2.1 4 0).bind fun r8 =>
 some ((r8.1.1,()),(({ y0 with o:=r8.2.1 }:InsertV),({ y1 with m:=r6.2.1 }:EnvP),()))
 else
 (aef ({ y0 with o:=r1.2.1,i:=y0.n,k:=r7.1.1 }:InsertV)).bind fun r9 =>
 some ((false,()),(({ r9.2.1 with line:=r9.1.1 }:InsertV),({ y1 with m:=r6.2.1 }:EnvP),()))
 else none
 else none
 else none
 else none
 else
 if y0.line=3 then
 (apx y1.l (wi (Int.tdiv (wi (y0.i-1)) 2))).bind fun r10 =>
 (adm y1.m r10.1.1).bind fun r11 =>
 if y0.k<r11.1.1 then
 some ((false,()),(({ y0 with o:=r1.2.1,line:=4,x:=r11.1.1 }:InsertV),({ y1 with m:=r11.2.1 }:EnvP),()))
 else
 some ((false,()),(({ y0 with o:=r1.2.1,line:=5,x:=r11.1.1 }:InsertV),({ y1 with m:=r11.2.1 }:EnvP),()))
 else
 if y0.line=4 then
 (apx y1.l y0.i).bind fun r12 =>
 if y0.x=y0.x then
 (abH y1.m r12.1.1 y0.x).bind fun r13 =>
 (aef ({ y0 with o:=r1.2.1,i:=wi (Int.tdiv (wi (y0.i-1)) 2) }:InsertV)).bind fun r14 =>
 some ((false,()),(({ r14.2.1 with line:=r14.1.1 }:InsertV),({ y1 with m:=r13.2.1 }:EnvP),()))
 else none
 else
 if y0.line=5 then
 (apx y1.l y0.i).bind fun r15 =>
 if y0.k=y0.k then
 (abH y1.m r15.1.1 y0.k).bind fun r16 =>
 some ((false,()),(({ y0 with o:=r1.2.1,line:=6 }:InsertV),({ y1 with m:=r16.2.1 }:EnvP),()))
 else none
 else
 (ahQ y1.l).bind fun r17 =>
 if y0.n=y0.n then
 (abH y1.m r17.1.1 (wu (wi (y0.n+1)))).bind fun r18 =>
 (abx r1.2.1 0 0).bind fun r19 =>
 some ((r19.1.1,()),(({ y0 with o:=r19.2.1 }:InsertV),({ y1 with m:=r18.2.1 }:EnvP),()))
 else none
 )
noncomputable abbrev alx:Con SR1:=⟨190,[.ref 36,.ref 27],[.sh .b],fun x =>ab4 x.1 x.2.1⟩
theorem akJ:CO Tryz.prog alx:=aal aai Tryz.func190 [abE,ala,ac9,ada,asd,ayt,aBa,agI,ata,aev] ⟨abb,aky,ach,abV,awP,awR,aDX,aj5,as9,adT,trivial⟩
noncomputable def acx (y0:RemoveV):Option ((Int×Unit)×(RemoveV×Unit)) :=
 if y0.z<y0.y then
 some ((7,()),(y0,()))
 else
 some ((8,()),(y0,()))
noncomputable abbrev afU:Con SR1:=⟨253,[.ref 51],[.sh sI_],fun x =>acx x.1⟩
theorem ai2:CO Tryz.prog afU:=aal aai Tryz.func253 [] trivial
noncomputable def adj (y0:RemoveV):Option ((Int×Unit)×(RemoveV×Unit)) :=
 if (wi ((wi (2*y0.i))+1))<(wi (y0.n-1)) then
 some ((5,()),(y0,()))
 else
 some ((8,()),(y0,()))
noncomputable abbrev adV:Con SR1:=⟨254,[.ref 51],[.sh sI_],fun x =>adj x.1⟩
theorem ae4:CO Tryz.prog adV:=aal aai Tryz.func254 [] trivial
noncomputable def adC (y0:RemoveV):Option ((Int×Unit)×(RemoveV×Unit)) :=
 (awI y0.x).bind fun r1 =>
 some ((r1.1.2.2.1,()),(y0,()))
noncomputable abbrev aeX:Con SR1:=⟨255,[.ref 51],[.sh sI_],fun x =>adC x.1⟩
theorem agG:CO Tryz.prog aeX:=aal aai Tryz.func255 [ava] ⟨azz,trivial⟩
noncomputable def afo (y0:RemoveV) (y1:EnvP):Option ((Bool×Unit)×(RemoveV×EnvP×Unit)) :=
 gL y1.l (
 if y0.line=1 then
 (ahQ y1.l).bind fun r1 =>
 (adm y1.m r1.1.1).bind fun r2 =>
 if (wi (r2.1.1))≤0 then
 (abx y0.o 2 0).bind fun r3 =>
 some ((r3.1.1,()),(({ y0 with o:=r3.2.1,n:=wi (r2.1.1) }:RemoveV),({ y1 with m:=r2.2.1 }:EnvP),()))
 else
 some ((false,()),(({ y0 with line:=2,n:=wi (r2.1.1) }:RemoveV),({ y1 with m:=r2.2.1 }:EnvP),()))
 else
 if y0.line=2 then
 (apx y1.l 0).bind fun r4 =>
 (adm y1.m r4.1.1).bind fun r5 =>
 some ((false,()),(({ y0 with line:=3,x:=r5.1.1 }:RemoveV),({ y1 with m:=r5.2.1 }:EnvP),()))
 else
 if y0.line=3 then
 (apx y1.l (wi (y0.n-1))).bind fun r6 =>
 (adm y1.m r6.1.1).bind fun r7 =>
 some ((false,()),(({ y0 with line:=4,y:=r7.1.1 }:RemoveV),({ y1 with m:=r7.2.1 }:EnvP),()))
 else
 (ahQ y1.l).bind fun r8 =>
 if y0.n=y0.n then
 (abH y1.m r8.1.1 (wu (wi (y0.n-1)))).bind fun r9 =>
 (adC y0).bind fun r10 =>
 if y0.worker=r10.2.1.worker then
 (aeV ({ y1 with m:=r9.2.1 }:EnvP) (⟨13,y0.worker,r10.1.1,0,0⟩:Ev)).bind fun r11 =>
 if r10.2.1.n=1 then
 (adC r10.2.1).bind fun r12 =>
 (abx r12.2.1.o 1 r12.1.1).bind fun r13 =>
 some ((r13.1.1,()),(({ r12.2.1 with o:=r13.2.1 }:RemoveV),r11.2.1,()))
 else
 (adj r10.2.1).bind fun r14 =>
 some ((false,()),(({ r14.2.1 with line:=r14.1.1 }:RemoveV),r11.2.1,()))
 else none
 else none
 )
noncomputable abbrev agH:Con SR1:=⟨256,[.ref 51,.ref 27],[.sh .b],fun x =>afo x.1 x.2.1⟩
theorem aj4:CO Tryz.prog agH:=aal aai Tryz.func256 [ala,ac9,ada,ata,aev,aeX,agb,adV] ⟨aky,ach,abV,as9,adT,agG,afa,ae4,trivial⟩
noncomputable def ab3 (y0:RemoveV) (y1:EnvP):Option ((Bool×Unit)×(RemoveV×EnvP×Unit)) :=
 (aaw y0.o).bind fun r1 =>
 if r1.1.1=true then
 some ((true,()),(({ y0 with o:=r1.2.1 }:RemoveV),y1,()))
 else
 gL y1.l (
 if y0.line=5 then
 (apx y1.l (wi ((wi (2*y0.i))+1))).bind fun r2 =>
 (adm y1.m r2.1.1).bind fun r3 =>
 (acx ({ y0 with o:=r1.2.1,c:=wi ((wi (2*y0.i))+1),z:=r3.1.1 }:RemoveV)).bind fun r4 =>
 if (wi (r4.2.1.c+1))<(wi (r4.2.1.n-1)) then
 some ((false,()),(({ r4.2.1 with line:=6 }:RemoveV),({ y1 with m:=r3.2.1 }:EnvP),()))
 else
 some ((false,()),(({ r4.2.1 with line:=r4.1.1 }:RemoveV),({ y1 with m:=r3.2.1 }:EnvP),()))
 else
 if y0.line=6 then
 (apx y1.l (wi ((wi (2*y0.i))+2))).bind fun r5 =>
 (adm y1.m r5.1.1).bind fun r6 =>
 if r6.1.1<y0.z then
 (acx ({ y0 with o:=r1.2.1,c:=wi ((wi (2*y0.i))+2),z:=r6.1.1 }:RemoveV)).bind fun r7 =>
 some ((false,()),(({ r7.2.1 with line:=r7.1.1 }:RemoveV),({ y1 with m:=r6.2.1 }:EnvP),()))
 else
 (acx ({ y0 with o:=r1.2.1 }:RemoveV)).bind fun r8 =>
 some ((false,()),(({ r8.2.1 with line:=r8.1.1 }:RemoveV),({ y1 with m:=r6.2.1 }:EnvP),()))
 else
 if y0.line=7 then
 (apx y1.l y0.i).bind fun r9 =>
 if y0.z=y0.z then
 (abH y1.m r9.1.1 y0.z).bind fun r10 =>
 (adj ({ y0 with o:=r1.2.1,i:=y0.c }:RemoveV)).bind fun r11 =>
 some ((false,()),(({ r11.2.1 with line:=r11.1.1 }:RemoveV),({ y1 with m:=r10.2.1 }:EnvP),()))
 else none
 else
 if y0.line=8 then
 (apx y1.l y0.i).bind fun r12 =>
 if y0.y=y0.y then
 (abH y1.m r12.1.1 y0.y).bind fun r13 =>
 (adC ({ y0 with o:=r1.2.1 }:RemoveV)).bind fun r14 =>
 (abx r14.2.1.o 1 r14.1.1).bind fun r15 =>
 some ((r15.1.1,()),(({ r14.2.1 with o:=r15.2.1 }:RemoveV),({ y1 with m:=r13.2.1 }:EnvP),()))
 else none
 else
 (afo ({ y0 with o:=r1.2.1 }:RemoveV) y1).bind fun r16 =>
 some ((r16.1.1,()),(r16.2.1,r16.2.2.1,()))
 )
noncomputable abbrev alw:Con SR1:=⟨252,[.ref 51,.ref 27],[.sh .b],fun x =>ab3 x.1 x.2.1⟩
theorem akI:CO Tryz.prog alw:=aal aai Tryz.func252 [abE,ata,ac9,afU,aev,adV,aeX,ada,agH] ⟨abb,as9,ach,ai2,adT,ae4,agG,abV,aj4,trivial⟩
noncomputable def ahi (y0:SleepV) (y1:EnvP):Option ((Unit)×(SleepV×EnvP×Unit)) :=
 (ais y1.l y0.v).bind fun r1 =>
 (adm y1.m r1.1.1).bind fun r2 =>
 if r2.1.1≠0 then
 some ((()),(({ y0 with line:=7 }:SleepV),({ y1 with m:=r2.2.1 }:EnvP),()))
 else
 if y1.c.workers≤(wi (y0.v+1)) then
 (aeV ({ y1 with m:=r2.2.1 }:EnvP) (⟨16,y0.worker,0,0,0⟩:Ev)).bind fun r3 =>
 (aux r3.2.1.k).bind fun r4 =>
 some ((()),(({ y0 with line:=5,v:=wi (y0.v+1),since:=r4.1.1 }:SleepV),({ r3.2.1 with k:=r4.2.1 }:EnvP),()))
 else
 some ((()),(({ y0 with v:=wi (y0.v+1) }:SleepV),({ y1 with m:=r2.2.1 }:EnvP),()))
noncomputable abbrev akr:Con SR1:=⟨149,[.ref 32,.ref 27],[],fun x =>ahi x.1 x.2.1⟩
theorem apw:CO Tryz.prog akr:=aal aai Tryz.func149 [ahR,ac9,agb,aoW] ⟨ahs,ach,afa,alZ,trivial⟩
noncomputable def ahh (y0:SleepV) (y1:EnvP):Option ((Unit)×(SleepV×EnvP×Unit)) :=
 (asa y1.l y0.worker).bind fun r1 =>
 (adm y1.m r1.1.1).bind fun r2 =>
 if r2.1.1≠y0.ep then
 (aeV ({ y1 with m:=r2.2.1 }:EnvP) (⟨17,y0.worker,0,1,0⟩:Ev)).bind fun r3 =>
 some ((()),(({ y0 with line:=6 }:SleepV),r3.2.1,()))
 else
 (aux y1.k).bind fun r4 =>
 if y1.c.patience=y1.c.patience then
 if y0.since=y0.since then
 if y1.c.patience≤(wi (r4.1.1-y0.since)) then
 (aeV ({ y1 with m:=r2.2.1,k:=r4.2.1 }:EnvP) (⟨17,y0.worker,0,2,0⟩:Ev)).bind fun r5 =>
 some ((()),(({ y0 with line:=6 }:SleepV),r5.2.1,()))
 else
 some ((()),(y0,({ y1 with m:=r2.2.1,k:=r4.2.1 }:EnvP),()))
 else none
 else none
noncomputable abbrev akq:Con SR1:=⟨150,[.ref 32,.ref 27],[],fun x =>ahh x.1 x.2.1⟩
theorem apt:CO Tryz.prog akq:=aal aai Tryz.func150 [apW,ac9,agb,aoW] ⟨aqJ,ach,afa,alZ,trivial⟩
noncomputable def ady (y0:SleepV) (y1:EnvP):Option ((Bool×Unit)×(SleepV×EnvP×Unit)) :=
 (aaw y0.o).bind fun r1 =>
 if r1.1.1=true then
 some ((true,()),(({ y0 with o:=r1.2.1 }:SleepV),y1,()))
 else
 if y0.line=1 then
 (asa y1.l y0.worker).bind fun r2 =>
 (adm y1.m r2.1.1).bind fun r3 =>
 some ((false,()),(({ y0 with o:=r1.2.1,line:=2,ep:=r3.1.1 }:SleepV),({ y1 with m:=r3.2.1 }:EnvP),()))
 else
 if y0.line=2 then
 ((
 if y1.c.classes<1 then
 if y0.worker=y0.worker then
 (aC1 y0.worker).bind fun r4 =>
 (pOr y1.m (-1) r4.1.1).bind fun r5 =>
 some (({ y1 with m:=r5.2.1 }:EnvP),())
 else none
 else
 (avc y0.worker y1.c.classes).bind fun r6 =>
 gL y1.l (
 (ahO y1.l r6.1.1).bind fun r7 =>
 if y0.worker=y0.worker then
 (aC1 y0.worker).bind fun r8 =>
 (pOr y1.m r7.1.1 r8.1.1).bind fun r9 =>
 some (({ y1 with m:=r9.2.1 }:EnvP),())
 else none
 )
 ):Option (EnvP×Unit)).bind fun z10 =>
 some ((false,()),(({ y0 with o:=r1.2.1,line:=3 }:SleepV),z10.1,()))
 else
 if y0.line=3 then
 (ahQ y1.l).bind fun r11 =>
 (adm y1.m r11.1.1).bind fun r12 =>
 if r12.1.1≠0 then
 some ((false,()),(({ y0 with o:=r1.2.1,line:=7 }:SleepV),({ y1 with m:=r12.2.1 }:EnvP),()))
 else
 some ((false,()),(({ y0 with o:=r1.2.1,line:=4 }:SleepV),({ y1 with m:=r12.2.1 }:EnvP),()))
 else
 if y0.line=4 then
 (ahi ({ y0 with o:=r1.2.1 }:SleepV) y1).bind fun r13 =>
 some ((false,()),(r13.2.1,r13.2.2.1,()))
 else
 if y0.line=5 then
 (ahh ({ y0 with o:=r1.2.1 }:SleepV) y1).bind fun r14 =>
 some ((false,()),(r14.2.1,r14.2.2.1,()))
 else
 ((
 if y1.c.classes<1 then
 if y0.worker=y0.worker then
 (aC1 y0.worker).bind fun r15 =>
 (aFJ y1.m (-1) (aEY r15.1.1)).bind fun r16 =>
 some (({ y1 with m:=r16.2.1 }:EnvP),())
 else none
 else
 (avc y0.worker y1.c.classes).bind fun r17 =>
 gL y1.l (
 (ahO y1.l r17.1.1).bind fun r18 =>
 if y0.worker=y0.worker then
 (aC1 y0.worker).bind fun r19 =>
 (aFJ y1.m r18.1.1 (aEY r19.1.1)).bind fun r20 =>
 some (({ y1 with m:=r20.2.1 }:EnvP),())
 else none
 )
 ):Option (EnvP×Unit)).bind fun z21 =>
 if y0.line=6 then
 (abx r1.2.1 1 0).bind fun r22 =>
 some ((r22.1.1,()),(({ y0 with o:=r22.2.1 }:SleepV),z21.1,()))
 else
 (abx r1.2.1 5 0).bind fun r23 =>
 some ((r23.1.1,()),(({ y0 with o:=r23.2.1 }:SleepV),z21.1,()))
noncomputable abbrev aqF:Con SR1:=⟨144,[.ref 32,.ref 27],[.sh .b],fun x =>ady x.1 x.2.1⟩
noncomputable def apu:List (Nat×Func):=[(147,Tryz.f147)]
theorem apv:CO Tryz.prog aqF:=agL aai Tryz.func144 [abE,apW,ac9,avf,aD0,aiT,alY,ala,akr,akq,ays,ada] ⟨abb,aqJ,ach,atg,aBb,agU,aoV,aky,apw,apt,awQ,abV,trivial⟩ apu ⟨Tryz.func147,trivial⟩ (fun _ =>[]) [(13,.cut [.ob 1 27] [0]),(5,.cut [.ob 1 27] [0])] fun x =>by kernel_rfl
noncomputable def ad5 (y0:WakeV) (y1:EnvP):Option ((Bool×Unit)×(WakeV×EnvP×Unit)) :=
 (aaw y0.o).bind fun r1 =>
 if r1.1.1=true then
 some ((true,()),(({ y0 with o:=r1.2.1 }:WakeV),y1,()))
 else
 if y0.line=1 then
 ((
 if y1.c.classes<1 then
 (adm y1.m (-1)).bind fun r2 =>
 some (r2.1.1,({ y1 with m:=r2.2.1 }:EnvP),())
 else
 (ave y0.level y1.c.levels y1.c.classes).bind fun r3 =>
 if y1.c.classes=y1.c.classes then
 if y0.j=y0.j then
 gL y1.l (
 (avc (wi (r3.1.1+y0.j)) y1.c.classes).bind fun r4 =>
 gL y1.l (
 (ahO y1.l r4.1.1).bind fun r5 =>
 (adm y1.m r5.1.1).bind fun r6 =>
 some (r6.1.1,({ y1 with m:=r6.2.1 }:EnvP),())
 )
 )
 else none
 else none
 ):Option (Int×EnvP×Unit)).bind fun z7 =>
 if z7.1≠0 then
 (aLa z7.1).bind fun r8 =>
 some ((false,()),(({ y0 with o:=r1.2.1,line:=2,v:=r8.1.1 }:WakeV),z7.2.1,()))
 else
 if z7.2.1.c.classes≤(wi (y0.j+1)) then
 (abx r1.2.1 2 0).bind fun r9 =>
 some ((r9.1.1,()),(({ y0 with o:=r9.2.1,j:=wi (y0.j+1) }:WakeV),z7.2.1,()))
 else
 some ((false,()),(({ y0 with o:=r1.2.1,j:=wi (y0.j+1) }:WakeV),z7.2.1,()))
 else
 if y0.line=2 then
 (aC1 y0.v).bind fun r10 =>
 ((
 if y1.c.classes<1 then
 (aFJ y1.m (-1) (aEY r10.1.1)).bind fun r11 =>
 some (decide ((aoG r11.1.1 r10.1.1)=0),({ y1 with m:=r11.2.1 }:EnvP),())
 else
 (ave y0.level y1.c.levels y1.c.classes).bind fun r12 =>
 if y1.c.classes=y1.c.classes then
 if y0.j=y0.j then
 gL y1.l (
 (avc (wi (r12.1.1+y0.j)) y1.c.classes).bind fun r13 =>
 gL y1.l (
 (ahO y1.l r13.1.1).bind fun r14 =>
 (aFJ y1.m r14.1.1 (aEY r10.1.1)).bind fun r15 =>
 some (decide ((aoG r15.1.1 r10.1.1)=0),({ y1 with m:=r15.2.1 }:EnvP),())
 )
 )
 else none
 else none
 ):Option (Bool×EnvP×Unit)).bind fun z16 =>
 if z16.1=true then
 (abx r1.2.1 4 0).bind fun r17 =>
 some ((r17.1.1,()),(({ y0 with o:=r17.2.1 }:WakeV),z16.2.1,()))
 else
 some ((false,()),(({ y0 with o:=r1.2.1,line:=3 }:WakeV),z16.2.1,()))
 else
 (asa y1.l y0.v).bind fun r18 =>
 (aIE y1.m r18.1.1 1).bind fun r19 =>
 (aeV ({ y1 with m:=r19.2.1 }:EnvP) (⟨18,y0.me,0,y0.v,0⟩:Ev)).bind fun r20 =>
 (abx r1.2.1 1 y0.v).bind fun r21 =>
 some ((r21.1.1,()),(({ y0 with o:=r21.2.1 }:WakeV),r20.2.1,()))
noncomputable abbrev arK:Con SR1:=⟨197,[.ref 38,.ref 27],[.sh .b],fun x =>ad5 x.1 x.2.1⟩
noncomputable def aqD:List (Nat×Func):=[(198,Tryz.f198)]
theorem aqE:CO Tryz.prog arK:=agL aai Tryz.func197 [abE,ac9,ayp,aiT,alY,aFI,ada,avf,ays,apW,ayt,agb] ⟨abb,ach,aBg,agU,aoV,aHj,abV,atg,awQ,aqJ,awR,afa,trivial⟩ aqD ⟨Tryz.func198,trivial⟩ (fun _ =>[]) [(9,.cut [.rg 5 sU_,.ob 1 27] [0]),(18,.cut [.rg 108 .b,.ob 1 27] [0])] fun x =>by kernel_rfl
noncomputable def akS (y0:EnvP) (y1:Int) (y2:Int):Option ((Bool×Unit)×(EnvP×Unit)) :=
 if 0≤y1 then
 if y1<y0.c.tasks then
 if 0≤y2 then
 some ((decide (y2<y0.c.levels),()),(y0,()))
 else
 some ((false,()),(y0,()))
 else
 some ((false,()),(y0,()))
 else
 some ((false,()),(y0,()))
noncomputable abbrev amf:Con SR1:=⟨245,[.ref 27,.sh sI_,.sh sI_],[.sh .b],fun x =>akS x.1 x.2.1 x.2.2.1⟩
theorem apc:CO Tryz.prog amf:=aal aai Tryz.func245 [] trivial
noncomputable def acZ (y0:RaiseV) (y1:EnvP):Option ((Bool×Unit)×(RaiseV×EnvP×Unit)) :=
 (aaw y0.o).bind fun r1 =>
 if r1.1.1=true then
 some ((true,()),(({ y0 with o:=r1.2.1 }:RaiseV),y1,()))
 else
 (akS y1 y0.task y0.level).bind fun r2 =>
 if (!r2.1.1)=true then
 (abx r1.2.1 4 0).bind fun r3 =>
 some ((r3.1.1,()),(({ y0 with o:=r3.2.1 }:RaiseV),r2.2.1,()))
 else
 if y0.line=1 then
 (aha r2.2.1.l y0.task).bind fun r4 =>
 (adm r2.2.1.m r4.1.1).bind fun r5 =>
 if y0.level≤(wi (r5.1.1)) then
 (abx r1.2.1 0 0).bind fun r6 =>
 some ((r6.1.1,()),(({ y0 with o:=r6.2.1,q:=r5.1.1 }:RaiseV),({ r2.2.1 with m:=r5.2.1 }:EnvP),()))
 else
 some ((false,()),(({ y0 with o:=r1.2.1,line:=2,q:=r5.1.1 }:RaiseV),({ r2.2.1 with m:=r5.2.1 }:EnvP),()))
 else
 (aha r2.2.1.l y0.task).bind fun r7 =>
 if y0.level=y0.level then
 if y0.q=y0.q then
 (awc r2.2.1.m r7.1.1 y0.q (wu (y0.level))).bind fun r8 =>
 if r8.1.1=true then
 (aeV ({ r2.2.1 with m:=r8.2.1 }:EnvP) ({ y0 with kind:=11,other:=0 }:Ev)).bind fun r9 =>
 (abx r1.2.1 1 0).bind fun r10 =>
 some ((r10.1.1,()),(({ y0 with o:=r10.2.1 }:RaiseV),r9.2.1,()))
 else
 some ((false,()),(({ y0 with o:=r1.2.1,line:=1 }:RaiseV),({ r2.2.1 with m:=r8.2.1 }:EnvP),()))
 else none
 else none
noncomputable abbrev apL:Con SR1:=⟨266,[.ref 55,.ref 27],[.sh .b],fun x =>acZ x.1 x.2.1⟩
theorem aox:CO Tryz.prog apL:=aal aai Tryz.func266 [abE,amf,ada,ahk,ac9,am0,agb] ⟨abb,apc,abV,agB,ach,akz,afa,trivial⟩
noncomputable def akj (m:MV) (e:EnvP):Option ((Bool×Unit)×(MV×EnvP×Unit)) :=
 match m with
 | .alloc x =>(ack x e).bind fun o =>some (o.1,(MV.alloc o.2.1,o.2.2))
 | .publish x =>(acb x e).bind fun o =>some (o.1,(MV.publish o.2.1,o.2.2))
 | .claim x =>(adJ x e).bind fun o =>some (o.1,(MV.claim o.2.1,o.2.2))
 | .attempt x =>(adc x e).bind fun o =>some (o.1,(MV.attempt o.2.1,o.2.2))
 | .release x =>(adb x e).bind fun o =>some (o.1,(MV.release o.2.1,o.2.2))
 | .opush x =>(aee x e).bind fun o =>some (o.1,(MV.opush o.2.1,o.2.2))
 | .opop x =>(aeD x e).bind fun o =>some (o.1,(MV.opop o.2.1,o.2.2))
 | .steal x =>(adI x e).bind fun o =>some (o.1,(MV.steal o.2.1,o.2.2))
 | .set x =>(aeh x e).bind fun o =>some (o.1,(MV.set o.2.1,o.2.2))
 | .reset x =>(adf x e).bind fun o =>some (o.1,(MV.reset o.2.1,o.2.2))
 | .insert x =>(ab4 x e).bind fun o =>some (o.1,(MV.insert o.2.1,o.2.2))
 | .remove x =>(ab3 x e).bind fun o =>some (o.1,(MV.remove o.2.1,o.2.2))
 | .sleep x =>(ady x e).bind fun o =>some (o.1,(MV.sleep o.2.1,o.2.2))
 | .wake x =>(ad5 x e).bind fun o =>some (o.1,(MV.wake o.2.1,o.2.2))
 | .raise x =>(acZ x e).bind fun o =>some (o.1,(MV.raise o.2.1,o.2.2))
 | .probe x =>(abB x e).bind fun o =>some (o.1,(MV.probe o.2.1,o.2.2))
 | _ =>none
noncomputable abbrev asQ:Con SR1:=⟨1000000000,[.mch,.ref 27],[.sh .b],fun x =>akj x.1 x.2.1⟩
theorem aaz (m:MV) (xs:ami SR1 [.ref 27]) (out:aml SR1 [.sh .b]×(MV×akc SR1 [.ref 27])) (h:akj m xs.1=some out):arU SR1 Tryz.prog 0 [.ref 27] [.sh .b] m xs out:=by
 cases m with
 | alloc x =>exact abg (S:=SR1) (ps:=[.ref 27]) (rs:=[.sh .b]) (c:=35) (mk:=MV.alloc) (fun _ =>rfl) rfl (fun _ _ _ _ =>by kernel_rfl) alr h
 | publish x =>exact abg (S:=SR1) (ps:=[.ref 27]) (rs:=[.sh .b]) (c:=50) (mk:=MV.publish) (fun _ =>rfl) rfl (fun _ _ _ _ =>by kernel_rfl) alT h
 | claim x =>exact abg (S:=SR1) (ps:=[.ref 27]) (rs:=[.sh .b]) (c:=45) (mk:=MV.claim) (fun _ =>rfl) rfl (fun _ _ _ _ =>by kernel_rfl) anQ h
 | attempt x =>exact abg (S:=SR1) (ps:=[.ref 27]) (rs:=[.sh .b]) (c:=34) (mk:=MV.attempt) (fun _ =>rfl) rfl (fun _ _ _ _ =>by kernel_rfl) ana h
 | release x =>exact abg (S:=SR1) (ps:=[.ref 27]) (rs:=[.sh .b]) (c:=37) (mk:=MV.release) (fun _ =>rfl) rfl (fun _ _ _ _ =>by kernel_rfl) am9 h
 | opush x =>exact abg (S:=SR1) (ps:=[.ref 27]) (rs:=[.sh .b]) (c:=53) (mk:=MV.opush) (fun _ =>rfl) rfl (fun _ _ _ _ =>by kernel_rfl) apy h
 | opop x =>exact abg (S:=SR1) (ps:=[.ref 27]) (rs:=[.sh .b]) (c:=52) (mk:=MV.opop) (fun _ =>rfl) rfl (fun _ _ _ _ =>by kernel_rfl) aqO h
 | steal x =>exact abg (S:=SR1) (ps:=[.ref 27]) (rs:=[.sh .b]) (c:=42) (mk:=MV.steal) (fun _ =>rfl) rfl (fun _ _ _ _ =>by kernel_rfl) anN h
 | set x =>exact abg (S:=SR1) (ps:=[.ref 27]) (rs:=[.sh .b]) (c:=54) (mk:=MV.set) (fun _ =>rfl) rfl (fun _ _ _ _ =>by kernel_rfl) apM h
 | reset x =>exact abg (S:=SR1) (ps:=[.ref 27]) (rs:=[.sh .b]) (c:=43) (mk:=MV.reset) (fun _ =>rfl) rfl (fun _ _ _ _ =>by kernel_rfl) anG h
 | insert x =>exact abg (S:=SR1) (ps:=[.ref 27]) (rs:=[.sh .b]) (c:=36) (mk:=MV.insert) (fun _ =>rfl) rfl (fun _ _ _ _ =>by kernel_rfl) akJ h
 | remove x =>exact abg (S:=SR1) (ps:=[.ref 27]) (rs:=[.sh .b]) (c:=51) (mk:=MV.remove) (fun _ =>rfl) rfl (fun _ _ _ _ =>by kernel_rfl) akI h
 | sleep x =>exact abg (S:=SR1) (ps:=[.ref 27]) (rs:=[.sh .b]) (c:=32) (mk:=MV.sleep) (fun _ =>rfl) rfl (fun _ _ _ _ =>by kernel_rfl) apv h
 | wake x =>exact abg (S:=SR1) (ps:=[.ref 27]) (rs:=[.sh .b]) (c:=38) (mk:=MV.wake) (fun _ =>rfl) rfl (fun _ _ _ _ =>by kernel_rfl) aqE h
 | raise x =>exact abg (S:=SR1) (ps:=[.ref 27]) (rs:=[.sh .b]) (c:=55) (mk:=MV.raise) (fun _ =>rfl) rfl (fun _ _ _ _ =>by kernel_rfl) aox h
 | probe x =>exact abg (S:=SR1) (ps:=[.ref 27]) (rs:=[.sh .b]) (c:=46) (mk:=MV.probe) (fun _ =>rfl) rfl (fun _ _ _ _ =>by kernel_rfl) an6 h
 | _ =>cases h
theorem auI:CO Tryz.prog asQ:=akL (S:=SR1) (i:=0) (ps:=[.ref 27]) (rs:=[.sh .b]) (spec:=fun m xs =>akj m xs.1) aaz
noncomputable def afO (m:MV):Option ((Int×Int×Unit)×(MV×Unit)) :=
 match m with
 | .alloc x =>some ((x.o.code,x.o.value,()),(MV.alloc x,()))
 | .publish x =>some ((x.o.code,x.o.value,()),(MV.publish x,()))
 | .claim x =>some ((x.o.code,x.o.value,()),(MV.claim x,()))
 | .attempt x =>some ((x.o.code,x.o.value,()),(MV.attempt x,()))
 | .release x =>some ((x.o.code,x.o.value,()),(MV.release x,()))
 | .opush x =>some ((x.o.code,x.o.value,()),(MV.opush x,()))
 | .opop x =>some ((x.o.code,x.o.value,()),(MV.opop x,()))
 | .steal x =>some ((x.o.code,x.o.value,()),(MV.steal x,()))
 | .set x =>some ((x.o.code,x.o.value,()),(MV.set x,()))
 | .reset x =>some ((x.o.code,x.o.value,()),(MV.reset x,()))
 | .insert x =>some ((x.o.code,x.o.value,()),(MV.insert x,()))
 | .remove x =>some ((x.o.code,x.o.value,()),(MV.remove x,()))
 | .sleep x =>some ((x.o.code,x.o.value,()),(MV.sleep x,()))
 | .wake x =>some ((x.o.code,x.o.value,()),(MV.wake x,()))
 | .raise x =>some ((x.o.code,x.o.value,()),(MV.raise x,()))
 | .probe x =>some ((x.o.code,x.o.value,()),(MV.probe x,()))
 | _ =>none
noncomputable abbrev anZ:Con SR1:=⟨1000000001,[.mch],[.sh sI_,.sh sI_],fun x =>afO x.1⟩
theorem aak (m:MV) (xs:ami SR1 []) (out:aml SR1 [.sh sI_,.sh sI_]×(MV×akc SR1 [])) (h:afO m=some out):arU SR1 Tryz.prog 1 [] [.sh sI_,.sh sI_] m xs out:=by
 cases m with
 | alloc x =>exact abg (S:=SR1) (ps:=[]) (rs:=[.sh sI_,.sh sI_]) (c:=35) (mk:=MV.alloc) (f:=143) (sp:=fun x =>some ((x.1.o.code,x.1.o.value,()),(x.1,()))) (fun _ =>rfl) rfl (fun _ _ _ _ =>by kernel_rfl) (acX [aa1] ⟨aaQ,trivial⟩ fun x =>by kernel_rfl) h
 | publish x =>exact abg (S:=SR1) (ps:=[]) (rs:=[.sh sI_,.sh sI_]) (c:=50) (mk:=MV.publish) (f:=143) (sp:=fun x =>some ((x.1.o.code,x.1.o.value,()),(x.1,()))) (fun _ =>rfl) rfl (fun _ _ _ _ =>by kernel_rfl) (acX [aa1] ⟨aaQ,trivial⟩ fun x =>by kernel_rfl) h
 | claim x =>exact abg (S:=SR1) (ps:=[]) (rs:=[.sh sI_,.sh sI_]) (c:=45) (mk:=MV.claim) (f:=143) (sp:=fun x =>some ((x.1.o.code,x.1.o.value,()),(x.1,()))) (fun _ =>rfl) rfl (fun _ _ _ _ =>by kernel_rfl) (acX [aa1] ⟨aaQ,trivial⟩ fun x =>by kernel_rfl) h
 | attempt x =>exact abg (S:=SR1) (ps:=[]) (rs:=[.sh sI_,.sh sI_]) (c:=34) (mk:=MV.attempt) (f:=143) (sp:=fun x =>some ((x.1.o.code,x.1.o.value,()),(x.1,()))) (fun _ =>rfl) rfl (fun _ _ _ _ =>by kernel_rfl) (acX [aa1] ⟨aaQ,trivial⟩ fun x =>by kernel_rfl) h
 | release x =>exact abg (S:=SR1) (ps:=[]) (rs:=[.sh sI_,.sh sI_]) (c:=37) (mk:=MV.release) (f:=143) (sp:=fun x =>some ((x.1.o.code,x.1.o.value,()),(x.1,()))) (fun _ =>rfl) rfl (fun _ _ _ _ =>by kernel_rfl) (acX [aa1] ⟨aaQ,trivial⟩ fun x =>by kernel_rfl) h
 | opush x =>exact abg (S:=SR1) (ps:=[]) (rs:=[.sh sI_,.sh sI_]) (c:=53) (mk:=MV.opush) (f:=143) (sp:=fun x =>some ((x.1.o.code,x.1.o.value,()),(x.1,()))) (fun _ =>rfl) rfl (fun _ _ _ _ =>by kernel_rfl) (acX [aa1] ⟨aaQ,trivial⟩ fun x =>by kernel_rfl) h
 | opop x =>exact abg (S:=SR1) (ps:=[]) (rs:=[.sh sI_,.sh sI_]) (c:=52) (mk:=MV.opop) (f:=143) (sp:=fun x =>some ((x.1.o.code,x.1.o.value,()),(x.1,()))) (fun _ =>rfl) rfl (fun _ _ _ _ =>by kernel_rfl) (acX [aa1] ⟨aaQ,trivial⟩ fun x =>by kernel_rfl) h
 | steal x =>exact abg (S:=SR1) (ps:=[]) (rs:=[.sh sI_,.sh sI_]) (c:=42) (mk:=MV.steal) (f:=143) (sp:=fun x =>some ((x.1.o.code,x.1.o.value,()),(x.1,()))) (fun _ =>rfl) rfl (fun _ _ _ _ =>by kernel_rfl) (acX [aa1] ⟨aaQ,trivial⟩ fun x =>by kernel_rfl) h
 | set x =>exact abg (S:=SR1) (ps:=[]) (rs:=[.sh sI_,.sh sI_]) (c:=54) (mk:=MV.set) (f:=143) (sp:=fun x =>some ((x.1.o.code,x.1.o.value,()),(x.1,()))) (fun _ =>rfl) rfl (fun _ _ _ _ =>by kernel_rfl) (acX [aa1] ⟨aaQ,trivial⟩ fun x =>by kernel_rfl) h
 | reset x =>exact abg (S:=SR1) (ps:=[]) (rs:=[.sh sI_,.sh sI_]) (c:=43) (mk:=MV.reset) (f:=143) (sp:=fun x =>some ((x.1.o.code,x.1.o.value,()),(x.1,()))) (fun _ =>rfl) rfl (fun _ _ _ _ =>by kernel_rfl) (acX [aa1] ⟨aaQ,trivial⟩ fun x =>by kernel_rfl) h
 | insert x =>exact abg (S:=SR1) (ps:=[]) (rs:=[.sh sI_,.sh sI_]) (c:=36) (mk:=MV.insert) (f:=143) (sp:=fun x =>some ((x.1.o.code,x.1.o.value,()),(x.1,()))) (fun _ =>rfl) rfl (fun _ _ _ _ =>by kernel_rfl) (acX [aa1] ⟨aaQ,trivial⟩ fun x =>by kernel_rfl) h
 | remove x =>exact abg (S:=SR1) (ps:=[]) (rs:=[.sh sI_,.sh sI_]) (c:=51) (mk:=MV.remove) (f:=143) (sp:=fun x =>some ((x.1.o.code,x.1.o.value,()),(x.1,()))) (fun _ =>rfl) rfl (fun _ _ _ _ =>by kernel_rfl) (acX [aa1] ⟨aaQ,trivial⟩ fun x =>by kernel_rfl) h
 | sleep x =>exact abg (S:=SR1) (ps:=[]) (rs:=[.sh sI_,.sh sI_]) (c:=32) (mk:=MV.sleep) (f:=143) (sp:=fun x =>some ((x.1.o.code,x.1.o.value,()),(x.1,()))) (fun _ =>rfl) rfl (fun _ _ _ _ =>by kernel_rfl) (acX [aa1] ⟨aaQ,trivial⟩ fun x =>by kernel_rfl) h
 | wake x =>exact abg (S:=SR1) (ps:=[]) (rs:=[.sh sI_,.sh sI_]) (c:=38) (mk:=MV.wake) (f:=143) (sp:=fun x =>some ((x.1.o.code,x.1.o.value,()),(x.1,()))) (fun _ =>rfl) rfl (fun _ _ _ _ =>by kernel_rfl) (acX [aa1] ⟨aaQ,trivial⟩ fun x =>by kernel_rfl) h
 | raise x =>exact abg (S:=SR1) (ps:=[]) (rs:=[.sh sI_,.sh sI_]) (c:=55) (mk:=MV.raise) (f:=143) (sp:=fun x =>some ((x.1.o.code,x.1.o.value,()),(x.1,()))) (fun _ =>rfl) rfl (fun _ _ _ _ =>by kernel_rfl) (acX [aa1] ⟨aaQ,trivial⟩ fun x =>by kernel_rfl) h
 | probe x =>exact abg (S:=SR1) (ps:=[]) (rs:=[.sh sI_,.sh sI_]) (c:=46) (mk:=MV.probe) (f:=143) (sp:=fun x =>some ((x.1.o.code,x.1.o.value,()),(x.1,()))) (fun _ =>rfl) rfl (fun _ _ _ _ =>by kernel_rfl) (acX [aa1] ⟨aaQ,trivial⟩ fun x =>by kernel_rfl) h
 | _ =>cases h
theorem aqz:CO Tryz.prog anZ:=akL (S:=SR1) (i:=1) (ps:=[]) (rs:=[.sh sI_,.sh sI_]) (spec:=fun m _ =>afO m) aak
noncomputable def aqN (y0:QV) (y1:Int):Option ((MV×Unit)×(Unit)) :=
 some ((MV.opush (⟨⟨false,0,0⟩,y0,y1,1,0⟩:OPushV),()),())
noncomputable abbrev aqL:Con SR1:=⟨239,[.val 14,.sh sI_],[.sh .mach],fun x =>aqN x.1 x.2.1⟩
theorem avg:CO Tryz.prog aqL:=aal aai Tryz.func239 [] trivial
noncomputable def akT (y0:Int) (y1:Int):Option ((MV×Unit)×(Unit)) :=
 some ((MV.set (⟨⟨false,0,0⟩,y0,y1⟩:SetV),()),())
noncomputable abbrev arD:Con SR1:=⟨240,[.sh sI_,.sh sI_],[.sh .mach],fun x =>akT x.1 x.2.1⟩
theorem av1:CO Tryz.prog arD:=aal aai Tryz.func240 [] trivial
noncomputable def acY (y0:(LPushV MV)) (y1:EnvP):Option ((Bool×Unit)×((LPushV MV)×EnvP×Unit)) :=
 (aaw y0.o).bind fun r1 =>
 if r1.1.1=true then
 some ((true,()),(({ y0 with o:=r1.2.1 }:(LPushV MV)),y1,()))
 else
 if (SR1.spl y0.inside).isNone=true then
 (ahP y1.l y0.worker y0.level).bind fun r2 =>
 if y0.value=y0.value then
 (aqN r2.1.1 y0.value).bind fun r3 =>
 (akj r3.1.1 y1).bind fun r4 =>
 if (!r4.1.1)=true then
 some ((false,()),(({ y0 with o:=r1.2.1,inside:=r4.2.1 }:(LPushV MV)),r4.2.2.1,()))
 else
 (afO r4.2.1).bind fun r5 =>
 if r5.1.1=3 then
 (abx r1.2.1 3 0).bind fun r6 =>
 some ((r6.1.1,()),(({ y0 with o:=r6.2.1,inside:=r5.2.1 }:(LPushV MV)),r4.2.2.1,()))
 else
 if y0.line=2 then
 (abx r1.2.1 0 0).bind fun r7 =>
 some ((r7.1.1,()),(({ y0 with o:=r7.2.1,inside:=r5.2.1 }:(LPushV MV)),r4.2.2.1,()))
 else
 (ais r4.2.2.1.l y0.worker).bind fun r8 =>
 if y0.level=y0.level then
 (akT r8.1.1 y0.level).bind fun r9 =>
 some ((false,()),(({ y0 with o:=r1.2.1,line:=2,inside:=r9.1.1 }:(LPushV MV)),r4.2.2.1,()))
 else none
 else none
 else
 (akj y0.inside y1).bind fun r10 =>
 if (!r10.1.1)=true then
 some ((false,()),(({ y0 with o:=r1.2.1,inside:=r10.2.1 }:(LPushV MV)),r10.2.2.1,()))
 else
 (afO r10.2.1).bind fun r11 =>
 if r11.1.1=3 then
 (abx r1.2.1 3 0).bind fun r12 =>
 some ((r12.1.1,()),(({ y0 with o:=r12.2.1,inside:=r11.2.1 }:(LPushV MV)),r10.2.2.1,()))
 else
 if y0.line=2 then
 (abx r1.2.1 0 0).bind fun r13 =>
 some ((r13.1.1,()),(({ y0 with o:=r13.2.1,inside:=r11.2.1 }:(LPushV MV)),r10.2.2.1,()))
 else
 (ais r10.2.2.1.l y0.worker).bind fun r14 =>
 if y0.level=y0.level then
 (akT r14.1.1 y0.level).bind fun r15 =>
 some ((false,()),(({ y0 with o:=r1.2.1,line:=2,inside:=r15.1.1 }:(LPushV MV)),r10.2.2.1,()))
 else none
noncomputable abbrev apB:Con SR1:=⟨238,[.ref 47,.ref 27],[.sh .b],fun x =>acY x.1 x.2.1⟩
theorem aom:CO Tryz.prog apB:=aal aai Tryz.func238 [abE,ak9,aqL,asQ,anZ,ada,ahR,arD] ⟨abb,akw,avg,auI,aqz,abV,ahs,av1,trivial⟩
noncomputable def atj (y0:QV):Option ((MV×Unit)×(Unit)) :=
 some ((MV.opop (⟨⟨false,0,0⟩,y0,1,0,0⟩:OPopV),()),())
noncomputable abbrev ase:Con SR1:=⟨228,[.val 14],[.sh .mach],fun x =>atj x.1⟩
theorem awS:CO Tryz.prog ase:=aal aai Tryz.func228 [] trivial
noncomputable def aju (y0:(LPopV MV)) (y1:EnvP):Option ((Bool×Unit)×((LPopV MV)×EnvP×Unit)) :=
 (ais y1.l y0.worker).bind fun r1 =>
 (adm y1.m r1.1.1).bind fun r2 =>
 if r2.1.1=0 then
 (abx y0.o 2 0).bind fun r3 =>
 some ((r3.1.1,()),(({ y0 with o:=r3.2.1 }:(LPopV MV)),({ y1 with m:=r2.2.1 }:EnvP),()))
 else
 (ah1 r2.1.1).bind fun r4 =>
 (ahP y1.l y0.worker r4.1.1).bind fun r5 =>
 (atj r5.1.1).bind fun r6 =>
 some ((false,()),(({ y0 with level:=r4.1.1,line:=2,inside:=r6.1.1 }:(LPopV MV)),({ y1 with m:=r2.2.1 }:EnvP),()))
noncomputable abbrev akF:Con SR1:=⟨226,[.ref 44,.ref 27],[.sh .b],fun x =>aju x.1 x.2.1⟩
theorem apD:CO Tryz.prog akF:=aal aai Tryz.func226 [ahR,ac9,ada,awM,ak9,ase] ⟨ahs,ach,abV,ayn,akw,awS,trivial⟩
noncomputable def ahY (y0:Int) (y1:Int) (y2:QV):Option ((MV×Unit)×(Unit)) :=
 some ((MV.reset (⟨⟨false,0,0⟩,y0,y1,y2,1,0⟩:ResetV),()),())
noncomputable abbrev ajL:Con SR1:=⟨135,[.sh sI_,.sh sI_,.val 14],[.sh .mach],fun x =>ahY x.1 x.2.1 x.2.2.1⟩
theorem alP:CO Tryz.prog ajL:=aal aai Tryz.func135 [] trivial
noncomputable def adB (y0:(LPopV MV)) (y1:EnvP):Option ((Bool×Unit)×((LPopV MV)×EnvP×Unit)) :=
 (aaw y0.o).bind fun r1 =>
 if r1.1.1=true then
 some ((true,()),(({ y0 with o:=r1.2.1 }:(LPopV MV)),y1,()))
 else
 if y0.line=1 then
 (aju ({ y0 with o:=r1.2.1 }:(LPopV MV)) y1).bind fun r2 =>
 some ((r2.1.1,()),(r2.2.1,r2.2.2.1,()))
 else
 (akj y0.inside y1).bind fun r3 =>
 if (!r3.1.1)=true then
 some ((false,()),(({ y0 with o:=r1.2.1,inside:=r3.2.1 }:(LPopV MV)),r3.2.2.1,()))
 else
 (afO r3.2.1).bind fun r4 =>
 if y0.line=3 then
 some ((false,()),(({ y0 with o:=r1.2.1,line:=1,inside:=MV.nil }:(LPopV MV)),r3.2.2.1,()))
 else
 if r4.1.1=1 then
 (abx r1.2.1 1 r4.1.2.1).bind fun r5 =>
 some ((r5.1.1,()),(({ y0 with o:=r5.2.1,inside:=r4.2.1 }:(LPopV MV)),r3.2.2.1,()))
 else
 (ais r3.2.2.1.l y0.worker).bind fun r6 =>
 if y0.level=y0.level then
 if y0.worker=y0.worker then
 if r3.2.2.1.l.workers=r3.2.2.1.l.workers then
 if r3.2.2.1.l.levels=r3.2.2.1.l.levels then
 if r3.2.2.1.l.classes=r3.2.2.1.l.classes then
 if r3.2.2.1.l.tasks=r3.2.2.1.l.tasks then
 if r3.2.2.1.l.deque=r3.2.2.1.l.deque then
 if r3.2.2.1.l.heap=r3.2.2.1.l.heap then
 if r3.2.2.1.l.sleepers=r3.2.2.1.l.sleepers then
 if r3.2.2.1.l.epochs=r3.2.2.1.l.epochs then
 if r3.2.2.1.l.bitmaps=r3.2.2.1.l.bitmaps then
 if r3.2.2.1.l.queues=r3.2.2.1.l.queues then
 if r3.2.2.1.l.table=r3.2.2.1.l.table then
 if y0.level=y0.level then
 (ahP r3.2.2.1.l y0.worker y0.level).bind fun r7 =>
 if y0.level=y0.level then
 (ahY r6.1.1 y0.level r7.1.1).bind fun r8 =>
 some ((false,()),(({ y0 with o:=r1.2.1,line:=3,inside:=r8.1.1 }:(LPopV MV)),r3.2.2.1,()))
 else none
 else none
 else none
 else none
 else none
 else none
 else none
 else none
 else none
 else none
 else none
 else none
 else none
 else none
 else none
noncomputable abbrev aq1:Con SR1:=⟨225,[.ref 44,.ref 27],[.sh .b],fun x =>adB x.1 x.2.1⟩
theorem apC:CO Tryz.prog aq1:=aal aai Tryz.func225 [abE,akF,asQ,anZ,ada,ahR,ak9,ajL] ⟨abb,apD,auI,aqz,abV,ahs,akw,alP,trivial⟩
noncomputable def aes (m:MV) (e:EnvP):Option ((Bool×Unit)×(MV×EnvP×Unit)) :=
 match m with
 | .alloc x =>(ack x e).bind fun o =>some (o.1,(MV.alloc o.2.1,o.2.2))
 | .publish x =>(acb x e).bind fun o =>some (o.1,(MV.publish o.2.1,o.2.2))
 | .claim x =>(adJ x e).bind fun o =>some (o.1,(MV.claim o.2.1,o.2.2))
 | .attempt x =>(adc x e).bind fun o =>some (o.1,(MV.attempt o.2.1,o.2.2))
 | .release x =>(adb x e).bind fun o =>some (o.1,(MV.release o.2.1,o.2.2))
 | .opush x =>(aee x e).bind fun o =>some (o.1,(MV.opush o.2.1,o.2.2))
 | .opop x =>(aeD x e).bind fun o =>some (o.1,(MV.opop o.2.1,o.2.2))
 | .steal x =>(adI x e).bind fun o =>some (o.1,(MV.steal o.2.1,o.2.2))
 | .set x =>(aeh x e).bind fun o =>some (o.1,(MV.set o.2.1,o.2.2))
 | .reset x =>(adf x e).bind fun o =>some (o.1,(MV.reset o.2.1,o.2.2))
 | .insert x =>(ab4 x e).bind fun o =>some (o.1,(MV.insert o.2.1,o.2.2))
 | .remove x =>(ab3 x e).bind fun o =>some (o.1,(MV.remove o.2.1,o.2.2))
 | .sleep x =>(ady x e).bind fun o =>some (o.1,(MV.sleep o.2.1,o.2.2))
 | .wake x =>(ad5 x e).bind fun o =>some (o.1,(MV.wake o.2.1,o.2.2))
 | .raise x =>(acZ x e).bind fun o =>some (o.1,(MV.raise o.2.1,o.2.2))
 | .probe x =>(abB x e).bind fun o =>some (o.1,(MV.probe o.2.1,o.2.2))
 | .lpush x =>(acY x e).bind fun o =>some (o.1,(MV.lpush o.2.1,o.2.2))
 | .lpop x =>(adB x e).bind fun o =>some (o.1,(MV.lpop o.2.1,o.2.2))
 | _ =>none
noncomputable abbrev ajj:Con SR1:=⟨1000000000,[.mch,.ref 27],[.sh .b],fun x =>aes x.1 x.2.1⟩
theorem amw (m:MV) (xs:ami SR1 [.ref 27]) (out:aml SR1 [.sh .b]×(MV×akc SR1 [.ref 27])) (h:aes m xs.1=some out):arU SR1 Tryz.prog 0 [.ref 27] [.sh .b] m xs out:=by
 cases m with
 | alloc x =>exact aaz (.alloc x) xs out h
 | publish x =>exact aaz (.publish x) xs out h
 | claim x =>exact aaz (.claim x) xs out h
 | attempt x =>exact aaz (.attempt x) xs out h
 | release x =>exact aaz (.release x) xs out h
 | opush x =>exact aaz (.opush x) xs out h
 | opop x =>exact aaz (.opop x) xs out h
 | steal x =>exact aaz (.steal x) xs out h
 | set x =>exact aaz (.set x) xs out h
 | reset x =>exact aaz (.reset x) xs out h
 | insert x =>exact aaz (.insert x) xs out h
 | remove x =>exact aaz (.remove x) xs out h
 | sleep x =>exact aaz (.sleep x) xs out h
 | wake x =>exact aaz (.wake x) xs out h
 | raise x =>exact aaz (.raise x) xs out h
 | probe x =>exact aaz (.probe x) xs out h
 | lpush x =>exact abg (S:=SR1) (ps:=[.ref 27]) (rs:=[.sh .b]) (c:=47) (mk:=MV.lpush) (fun _ =>rfl) rfl (fun _ _ _ _ =>by kernel_rfl) aom h
 | lpop x =>exact abg (S:=SR1) (ps:=[.ref 27]) (rs:=[.sh .b]) (c:=44) (mk:=MV.lpop) (fun _ =>rfl) rfl (fun _ _ _ _ =>by kernel_rfl) apC h
 | _ =>cases h
theorem aiF:CO Tryz.prog ajj:=akL (S:=SR1) (i:=0) (ps:=[.ref 27]) (rs:=[.sh .b]) (spec:=fun m xs =>aes m xs.1) amw
noncomputable def abS (m:MV):Option ((Int×Int×Unit)×(MV×Unit)) :=
 match m with
 | .alloc x =>some ((x.o.code,x.o.value,()),(MV.alloc x,()))
 | .publish x =>some ((x.o.code,x.o.value,()),(MV.publish x,()))
 | .claim x =>some ((x.o.code,x.o.value,()),(MV.claim x,()))
 | .attempt x =>some ((x.o.code,x.o.value,()),(MV.attempt x,()))
 | .release x =>some ((x.o.code,x.o.value,()),(MV.release x,()))
 | .opush x =>some ((x.o.code,x.o.value,()),(MV.opush x,()))
 | .opop x =>some ((x.o.code,x.o.value,()),(MV.opop x,()))
 | .steal x =>some ((x.o.code,x.o.value,()),(MV.steal x,()))
 | .set x =>some ((x.o.code,x.o.value,()),(MV.set x,()))
 | .reset x =>some ((x.o.code,x.o.value,()),(MV.reset x,()))
 | .insert x =>some ((x.o.code,x.o.value,()),(MV.insert x,()))
 | .remove x =>some ((x.o.code,x.o.value,()),(MV.remove x,()))
 | .sleep x =>some ((x.o.code,x.o.value,()),(MV.sleep x,()))
 | .wake x =>some ((x.o.code,x.o.value,()),(MV.wake x,()))
 | .raise x =>some ((x.o.code,x.o.value,()),(MV.raise x,()))
 | .probe x =>some ((x.o.code,x.o.value,()),(MV.probe x,()))
 | .lpush x =>some ((x.o.code,x.o.value,()),(MV.lpush x,()))
 | .lpop x =>some ((x.o.code,x.o.value,()),(MV.lpop x,()))
 | _ =>none
noncomputable abbrev aga:Con SR1:=⟨1000000001,[.mch],[.sh sI_,.sh sI_],fun x =>abS x.1⟩
theorem aiQ (m:MV) (xs:ami SR1 []) (out:aml SR1 [.sh sI_,.sh sI_]×(MV×akc SR1 [])) (h:abS m=some out):arU SR1 Tryz.prog 1 [] [.sh sI_,.sh sI_] m xs out:=by
 cases m with
 | alloc x =>exact aak (.alloc x) xs out h
 | publish x =>exact aak (.publish x) xs out h
 | claim x =>exact aak (.claim x) xs out h
 | attempt x =>exact aak (.attempt x) xs out h
 | release x =>exact aak (.release x) xs out h
 | opush x =>exact aak (.opush x) xs out h
 | opop x =>exact aak (.opop x) xs out h
 | steal x =>exact aak (.steal x) xs out h
 | set x =>exact aak (.set x) xs out h
 | reset x =>exact aak (.reset x) xs out h
 | insert x =>exact aak (.insert x) xs out h
 | remove x =>exact aak (.remove x) xs out h
 | sleep x =>exact aak (.sleep x) xs out h
 | wake x =>exact aak (.wake x) xs out h
 | raise x =>exact aak (.raise x) xs out h
 | probe x =>exact aak (.probe x) xs out h
 | lpush x =>exact abg (S:=SR1) (ps:=[]) (rs:=[.sh sI_,.sh sI_]) (c:=47) (mk:=MV.lpush) (f:=143) (sp:=fun x =>some ((x.1.o.code,x.1.o.value,()),(x.1,()))) (fun _ =>rfl) rfl (fun _ _ _ _ =>by kernel_rfl) (acX [aa1] ⟨aaQ,trivial⟩ fun x =>by kernel_rfl) h
 | lpop x =>exact abg (S:=SR1) (ps:=[]) (rs:=[.sh sI_,.sh sI_]) (c:=44) (mk:=MV.lpop) (f:=143) (sp:=fun x =>some ((x.1.o.code,x.1.o.value,()),(x.1,()))) (fun _ =>rfl) rfl (fun _ _ _ _ =>by kernel_rfl) (acX [aa1] ⟨aaQ,trivial⟩ fun x =>by kernel_rfl) h
 | _ =>cases h
theorem af9:CO Tryz.prog aga:=akL (S:=SR1) (i:=1) (ps:=[]) (rs:=[.sh sI_,.sh sI_]) (spec:=fun m _ =>abS m) aiQ
noncomputable def aoy (y0:Int) (y1:Int) (y2:Int):Option ((MV×Unit)×(Unit)) :=
 some ((MV.raise (⟨⟨false,0,0⟩,y0,y1,y2,1,0⟩:RaiseV),()),())
noncomputable abbrev apb:Con SR1:=⟨246,[.sh sI_,.sh sI_,.sh sI_],[.sh .mach],fun x =>aoy x.1 x.2.1 x.2.2.1⟩
theorem auc:CO Tryz.prog apb:=aal aai Tryz.func246 [] trivial
noncomputable def ae7 (y0:(WalkV MV)) (y1:EnvP):Option ((Bool×Unit)×((WalkV MV)×EnvP×Unit)) :=
 if (SR1.spl y0.inside).isNone=true then
 (akS y1 y0.task y0.level).bind fun r1 =>
 if (!r1.1.1)=true then
 (abx y0.o 4 0).bind fun r2 =>
 some ((r2.1.1,()),(({ y0 with o:=r2.2.1 }:(WalkV MV)),r1.2.1,()))
 else
 (aoy y0.worker y0.task y0.level).bind fun r3 =>
 (aes r3.1.1 r1.2.1).bind fun r4 =>
 if (!r4.1.1)=true then
 some ((false,()),(({ y0 with inside:=r4.2.1 }:(WalkV MV)),r4.2.2.1,()))
 else
 (abS r4.2.1).bind fun r5 =>
 if r5.1.1=1 then
 some ((false,()),(({ y0 with line:=2,inside:=MV.nil }:(WalkV MV)),r4.2.2.1,()))
 else
 some ((false,()),(({ y0 with line:=4,inside:=MV.nil }:(WalkV MV)),r4.2.2.1,()))
 else
 (aes y0.inside y1).bind fun r6 =>
 if (!r6.1.1)=true then
 some ((false,()),(({ y0 with inside:=r6.2.1 }:(WalkV MV)),r6.2.2.1,()))
 else
 (abS r6.2.1).bind fun r7 =>
 if r7.1.1=1 then
 some ((false,()),(({ y0 with line:=2,inside:=MV.nil }:(WalkV MV)),r6.2.2.1,()))
 else
 some ((false,()),(({ y0 with line:=4,inside:=MV.nil }:(WalkV MV)),r6.2.2.1,()))
noncomputable abbrev ajY:Con SR1:=⟨243,[.ref 48,.ref 27],[.sh .b],fun x =>ae7 x.1 x.2.1⟩
theorem aow:CO Tryz.prog ajY:=aal aai Tryz.func243 [amf,ada,apb,ajj,aga] ⟨apc,abV,auc,aiF,af9,trivial⟩
noncomputable def ac3 (y0:Int) (y1:Int) (y2:Int):Option ((MV×Unit)×(Unit)) :=
 some ((MV.lpush (⟨⟨false,0,0⟩,y0,y1,y2,1,MV.nil⟩:(LPushV MV)),()),())
noncomputable abbrev afy:Con SR1:=⟨171,[.sh sI_,.sh sI_,.sh sI_],[.sh .mach],fun x =>ac3 x.1 x.2.1 x.2.2.1⟩
theorem afT:CO Tryz.prog afy:=aal aai Tryz.func171 [] trivial
noncomputable def ajK (y0:(WalkV MV)) (y1:EnvP):Option ((Unit)×((WalkV MV)×EnvP×Unit)) :=
 (aes y0.inside y1).bind fun r1 =>
 if (!r1.1.1)=true then
 some ((()),(({ y0 with inside:=r1.2.1 }:(WalkV MV)),r1.2.2.1,()))
 else
 (abS r1.2.1).bind fun r2 =>
 if r2.1.1=3 then
 (aeV r1.2.2.1 ({ y0 with kind:=19,other:=0 }:Ev)).bind fun r3 =>
 some ((()),(({ y0 with line:=4,inside:=MV.nil }:(WalkV MV)),r3.2.1,()))
 else
 some ((()),(({ y0 with line:=4,inside:=MV.nil }:(WalkV MV)),r1.2.2.1,()))
noncomputable abbrev akR:Con SR1:=⟨244,[.ref 48,.ref 27],[],fun x =>ajK x.1 x.2.1⟩
theorem apK:CO Tryz.prog akR:=aal aai Tryz.func244 [ajj,aga,agb] ⟨aiF,af9,afa,trivial⟩
noncomputable def acp (y0:(WalkV MV)) (y1:EnvP):Option ((Bool×Unit)×((WalkV MV)×EnvP×Unit)) :=
 (aaw y0.o).bind fun r1 =>
 if r1.1.1=true then
 some ((true,()),(({ y0 with o:=r1.2.1 }:(WalkV MV)),y1,()))
 else
 if y0.line=1 then
 (ae7 ({ y0 with o:=r1.2.1 }:(WalkV MV)) y1).bind fun r2 =>
 some ((r2.1.1,()),(r2.2.1,r2.2.2.1,()))
 else
 if y0.line=2 then
 (ag9 y1.l y0.task).bind fun r3 =>
 (adm y1.m r3.1.1).bind fun r4 =>
 if r4.1.1=1 then
 (ac3 y0.worker y0.level y0.task).bind fun r5 =>
 some ((false,()),(({ y0 with o:=r1.2.1,line:=3,inside:=r5.1.1 }:(WalkV MV)),({ y1 with m:=r4.2.1 }:EnvP),()))
 else
 some ((false,()),(({ y0 with o:=r1.2.1,line:=4 }:(WalkV MV)),({ y1 with m:=r4.2.1 }:EnvP),()))
 else
 if y0.line=3 then
 (ajK ({ y0 with o:=r1.2.1 }:(WalkV MV)) y1).bind fun r6 =>
 some ((false,()),(r6.2.1,r6.2.2.1,()))
 else
 (amV y1.l y0.task).bind fun r7 =>
 (adm y1.m r7.1.1).bind fun r8 =>
 if r8.1.1=0 then
 (abx r1.2.1 0 0).bind fun r9 =>
 some ((r9.1.1,()),(({ y0 with o:=r9.2.1 }:(WalkV MV)),({ y1 with m:=r8.2.1 }:EnvP),()))
 else
 some ((false,()),(({ y0 with o:=r1.2.1,task:=wi (wu (r8.1.1-1)),line:=1 }:(WalkV MV)),({ y1 with m:=r8.2.1 }:EnvP),()))
noncomputable abbrev arC:Con SR1:=⟨242,[.ref 48,.ref 27],[.sh .b],fun x =>acp x.1 x.2.1⟩
theorem apJ:CO Tryz.prog arC:=aal aai Tryz.func242 [abE,ajY,ahj,ac9,afy,akR,apU,ada] ⟨abb,aow,agA,ach,afT,apK,aqH,abV,trivial⟩
noncomputable def agE (y0:Int):Option ((MV×Unit)×(Unit)) :=
 some ((MV.lpop (⟨⟨false,0,0⟩,y0,0,1,MV.nil⟩:(LPopV MV)),()),())
noncomputable abbrev al4:Con SR1:=⟨138,[.sh sI_],[.sh .mach],fun x =>agE x.1⟩
theorem ao0:CO Tryz.prog al4:=aal aai Tryz.func138 [] trivial
noncomputable def ado (y0:Int) (y1:Int):Option ((MV×Unit)×(Unit)) :=
 some ((MV.claim (⟨⟨false,0,0⟩,y0,y1⟩:ClaimV),()),())
noncomputable abbrev agy:Con SR1:=⟨139,[.sh sI_,.sh sI_],[.sh .mach],fun x =>ado x.1 x.2.1⟩
theorem ahf:CO Tryz.prog agy:=aal aai Tryz.func139 [] trivial
noncomputable def afv (y0:(TakeV MV)) (y1:EnvP):Option ((Bool×Unit)×((TakeV MV)×EnvP×Unit)) :=
 (aaw y0.o).bind fun r1 =>
 if r1.1.1=true then
 some ((true,()),(({ y0 with o:=r1.2.1 }:(TakeV MV)),y1,()))
 else
 (aes y0.inside y1).bind fun r2 =>
 if (!r2.1.1)=true then
 some ((false,()),(({ y0 with o:=r1.2.1,inside:=r2.2.1 }:(TakeV MV)),r2.2.2.1,()))
 else
 (abS r2.2.1).bind fun r3 =>
 if y0.claiming=true then
 if r3.1.1=1 then
 (abx r1.2.1 1 r3.1.2.1).bind fun r4 =>
 some ((r4.1.1,()),(({ y0 with o:=r4.2.1,inside:=r3.2.1 }:(TakeV MV)),r2.2.2.1,()))
 else
 if y0.claiming=true then
 (agE y0.worker).bind fun r5 =>
 some ((false,()),((⟨r1.2.1,y0.worker,false,r5.1.1⟩:(TakeV MV)),r2.2.2.1,()))
 else
 if r3.1.1=2 then
 (abx r1.2.1 2 0).bind fun r6 =>
 some ((r6.1.1,()),(({ y0 with o:=r6.2.1,inside:=r3.2.1 }:(TakeV MV)),r2.2.2.1,()))
 else
 (ado y0.worker r3.1.2.1).bind fun r7 =>
 some ((false,()),((⟨r1.2.1,y0.worker,true,r7.1.1⟩:(TakeV MV)),r2.2.2.1,()))
 else
 if y0.claiming=true then
 (agE y0.worker).bind fun r8 =>
 some ((false,()),((⟨r1.2.1,y0.worker,false,r8.1.1⟩:(TakeV MV)),r2.2.2.1,()))
 else
 if r3.1.1=2 then
 (abx r1.2.1 2 0).bind fun r9 =>
 some ((r9.1.1,()),(({ y0 with o:=r9.2.1,inside:=r3.2.1 }:(TakeV MV)),r2.2.2.1,()))
 else
 (ado y0.worker r3.1.2.1).bind fun r10 =>
 some ((false,()),((⟨r1.2.1,y0.worker,true,r10.1.1⟩:(TakeV MV)),r2.2.2.1,()))
noncomputable abbrev arH:Con SR1:=⟨203,[.ref 39,.ref 27],[.sh .b],fun x =>afv x.1 x.2.1⟩
theorem aqk:CO Tryz.prog arH:=aal aai Tryz.func203 [abE,ajj,aga,ada,al4,agy] ⟨abb,aiF,af9,abV,ao0,ahf,trivial⟩
noncomputable def abY (y0:(SweepV MV)) (y1:EnvP):Option ((Bool×Unit)×((SweepV MV)×EnvP×Unit)) :=
 if y0.line=1 then
 ((
 if y0.task<0 then
 some (true,y0,y1,())
 else
 if y1.c.tasks≤y0.task then
 some (true,y0,y1,())
 else
 some (decide (y1.c.age=0),y0,y1,())
 ):Option (Bool×(SweepV MV)×EnvP×Unit)).bind fun z1 =>
 if z1.1=true then
 some ((true,()),(z1.2.1,z1.2.2.1,()))
 else
 (ag9 z1.2.2.1.l z1.2.1.task).bind fun r2 =>
 (adm z1.2.2.1.m r2.1.1).bind fun r3 =>
 some ((decide (r3.1.1≠1),()),(z1.2.1,({ z1.2.2.1 with m:=r3.2.1 }:EnvP),()))
 else
 if y0.line=2 then
 (akv y1.l y0.task).bind fun r4 =>
 (adm y1.m r4.1.1).bind fun r5 =>
 (aux y1.k).bind fun r6 =>
 if y1.c.age=y1.c.age then
 some ((decide ((wi (r6.1.1-(wi (r5.1.1))))<y1.c.age),()),(y0,({ y1 with m:=r5.2.1,k:=r6.2.1 }:EnvP),()))
 else none
 else
 (aha y1.l y0.task).bind fun r7 =>
 (adm y1.m r7.1.1).bind fun r8 =>
 some ((decide ((wi (y1.c.levels-1))≤(wi (r8.1.1))),()),(({ y0 with q:=r8.1.1 }:(SweepV MV)),({ y1 with m:=r8.2.1 }:EnvP),()))
noncomputable abbrev ajZ:Con SR1:=⟨206,[.ref 40,.ref 27],[.sh .b],fun x =>abY x.1 x.2.1⟩
theorem aoI:CO Tryz.prog ajZ:=aal aai Tryz.func206 [ahj,ac9,ak8,aoW,ahk] ⟨agA,ach,akt,alZ,agB,trivial⟩ [(4,.cut [.rg 36 .b,.ob 0 40,.ob 1 27] [])]
noncomputable def ab7 (y0:(SweepV MV)) (y1:Int):Option ((Ev×Unit)×((SweepV MV)×Unit)) :=
 some ((({ y0 with kind:=y1,other:=0,level:=wi ((wi (y0.q))+1) }:Ev),()),(y0,()))
noncomputable abbrev ajc:Con SR1:=⟨207,[.ref 40,.sh sI_],[.val 2],fun x =>ab7 x.1 x.2.1⟩
theorem anJ:CO Tryz.prog ajc:=aal aai Tryz.func207 [] trivial
noncomputable def aaF (y0:(SweepV MV)) (y1:EnvP):Option ((Bool×Unit)×((SweepV MV)×EnvP×Unit)) :=
 (aaw y0.o).bind fun r1 =>
 if r1.1.1=true then
 some ((true,()),(({ y0 with o:=r1.2.1 }:(SweepV MV)),y1,()))
 else
 if y0.line=1 then
 if y0.line=1 then
 (abY ({ y0 with o:=r1.2.1 }:(SweepV MV)) y1).bind fun r2 =>
 if r2.1.1=true then
 (abx r2.2.1.o 0 0).bind fun r3 =>
 some ((r3.1.1,()),(({ r2.2.1 with o:=r3.2.1 }:(SweepV MV)),r2.2.2.1,()))
 else
 some ((false,()),(({ r2.2.1 with line:=wi (r2.2.1.line+1) }:(SweepV MV)),r2.2.2.1,()))
 else
 if y0.line=4 then
 (aha y1.l y0.task).bind fun r4 =>
 if y0.q=y0.q then
 if y0.q=y0.q then
 (awc y1.m r4.1.1 y0.q (wu (y0.q+1))).bind fun r5 =>
 if (!r5.1.1)=true then
 (abx r1.2.1 4 0).bind fun r6 =>
 some ((r6.1.1,()),(({ y0 with o:=r6.2.1 }:(SweepV MV)),({ y1 with m:=r5.2.1 }:EnvP),()))
 else
 (ab7 ({ y0 with o:=r1.2.1 }:(SweepV MV)) 12).bind fun r7 =>
 (aeV ({ y1 with m:=r5.2.1 }:EnvP) r7.1.1).bind fun r8 =>
 some ((false,()),(({ r7.2.1 with line:=wi (r7.2.1.line+1) }:(SweepV MV)),r8.2.1,()))
 else none
 else none
 else
 if y0.line=5 then
 (akv y1.l y0.task).bind fun r9 =>
 (aux y1.k).bind fun r10 =>
 (abH y1.m r9.1.1 (wu (r10.1.1))).bind fun r11 =>
 (ac3 y0.worker (wi ((wi (y0.q))+1)) y0.task).bind fun r12 =>
 some ((false,()),(({ y0 with o:=r1.2.1,line:=wi (y0.line+1),push:=r12.1.1 }:(SweepV MV)),({ y1 with m:=r11.2.1,k:=r10.2.1 }:EnvP),()))
 else
 (aes y0.push y1).bind fun r13 =>
 if (!r13.1.1)=true then
 some ((false,()),(({ y0 with o:=r1.2.1,push:=r13.2.1 }:(SweepV MV)),r13.2.2.1,()))
 else
 (abS r13.2.1).bind fun r14 =>
 if r14.1.1=3 then
 (ab7 ({ y0 with o:=r1.2.1,push:=r14.2.1 }:(SweepV MV)) 19).bind fun r15 =>
 (aeV r13.2.2.1 r15.1.1).bind fun r16 =>
 (abx r15.2.1.o 1 0).bind fun r17 =>
 some ((r17.1.1,()),(({ r15.2.1 with o:=r17.2.1 }:(SweepV MV)),r16.2.1,()))
 else
 (abx r1.2.1 1 0).bind fun r18 =>
 some ((r18.1.1,()),(({ y0 with o:=r18.2.1,push:=r14.2.1 }:(SweepV MV)),r13.2.2.1,()))
 else
 if y0.line=2 then
 if y0.line=2 then
 (abY ({ y0 with o:=r1.2.1 }:(SweepV MV)) y1).bind fun r19 =>
 if r19.1.1=true then
 (abx r19.2.1.o 0 0).bind fun r20 =>
 some ((r20.1.1,()),(({ r19.2.1 with o:=r20.2.1 }:(SweepV MV)),r19.2.2.1,()))
 else
 some ((false,()),(({ r19.2.1 with line:=wi (r19.2.1.line+1) }:(SweepV MV)),r19.2.2.1,()))
 else
 if y0.line=4 then
 (aha y1.l y0.task).bind fun r21 =>
 if y0.q=y0.q then
 if y0.q=y0.q then
 (awc y1.m r21.1.1 y0.q (wu (y0.q+1))).bind fun r22 =>
 if (!r22.1.1)=true then
 (abx r1.2.1 4 0).bind fun r23 =>
 some ((r23.1.1,()),(({ y0 with o:=r23.2.1 }:(SweepV MV)),({ y1 with m:=r22.2.1 }:EnvP),()))
 else
 (ab7 ({ y0 with o:=r1.2.1 }:(SweepV MV)) 12).bind fun r24 =>
 (aeV ({ y1 with m:=r22.2.1 }:EnvP) r24.1.1).bind fun r25 =>
 some ((false,()),(({ r24.2.1 with line:=wi (r24.2.1.line+1) }:(SweepV MV)),r25.2.1,()))
 else none
 else none
 else
 if y0.line=5 then
 (akv y1.l y0.task).bind fun r26 =>
 (aux y1.k).bind fun r27 =>
 (abH y1.m r26.1.1 (wu (r27.1.1))).bind fun r28 =>
 (ac3 y0.worker (wi ((wi (y0.q))+1)) y0.task).bind fun r29 =>
 some ((false,()),(({ y0 with o:=r1.2.1,line:=wi (y0.line+1),push:=r29.1.1 }:(SweepV MV)),({ y1 with m:=r28.2.1,k:=r27.2.1 }:EnvP),()))
 else
 (aes y0.push y1).bind fun r30 =>
 if (!r30.1.1)=true then
 some ((false,()),(({ y0 with o:=r1.2.1,push:=r30.2.1 }:(SweepV MV)),r30.2.2.1,()))
 else
 (abS r30.2.1).bind fun r31 =>
 if r31.1.1=3 then
 (ab7 ({ y0 with o:=r1.2.1,push:=r31.2.1 }:(SweepV MV)) 19).bind fun r32 =>
 (aeV r30.2.2.1 r32.1.1).bind fun r33 =>
 (abx r32.2.1.o 1 0).bind fun r34 =>
 some ((r34.1.1,()),(({ r32.2.1 with o:=r34.2.1 }:(SweepV MV)),r33.2.1,()))
 else
 (abx r1.2.1 1 0).bind fun r35 =>
 some ((r35.1.1,()),(({ y0 with o:=r35.2.1,push:=r31.2.1 }:(SweepV MV)),r30.2.2.1,()))
 else
 if y0.line=3 then
 (abY ({ y0 with o:=r1.2.1 }:(SweepV MV)) y1).bind fun r36 =>
 if r36.1.1=true then
 (abx r36.2.1.o 0 0).bind fun r37 =>
 some ((r37.1.1,()),(({ r36.2.1 with o:=r37.2.1 }:(SweepV MV)),r36.2.2.1,()))
 else
 some ((false,()),(({ r36.2.1 with line:=wi (r36.2.1.line+1) }:(SweepV MV)),r36.2.2.1,()))
 else
 if y0.line=4 then
 (aha y1.l y0.task).bind fun r38 =>
 if y0.q=y0.q then
 if y0.q=y0.q then
 (awc y1.m r38.1.1 y0.q (wu (y0.q+1))).bind fun r39 =>
 if (!r39.1.1)=true then
 (abx r1.2.1 4 0).bind fun r40 =>
 some ((r40.1.1,()),(({ y0 with o:=r40.2.1 }:(SweepV MV)),({ y1 with m:=r39.2.1 }:EnvP),()))
 else
 (ab7 ({ y0 with o:=r1.2.1 }:(SweepV MV)) 12).bind fun r41 =>
 (aeV ({ y1 with m:=r39.2.1 }:EnvP) r41.1.1).bind fun r42 =>
 some ((false,()),(({ r41.2.1 with line:=wi (r41.2.1.line+1) }:(SweepV MV)),r42.2.1,()))
 else none
 else none
 else
 if y0.line=5 then
 (akv y1.l y0.task).bind fun r43 =>
 (aux y1.k).bind fun r44 =>
 (abH y1.m r43.1.1 (wu (r44.1.1))).bind fun r45 =>
 (ac3 y0.worker (wi ((wi (y0.q))+1)) y0.task).bind fun r46 =>
 some ((false,()),(({ y0 with o:=r1.2.1,line:=wi (y0.line+1),push:=r46.1.1 }:(SweepV MV)),({ y1 with m:=r45.2.1,k:=r44.2.1 }:EnvP),()))
 else
 (aes y0.push y1).bind fun r47 =>
 if (!r47.1.1)=true then
 some ((false,()),(({ y0 with o:=r1.2.1,push:=r47.2.1 }:(SweepV MV)),r47.2.2.1,()))
 else
 (abS r47.2.1).bind fun r48 =>
 if r48.1.1=3 then
 (ab7 ({ y0 with o:=r1.2.1,push:=r48.2.1 }:(SweepV MV)) 19).bind fun r49 =>
 (aeV r47.2.2.1 r49.1.1).bind fun r50 =>
 (abx r49.2.1.o 1 0).bind fun r51 =>
 some ((r51.1.1,()),(({ r49.2.1 with o:=r51.2.1 }:(SweepV MV)),r50.2.1,()))
 else
 (abx r1.2.1 1 0).bind fun r52 =>
 some ((r52.1.1,()),(({ y0 with o:=r52.2.1,push:=r48.2.1 }:(SweepV MV)),r47.2.2.1,()))
noncomputable abbrev apN:Con SR1:=⟨205,[.ref 40,.ref 27],[.sh .b],fun x =>aaF x.1 x.2.1⟩
theorem aoH:CO Tryz.prog apN:=aal aai Tryz.func205 [abE,ajZ,ada,ahk,am0,ajc,agb,ak8,aoW,aev,afy,ajj,aga] ⟨abb,aoI,abV,agB,akz,anJ,afa,akt,alZ,adT,afT,aiF,af9,trivial⟩
noncomputable def acm (y0:(EnterV MV)) (y1:EnvP):Option ((Bool×Unit)×((EnterV MV)×EnvP×Unit)) :=
 (aaw y0.o).bind fun r1 =>
 if r1.1.1=true then
 some ((true,()),(({ y0 with o:=r1.2.1 }:(EnterV MV)),y1,()))
 else
 if y0.line=1 then
 (af6 y1 y0.task).bind fun r2 =>
 if (!r2.1.1)=true then
 (abx r1.2.1 4 0).bind fun r3 =>
 some ((r3.1.1,()),(({ y0 with o:=r3.2.1 }:(EnterV MV)),r2.2.1,()))
 else
 (akv r2.2.1.l y0.task).bind fun r4 =>
 (aux r2.2.1.k).bind fun r5 =>
 (abH r2.2.1.m r4.1.1 (wu (r5.1.1))).bind fun r6 =>
 some ((false,()),(({ y0 with o:=r1.2.1,line:=wi (y0.line+1) }:(EnterV MV)),({ r2.2.1 with m:=r6.2.1,k:=r5.2.1 }:EnvP),()))
 else
 if y0.line=2 then
 (ag9 y1.l y0.task).bind fun r7 =>
 (abH y1.m r7.1.1 1).bind fun r8 =>
 some ((false,()),(({ y0 with o:=r1.2.1,line:=wi (y0.line+1) }:(EnterV MV)),({ y1 with m:=r8.2.1 }:EnvP),()))
 else
 if y0.line=3 then
 (aha y1.l y0.task).bind fun r9 =>
 (adm y1.m r9.1.1).bind fun r10 =>
 (ac3 y0.worker (wi (r10.1.1)) y0.task).bind fun r11 =>
 some ((false,()),(({ y0 with o:=r1.2.1,level:=wi (r10.1.1),line:=wi (y0.line+1),push:=r11.1.1 }:(EnterV MV)),({ y1 with m:=r10.2.1 }:EnvP),()))
 else
 (aes y0.push y1).bind fun r12 =>
 if (!r12.1.1)=true then
 some ((false,()),(({ y0 with o:=r1.2.1,push:=r12.2.1 }:(EnterV MV)),r12.2.2.1,()))
 else
 (abS r12.2.1).bind fun r13 =>
 (abx r1.2.1 r13.1.1 y0.level).bind fun r14 =>
 some ((r14.1.1,()),(({ y0 with o:=r14.2.1,push:=r13.2.1 }:(EnterV MV)),r12.2.2.1,()))
noncomputable abbrev aph:Con SR1:=⟨248,[.ref 49,.ref 27],[.sh .b],fun x =>acm x.1 x.2.1⟩
theorem anP:CO Tryz.prog aph:=aal aai Tryz.func248 [abE,ahe,ada,ak8,aoW,aev,ahj,ahk,ac9,afy,ajj,aga] ⟨abb,aiq,abV,akt,alZ,adT,agA,agB,ach,afT,aiF,af9,trivial⟩
noncomputable def aw3 (y0:Int):Option ((MV×Unit)×(Unit)) :=
 some ((MV.attempt (⟨⟨false,0,0⟩,y0,true⟩:AttemptV),()),())
noncomputable abbrev avx:Con SR1:=⟨212,[.sh sI_],[.sh .mach],fun x =>aw3 x.1⟩
theorem azC:CO Tryz.prog avx:=aal aai Tryz.func212 [] trivial
noncomputable def aaM (y0:(DrainV MV)) (y1:Int) (y2:MV):Option ((Unit)×((DrainV MV)×Unit)) :=
 some ((()),(({ y0 with line:=y1,inside:=y2 }:(DrainV MV)),()))
noncomputable abbrev aeH:Con SR1:=⟨211,[.ref 41,.sh sI_,.sh .mach],[],fun x =>aaM x.1 x.2.1 x.2.2.1⟩
theorem afd:CO Tryz.prog aeH:=aal aai Tryz.func211 [] trivial
noncomputable def agt (y0:Int):Option ((MV×Unit)×(Unit)) :=
 some ((MV.remove (⟨⟨false,0,0⟩,y0,1,0,0,0,0,0,0⟩:RemoveV),()),())
noncomputable abbrev ajV:Con SR1:=⟨217,[.sh sI_],[.sh .mach],fun x =>agt x.1⟩
theorem aop:CO Tryz.prog ajV:=aal aai Tryz.func217 [] trivial
noncomputable def abF (y0:(DrainV MV)):Option ((Unit)×((DrainV MV)×Unit)) :=
 (agt y0.worker).bind fun r1 =>
 (aaM y0 3 r1.1.1).bind fun r2 =>
 some ((()),(r2.2.1,()))
noncomputable abbrev aib:Con SR1:=⟨214,[.ref 41],[],fun x =>abF x.1⟩
theorem al7:CO Tryz.prog aib:=aal aai Tryz.func214 [ajV,aeH] ⟨aop,afd,trivial⟩
noncomputable def agc  : Option ((MV×Unit)×(Unit)) :=
 some ((MV.release (⟨⟨false,0,0⟩⟩:ReleaseV),()),())
noncomputable abbrev ajs:Con SR1:=⟨100,[],[.sh .mach],fun x =>agc ⟩
theorem alL:CO Tryz.prog ajs:=aal aai Tryz.func100 [] trivial
noncomputable def aa4 (y0:(DrainV MV)):Option ((Unit)×((DrainV MV)×Unit)) :=
 (agc).bind fun r1 =>
 (aaM y0 6 r1.1.1).bind fun r2 =>
 some ((()),(r2.2.1,()))
noncomputable abbrev afp:Con SR1:=⟨210,[.ref 41],[],fun x =>aa4 x.1⟩
theorem ahb:CO Tryz.prog afp:=aal aai Tryz.func210 [ajs,aeH] ⟨alL,afd,trivial⟩
noncomputable def adq (y0:(DrainV MV)) (y1:Int):Option ((Unit)×((DrainV MV)×Unit)) :=
 if y1=3 then
 (aa4 ({ y0 with direct:=true }:(DrainV MV))).bind fun r1 =>
 some ((()),(r1.2.1,()))
 else
 some ((()),(({ y0 with last:=y0.p,count:=wi (y0.count+1) }:(DrainV MV)),()))
noncomputable abbrev aic:Con SR1:=⟨215,[.ref 41,.sh sI_],[],fun x =>adq x.1 x.2.1⟩
theorem al8:CO Tryz.prog aic:=aal aai Tryz.func215 [afp] ⟨ahb,trivial⟩
noncomputable def aed (y0:Int) (y1:Int):Option ((MV×Unit)×(Unit)) :=
 some ((MV.wake (⟨⟨false,0,0⟩,y0,y1,1,0,0⟩:WakeV),()),())
noncomputable abbrev aiS:Con SR1:=⟨101,[.sh sI_,.sh sI_],[.sh .mach],fun x =>aed x.1 x.2.1⟩
theorem ajn:CO Tryz.prog aiS:=aal aai Tryz.func101 [] trivial
noncomputable def aa2 (y0:(DrainV MV)):Option ((Bool×Unit)×((DrainV MV)×Unit)) :=
 if y0.direct=true then
 (abx y0.o 1 y0.x).bind fun r1 =>
 some ((r1.1.1,()),(({ y0 with o:=r1.2.1 }:(DrainV MV)),()))
 else
 if 0<y0.count then
 (abx y0.o 0 y0.count).bind fun r2 =>
 some ((r2.1.1,()),(({ y0 with o:=r2.2.1 }:(DrainV MV)),()))
 else
 (abx y0.o 2 0).bind fun r3 =>
 some ((r3.1.1,()),(({ y0 with o:=r3.2.1 }:(DrainV MV)),()))
noncomputable abbrev aid:Con SR1:=⟨216,[.ref 41],[.sh .b],fun x =>aa2 x.1⟩
theorem al9:CO Tryz.prog aid:=aal aai Tryz.func216 [ada] ⟨abV,trivial⟩
noncomputable def ade (y0:(DrainV MV)) (y1:EnvP) (y2:Int) (y3:Int):Option ((Bool×Unit)×((DrainV MV)×EnvP×Unit)) :=
 if y0.line=2 then
 if y2=5 then
 (abx y0.o 5 0).bind fun r1 =>
 some ((r1.1.1,()),(({ y0 with o:=r1.2.1 }:(DrainV MV)),y1,()))
 else
 if y0.line=2 then
 (abF y0).bind fun r2 =>
 some ((false,()),(r2.2.1,y1,()))
 else
 if y0.line=3 then
 if y2=2 then
 (aa4 y0).bind fun r3 =>
 some ((false,()),(r3.2.1,y1,()))
 else
 if y0.line=3 then
 (aaM ({ y0 with x:=y3 }:(DrainV MV)) 4 MV.nil).bind fun r4 =>
 some ((false,()),(r4.2.1,y1,()))
 else
 if y0.line=5 then
 (adq y0 y2).bind fun r5 =>
 if r5.2.1.direct=true then
 some ((false,()),(r5.2.1,y1,()))
 else
 if r5.2.1.count<y1.c.batch then
 (abF r5.2.1).bind fun r6 =>
 some ((false,()),(r6.2.1,y1,()))
 else
 (aa4 r5.2.1).bind fun r7 =>
 some ((false,()),(r7.2.1,y1,()))
 else
 if y0.line=6 then
 if 0<y0.count then
 (aed y0.worker y0.last).bind fun r8 =>
 (aaM y0 7 r8.1.1).bind fun r9 =>
 some ((false,()),(r9.2.1,y1,()))
 else
 (aa2 y0).bind fun r10 =>
 some ((r10.1.1,()),(r10.2.1,y1,()))
 else
 (aa2 y0).bind fun r11 =>
 some ((r11.1.1,()),(r11.2.1,y1,()))
 else
 if y0.line=3 then
 (aaM ({ y0 with x:=y3 }:(DrainV MV)) 4 MV.nil).bind fun r12 =>
 some ((false,()),(r12.2.1,y1,()))
 else
 if y0.line=5 then
 (adq y0 y2).bind fun r13 =>
 if r13.2.1.direct=true then
 some ((false,()),(r13.2.1,y1,()))
 else
 if r13.2.1.count<y1.c.batch then
 (abF r13.2.1).bind fun r14 =>
 some ((false,()),(r14.2.1,y1,()))
 else
 (aa4 r13.2.1).bind fun r15 =>
 some ((false,()),(r15.2.1,y1,()))
 else
 if y0.line=6 then
 if 0<y0.count then
 (aed y0.worker y0.last).bind fun r16 =>
 (aaM y0 7 r16.1.1).bind fun r17 =>
 some ((false,()),(r17.2.1,y1,()))
 else
 (aa2 y0).bind fun r18 =>
 some ((r18.1.1,()),(r18.2.1,y1,()))
 else
 (aa2 y0).bind fun r19 =>
 some ((r19.1.1,()),(r19.2.1,y1,()))
 else
 if y0.line=2 then
 (abF y0).bind fun r20 =>
 some ((false,()),(r20.2.1,y1,()))
 else
 if y0.line=3 then
 if y2=2 then
 (aa4 y0).bind fun r21 =>
 some ((false,()),(r21.2.1,y1,()))
 else
 if y0.line=3 then
 (aaM ({ y0 with x:=y3 }:(DrainV MV)) 4 MV.nil).bind fun r22 =>
 some ((false,()),(r22.2.1,y1,()))
 else
 if y0.line=5 then
 (adq y0 y2).bind fun r23 =>
 if r23.2.1.direct=true then
 some ((false,()),(r23.2.1,y1,()))
 else
 if r23.2.1.count<y1.c.batch then
 (abF r23.2.1).bind fun r24 =>
 some ((false,()),(r24.2.1,y1,()))
 else
 (aa4 r23.2.1).bind fun r25 =>
 some ((false,()),(r25.2.1,y1,()))
 else
 if y0.line=6 then
 if 0<y0.count then
 (aed y0.worker y0.last).bind fun r26 =>
 (aaM y0 7 r26.1.1).bind fun r27 =>
 some ((false,()),(r27.2.1,y1,()))
 else
 (aa2 y0).bind fun r28 =>
 some ((r28.1.1,()),(r28.2.1,y1,()))
 else
 (aa2 y0).bind fun r29 =>
 some ((r29.1.1,()),(r29.2.1,y1,()))
 else
 if y0.line=3 then
 (aaM ({ y0 with x:=y3 }:(DrainV MV)) 4 MV.nil).bind fun r30 =>
 some ((false,()),(r30.2.1,y1,()))
 else
 if y0.line=5 then
 (adq y0 y2).bind fun r31 =>
 if r31.2.1.direct=true then
 some ((false,()),(r31.2.1,y1,()))
 else
 if r31.2.1.count<y1.c.batch then
 (abF r31.2.1).bind fun r32 =>
 some ((false,()),(r32.2.1,y1,()))
 else
 (aa4 r31.2.1).bind fun r33 =>
 some ((false,()),(r33.2.1,y1,()))
 else
 if y0.line=6 then
 if 0<y0.count then
 (aed y0.worker y0.last).bind fun r34 =>
 (aaM y0 7 r34.1.1).bind fun r35 =>
 some ((false,()),(r35.2.1,y1,()))
 else
 (aa2 y0).bind fun r36 =>
 some ((r36.1.1,()),(r36.2.1,y1,()))
 else
 (aa2 y0).bind fun r37 =>
 some ((r37.1.1,()),(r37.2.1,y1,()))
noncomputable abbrev ai4:Con SR1:=⟨213,[.ref 41,.ref 27,.sh sI_,.sh sI_],[.sh .b],fun x =>ade x.1 x.2.1 x.2.2.1 x.2.2.2.1⟩
theorem anr:CO Tryz.prog ai4:=aal aai Tryz.func213 [ada,aib,afp,aeH,aic,aiS,aid] ⟨abV,al7,ahb,afd,al8,ajn,al9,trivial⟩
noncomputable def abC (y0:(DrainV MV)) (y1:EnvP):Option ((Bool×Unit)×((DrainV MV)×EnvP×Unit)) :=
 (aaw y0.o).bind fun r1 =>
 if r1.1.1=true then
 some ((true,()),(({ y0 with o:=r1.2.1 }:(DrainV MV)),y1,()))
 else
 if y0.line=1 then
 (ahQ y1.l).bind fun r2 =>
 (adm y1.m r2.1.1).bind fun r3 =>
 if (wi (r3.1.1))≤0 then
 (abx r1.2.1 2 0).bind fun r4 =>
 some ((r4.1.1,()),(({ y0 with o:=r4.2.1 }:(DrainV MV)),({ y1 with m:=r3.2.1 }:EnvP),()))
 else
 (aw3 y0.worker).bind fun r5 =>
 (aaM ({ y0 with o:=r1.2.1 }:(DrainV MV)) 2 r5.1.1).bind fun r6 =>
 some ((false,()),(r6.2.1,({ y1 with m:=r3.2.1 }:EnvP),()))
 else
 if y0.line=4 then
 (aha y1.l y0.x).bind fun r7 =>
 (adm y1.m r7.1.1).bind fun r8 =>
 (ac3 y0.worker (wi (r8.1.1)) y0.x).bind fun r9 =>
 (aaM ({ y0 with o:=r1.2.1,p:=wi (r8.1.1) }:(DrainV MV)) 5 r9.1.1).bind fun r10 =>
 some ((false,()),(r10.2.1,({ y1 with m:=r8.2.1 }:EnvP),()))
 else
 (aes y0.inside y1).bind fun r11 =>
 if (!r11.1.1)=true then
 some ((false,()),(({ y0 with o:=r1.2.1,inside:=r11.2.1 }:(DrainV MV)),r11.2.2.1,()))
 else
 (abS r11.2.1).bind fun r12 =>
 (ade ({ y0 with o:=r1.2.1,inside:=r12.2.1 }:(DrainV MV)) r11.2.2.1 r12.1.1 r12.1.2.1).bind fun r13 =>
 some ((r13.1.1,()),(r13.2.1,r13.2.2.1,()))
noncomputable abbrev apH:Con SR1:=⟨209,[.ref 41,.ref 27],[.sh .b],fun x =>abC x.1 x.2.1⟩
theorem aot:CO Tryz.prog apH:=aal aai Tryz.func209 [abE,ala,ac9,ada,avx,aeH,ahk,afy,ajj,aga,ai4] ⟨abb,aky,ach,abV,azC,afd,agB,afT,aiF,af9,anr,trivial⟩
noncomputable def agz (m:MV) (e:EnvP):Option ((Bool×Unit)×(MV×EnvP×Unit)) :=
 match m with
 | .alloc x =>(ack x e).bind fun o =>some (o.1,(MV.alloc o.2.1,o.2.2))
 | .publish x =>(acb x e).bind fun o =>some (o.1,(MV.publish o.2.1,o.2.2))
 | .claim x =>(adJ x e).bind fun o =>some (o.1,(MV.claim o.2.1,o.2.2))
 | .attempt x =>(adc x e).bind fun o =>some (o.1,(MV.attempt o.2.1,o.2.2))
 | .release x =>(adb x e).bind fun o =>some (o.1,(MV.release o.2.1,o.2.2))
 | .opush x =>(aee x e).bind fun o =>some (o.1,(MV.opush o.2.1,o.2.2))
 | .opop x =>(aeD x e).bind fun o =>some (o.1,(MV.opop o.2.1,o.2.2))
 | .steal x =>(adI x e).bind fun o =>some (o.1,(MV.steal o.2.1,o.2.2))
 | .set x =>(aeh x e).bind fun o =>some (o.1,(MV.set o.2.1,o.2.2))
 | .reset x =>(adf x e).bind fun o =>some (o.1,(MV.reset o.2.1,o.2.2))
 | .insert x =>(ab4 x e).bind fun o =>some (o.1,(MV.insert o.2.1,o.2.2))
 | .remove x =>(ab3 x e).bind fun o =>some (o.1,(MV.remove o.2.1,o.2.2))
 | .sleep x =>(ady x e).bind fun o =>some (o.1,(MV.sleep o.2.1,o.2.2))
 | .wake x =>(ad5 x e).bind fun o =>some (o.1,(MV.wake o.2.1,o.2.2))
 | .raise x =>(acZ x e).bind fun o =>some (o.1,(MV.raise o.2.1,o.2.2))
 | .probe x =>(abB x e).bind fun o =>some (o.1,(MV.probe o.2.1,o.2.2))
 | .lpush x =>(acY x e).bind fun o =>some (o.1,(MV.lpush o.2.1,o.2.2))
 | .lpop x =>(adB x e).bind fun o =>some (o.1,(MV.lpop o.2.1,o.2.2))
 | .walk x =>(acp x e).bind fun o =>some (o.1,(MV.walk o.2.1,o.2.2))
 | .take x =>(afv x e).bind fun o =>some (o.1,(MV.take o.2.1,o.2.2))
 | .sweep x =>(aaF x e).bind fun o =>some (o.1,(MV.sweep o.2.1,o.2.2))
 | .enter x =>(acm x e).bind fun o =>some (o.1,(MV.enter o.2.1,o.2.2))
 | .drain x =>(abC x e).bind fun o =>some (o.1,(MV.drain o.2.1,o.2.2))
 | _ =>none
noncomputable abbrev apO:Con SR1:=⟨1000000000,[.mch,.ref 27],[.sh .b],fun x =>agz x.1 x.2.1⟩
theorem ak1 (m:MV) (xs:ami SR1 [.ref 27]) (out:aml SR1 [.sh .b]×(MV×akc SR1 [.ref 27])) (h:agz m xs.1=some out):arU SR1 Tryz.prog 0 [.ref 27] [.sh .b] m xs out:=by
 cases m with
 | alloc x =>exact aaz (.alloc x) xs out h
 | publish x =>exact aaz (.publish x) xs out h
 | claim x =>exact aaz (.claim x) xs out h
 | attempt x =>exact aaz (.attempt x) xs out h
 | release x =>exact aaz (.release x) xs out h
 | opush x =>exact aaz (.opush x) xs out h
 | opop x =>exact aaz (.opop x) xs out h
 | steal x =>exact aaz (.steal x) xs out h
 | set x =>exact aaz (.set x) xs out h
 | reset x =>exact aaz (.reset x) xs out h
 | insert x =>exact aaz (.insert x) xs out h
 | remove x =>exact aaz (.remove x) xs out h
 | sleep x =>exact aaz (.sleep x) xs out h
 | wake x =>exact aaz (.wake x) xs out h
 | raise x =>exact aaz (.raise x) xs out h
 | probe x =>exact aaz (.probe x) xs out h
 | lpush x =>exact amw (.lpush x) xs out h
 | lpop x =>exact amw (.lpop x) xs out h
 | walk x =>exact abg (S:=SR1) (ps:=[.ref 27]) (rs:=[.sh .b]) (c:=48) (mk:=MV.walk) (fun _ =>rfl) rfl (fun _ _ _ _ =>by kernel_rfl) apJ h
 | take x =>exact abg (S:=SR1) (ps:=[.ref 27]) (rs:=[.sh .b]) (c:=39) (mk:=MV.take) (fun _ =>rfl) rfl (fun _ _ _ _ =>by kernel_rfl) aqk h
 | sweep x =>exact abg (S:=SR1) (ps:=[.ref 27]) (rs:=[.sh .b]) (c:=40) (mk:=MV.sweep) (fun _ =>rfl) rfl (fun _ _ _ _ =>by kernel_rfl) aoH h
 | enter x =>exact abg (S:=SR1) (ps:=[.ref 27]) (rs:=[.sh .b]) (c:=49) (mk:=MV.enter) (fun _ =>rfl) rfl (fun _ _ _ _ =>by kernel_rfl) anP h
 | drain x =>exact abg (S:=SR1) (ps:=[.ref 27]) (rs:=[.sh .b]) (c:=41) (mk:=MV.drain) (fun _ =>rfl) rfl (fun _ _ _ _ =>by kernel_rfl) aot h
 | _ =>cases h
theorem aqn:CO Tryz.prog apO:=akL (S:=SR1) (i:=0) (ps:=[.ref 27]) (rs:=[.sh .b]) (spec:=fun m xs =>agz m xs.1) ak1
noncomputable def aet (m:MV):Option ((Int×Int×Unit)×(MV×Unit)) :=
 match m with
 | .alloc x =>some ((x.o.code,x.o.value,()),(MV.alloc x,()))
 | .publish x =>some ((x.o.code,x.o.value,()),(MV.publish x,()))
 | .claim x =>some ((x.o.code,x.o.value,()),(MV.claim x,()))
 | .attempt x =>some ((x.o.code,x.o.value,()),(MV.attempt x,()))
 | .release x =>some ((x.o.code,x.o.value,()),(MV.release x,()))
 | .opush x =>some ((x.o.code,x.o.value,()),(MV.opush x,()))
 | .opop x =>some ((x.o.code,x.o.value,()),(MV.opop x,()))
 | .steal x =>some ((x.o.code,x.o.value,()),(MV.steal x,()))
 | .set x =>some ((x.o.code,x.o.value,()),(MV.set x,()))
 | .reset x =>some ((x.o.code,x.o.value,()),(MV.reset x,()))
 | .insert x =>some ((x.o.code,x.o.value,()),(MV.insert x,()))
 | .remove x =>some ((x.o.code,x.o.value,()),(MV.remove x,()))
 | .sleep x =>some ((x.o.code,x.o.value,()),(MV.sleep x,()))
 | .wake x =>some ((x.o.code,x.o.value,()),(MV.wake x,()))
 | .raise x =>some ((x.o.code,x.o.value,()),(MV.raise x,()))
 | .probe x =>some ((x.o.code,x.o.value,()),(MV.probe x,()))
 | .lpush x =>some ((x.o.code,x.o.value,()),(MV.lpush x,()))
 | .lpop x =>some ((x.o.code,x.o.value,()),(MV.lpop x,()))
 | .walk x =>some ((x.o.code,x.o.value,()),(MV.walk x,()))
 | .take x =>some ((x.o.code,x.o.value,()),(MV.take x,()))
 | .sweep x =>some ((x.o.code,x.o.value,()),(MV.sweep x,()))
 | .enter x =>some ((x.o.code,x.o.value,()),(MV.enter x,()))
 | .drain x =>some ((x.o.code,x.o.value,()),(MV.drain x,()))
 | _ =>none
noncomputable abbrev anY:Con SR1:=⟨1000000001,[.mch],[.sh sI_,.sh sI_],fun x =>aet x.1⟩
theorem ahr (m:MV) (xs:ami SR1 []) (out:aml SR1 [.sh sI_,.sh sI_]×(MV×akc SR1 [])) (h:aet m=some out):arU SR1 Tryz.prog 1 [] [.sh sI_,.sh sI_] m xs out:=by
 cases m with
 | alloc x =>exact aak (.alloc x) xs out h
 | publish x =>exact aak (.publish x) xs out h
 | claim x =>exact aak (.claim x) xs out h
 | attempt x =>exact aak (.attempt x) xs out h
 | release x =>exact aak (.release x) xs out h
 | opush x =>exact aak (.opush x) xs out h
 | opop x =>exact aak (.opop x) xs out h
 | steal x =>exact aak (.steal x) xs out h
 | set x =>exact aak (.set x) xs out h
 | reset x =>exact aak (.reset x) xs out h
 | insert x =>exact aak (.insert x) xs out h
 | remove x =>exact aak (.remove x) xs out h
 | sleep x =>exact aak (.sleep x) xs out h
 | wake x =>exact aak (.wake x) xs out h
 | raise x =>exact aak (.raise x) xs out h
 | probe x =>exact aak (.probe x) xs out h
 | lpush x =>exact aiQ (.lpush x) xs out h
 | lpop x =>exact aiQ (.lpop x) xs out h
 | walk x =>exact abg (S:=SR1) (ps:=[]) (rs:=[.sh sI_,.sh sI_]) (c:=48) (mk:=MV.walk) (f:=143) (sp:=fun x =>some ((x.1.o.code,x.1.o.value,()),(x.1,()))) (fun _ =>rfl) rfl (fun _ _ _ _ =>by kernel_rfl) (acX [aa1] ⟨aaQ,trivial⟩ fun x =>by kernel_rfl) h
 | take x =>exact abg (S:=SR1) (ps:=[]) (rs:=[.sh sI_,.sh sI_]) (c:=39) (mk:=MV.take) (f:=143) (sp:=fun x =>some ((x.1.o.code,x.1.o.value,()),(x.1,()))) (fun _ =>rfl) rfl (fun _ _ _ _ =>by kernel_rfl) (acX [aa1] ⟨aaQ,trivial⟩ fun x =>by kernel_rfl) h
 | sweep x =>exact abg (S:=SR1) (ps:=[]) (rs:=[.sh sI_,.sh sI_]) (c:=40) (mk:=MV.sweep) (f:=143) (sp:=fun x =>some ((x.1.o.code,x.1.o.value,()),(x.1,()))) (fun _ =>rfl) rfl (fun _ _ _ _ =>by kernel_rfl) (acX [aa1] ⟨aaQ,trivial⟩ fun x =>by kernel_rfl) h
 | enter x =>exact abg (S:=SR1) (ps:=[]) (rs:=[.sh sI_,.sh sI_]) (c:=49) (mk:=MV.enter) (f:=143) (sp:=fun x =>some ((x.1.o.code,x.1.o.value,()),(x.1,()))) (fun _ =>rfl) rfl (fun _ _ _ _ =>by kernel_rfl) (acX [aa1] ⟨aaQ,trivial⟩ fun x =>by kernel_rfl) h
 | drain x =>exact abg (S:=SR1) (ps:=[]) (rs:=[.sh sI_,.sh sI_]) (c:=41) (mk:=MV.drain) (f:=143) (sp:=fun x =>some ((x.1.o.code,x.1.o.value,()),(x.1,()))) (fun _ =>rfl) rfl (fun _ _ _ _ =>by kernel_rfl) (acX [aa1] ⟨aaQ,trivial⟩ fun x =>by kernel_rfl) h
 | _ =>cases h
theorem aqy:CO Tryz.prog anY:=akL (S:=SR1) (i:=1) (ps:=[]) (rs:=[.sh sI_,.sh sI_]) (spec:=fun m _ =>aet m) ahr
noncomputable def afN (y0:(RunV MV)) (y1:EnvP):Option ((Int×Unit)×((RunV MV)×EnvP×Unit)) :=
 if 0≤(tlI y0.stack)∧(tlI y0.stack)<((y0.stack.length:Nat):Int) then
 if 0≤tpI y0.stack∧tpI y0.stack<((y1.recs.length:Nat):Int) then
 if 0≤(tlI y0.stack)∧(tlI y0.stack)<((y0.stack.length:Nat):Int) then
 if 0≤tpI y0.stack∧tpI y0.stack<((y1.recs.length:Nat):Int) then
 if ((aab y1.recs (tpI y0.stack)).prog)<0 then
 if ((aab y1.recs (tpI y0.stack)).waiting)≠(-1) then
 some ((1,()),(y0,y1,()))
 else
 if ((aab y1.recs (tpI y0.stack)).pc)<0 then
 some ((16,()),(y0,y1,()))
 else
 if 0≤((aab y1.recs (tpI y0.stack)).pc) then
 some ((16,()),(y0,y1,()))
 else
 none
 else
 if ((y1.c.progs.length:Nat):Int)≤((aab y1.recs (tpI y0.stack)).prog) then
 if ((aab y1.recs (tpI y0.stack)).waiting)≠(-1) then
 some ((1,()),(y0,y1,()))
 else
 if ((aab y1.recs (tpI y0.stack)).pc)<0 then
 some ((16,()),(y0,y1,()))
 else
 if 0≤((aab y1.recs (tpI y0.stack)).pc) then
 some ((16,()),(y0,y1,()))
 else
 none
 else
 if 0≤(aab y1.recs (tpI y0.stack)).prog∧(aab y1.recs (tpI y0.stack)).prog<((y1.c.progs.length:Nat):Int) then
 if ((aab y1.recs (tpI y0.stack)).waiting)≠(-1) then
 some ((1,()),(y0,y1,()))
 else
 if ((aab y1.recs (tpI y0.stack)).pc)<0 then
 some ((16,()),(y0,y1,()))
 else
 if (((atL [] y1.c.progs ((aab y1.recs (tpI y0.stack)).prog)).length:Nat):Int)≤((aab y1.recs (tpI y0.stack)).pc) then
 some ((16,()),(y0,y1,()))
 else
 if 0≤(aab y1.recs (tpI y0.stack)).pc∧(aab y1.recs (tpI y0.stack)).pc<(((atL [] y1.c.progs ((aab y1.recs (tpI y0.stack)).prog)).length:Nat):Int) then
 if ((acB (atL [] y1.c.progs ((aab y1.recs (tpI y0.stack)).prog)) ((aab y1.recs (tpI y0.stack)).pc)).op)=0 then
 some ((2,()),(y0,y1,()))
 else
 if 0≤(aab y1.recs (tpI y0.stack)).pc∧(aab y1.recs (tpI y0.stack)).pc<(((atL [] y1.c.progs ((aab y1.recs (tpI y0.stack)).prog)).length:Nat):Int) then
 if ((acB (atL [] y1.c.progs ((aab y1.recs (tpI y0.stack)).prog)) ((aab y1.recs (tpI y0.stack)).pc)).op)=1 then
 some ((4,()),(y0,y1,()))
 else
 if 0≤(aab y1.recs (tpI y0.stack)).pc∧(aab y1.recs (tpI y0.stack)).pc<(((atL [] y1.c.progs ((aab y1.recs (tpI y0.stack)).prog)).length:Nat):Int) then
 if ((acB (atL [] y1.c.progs ((aab y1.recs (tpI y0.stack)).prog)) ((aab y1.recs (tpI y0.stack)).pc)).a)<0 then
 some ((3,()),(y0,y1,()))
 else
 if ((((aab y1.recs (tpI y0.stack)).kids).length:Nat):Int)≤((acB (atL [] y1.c.progs ((aab y1.recs (tpI y0.stack)).prog)) ((aab y1.recs (tpI y0.stack)).pc)).a) then
 some ((3,()),(y0,({ y1 with recs:=y1.recs.set (tpI y0.stack).toNat (aab y1.recs (tpI y0.stack)) }:EnvP),()))
 else
 if 0≤(acB (atL [] y1.c.progs ((aab y1.recs (tpI y0.stack)).prog)) ((aab y1.recs (tpI y0.stack)).pc)).a∧(acB (atL [] y1.c.progs ((aab y1.recs (tpI y0.stack)).prog)) ((aab y1.recs (tpI y0.stack)).pc)).a<((((aab y1.recs (tpI y0.stack)).kids).length:Nat):Int) then
 if (acg ((aab y1.recs (tpI y0.stack)).kids) ((acB (atL [] y1.c.progs ((aab y1.recs (tpI y0.stack)).prog)) ((aab y1.recs (tpI y0.stack)).pc)).a))=(-1) then
 some ((3,()),(y0,({ y1 with recs:=y1.recs.set (tpI y0.stack).toNat (aab y1.recs (tpI y0.stack)) }:EnvP),()))
 else
 some ((9,()),(y0,({ y1 with recs:=y1.recs.set (tpI y0.stack).toNat (aab y1.recs (tpI y0.stack)) }:EnvP),()))
 else none
 else none
 else none
 else none
 else none
 else none
 else none
 else none
 else none
noncomputable abbrev aiO:Con SR1:=⟨159,[.ref 33,.ref 27],[.sh sI_],fun x =>afN x.1 x.2.1⟩
noncomputable def amK:List (Nat×Func):=[(164,Tryz.f164),(158,Tryz.f158),(165,Tryz.f165)]
theorem amL:CO Tryz.prog aiO:=agL aai Tryz.func159 [] trivial amK ⟨Tryz.func164,Tryz.func158,Tryz.func165,trivial⟩ (fun _ =>[]) [] fun x =>by kernel_rfl
noncomputable def afK  : Option ((MV×Unit)×(Unit)) :=
 some ((MV.alloc (⟨⟨false,0,0⟩⟩:AllocV),()),())
noncomputable abbrev ahC:Con SR1:=⟨98,[],[.sh .mach],fun x =>afK ⟩
theorem ajP:CO Tryz.prog ahC:=aal aai Tryz.func98 [] trivial
noncomputable def aac (y0:(RunV MV)) (y1:Int) (y2:MV):Option ((Bool×Unit)×((RunV MV)×Unit)) :=
 some ((false,()),(({ y0 with line:=y1,inside:=y2 }:(RunV MV)),()))
noncomputable abbrev aeb:Con SR1:=⟨168,[.ref 33,.sh sI_,.sh .mach],[.sh .b],fun x =>aac x.1 x.2.1 x.2.2.1⟩
theorem aen:CO Tryz.prog aeb:=aal aai Tryz.func168 [] trivial
end
end Go.Proofs.YtidhehdanppcoaaGreat
