/- The program's machines in the evaluator's form. The program's machines in the evaluator's form. -/
import Derived.Test.YtidhehdanppcoaaGreatCaai
set_option linter.all false
namespace Go.Proofs.YtidhehdanppcoaaGreat
section
open Go Go.RowKit
set_option maxRecDepth 100000
variable [Tb]
noncomputable def abL (y0:InsertV) (y1:EnvP):Option ((Bool×Unit)×(InsertV×EnvP×Unit)) :=
 (aaw y0.o).bind fun r1 =>
 if r1.1.1=true then
 some ((true,()),(({ y0 with o:=r1.2.1 }:InsertV),y1,()))
 else
 if y1.l.workers=y1.l.workers then
 if y1.l.levels=y1.l.levels then
 if y1.l.classes=y1.l.classes then
 if y1.l.tasks=y1.l.tasks then
 if y1.l.deque=y1.l.deque then
 if y1.l.heap=y1.l.heap then
 if y1.l.sleepers=y1.l.sleepers then
 if y1.l.epochs=y1.l.epochs then
 if y1.l.bitmaps=y1.l.bitmaps then
 if y1.l.queues=y1.l.queues then
 if y1.l.table=y1.l.table then
 if y0.line=1 then
 (af6 y1.l).bind fun r2 =>
 (acz y1.m r2.1.1).bind fun r3 =>
 if y1.c.heap≤(wi (r3.1.1)) then
 (abg r1.2.1 3 0).bind fun r4 =>
 some ((r4.1.1,()),(({ y0 with o:=r4.2.1,n:=wi (r3.1.1) }:InsertV),({ y1 with m:=r3.2.1 }:EnvP),()))
 else
 some ((false,()),(({ y0 with o:=r1.2.1,line:=2,n:=wi (r3.1.1) }:InsertV),({ y1 with m:=r3.2.1 }:EnvP),()))
 else
 if y0.line=2 then
 (arJ y1.l).bind fun r5 =>
 if y0.task=y0.task then
 if y0.deadline=y0.deadline then
 (aGP y1.m r5.1.1 1).bind fun r6 =>
 if y0.task=y0.task then
 if y0.deadline=y0.deadline then
 (aCb y0.deadline (wi (r6.1.1)) y0.task).bind fun r7 =>
 if (!r7.1.2.1)=true then
 (abg r1.2.1 4 0).bind fun r8 =>
 some ((r8.1.1,()),(({ y0 with o:=r8.2.1 }:InsertV),({ y1 with m:=r6.2.1 }:EnvP),()))
 else
 (ads ({ y0 with o:=r1.2.1,i:=y0.n,k:=r7.1.1 }:InsertV)).bind fun r9 =>
 some ((false,()),(({ r9.2.1 with line:=r9.1.1 }:InsertV),({ y1 with m:=r6.2.1 }:EnvP),()))
 else none
 else none
 else none
 else none
 else
 if y0.line=3 then
 (an1 y1.l (wi (Int.tdiv (wi (y0.i-1)) 2))).bind fun r10 =>
 (acz y1.m r10.1.1).bind fun r11 =>
 if y0.k<r11.1.1 then
 some ((false,()),(({ y0 with o:=r1.2.1,line:=4,x:=r11.1.1 }:InsertV),({ y1 with m:=r11.2.1 }:EnvP),()))
 else
 some ((false,()),(({ y0 with o:=r1.2.1,line:=5,x:=r11.1.1 }:InsertV),({ y1 with m:=r11.2.1 }:EnvP),()))
 else
 if y0.line=4 then
 (an1 y1.l y0.i).bind fun r12 =>
 if y0.x=y0.x then
 (aa2 y1.m r12.1.1 y0.x).bind fun r13 =>
 (ads ({ y0 with o:=r1.2.1,i:=wi (Int.tdiv (wi (y0.i-1)) 2) }:InsertV)).bind fun r14 =>
 some ((false,()),(({ r14.2.1 with line:=r14.1.1 }:InsertV),({ y1 with m:=r13.2.1 }:EnvP),()))
 else none
 else
 if y0.line=5 then
 (an1 y1.l y0.i).bind fun r15 =>
 if y0.k=y0.k then
 (aa2 y1.m r15.1.1 y0.k).bind fun r16 =>
 some ((false,()),(({ y0 with o:=r1.2.1,line:=6 }:InsertV),({ y1 with m:=r16.2.1 }:EnvP),()))
 else none
 else
 (af6 y1.l).bind fun r17 =>
 if y0.n=y0.n then
 (aa2 y1.m r17.1.1 (wu (wi (y0.n+1)))).bind fun r18 =>
 (abg r1.2.1 0 0).bind fun r19 =>
 some ((r19.1.1,()),(({ y0 with o:=r19.2.1 }:InsertV),({ y1 with m:=r18.2.1 }:EnvP),()))
 else none
 else none
 else none
 else none
 else none
 else none
 else none
 else none
 else none
 else none
 else none
 else none
noncomputable abbrev akl:Con SR1:=⟨190,[.ref 36,.ref 27],[.sh .b],fun x =>abL x.1 x.2.1⟩
theorem ajy:CO Tryz.prog akl:=aan aak Tryz.func190 [abp,ajX,acC,acD,aqM,awN,azh,afK,arC,adL] ⟨aa6,ajn,abT,abC,ave,avg,aB9,aiY,arB,adb,trivial⟩
noncomputable def ab8 (y0:RemoveV):Option ((Int×Unit)×(RemoveV×Unit)) :=
 if y0.z<y0.y then
 some ((7,()),(y0,()))
 else
 some ((8,()),(y0,()))
noncomputable abbrev aeV:Con SR1:=⟨253,[.ref 51],[.sh sI_],fun x =>ab8 x.1⟩
theorem ahY:CO Tryz.prog aeV:=aan aak Tryz.func253 [] trivial
noncomputable def acL (y0:RemoveV):Option ((Int×Unit)×(RemoveV×Unit)) :=
 if (wi ((wi (2*y0.i))+1))<(wi (y0.n-1)) then
 some ((5,()),(y0,()))
 else
 some ((8,()),(y0,()))
noncomputable abbrev ade:Con SR1:=⟨254,[.ref 51],[.sh sI_],fun x =>acL x.1⟩
theorem aej:CO Tryz.prog ade:=aan aak Tryz.func254 [] trivial
noncomputable def acZ (y0:RemoveV):Option ((Int×Unit)×(RemoveV×Unit)) :=
 (au7 y0.x).bind fun r1 =>
 some ((r1.1.2.2.1,()),(y0,()))
noncomputable abbrev aee:Con SR1:=⟨255,[.ref 51],[.sh sI_],fun x =>acZ x.1⟩
theorem afI:CO Tryz.prog aee:=aan aak Tryz.func255 [atx] ⟨axT,trivial⟩
noncomputable def aev (y0:RemoveV) (y1:EnvP):Option ((Bool×Unit)×(RemoveV×EnvP×Unit)) :=
 if y1.l.workers=y1.l.workers then
 if y1.l.levels=y1.l.levels then
 if y1.l.classes=y1.l.classes then
 if y1.l.tasks=y1.l.tasks then
 if y1.l.deque=y1.l.deque then
 if y1.l.heap=y1.l.heap then
 if y1.l.sleepers=y1.l.sleepers then
 if y1.l.epochs=y1.l.epochs then
 if y1.l.bitmaps=y1.l.bitmaps then
 if y1.l.queues=y1.l.queues then
 if y1.l.table=y1.l.table then
 if y0.line=1 then
 (af6 y1.l).bind fun r1 =>
 (acz y1.m r1.1.1).bind fun r2 =>
 if (wi (r2.1.1))≤0 then
 (abg y0.o 2 0).bind fun r3 =>
 some ((r3.1.1,()),(({ y0 with o:=r3.2.1,n:=wi (r2.1.1) }:RemoveV),({ y1 with m:=r2.2.1 }:EnvP),()))
 else
 some ((false,()),(({ y0 with line:=2,n:=wi (r2.1.1) }:RemoveV),({ y1 with m:=r2.2.1 }:EnvP),()))
 else
 if y0.line=2 then
 (an1 y1.l 0).bind fun r4 =>
 (acz y1.m r4.1.1).bind fun r5 =>
 some ((false,()),(({ y0 with line:=3,x:=r5.1.1 }:RemoveV),({ y1 with m:=r5.2.1 }:EnvP),()))
 else
 if y0.line=3 then
 (an1 y1.l (wi (y0.n-1))).bind fun r6 =>
 (acz y1.m r6.1.1).bind fun r7 =>
 some ((false,()),(({ y0 with line:=4,y:=r7.1.1 }:RemoveV),({ y1 with m:=r7.2.1 }:EnvP),()))
 else
 (af6 y1.l).bind fun r8 =>
 if y0.n=y0.n then
 (aa2 y1.m r8.1.1 (wu (wi (y0.n-1)))).bind fun r9 =>
 (acZ y0).bind fun r10 =>
 if y0.worker=r10.2.1.worker then
 (aec ({ y1 with m:=r9.2.1 }:EnvP) (⟨13,y0.worker,r10.1.1,0,0⟩:Ev)).bind fun r11 =>
 if r10.2.1.n=1 then
 (acZ r10.2.1).bind fun r12 =>
 (abg r12.2.1.o 1 r12.1.1).bind fun r13 =>
 some ((r13.1.1,()),(({ r12.2.1 with o:=r13.2.1 }:RemoveV),r11.2.1,()))
 else
 (acL r10.2.1).bind fun r14 =>
 some ((false,()),(({ r14.2.1 with line:=r14.1.1 }:RemoveV),r11.2.1,()))
 else none
 else none
 else none
 else none
 else none
 else none
 else none
 else none
 else none
 else none
 else none
 else none
 else none
noncomputable abbrev afJ:Con SR1:=⟨256,[.ref 51,.ref 27],[.sh .b],fun x =>aev x.1 x.2.1⟩
theorem aiX:CO Tryz.prog afJ:=aan aak Tryz.func256 [ajX,acC,acD,arC,adL,aee,aff,ade] ⟨ajn,abT,abC,arB,adb,afI,aer,aej,trivial⟩
noncomputable def abK (y0:RemoveV) (y1:EnvP):Option ((Bool×Unit)×(RemoveV×EnvP×Unit)) :=
 (aaw y0.o).bind fun r1 =>
 if r1.1.1=true then
 some ((true,()),(({ y0 with o:=r1.2.1 }:RemoveV),y1,()))
 else
 if y1.l.workers=y1.l.workers then
 if y1.l.levels=y1.l.levels then
 if y1.l.classes=y1.l.classes then
 if y1.l.tasks=y1.l.tasks then
 if y1.l.deque=y1.l.deque then
 if y1.l.heap=y1.l.heap then
 if y1.l.sleepers=y1.l.sleepers then
 if y1.l.epochs=y1.l.epochs then
 if y1.l.bitmaps=y1.l.bitmaps then
 if y1.l.queues=y1.l.queues then
 if y1.l.table=y1.l.table then
 if y0.line=5 then
 (an1 y1.l (wi ((wi (2*y0.i))+1))).bind fun r2 =>
 (acz y1.m r2.1.1).bind fun r3 =>
 (ab8 ({ y0 with o:=r1.2.1,c:=wi ((wi (2*y0.i))+1),z:=r3.1.1 }:RemoveV)).bind fun r4 =>
 if (wi (r4.2.1.c+1))<(wi (r4.2.1.n-1)) then
 some ((false,()),(({ r4.2.1 with line:=6 }:RemoveV),({ y1 with m:=r3.2.1 }:EnvP),()))
 else
 some ((false,()),(({ r4.2.1 with line:=r4.1.1 }:RemoveV),({ y1 with m:=r3.2.1 }:EnvP),()))
 else
 if y0.line=6 then
 (an1 y1.l (wi ((wi (2*y0.i))+2))).bind fun r5 =>
 (acz y1.m r5.1.1).bind fun r6 =>
 if r6.1.1<y0.z then
 (ab8 ({ y0 with o:=r1.2.1,c:=wi ((wi (2*y0.i))+2),z:=r6.1.1 }:RemoveV)).bind fun r7 =>
 some ((false,()),(({ r7.2.1 with line:=r7.1.1 }:RemoveV),({ y1 with m:=r6.2.1 }:EnvP),()))
 else
 (ab8 ({ y0 with o:=r1.2.1 }:RemoveV)).bind fun r8 =>
 some ((false,()),(({ r8.2.1 with line:=r8.1.1 }:RemoveV),({ y1 with m:=r6.2.1 }:EnvP),()))
 else
 if y0.line=7 then
 (an1 y1.l y0.i).bind fun r9 =>
 if y0.z=y0.z then
 (aa2 y1.m r9.1.1 y0.z).bind fun r10 =>
 (acL ({ y0 with o:=r1.2.1,i:=y0.c }:RemoveV)).bind fun r11 =>
 some ((false,()),(({ r11.2.1 with line:=r11.1.1 }:RemoveV),({ y1 with m:=r10.2.1 }:EnvP),()))
 else none
 else
 if y0.line=8 then
 (an1 y1.l y0.i).bind fun r12 =>
 if y0.y=y0.y then
 (aa2 y1.m r12.1.1 y0.y).bind fun r13 =>
 (acZ ({ y0 with o:=r1.2.1 }:RemoveV)).bind fun r14 =>
 (abg r14.2.1.o 1 r14.1.1).bind fun r15 =>
 some ((r15.1.1,()),(({ r14.2.1 with o:=r15.2.1 }:RemoveV),({ y1 with m:=r13.2.1 }:EnvP),()))
 else none
 else
 (aev ({ y0 with o:=r1.2.1 }:RemoveV) y1).bind fun r16 =>
 some ((r16.1.1,()),(r16.2.1,r16.2.2.1,()))
 else none
 else none
 else none
 else none
 else none
 else none
 else none
 else none
 else none
 else none
 else none
noncomputable abbrev akk:Con SR1:=⟨252,[.ref 51,.ref 27],[.sh .b],fun x =>abK x.1 x.2.1⟩
theorem ajx:CO Tryz.prog akk:=aan aak Tryz.func252 [abp,arC,acC,aeV,adL,ade,aee,acD,afJ] ⟨aa6,arB,abT,ahY,adb,aej,afI,abC,aiX,trivial⟩
noncomputable def agf (y0:SleepV) (y1:EnvP):Option ((Unit)×(SleepV×EnvP×Unit)) :=
 (ahl y1.l y0.v).bind fun r1 =>
 (acz y1.m r1.1.1).bind fun r2 =>
 if r2.1.1≠0 then
 some ((()),(({ y0 with line:=7 }:SleepV),({ y1 with m:=r2.2.1 }:EnvP),()))
 else
 if y1.c.workers≤(wi (y0.v+1)) then
 (aec ({ y1 with m:=r2.2.1 }:EnvP) (⟨16,y0.worker,0,0,0⟩:Ev)).bind fun r3 =>
 (arD r3.2.1.k).bind fun r4 =>
 some ((()),(({ y0 with line:=5,v:=wi (y0.v+1),since:=r4.1.1 }:SleepV),({ r3.2.1 with k:=r4.2.1 }:EnvP),()))
 else
 some ((()),(({ y0 with v:=wi (y0.v+1) }:SleepV),({ y1 with m:=r2.2.1 }:EnvP),()))
noncomputable abbrev ajh:Con SR1:=⟨149,[.ref 32,.ref 27],[],fun x =>agf x.1 x.2.1⟩
theorem an0:CO Tryz.prog ajh:=aan aak Tryz.func149 [agL,acC,aff,anA] ⟨agq,abT,aer,akL,trivial⟩
noncomputable def agd (y0:SleepV) (y1:EnvP):Option ((Unit)×(SleepV×EnvP×Unit)) :=
 (aqJ y1.l y0.worker).bind fun r1 =>
 (acz y1.m r1.1.1).bind fun r2 =>
 if r2.1.1≠y0.ep then
 (aec ({ y1 with m:=r2.2.1 }:EnvP) (⟨17,y0.worker,0,1,0⟩:Ev)).bind fun r3 =>
 some ((()),(({ y0 with line:=6 }:SleepV),r3.2.1,()))
 else
 (arD y1.k).bind fun r4 =>
 if y1.c.patience=y1.c.patience then
 if y0.since=y0.since then
 if y1.c.patience≤(wi (r4.1.1-y0.since)) then
 (aec ({ y1 with m:=r2.2.1,k:=r4.2.1 }:EnvP) (⟨17,y0.worker,0,2,0⟩:Ev)).bind fun r5 =>
 some ((()),(({ y0 with line:=6 }:SleepV),r5.2.1,()))
 else
 some ((()),(y0,({ y1 with m:=r2.2.1,k:=r4.2.1 }:EnvP),()))
 else none
 else none
noncomputable abbrev ajg:Con SR1:=⟨150,[.ref 32,.ref 27],[],fun x =>agd x.1 x.2.1⟩
theorem anX:CO Tryz.prog ajg:=aan aak Tryz.func150 [aop,acC,aff,anA] ⟨apk,abT,aer,akL,trivial⟩
noncomputable def acW (y0:SleepV) (y1:EnvP):Option ((Bool×Unit)×(SleepV×EnvP×Unit)) :=
 (aaw y0.o).bind fun r1 =>
 if r1.1.1=true then
 some ((true,()),(({ y0 with o:=r1.2.1 }:SleepV),y1,()))
 else
 if y0.line=1 then
 (aqJ y1.l y0.worker).bind fun r2 =>
 (acz y1.m r2.1.1).bind fun r3 =>
 some ((false,()),(({ y0 with o:=r1.2.1,line:=2,ep:=r3.1.1 }:SleepV),({ y1 with m:=r3.2.1 }:EnvP),()))
 else
 if y0.line=2 then
 ((
 if y1.c.classes<1 then
 if y0.worker=y0.worker then
 (aBe y0.worker).bind fun r4 =>
 (pOr y1.m (-1) r4.1.1).bind fun r5 =>
 some (({ y1 with m:=r5.2.1 }:EnvP),())
 else none
 else
 (atz y0.worker y1.c.classes).bind fun r6 =>
 if y1.l.workers=y1.l.workers then
 if y1.l.levels=y1.l.levels then
 if y1.l.classes=y1.l.classes then
 if y1.l.tasks=y1.l.tasks then
 if y1.l.deque=y1.l.deque then
 if y1.l.heap=y1.l.heap then
 if y1.l.sleepers=y1.l.sleepers then
 if y1.l.epochs=y1.l.epochs then
 if y1.l.bitmaps=y1.l.bitmaps then
 if y1.l.queues=y1.l.queues then
 if y1.l.table=y1.l.table then
 (agJ y1.l r6.1.1).bind fun r7 =>
 if y0.worker=y0.worker then
 (aBe y0.worker).bind fun r8 =>
 (pOr y1.m r7.1.1 r8.1.1).bind fun r9 =>
 some (({ y1 with m:=r9.2.1 }:EnvP),())
 else none
 else none
 else none
 else none
 else none
 else none
 else none
 else none
 else none
 else none
 else none
 else none
 ):Option (EnvP×Unit)).bind fun z10 =>
 some ((false,()),(({ y0 with o:=r1.2.1,line:=3 }:SleepV),z10.1,()))
 else
 if y0.line=3 then
 (af6 y1.l).bind fun r11 =>
 (acz y1.m r11.1.1).bind fun r12 =>
 if r12.1.1≠0 then
 some ((false,()),(({ y0 with o:=r1.2.1,line:=7 }:SleepV),({ y1 with m:=r12.2.1 }:EnvP),()))
 else
 some ((false,()),(({ y0 with o:=r1.2.1,line:=4 }:SleepV),({ y1 with m:=r12.2.1 }:EnvP),()))
 else
 if y0.line=4 then
 (agf ({ y0 with o:=r1.2.1 }:SleepV) y1).bind fun r13 =>
 some ((false,()),(r13.2.1,r13.2.2.1,()))
 else
 if y0.line=5 then
 (agd ({ y0 with o:=r1.2.1 }:SleepV) y1).bind fun r14 =>
 some ((false,()),(r14.2.1,r14.2.2.1,()))
 else
 ((
 if y1.c.classes<1 then
 if y0.worker=y0.worker then
 (aBe y0.worker).bind fun r15 =>
 (aDQ y1.m (-1) (aC4 r15.1.1)).bind fun r16 =>
 some (({ y1 with m:=r16.2.1 }:EnvP),())
 else none
 else
 (atz y0.worker y1.c.classes).bind fun r17 =>
 if y1.l.workers=y1.l.workers then
 if y1.l.levels=y1.l.levels then
 if y1.l.classes=y1.l.classes then
 if y1.l.tasks=y1.l.tasks then
 if y1.l.deque=y1.l.deque then
 if y1.l.heap=y1.l.heap then
 if y1.l.sleepers=y1.l.sleepers then
 if y1.l.epochs=y1.l.epochs then
 if y1.l.bitmaps=y1.l.bitmaps then
 if y1.l.queues=y1.l.queues then
 if y1.l.table=y1.l.table then
 (agJ y1.l r17.1.1).bind fun r18 =>
 if y0.worker=y0.worker then
 (aBe y0.worker).bind fun r19 =>
 (aDQ y1.m r18.1.1 (aC4 r19.1.1)).bind fun r20 =>
 some (({ y1 with m:=r20.2.1 }:EnvP),())
 else none
 else none
 else none
 else none
 else none
 else none
 else none
 else none
 else none
 else none
 else none
 else none
 ):Option (EnvP×Unit)).bind fun z21 =>
 if y0.line=6 then
 (abg r1.2.1 1 0).bind fun r22 =>
 some ((r22.1.1,()),(({ y0 with o:=r22.2.1 }:SleepV),z21.1,()))
 else
 (abg r1.2.1 5 0).bind fun r23 =>
 some ((r23.1.1,()),(({ y0 with o:=r23.2.1 }:SleepV),z21.1,()))
noncomputable abbrev apf:Con SR1:=⟨144,[.ref 32,.ref 27],[.sh .b],fun x =>acW x.1 x.2.1⟩
noncomputable def anY:List (Nat×Func):=[(147,Tryz.f147)]
theorem anZ:CO Tryz.prog apf:=agV aak Tryz.func144 [abp,aop,acC,atC,aCc,ahR,akK,ajX,ajh,ajg,awM,acD] ⟨aa6,apk,abT,arI,azi,afX,anz,ajn,an0,anX,avf,abC,trivial⟩ anY ⟨Tryz.func147,trivial⟩ (fun _ =>[]) [(13,.cut [.ob 1 27] [0]),(5,.cut [.ob 1 27] [0])] fun x =>by kernel_rfl
noncomputable def adj (y0:WakeV) (y1:EnvP):Option ((Bool×Unit)×(WakeV×EnvP×Unit)) :=
 (aaw y0.o).bind fun r1 =>
 if r1.1.1=true then
 some ((true,()),(({ y0 with o:=r1.2.1 }:WakeV),y1,()))
 else
 if y0.line=1 then
 ((
 if y1.c.classes<1 then
 (acz y1.m (-1)).bind fun r2 =>
 some (r2.1.1,({ y1 with m:=r2.2.1 }:EnvP),())
 else
 (atB y0.level y1.c.levels y1.c.classes).bind fun r3 =>
 if y1.c.classes=y1.c.classes then
 if y0.j=y0.j then
 if y1.l.workers=y1.l.workers then
 if y1.l.levels=y1.l.levels then
 if y1.l.classes=y1.l.classes then
 if y1.l.tasks=y1.l.tasks then
 if y1.l.deque=y1.l.deque then
 if y1.l.heap=y1.l.heap then
 if y1.l.sleepers=y1.l.sleepers then
 if y1.l.epochs=y1.l.epochs then
 if y1.l.bitmaps=y1.l.bitmaps then
 if y1.l.queues=y1.l.queues then
 if y1.l.table=y1.l.table then
 (atz (wi (r3.1.1+y0.j)) y1.c.classes).bind fun r4 =>
 if y1.l.workers=y1.l.workers then
 if y1.l.levels=y1.l.levels then
 if y1.l.classes=y1.l.classes then
 if y1.l.tasks=y1.l.tasks then
 if y1.l.deque=y1.l.deque then
 if y1.l.heap=y1.l.heap then
 if y1.l.sleepers=y1.l.sleepers then
 if y1.l.epochs=y1.l.epochs then
 if y1.l.bitmaps=y1.l.bitmaps then
 if y1.l.queues=y1.l.queues then
 if y1.l.table=y1.l.table then
 (agJ y1.l r4.1.1).bind fun r5 =>
 (acz y1.m r5.1.1).bind fun r6 =>
 some (r6.1.1,({ y1 with m:=r6.2.1 }:EnvP),())
 else none
 else none
 else none
 else none
 else none
 else none
 else none
 else none
 else none
 else none
 else none
 else none
 else none
 else none
 else none
 else none
 else none
 else none
 else none
 else none
 else none
 else none
 else none
 else none
 ):Option (Int×EnvP×Unit)).bind fun z7 =>
 if z7.1≠0 then
 (aJo z7.1).bind fun r8 =>
 some ((false,()),(({ y0 with o:=r1.2.1,line:=2,v:=r8.1.1 }:WakeV),z7.2.1,()))
 else
 if z7.2.1.c.classes≤(wi (y0.j+1)) then
 (abg r1.2.1 2 0).bind fun r9 =>
 some ((r9.1.1,()),(({ y0 with o:=r9.2.1,j:=wi (y0.j+1) }:WakeV),z7.2.1,()))
 else
 some ((false,()),(({ y0 with o:=r1.2.1,j:=wi (y0.j+1) }:WakeV),z7.2.1,()))
 else
 if y0.line=2 then
 (aBe y0.v).bind fun r10 =>
 ((
 if y1.c.classes<1 then
 (aDQ y1.m (-1) (aC4 r10.1.1)).bind fun r11 =>
 some (decide ((ani r11.1.1 r10.1.1)=0),({ y1 with m:=r11.2.1 }:EnvP),())
 else
 (atB y0.level y1.c.levels y1.c.classes).bind fun r12 =>
 if y1.c.classes=y1.c.classes then
 if y0.j=y0.j then
 if y1.l.workers=y1.l.workers then
 if y1.l.levels=y1.l.levels then
 if y1.l.classes=y1.l.classes then
 if y1.l.tasks=y1.l.tasks then
 if y1.l.deque=y1.l.deque then
 if y1.l.heap=y1.l.heap then
 if y1.l.sleepers=y1.l.sleepers then
 if y1.l.epochs=y1.l.epochs then
 if y1.l.bitmaps=y1.l.bitmaps then
 if y1.l.queues=y1.l.queues then
 if y1.l.table=y1.l.table then
 (atz (wi (r12.1.1+y0.j)) y1.c.classes).bind fun r13 =>
 if y1.l.workers=y1.l.workers then
 if y1.l.levels=y1.l.levels then
 if y1.l.classes=y1.l.classes then
 if y1.l.tasks=y1.l.tasks then
 if y1.l.deque=y1.l.deque then
 if y1.l.heap=y1.l.heap then
 if y1.l.sleepers=y1.l.sleepers then
 if y1.l.epochs=y1.l.epochs then
 if y1.l.bitmaps=y1.l.bitmaps then
 if y1.l.queues=y1.l.queues then
 if y1.l.table=y1.l.table then
 (agJ y1.l r13.1.1).bind fun r14 =>
 (aDQ y1.m r14.1.1 (aC4 r10.1.1)).bind fun r15 =>
 some (decide ((ani r15.1.1 r10.1.1)=0),({ y1 with m:=r15.2.1 }:EnvP),())
 else none
 else none
 else none
 else none
 else none
 else none
 else none
 else none
 else none
 else none
 else none
 else none
 else none
 else none
 else none
 else none
 else none
 else none
 else none
 else none
 else none
 else none
 else none
 else none
 ):Option (Bool×EnvP×Unit)).bind fun z16 =>
 if z16.1=true then
 (abg r1.2.1 4 0).bind fun r17 =>
 some ((r17.1.1,()),(({ y0 with o:=r17.2.1 }:WakeV),z16.2.1,()))
 else
 some ((false,()),(({ y0 with o:=r1.2.1,line:=3 }:WakeV),z16.2.1,()))
 else
 (aqJ y1.l y0.v).bind fun r18 =>
 (aGP y1.m r18.1.1 1).bind fun r19 =>
 (aec ({ y1 with m:=r19.2.1 }:EnvP) (⟨18,y0.me,0,y0.v,0⟩:Ev)).bind fun r20 =>
 (abg r1.2.1 1 y0.v).bind fun r21 =>
 some ((r21.1.1,()),(({ y0 with o:=r21.2.1 }:WakeV),r20.2.1,()))
noncomputable abbrev aql:Con SR1:=⟨197,[.ref 38,.ref 27],[.sh .b],fun x =>adj x.1 x.2.1⟩
noncomputable def apd:List (Nat×Func):=[(198,Tryz.f198)]
theorem ape:CO Tryz.prog aql:=agV aak Tryz.func197 [abp,acC,awJ,ahR,akK,aDP,acD,atC,awM,aop,awN,aff] ⟨aa6,abT,azn,afX,anz,aFo,abC,arI,avf,apk,avg,aer,trivial⟩ apd ⟨Tryz.func198,trivial⟩ (fun _ =>[]) [(9,.cut [.rg 5 sU_,.ob 1 27] [0]),(18,.cut [.rg 108 .b,.ob 1 27] [0])] fun x =>by kernel_rfl
noncomputable def ajI (y0:EnvP) (y1:Int) (y2:Int):Option ((Bool×Unit)×(EnvP×Unit)) :=
 if 0≤y1 then
 if y1<y0.c.tasks then
 if 0≤y2 then
 some ((decide (y2<y0.c.levels),()),(y0,()))
 else
 some ((false,()),(y0,()))
 else
 some ((false,()),(y0,()))
 else
 some ((false,()),(y0,()))
noncomputable abbrev akX:Con SR1:=⟨245,[.ref 27,.sh sI_,.sh sI_],[.sh .b],fun x =>ajI x.1 x.2.1 x.2.2.1⟩
theorem anL:CO Tryz.prog akX:=aan aak Tryz.func245 [] trivial
noncomputable def acv (y0:RaiseV) (y1:EnvP):Option ((Bool×Unit)×(RaiseV×EnvP×Unit)) :=
 (aaw y0.o).bind fun r1 =>
 if r1.1.1=true then
 some ((true,()),(({ y0 with o:=r1.2.1 }:RaiseV),y1,()))
 else
 (ajI y1 y0.task y0.level).bind fun r2 =>
 if (!r2.1.1)=true then
 (abg r1.2.1 4 0).bind fun r3 =>
 some ((r3.1.1,()),(({ y0 with o:=r3.2.1 }:RaiseV),r2.2.1,()))
 else
 if y0.line=1 then
 (ae6 r2.2.1.l y0.task).bind fun r4 =>
 (acz r2.2.1.m r4.1.1).bind fun r5 =>
 if y0.level≤(wi (r5.1.1)) then
 (abg r1.2.1 0 0).bind fun r6 =>
 some ((r6.1.1,()),(({ y0 with o:=r6.2.1,q:=r5.1.1 }:RaiseV),({ r2.2.1 with m:=r5.2.1 }:EnvP),()))
 else
 some ((false,()),(({ y0 with o:=r1.2.1,line:=2,q:=r5.1.1 }:RaiseV),({ r2.2.1 with m:=r5.2.1 }:EnvP),()))
 else
 (ae6 r2.2.1.l y0.task).bind fun r7 =>
 if y0.level=y0.level then
 if y0.q=y0.q then
 (asW r2.2.1.m r7.1.1 y0.q (wu (y0.level))).bind fun r8 =>
 if r8.1.1=true then
 (aec ({ r2.2.1 with m:=r8.2.1 }:EnvP) ({ y0 with kind:=11,other:=0 }:Ev)).bind fun r9 =>
 (abg r1.2.1 1 0).bind fun r10 =>
 some ((r10.1.1,()),(({ y0 with o:=r10.2.1 }:RaiseV),r9.2.1,()))
 else
 some ((false,()),(({ y0 with o:=r1.2.1,line:=1 }:RaiseV),({ r2.2.1 with m:=r8.2.1 }:EnvP),()))
 else none
 else none
noncomputable abbrev aoe:Con SR1:=⟨266,[.ref 55,.ref 27],[.sh .b],fun x =>acv x.1 x.2.1⟩
theorem ana:CO Tryz.prog aoe:=aan aak Tryz.func266 [abp,akX,acD,agi,acC,alD,aff] ⟨aa6,anL,abC,afC,abT,ajo,aer,trivial⟩
noncomputable def ai8 (m:MV) (e:EnvP):Option ((Bool×Unit)×(MV×EnvP×Unit)) :=
 match m with
 | .alloc x =>(ab1 x e).bind fun o =>some (o.1,(MV.alloc o.2.1,o.2.2))
 | .publish x =>(abR x e).bind fun o =>some (o.1,(MV.publish o.2.1,o.2.2))
 | .claim x =>(ac2 x e).bind fun o =>some (o.1,(MV.claim o.2.1,o.2.2))
 | .attempt x =>(acG x e).bind fun o =>some (o.1,(MV.attempt o.2.1,o.2.2))
 | .release x =>(acF x e).bind fun o =>some (o.1,(MV.release o.2.1,o.2.2))
 | .opush x =>(adq x e).bind fun o =>some (o.1,(MV.opush o.2.1,o.2.2))
 | .opop x =>(adS x e).bind fun o =>some (o.1,(MV.opop o.2.1,o.2.2))
 | .steal x =>(ac1 x e).bind fun o =>some (o.1,(MV.steal o.2.1,o.2.2))
 | .set x =>(adu x e).bind fun o =>some (o.1,(MV.set o.2.1,o.2.2))
 | .reset x =>(acI x e).bind fun o =>some (o.1,(MV.reset o.2.1,o.2.2))
 | .insert x =>(abL x e).bind fun o =>some (o.1,(MV.insert o.2.1,o.2.2))
 | .remove x =>(abK x e).bind fun o =>some (o.1,(MV.remove o.2.1,o.2.2))
 | .sleep x =>(acW x e).bind fun o =>some (o.1,(MV.sleep o.2.1,o.2.2))
 | .wake x =>(adj x e).bind fun o =>some (o.1,(MV.wake o.2.1,o.2.2))
 | .raise x =>(acv x e).bind fun o =>some (o.1,(MV.raise o.2.1,o.2.2))
 | .probe x =>(abl x e).bind fun o =>some (o.1,(MV.probe o.2.1,o.2.2))
 | _ =>none
noncomputable abbrev arf:Con SR1:=⟨1000000000,[.mch,.ref 27],[.sh .b],fun x =>ai8 x.1 x.2.1⟩
theorem aaz (m:MV) (xs:akZ SR1 [.ref 27]) (out:ak3 SR1 [.sh .b]×(MV×ajO SR1 [.ref 27])) (h:ai8 m xs.1=some out):aqv SR1 Tryz.prog 0 [.ref 27] [.sh .b] m xs out:=by
 cases m with
 | alloc x =>exact aa9 (S:=SR1) (ps:=[.ref 27]) (rs:=[.sh .b]) (c:=35) (mk:=MV.alloc) (fun _ =>rfl) rfl (fun _ _ _ _ =>by kernel_rfl) akf h
 | publish x =>exact aa9 (S:=SR1) (ps:=[.ref 27]) (rs:=[.sh .b]) (c:=50) (mk:=MV.publish) (fun _ =>rfl) rfl (fun _ _ _ _ =>by kernel_rfl) akG h
 | claim x =>exact aa9 (S:=SR1) (ps:=[.ref 27]) (rs:=[.sh .b]) (c:=45) (mk:=MV.claim) (fun _ =>rfl) rfl (fun _ _ _ _ =>by kernel_rfl) amv h
 | attempt x =>exact aa9 (S:=SR1) (ps:=[.ref 27]) (rs:=[.sh .b]) (c:=34) (mk:=MV.attempt) (fun _ =>rfl) rfl (fun _ _ _ _ =>by kernel_rfl) alN h
 | release x =>exact aa9 (S:=SR1) (ps:=[.ref 27]) (rs:=[.sh .b]) (c:=37) (mk:=MV.release) (fun _ =>rfl) rfl (fun _ _ _ _ =>by kernel_rfl) alM h
 | opush x =>exact aa9 (S:=SR1) (ps:=[.ref 27]) (rs:=[.sh .b]) (c:=53) (mk:=MV.opush) (fun _ =>rfl) rfl (fun _ _ _ _ =>by kernel_rfl) an3 h
 | opop x =>exact aa9 (S:=SR1) (ps:=[.ref 27]) (rs:=[.sh .b]) (c:=52) (mk:=MV.opop) (fun _ =>rfl) rfl (fun _ _ _ _ =>by kernel_rfl) app h
 | steal x =>exact aa9 (S:=SR1) (ps:=[.ref 27]) (rs:=[.sh .b]) (c:=42) (mk:=MV.steal) (fun _ =>rfl) rfl (fun _ _ _ _ =>by kernel_rfl) ams h
 | set x =>exact aa9 (S:=SR1) (ps:=[.ref 27]) (rs:=[.sh .b]) (c:=54) (mk:=MV.set) (fun _ =>rfl) rfl (fun _ _ _ _ =>by kernel_rfl) aof h
 | reset x =>exact aa9 (S:=SR1) (ps:=[.ref 27]) (rs:=[.sh .b]) (c:=43) (mk:=MV.reset) (fun _ =>rfl) rfl (fun _ _ _ _ =>by kernel_rfl) amj h
 | insert x =>exact aa9 (S:=SR1) (ps:=[.ref 27]) (rs:=[.sh .b]) (c:=36) (mk:=MV.insert) (fun _ =>rfl) rfl (fun _ _ _ _ =>by kernel_rfl) ajy h
 | remove x =>exact aa9 (S:=SR1) (ps:=[.ref 27]) (rs:=[.sh .b]) (c:=51) (mk:=MV.remove) (fun _ =>rfl) rfl (fun _ _ _ _ =>by kernel_rfl) ajx h
 | sleep x =>exact aa9 (S:=SR1) (ps:=[.ref 27]) (rs:=[.sh .b]) (c:=32) (mk:=MV.sleep) (fun _ =>rfl) rfl (fun _ _ _ _ =>by kernel_rfl) anZ h
 | wake x =>exact aa9 (S:=SR1) (ps:=[.ref 27]) (rs:=[.sh .b]) (c:=38) (mk:=MV.wake) (fun _ =>rfl) rfl (fun _ _ _ _ =>by kernel_rfl) ape h
 | raise x =>exact aa9 (S:=SR1) (ps:=[.ref 27]) (rs:=[.sh .b]) (c:=55) (mk:=MV.raise) (fun _ =>rfl) rfl (fun _ _ _ _ =>by kernel_rfl) ana h
 | probe x =>exact aa9 (S:=SR1) (ps:=[.ref 27]) (rs:=[.sh .b]) (c:=46) (mk:=MV.probe) (fun _ =>rfl) rfl (fun _ _ _ _ =>by kernel_rfl) amL h
 | _ =>cases h
theorem as7:CO Tryz.prog arf:=ajB (S:=SR1) (i:=0) (ps:=[.ref 27]) (rs:=[.sh .b]) (spec:=fun m xs =>ai8 m xs.1) aaz
noncomputable def aeP (m:MV):Option ((Int×Int×Unit)×(MV×Unit)) :=
 match m with
 | .alloc x =>some ((x.o.code,x.o.value,()),(MV.alloc x,()))
 | .publish x =>some ((x.o.code,x.o.value,()),(MV.publish x,()))
 | .claim x =>some ((x.o.code,x.o.value,()),(MV.claim x,()))
 | .attempt x =>some ((x.o.code,x.o.value,()),(MV.attempt x,()))
 | .release x =>some ((x.o.code,x.o.value,()),(MV.release x,()))
 | .opush x =>some ((x.o.code,x.o.value,()),(MV.opush x,()))
 | .opop x =>some ((x.o.code,x.o.value,()),(MV.opop x,()))
 | .steal x =>some ((x.o.code,x.o.value,()),(MV.steal x,()))
 | .set x =>some ((x.o.code,x.o.value,()),(MV.set x,()))
 | .reset x =>some ((x.o.code,x.o.value,()),(MV.reset x,()))
 | .insert x =>some ((x.o.code,x.o.value,()),(MV.insert x,()))
 | .remove x =>some ((x.o.code,x.o.value,()),(MV.remove x,()))
 | .sleep x =>some ((x.o.code,x.o.value,()),(MV.sleep x,()))
 | .wake x =>some ((x.o.code,x.o.value,()),(MV.wake x,()))
 | .raise x =>some ((x.o.code,x.o.value,()),(MV.raise x,()))
 | .probe x =>some ((x.o.code,x.o.value,()),(MV.probe x,()))
 | _ =>none
noncomputable abbrev amE:Con SR1:=⟨1000000001,[.mch],[.sh sI_,.sh sI_],fun x =>aeP x.1⟩
theorem aaj (m:MV) (xs:akZ SR1 []) (out:ak3 SR1 [.sh sI_,.sh sI_]×(MV×ajO SR1 [])) (h:aeP m=some out):aqv SR1 Tryz.prog 1 [] [.sh sI_,.sh sI_] m xs out:=by
 cases m with
 | alloc x =>exact aa9 (S:=SR1) (ps:=[]) (rs:=[.sh sI_,.sh sI_]) (c:=35) (mk:=MV.alloc) (f:=143) (sp:=fun x =>some ((x.1.o.code,x.1.o.value,()),(x.1,()))) (fun _ =>rfl) rfl (fun _ _ _ _ =>by kernel_rfl) (acr [aaX] ⟨aaP,trivial⟩ fun x =>by kernel_rfl) h
 | publish x =>exact aa9 (S:=SR1) (ps:=[]) (rs:=[.sh sI_,.sh sI_]) (c:=50) (mk:=MV.publish) (f:=143) (sp:=fun x =>some ((x.1.o.code,x.1.o.value,()),(x.1,()))) (fun _ =>rfl) rfl (fun _ _ _ _ =>by kernel_rfl) (acr [aaX] ⟨aaP,trivial⟩ fun x =>by kernel_rfl) h
 | claim x =>exact aa9 (S:=SR1) (ps:=[]) (rs:=[.sh sI_,.sh sI_]) (c:=45) (mk:=MV.claim) (f:=143) (sp:=fun x =>some ((x.1.o.code,x.1.o.value,()),(x.1,()))) (fun _ =>rfl) rfl (fun _ _ _ _ =>by kernel_rfl) (acr [aaX] ⟨aaP,trivial⟩ fun x =>by kernel_rfl) h
 | attempt x =>exact aa9 (S:=SR1) (ps:=[]) (rs:=[.sh sI_,.sh sI_]) (c:=34) (mk:=MV.attempt) (f:=143) (sp:=fun x =>some ((x.1.o.code,x.1.o.value,()),(x.1,()))) (fun _ =>rfl) rfl (fun _ _ _ _ =>by kernel_rfl) (acr [aaX] ⟨aaP,trivial⟩ fun x =>by kernel_rfl) h
 | release x =>exact aa9 (S:=SR1) (ps:=[]) (rs:=[.sh sI_,.sh sI_]) (c:=37) (mk:=MV.release) (f:=143) (sp:=fun x =>some ((x.1.o.code,x.1.o.value,()),(x.1,()))) (fun _ =>rfl) rfl (fun _ _ _ _ =>by kernel_rfl) (acr [aaX] ⟨aaP,trivial⟩ fun x =>by kernel_rfl) h
 | opush x =>exact aa9 (S:=SR1) (ps:=[]) (rs:=[.sh sI_,.sh sI_]) (c:=53) (mk:=MV.opush) (f:=143) (sp:=fun x =>some ((x.1.o.code,x.1.o.value,()),(x.1,()))) (fun _ =>rfl) rfl (fun _ _ _ _ =>by kernel_rfl) (acr [aaX] ⟨aaP,trivial⟩ fun x =>by kernel_rfl) h
 | opop x =>exact aa9 (S:=SR1) (ps:=[]) (rs:=[.sh sI_,.sh sI_]) (c:=52) (mk:=MV.opop) (f:=143) (sp:=fun x =>some ((x.1.o.code,x.1.o.value,()),(x.1,()))) (fun _ =>rfl) rfl (fun _ _ _ _ =>by kernel_rfl) (acr [aaX] ⟨aaP,trivial⟩ fun x =>by kernel_rfl) h
 | steal x =>exact aa9 (S:=SR1) (ps:=[]) (rs:=[.sh sI_,.sh sI_]) (c:=42) (mk:=MV.steal) (f:=143) (sp:=fun x =>some ((x.1.o.code,x.1.o.value,()),(x.1,()))) (fun _ =>rfl) rfl (fun _ _ _ _ =>by kernel_rfl) (acr [aaX] ⟨aaP,trivial⟩ fun x =>by kernel_rfl) h
 | set x =>exact aa9 (S:=SR1) (ps:=[]) (rs:=[.sh sI_,.sh sI_]) (c:=54) (mk:=MV.set) (f:=143) (sp:=fun x =>some ((x.1.o.code,x.1.o.value,()),(x.1,()))) (fun _ =>rfl) rfl (fun _ _ _ _ =>by kernel_rfl) (acr [aaX] ⟨aaP,trivial⟩ fun x =>by kernel_rfl) h
 | reset x =>exact aa9 (S:=SR1) (ps:=[]) (rs:=[.sh sI_,.sh sI_]) (c:=43) (mk:=MV.reset) (f:=143) (sp:=fun x =>some ((x.1.o.code,x.1.o.value,()),(x.1,()))) (fun _ =>rfl) rfl (fun _ _ _ _ =>by kernel_rfl) (acr [aaX] ⟨aaP,trivial⟩ fun x =>by kernel_rfl) h
 | insert x =>exact aa9 (S:=SR1) (ps:=[]) (rs:=[.sh sI_,.sh sI_]) (c:=36) (mk:=MV.insert) (f:=143) (sp:=fun x =>some ((x.1.o.code,x.1.o.value,()),(x.1,()))) (fun _ =>rfl) rfl (fun _ _ _ _ =>by kernel_rfl) (acr [aaX] ⟨aaP,trivial⟩ fun x =>by kernel_rfl) h
 | remove x =>exact aa9 (S:=SR1) (ps:=[]) (rs:=[.sh sI_,.sh sI_]) (c:=51) (mk:=MV.remove) (f:=143) (sp:=fun x =>some ((x.1.o.code,x.1.o.value,()),(x.1,()))) (fun _ =>rfl) rfl (fun _ _ _ _ =>by kernel_rfl) (acr [aaX] ⟨aaP,trivial⟩ fun x =>by kernel_rfl) h
 | sleep x =>exact aa9 (S:=SR1) (ps:=[]) (rs:=[.sh sI_,.sh sI_]) (c:=32) (mk:=MV.sleep) (f:=143) (sp:=fun x =>some ((x.1.o.code,x.1.o.value,()),(x.1,()))) (fun _ =>rfl) rfl (fun _ _ _ _ =>by kernel_rfl) (acr [aaX] ⟨aaP,trivial⟩ fun x =>by kernel_rfl) h
 | wake x =>exact aa9 (S:=SR1) (ps:=[]) (rs:=[.sh sI_,.sh sI_]) (c:=38) (mk:=MV.wake) (f:=143) (sp:=fun x =>some ((x.1.o.code,x.1.o.value,()),(x.1,()))) (fun _ =>rfl) rfl (fun _ _ _ _ =>by kernel_rfl) (acr [aaX] ⟨aaP,trivial⟩ fun x =>by kernel_rfl) h
 | raise x =>exact aa9 (S:=SR1) (ps:=[]) (rs:=[.sh sI_,.sh sI_]) (c:=55) (mk:=MV.raise) (f:=143) (sp:=fun x =>some ((x.1.o.code,x.1.o.value,()),(x.1,()))) (fun _ =>rfl) rfl (fun _ _ _ _ =>by kernel_rfl) (acr [aaX] ⟨aaP,trivial⟩ fun x =>by kernel_rfl) h
 | probe x =>exact aa9 (S:=SR1) (ps:=[]) (rs:=[.sh sI_,.sh sI_]) (c:=46) (mk:=MV.probe) (f:=143) (sp:=fun x =>some ((x.1.o.code,x.1.o.value,()),(x.1,()))) (fun _ =>rfl) rfl (fun _ _ _ _ =>by kernel_rfl) (acr [aaX] ⟨aaP,trivial⟩ fun x =>by kernel_rfl) h
 | _ =>cases h
theorem ao8:CO Tryz.prog amE:=ajB (S:=SR1) (i:=1) (ps:=[]) (rs:=[.sh sI_,.sh sI_]) (spec:=fun m _ =>aeP m) aaj
noncomputable def apo (y0:QV) (y1:Int):Option ((MV×Unit)×(Unit)) :=
 some ((MV.opush (⟨⟨false,0,0⟩,y0,y1,1,0⟩:OPushV),()),())
noncomputable abbrev apm:Con SR1:=⟨239,[.val 14,.sh sI_],[.sh .mach],fun x =>apo x.1 x.2.1⟩
theorem atD:CO Tryz.prog apm:=aan aak Tryz.func239 [] trivial
noncomputable def ajK (y0:Int) (y1:Int):Option ((MV×Unit)×(Unit)) :=
 some ((MV.set (⟨⟨false,0,0⟩,y0,y1⟩:SetV),()),())
noncomputable abbrev aqb:Con SR1:=⟨240,[.sh sI_,.sh sI_],[.sh .mach],fun x =>ajK x.1 x.2.1⟩
theorem aum:CO Tryz.prog aqb:=aan aak Tryz.func240 [] trivial
noncomputable def acu (y0:(LPushV MV)) (y1:EnvP):Option ((Bool×Unit)×((LPushV MV)×EnvP×Unit)) :=
 (aaw y0.o).bind fun r1 =>
 if r1.1.1=true then
 some ((true,()),(({ y0 with o:=r1.2.1 }:(LPushV MV)),y1,()))
 else
 if (SR1.spl y0.inside).isNone=true then
 (agK y1.l y0.worker y0.level).bind fun r2 =>
 if y0.value=y0.value then
 (apo r2.1.1 y0.value).bind fun r3 =>
 (ai8 r3.1.1 y1).bind fun r4 =>
 if (!r4.1.1)=true then
 some ((false,()),(({ y0 with o:=r1.2.1,inside:=r4.2.1 }:(LPushV MV)),r4.2.2.1,()))
 else
 (aeP r4.2.1).bind fun r5 =>
 if r5.1.1=3 then
 (abg r1.2.1 3 0).bind fun r6 =>
 some ((r6.1.1,()),(({ y0 with o:=r6.2.1,inside:=r5.2.1 }:(LPushV MV)),r4.2.2.1,()))
 else
 if y0.line=2 then
 (abg r1.2.1 0 0).bind fun r7 =>
 some ((r7.1.1,()),(({ y0 with o:=r7.2.1,inside:=r5.2.1 }:(LPushV MV)),r4.2.2.1,()))
 else
 (ahl r4.2.2.1.l y0.worker).bind fun r8 =>
 if y0.level=y0.level then
 (ajK r8.1.1 y0.level).bind fun r9 =>
 some ((false,()),(({ y0 with o:=r1.2.1,line:=2,inside:=r9.1.1 }:(LPushV MV)),r4.2.2.1,()))
 else none
 else none
 else
 (ai8 y0.inside y1).bind fun r10 =>
 if (!r10.1.1)=true then
 some ((false,()),(({ y0 with o:=r1.2.1,inside:=r10.2.1 }:(LPushV MV)),r10.2.2.1,()))
 else
 (aeP r10.2.1).bind fun r11 =>
 if r11.1.1=3 then
 (abg r1.2.1 3 0).bind fun r12 =>
 some ((r12.1.1,()),(({ y0 with o:=r12.2.1,inside:=r11.2.1 }:(LPushV MV)),r10.2.2.1,()))
 else
 if y0.line=2 then
 (abg r1.2.1 0 0).bind fun r13 =>
 some ((r13.1.1,()),(({ y0 with o:=r13.2.1,inside:=r11.2.1 }:(LPushV MV)),r10.2.2.1,()))
 else
 (ahl r10.2.2.1.l y0.worker).bind fun r14 =>
 if y0.level=y0.level then
 (ajK r14.1.1 y0.level).bind fun r15 =>
 some ((false,()),(({ y0 with o:=r1.2.1,line:=2,inside:=r15.1.1 }:(LPushV MV)),r10.2.2.1,()))
 else none
noncomputable abbrev an5:Con SR1:=⟨238,[.ref 47,.ref 27],[.sh .b],fun x =>acu x.1 x.2.1⟩
theorem am0:CO Tryz.prog an5:=aan aak Tryz.func238 [abp,ajW,apm,arf,amE,acD,agL,aqb] ⟨aa6,ajl,atD,as7,ao8,abC,agq,aum,trivial⟩
noncomputable def arL (y0:QV):Option ((MV×Unit)×(Unit)) :=
 some ((MV.opop (⟨⟨false,0,0⟩,y0,1,0,0⟩:OPopV),()),())
noncomputable abbrev aqN:Con SR1:=⟨228,[.val 14],[.sh .mach],fun x =>arL x.1⟩
theorem avh:CO Tryz.prog aqN:=aan aak Tryz.func228 [] trivial
noncomputable def aim (y0:(LPopV MV)) (y1:EnvP):Option ((Bool×Unit)×((LPopV MV)×EnvP×Unit)) :=
 (ahl y1.l y0.worker).bind fun r1 =>
 (acz y1.m r1.1.1).bind fun r2 =>
 if r2.1.1=0 then
 (abg y0.o 2 0).bind fun r3 =>
 some ((r3.1.1,()),(({ y0 with o:=r3.2.1 }:(LPopV MV)),({ y1 with m:=r2.2.1 }:EnvP),()))
 else
 (agU r2.1.1).bind fun r4 =>
 (agK y1.l y0.worker r4.1.1).bind fun r5 =>
 (arL r5.1.1).bind fun r6 =>
 some ((false,()),(({ y0 with level:=r4.1.1,line:=2,inside:=r6.1.1 }:(LPopV MV)),({ y1 with m:=r2.2.1 }:EnvP),()))
noncomputable abbrev ajt:Con SR1:=⟨226,[.ref 44,.ref 27],[.sh .b],fun x =>aim x.1 x.2.1⟩
theorem an7:CO Tryz.prog ajt:=aan aak Tryz.func226 [agL,acC,acD,avb,ajW,aqN] ⟨agq,abT,abC,awH,ajl,avh,trivial⟩
noncomputable def agT (y0:Int) (y1:Int) (y2:QV):Option ((MV×Unit)×(Unit)) :=
 some ((MV.reset (⟨⟨false,0,0⟩,y0,y1,y2,1,0⟩:ResetV),()),())
noncomputable abbrev aiE:Con SR1:=⟨135,[.sh sI_,.sh sI_,.val 14],[.sh .mach],fun x =>agT x.1 x.2.1 x.2.2.1⟩
theorem akC:CO Tryz.prog aiE:=aan aak Tryz.func135 [] trivial
noncomputable def acY (y0:(LPopV MV)) (y1:EnvP):Option ((Bool×Unit)×((LPopV MV)×EnvP×Unit)) :=
 (aaw y0.o).bind fun r1 =>
 if r1.1.1=true then
 some ((true,()),(({ y0 with o:=r1.2.1 }:(LPopV MV)),y1,()))
 else
 if y0.line=1 then
 (aim ({ y0 with o:=r1.2.1 }:(LPopV MV)) y1).bind fun r2 =>
 some ((r2.1.1,()),(r2.2.1,r2.2.2.1,()))
 else
 (ai8 y0.inside y1).bind fun r3 =>
 if (!r3.1.1)=true then
 some ((false,()),(({ y0 with o:=r1.2.1,inside:=r3.2.1 }:(LPopV MV)),r3.2.2.1,()))
 else
 (aeP r3.2.1).bind fun r4 =>
 if y0.line=3 then
 some ((false,()),(({ y0 with o:=r1.2.1,line:=1,inside:=MV.nil }:(LPopV MV)),r3.2.2.1,()))
 else
 if r4.1.1=1 then
 (abg r1.2.1 1 r4.1.2.1).bind fun r5 =>
 some ((r5.1.1,()),(({ y0 with o:=r5.2.1,inside:=r4.2.1 }:(LPopV MV)),r3.2.2.1,()))
 else
 (ahl r3.2.2.1.l y0.worker).bind fun r6 =>
 if y0.level=y0.level then
 if y0.worker=y0.worker then
 if r3.2.2.1.l.workers=r3.2.2.1.l.workers then
 if r3.2.2.1.l.levels=r3.2.2.1.l.levels then
 if r3.2.2.1.l.classes=r3.2.2.1.l.classes then
 if r3.2.2.1.l.tasks=r3.2.2.1.l.tasks then
 if r3.2.2.1.l.deque=r3.2.2.1.l.deque then
 if r3.2.2.1.l.heap=r3.2.2.1.l.heap then
 if r3.2.2.1.l.sleepers=r3.2.2.1.l.sleepers then
 if r3.2.2.1.l.epochs=r3.2.2.1.l.epochs then
 if r3.2.2.1.l.bitmaps=r3.2.2.1.l.bitmaps then
 if r3.2.2.1.l.queues=r3.2.2.1.l.queues then
 if r3.2.2.1.l.table=r3.2.2.1.l.table then
 if y0.level=y0.level then
 (agK r3.2.2.1.l y0.worker y0.level).bind fun r7 =>
 if y0.level=y0.level then
 (agT r6.1.1 y0.level r7.1.1).bind fun r8 =>
 some ((false,()),(({ y0 with o:=r1.2.1,line:=3,inside:=r8.1.1 }:(LPopV MV)),r3.2.2.1,()))
 else none
 else none
 else none
 else none
 else none
 else none
 else none
 else none
 else none
 else none
 else none
 else none
 else none
 else none
 else none
noncomputable abbrev apC:Con SR1:=⟨225,[.ref 44,.ref 27],[.sh .b],fun x =>acY x.1 x.2.1⟩
theorem an6:CO Tryz.prog apC:=aan aak Tryz.func225 [abp,ajt,arf,amE,acD,agL,ajW,aiE] ⟨aa6,an7,as7,ao8,abC,agq,ajl,akC,trivial⟩
noncomputable def adJ (m:MV) (e:EnvP):Option ((Bool×Unit)×(MV×EnvP×Unit)) :=
 match m with
 | .alloc x =>(ab1 x e).bind fun o =>some (o.1,(MV.alloc o.2.1,o.2.2))
 | .publish x =>(abR x e).bind fun o =>some (o.1,(MV.publish o.2.1,o.2.2))
 | .claim x =>(ac2 x e).bind fun o =>some (o.1,(MV.claim o.2.1,o.2.2))
 | .attempt x =>(acG x e).bind fun o =>some (o.1,(MV.attempt o.2.1,o.2.2))
 | .release x =>(acF x e).bind fun o =>some (o.1,(MV.release o.2.1,o.2.2))
 | .opush x =>(adq x e).bind fun o =>some (o.1,(MV.opush o.2.1,o.2.2))
 | .opop x =>(adS x e).bind fun o =>some (o.1,(MV.opop o.2.1,o.2.2))
 | .steal x =>(ac1 x e).bind fun o =>some (o.1,(MV.steal o.2.1,o.2.2))
 | .set x =>(adu x e).bind fun o =>some (o.1,(MV.set o.2.1,o.2.2))
 | .reset x =>(acI x e).bind fun o =>some (o.1,(MV.reset o.2.1,o.2.2))
 | .insert x =>(abL x e).bind fun o =>some (o.1,(MV.insert o.2.1,o.2.2))
 | .remove x =>(abK x e).bind fun o =>some (o.1,(MV.remove o.2.1,o.2.2))
 | .sleep x =>(acW x e).bind fun o =>some (o.1,(MV.sleep o.2.1,o.2.2))
 | .wake x =>(adj x e).bind fun o =>some (o.1,(MV.wake o.2.1,o.2.2))
 | .raise x =>(acv x e).bind fun o =>some (o.1,(MV.raise o.2.1,o.2.2))
 | .probe x =>(abl x e).bind fun o =>some (o.1,(MV.probe o.2.1,o.2.2))
 | .lpush x =>(acu x e).bind fun o =>some (o.1,(MV.lpush o.2.1,o.2.2))
 | .lpop x =>(acY x e).bind fun o =>some (o.1,(MV.lpop o.2.1,o.2.2))
 | _ =>none
noncomputable abbrev aid:Con SR1:=⟨1000000000,[.mch,.ref 27],[.sh .b],fun x =>adJ x.1 x.2.1⟩
theorem alb (m:MV) (xs:akZ SR1 [.ref 27]) (out:ak3 SR1 [.sh .b]×(MV×ajO SR1 [.ref 27])) (h:adJ m xs.1=some out):aqv SR1 Tryz.prog 0 [.ref 27] [.sh .b] m xs out:=by
 cases m with
 | alloc x =>exact aaz (.alloc x) xs out h
 | publish x =>exact aaz (.publish x) xs out h
 | claim x =>exact aaz (.claim x) xs out h
 | attempt x =>exact aaz (.attempt x) xs out h
 | release x =>exact aaz (.release x) xs out h
 | opush x =>exact aaz (.opush x) xs out h
 | opop x =>exact aaz (.opop x) xs out h
 | steal x =>exact aaz (.steal x) xs out h
 | set x =>exact aaz (.set x) xs out h
 | reset x =>exact aaz (.reset x) xs out h
 | insert x =>exact aaz (.insert x) xs out h
 | remove x =>exact aaz (.remove x) xs out h
 | sleep x =>exact aaz (.sleep x) xs out h
 | wake x =>exact aaz (.wake x) xs out h
 | raise x =>exact aaz (.raise x) xs out h
 | probe x =>exact aaz (.probe x) xs out h
 | lpush x =>exact aa9 (S:=SR1) (ps:=[.ref 27]) (rs:=[.sh .b]) (c:=47) (mk:=MV.lpush) (fun _ =>rfl) rfl (fun _ _ _ _ =>by kernel_rfl) am0 h
 | lpop x =>exact aa9 (S:=SR1) (ps:=[.ref 27]) (rs:=[.sh .b]) (c:=44) (mk:=MV.lpop) (fun _ =>rfl) rfl (fun _ _ _ _ =>by kernel_rfl) an6 h
 | _ =>cases h
theorem ahC:CO Tryz.prog aid:=ajB (S:=SR1) (i:=0) (ps:=[.ref 27]) (rs:=[.sh .b]) (spec:=fun m xs =>adJ m xs.1) alb
noncomputable def abz (m:MV):Option ((Int×Int×Unit)×(MV×Unit)) :=
 match m with
 | .alloc x =>some ((x.o.code,x.o.value,()),(MV.alloc x,()))
 | .publish x =>some ((x.o.code,x.o.value,()),(MV.publish x,()))
 | .claim x =>some ((x.o.code,x.o.value,()),(MV.claim x,()))
 | .attempt x =>some ((x.o.code,x.o.value,()),(MV.attempt x,()))
 | .release x =>some ((x.o.code,x.o.value,()),(MV.release x,()))
 | .opush x =>some ((x.o.code,x.o.value,()),(MV.opush x,()))
 | .opop x =>some ((x.o.code,x.o.value,()),(MV.opop x,()))
 | .steal x =>some ((x.o.code,x.o.value,()),(MV.steal x,()))
 | .set x =>some ((x.o.code,x.o.value,()),(MV.set x,()))
 | .reset x =>some ((x.o.code,x.o.value,()),(MV.reset x,()))
 | .insert x =>some ((x.o.code,x.o.value,()),(MV.insert x,()))
 | .remove x =>some ((x.o.code,x.o.value,()),(MV.remove x,()))
 | .sleep x =>some ((x.o.code,x.o.value,()),(MV.sleep x,()))
 | .wake x =>some ((x.o.code,x.o.value,()),(MV.wake x,()))
 | .raise x =>some ((x.o.code,x.o.value,()),(MV.raise x,()))
 | .probe x =>some ((x.o.code,x.o.value,()),(MV.probe x,()))
 | .lpush x =>some ((x.o.code,x.o.value,()),(MV.lpush x,()))
 | .lpop x =>some ((x.o.code,x.o.value,()),(MV.lpop x,()))
 | _ =>none
noncomputable abbrev afe:Con SR1:=⟨1000000001,[.mch],[.sh sI_,.sh sI_],fun x =>abz x.1⟩
theorem ahO (m:MV) (xs:akZ SR1 []) (out:ak3 SR1 [.sh sI_,.sh sI_]×(MV×ajO SR1 [])) (h:abz m=some out):aqv SR1 Tryz.prog 1 [] [.sh sI_,.sh sI_] m xs out:=by
 cases m with
 | alloc x =>exact aaj (.alloc x) xs out h
 | publish x =>exact aaj (.publish x) xs out h
 | claim x =>exact aaj (.claim x) xs out h
 | attempt x =>exact aaj (.attempt x) xs out h
 | release x =>exact aaj (.release x) xs out h
 | opush x =>exact aaj (.opush x) xs out h
 | opop x =>exact aaj (.opop x) xs out h
 | steal x =>exact aaj (.steal x) xs out h
 | set x =>exact aaj (.set x) xs out h
 | reset x =>exact aaj (.reset x) xs out h
 | insert x =>exact aaj (.insert x) xs out h
 | remove x =>exact aaj (.remove x) xs out h
 | sleep x =>exact aaj (.sleep x) xs out h
 | wake x =>exact aaj (.wake x) xs out h
 | raise x =>exact aaj (.raise x) xs out h
 | probe x =>exact aaj (.probe x) xs out h
 | lpush x =>exact aa9 (S:=SR1) (ps:=[]) (rs:=[.sh sI_,.sh sI_]) (c:=47) (mk:=MV.lpush) (f:=143) (sp:=fun x =>some ((x.1.o.code,x.1.o.value,()),(x.1,()))) (fun _ =>rfl) rfl (fun _ _ _ _ =>by kernel_rfl) (acr [aaX] ⟨aaP,trivial⟩ fun x =>by kernel_rfl) h
 | lpop x =>exact aa9 (S:=SR1) (ps:=[]) (rs:=[.sh sI_,.sh sI_]) (c:=44) (mk:=MV.lpop) (f:=143) (sp:=fun x =>some ((x.1.o.code,x.1.o.value,()),(x.1,()))) (fun _ =>rfl) rfl (fun _ _ _ _ =>by kernel_rfl) (acr [aaX] ⟨aaP,trivial⟩ fun x =>by kernel_rfl) h
 | _ =>cases h
theorem afd:CO Tryz.prog afe:=ajB (S:=SR1) (i:=1) (ps:=[]) (rs:=[.sh sI_,.sh sI_]) (spec:=fun m _ =>abz m) ahO
noncomputable def anb (y0:Int) (y1:Int) (y2:Int):Option ((MV×Unit)×(Unit)) :=
 some ((MV.raise (⟨⟨false,0,0⟩,y0,y1,y2,1,0⟩:RaiseV),()),())
noncomputable abbrev anK:Con SR1:=⟨246,[.sh sI_,.sh sI_,.sh sI_],[.sh .mach],fun x =>anb x.1 x.2.1 x.2.2.1⟩
theorem asy:CO Tryz.prog anK:=aan aak Tryz.func246 [] trivial
noncomputable def aen (y0:(WalkV MV)) (y1:EnvP):Option ((Bool×Unit)×((WalkV MV)×EnvP×Unit)) :=
 if (SR1.spl y0.inside).isNone=true then
 (ajI y1 y0.task y0.level).bind fun r1 =>
 if (!r1.1.1)=true then
 (abg y0.o 4 0).bind fun r2 =>
 some ((r2.1.1,()),(({ y0 with o:=r2.2.1 }:(WalkV MV)),r1.2.1,()))
 else
 (anb y0.worker y0.task y0.level).bind fun r3 =>
 (adJ r3.1.1 r1.2.1).bind fun r4 =>
 if (!r4.1.1)=true then
 some ((false,()),(({ y0 with inside:=r4.2.1 }:(WalkV MV)),r4.2.2.1,()))
 else
 (abz r4.2.1).bind fun r5 =>
 if r5.1.1=1 then
 some ((false,()),(({ y0 with line:=2,inside:=MV.nil }:(WalkV MV)),r4.2.2.1,()))
 else
 some ((false,()),(({ y0 with line:=4,inside:=MV.nil }:(WalkV MV)),r4.2.2.1,()))
 else
 (adJ y0.inside y1).bind fun r6 =>
 if (!r6.1.1)=true then
 some ((false,()),(({ y0 with inside:=r6.2.1 }:(WalkV MV)),r6.2.2.1,()))
 else
 (abz r6.2.1).bind fun r7 =>
 if r7.1.1=1 then
 some ((false,()),(({ y0 with line:=2,inside:=MV.nil }:(WalkV MV)),r6.2.2.1,()))
 else
 some ((false,()),(({ y0 with line:=4,inside:=MV.nil }:(WalkV MV)),r6.2.2.1,()))
noncomputable abbrev aiS:Con SR1:=⟨243,[.ref 48,.ref 27],[.sh .b],fun x =>aen x.1 x.2.1⟩
theorem am9:CO Tryz.prog aiS:=aan aak Tryz.func243 [akX,acD,anK,aid,afe] ⟨anL,abC,asy,ahC,afd,trivial⟩
noncomputable def acA (y0:Int) (y1:Int) (y2:Int):Option ((MV×Unit)×(Unit)) :=
 some ((MV.lpush (⟨⟨false,0,0⟩,y0,y1,y2,1,MV.nil⟩:(LPushV MV)),()),())
noncomputable abbrev aeF:Con SR1:=⟨171,[.sh sI_,.sh sI_,.sh sI_],[.sh .mach],fun x =>acA x.1 x.2.1 x.2.2.1⟩
theorem aeU:CO Tryz.prog aeF:=aan aak Tryz.func171 [] trivial
noncomputable def aiD (y0:(WalkV MV)) (y1:EnvP):Option ((Unit)×((WalkV MV)×EnvP×Unit)) :=
 (adJ y0.inside y1).bind fun r1 =>
 if (!r1.1.1)=true then
 some ((()),(({ y0 with inside:=r1.2.1 }:(WalkV MV)),r1.2.2.1,()))
 else
 (abz r1.2.1).bind fun r2 =>
 if r2.1.1=3 then
 (aec r1.2.2.1 ({ y0 with kind:=19,other:=0 }:Ev)).bind fun r3 =>
 some ((()),(({ y0 with line:=4,inside:=MV.nil }:(WalkV MV)),r3.2.1,()))
 else
 some ((()),(({ y0 with line:=4,inside:=MV.nil }:(WalkV MV)),r1.2.2.1,()))
noncomputable abbrev ajG:Con SR1:=⟨244,[.ref 48,.ref 27],[],fun x =>aiD x.1 x.2.1⟩
theorem aod:CO Tryz.prog ajG:=aan aak Tryz.func244 [aid,afe,aff] ⟨ahC,afd,aer,trivial⟩
noncomputable def ab4 (y0:(WalkV MV)) (y1:EnvP):Option ((Bool×Unit)×((WalkV MV)×EnvP×Unit)) :=
 (aaw y0.o).bind fun r1 =>
 if r1.1.1=true then
 some ((true,()),(({ y0 with o:=r1.2.1 }:(WalkV MV)),y1,()))
 else
 if y0.line=1 then
 (aen ({ y0 with o:=r1.2.1 }:(WalkV MV)) y1).bind fun r2 =>
 some ((r2.1.1,()),(r2.2.1,r2.2.2.1,()))
 else
 if y0.line=2 then
 (aeC y1.l y0.task).bind fun r3 =>
 (acz y1.m r3.1.1).bind fun r4 =>
 if r4.1.1=1 then
 (acA y0.worker y0.level y0.task).bind fun r5 =>
 some ((false,()),(({ y0 with o:=r1.2.1,line:=3,inside:=r5.1.1 }:(WalkV MV)),({ y1 with m:=r4.2.1 }:EnvP),()))
 else
 some ((false,()),(({ y0 with o:=r1.2.1,line:=4 }:(WalkV MV)),({ y1 with m:=r4.2.1 }:EnvP),()))
 else
 if y0.line=3 then
 (aiD ({ y0 with o:=r1.2.1 }:(WalkV MV)) y1).bind fun r6 =>
 some ((false,()),(r6.2.1,r6.2.2.1,()))
 else
 (aji y1.l y0.task).bind fun r7 =>
 (acz y1.m r7.1.1).bind fun r8 =>
 if r8.1.1=0 then
 (abg r1.2.1 0 0).bind fun r9 =>
 some ((r9.1.1,()),(({ y0 with o:=r9.2.1 }:(WalkV MV)),({ y1 with m:=r8.2.1 }:EnvP),()))
 else
 some ((false,()),(({ y0 with o:=r1.2.1,task:=wi (wu (r8.1.1-1)),line:=1 }:(WalkV MV)),({ y1 with m:=r8.2.1 }:EnvP),()))
noncomputable abbrev aqa:Con SR1:=⟨242,[.ref 48,.ref 27],[.sh .b],fun x =>ab4 x.1 x.2.1⟩
theorem aoc:CO Tryz.prog aqa:=aan aak Tryz.func242 [abp,aiS,agh,acC,aeF,ajG,aon,acD] ⟨aa6,am9,afB,abT,aeU,aod,aph,abC,trivial⟩
noncomputable def afG (y0:Int):Option ((MV×Unit)×(Unit)) :=
 some ((MV.lpop (⟨⟨false,0,0⟩,y0,0,1,MV.nil⟩:(LPopV MV)),()),())
noncomputable abbrev akO:Con SR1:=⟨138,[.sh sI_],[.sh .mach],fun x =>afG x.1⟩
theorem anB:CO Tryz.prog akO:=aan aak Tryz.func138 [] trivial
noncomputable def acy (y0:Int) (y1:Int):Option ((MV×Unit)×(Unit)) :=
 some ((MV.claim (⟨⟨false,0,0⟩,y0,y1⟩:ClaimV),()),())
noncomputable abbrev afA:Con SR1:=⟨139,[.sh sI_,.sh sI_],[.sh .mach],fun x =>acy x.1 x.2.1⟩
theorem agc:CO Tryz.prog afA:=aan aak Tryz.func139 [] trivial
noncomputable def aeA (y0:(TakeV MV)) (y1:EnvP):Option ((Bool×Unit)×((TakeV MV)×EnvP×Unit)) :=
 (aaw y0.o).bind fun r1 =>
 if r1.1.1=true then
 some ((true,()),(({ y0 with o:=r1.2.1 }:(TakeV MV)),y1,()))
 else
 (adJ y0.inside y1).bind fun r2 =>
 if (!r2.1.1)=true then
 some ((false,()),(({ y0 with o:=r1.2.1,inside:=r2.2.1 }:(TakeV MV)),r2.2.2.1,()))
 else
 (abz r2.2.1).bind fun r3 =>
 if y0.claiming=true then
 if r3.1.1=1 then
 (abg r1.2.1 1 r3.1.2.1).bind fun r4 =>
 some ((r4.1.1,()),(({ y0 with o:=r4.2.1,inside:=r3.2.1 }:(TakeV MV)),r2.2.2.1,()))
 else
 if y0.claiming=true then
 (afG y0.worker).bind fun r5 =>
 some ((false,()),((⟨r1.2.1,y0.worker,false,r5.1.1⟩:(TakeV MV)),r2.2.2.1,()))
 else
 if r3.1.1=2 then
 (abg r1.2.1 2 0).bind fun r6 =>
 some ((r6.1.1,()),(({ y0 with o:=r6.2.1,inside:=r3.2.1 }:(TakeV MV)),r2.2.2.1,()))
 else
 (acy y0.worker r3.1.2.1).bind fun r7 =>
 some ((false,()),((⟨r1.2.1,y0.worker,true,r7.1.1⟩:(TakeV MV)),r2.2.2.1,()))
 else
 if y0.claiming=true then
 (afG y0.worker).bind fun r8 =>
 some ((false,()),((⟨r1.2.1,y0.worker,false,r8.1.1⟩:(TakeV MV)),r2.2.2.1,()))
 else
 if r3.1.1=2 then
 (abg r1.2.1 2 0).bind fun r9 =>
 some ((r9.1.1,()),(({ y0 with o:=r9.2.1,inside:=r3.2.1 }:(TakeV MV)),r2.2.2.1,()))
 else
 (acy y0.worker r3.1.2.1).bind fun r10 =>
 some ((false,()),((⟨r1.2.1,y0.worker,true,r10.1.1⟩:(TakeV MV)),r2.2.2.1,()))
noncomputable abbrev aqj:Con SR1:=⟨203,[.ref 39,.ref 27],[.sh .b],fun x =>aeA x.1 x.2.1⟩
theorem aoS:CO Tryz.prog aqj:=aan aak Tryz.func203 [abp,aid,afe,acD,akO,afA] ⟨aa6,ahC,afd,abC,anB,agc,trivial⟩
noncomputable def abD (y0:(SweepV MV)) (y1:EnvP):Option ((Bool×Unit)×((SweepV MV)×EnvP×Unit)) :=
 if y0.line=1 then
 ((
 if y0.task<0 then
 some (true,y0,y1,())
 else
 if y1.c.tasks≤y0.task then
 some (true,y0,y1,())
 else
 some (decide (y1.c.age=0),y0,y1,())
 ):Option (Bool×(SweepV MV)×EnvP×Unit)).bind fun z1 =>
 if z1.1=true then
 some ((true,()),(z1.2.1,z1.2.2.1,()))
 else
 (aeC z1.2.2.1.l z1.2.1.task).bind fun r2 =>
 (acz z1.2.2.1.m r2.1.1).bind fun r3 =>
 some ((decide (r3.1.1≠1),()),(z1.2.1,({ z1.2.2.1 with m:=r3.2.1 }:EnvP),()))
 else
 if y0.line=2 then
 (aiN y1.l y0.task).bind fun r4 =>
 (acz y1.m r4.1.1).bind fun r5 =>
 (arD y1.k).bind fun r6 =>
 if y1.c.age=y1.c.age then
 some ((decide ((wi (r6.1.1-(wi (r5.1.1))))<y1.c.age),()),(y0,({ y1 with m:=r5.2.1,k:=r6.2.1 }:EnvP),()))
 else none
 else
 (ae6 y1.l y0.task).bind fun r7 =>
 (acz y1.m r7.1.1).bind fun r8 =>
 some ((decide ((wi (y1.c.levels-1))≤(wi (r8.1.1))),()),(({ y0 with q:=r8.1.1 }:(SweepV MV)),({ y1 with m:=r8.2.1 }:EnvP),()))
noncomputable abbrev aiT:Con SR1:=⟨206,[.ref 40,.ref 27],[.sh .b],fun x =>abD x.1 x.2.1⟩
theorem ank:CO Tryz.prog aiT:=aan aak Tryz.func206 [agh,acC,ajV,anA,agi] ⟨afB,abT,ajj,akL,afC,trivial⟩ [(4,.cut [.rg 36 .b,.ob 0 40,.ob 1 27] [])]
noncomputable def abO (y0:(SweepV MV)) (y1:Int):Option ((Ev×Unit)×((SweepV MV)×Unit)) :=
 some ((({ y0 with kind:=y1,other:=0,level:=wi ((wi (y0.q))+1) }:Ev),()),(y0,()))
noncomputable abbrev ah8:Con SR1:=⟨207,[.ref 40,.sh sI_],[.val 2],fun x =>abO x.1 x.2.1⟩
theorem amm:CO Tryz.prog ah8:=aan aak Tryz.func207 [] trivial
noncomputable def aaC (y0:(SweepV MV)) (y1:EnvP):Option ((Bool×Unit)×((SweepV MV)×EnvP×Unit)) :=
 (aaw y0.o).bind fun r1 =>
 if r1.1.1=true then
 some ((true,()),(({ y0 with o:=r1.2.1 }:(SweepV MV)),y1,()))
 else
 if y0.line=1 then
 if y0.line=1 then
 (abD ({ y0 with o:=r1.2.1 }:(SweepV MV)) y1).bind fun r2 =>
 if r2.1.1=true then
 (abg r2.2.1.o 0 0).bind fun r3 =>
 some ((r3.1.1,()),(({ r2.2.1 with o:=r3.2.1 }:(SweepV MV)),r2.2.2.1,()))
 else
 some ((false,()),(({ r2.2.1 with line:=wi (r2.2.1.line+1) }:(SweepV MV)),r2.2.2.1,()))
 else
 if y0.line=4 then
 (ae6 y1.l y0.task).bind fun r4 =>
 if y0.q=y0.q then
 if y0.q=y0.q then
 (asW y1.m r4.1.1 y0.q (wu (y0.q+1))).bind fun r5 =>
 if (!r5.1.1)=true then
 (abg r1.2.1 4 0).bind fun r6 =>
 some ((r6.1.1,()),(({ y0 with o:=r6.2.1 }:(SweepV MV)),({ y1 with m:=r5.2.1 }:EnvP),()))
 else
 (abO ({ y0 with o:=r1.2.1 }:(SweepV MV)) 12).bind fun r7 =>
 (aec ({ y1 with m:=r5.2.1 }:EnvP) r7.1.1).bind fun r8 =>
 some ((false,()),(({ r7.2.1 with line:=wi (r7.2.1.line+1) }:(SweepV MV)),r8.2.1,()))
 else none
 else none
 else
 if y0.line=5 then
 (aiN y1.l y0.task).bind fun r9 =>
 (arD y1.k).bind fun r10 =>
 (aa2 y1.m r9.1.1 (wu (r10.1.1))).bind fun r11 =>
 (acA y0.worker (wi ((wi (y0.q))+1)) y0.task).bind fun r12 =>
 some ((false,()),(({ y0 with o:=r1.2.1,line:=wi (y0.line+1),push:=r12.1.1 }:(SweepV MV)),({ y1 with m:=r11.2.1,k:=r10.2.1 }:EnvP),()))
 else
 (adJ y0.push y1).bind fun r13 =>
 if (!r13.1.1)=true then
 some ((false,()),(({ y0 with o:=r1.2.1,push:=r13.2.1 }:(SweepV MV)),r13.2.2.1,()))
 else
 (abz r13.2.1).bind fun r14 =>
 if r14.1.1=3 then
 (abO ({ y0 with o:=r1.2.1,push:=r14.2.1 }:(SweepV MV)) 19).bind fun r15 =>
 (aec r13.2.2.1 r15.1.1).bind fun r16 =>
 (abg r15.2.1.o 1 0).bind fun r17 =>
 some ((r17.1.1,()),(({ r15.2.1 with o:=r17.2.1 }:(SweepV MV)),r16.2.1,()))
 else
 (abg r1.2.1 1 0).bind fun r18 =>
 some ((r18.1.1,()),(({ y0 with o:=r18.2.1,push:=r14.2.1 }:(SweepV MV)),r13.2.2.1,()))
 else
 if y0.line=2 then
 if y0.line=2 then
 (abD ({ y0 with o:=r1.2.1 }:(SweepV MV)) y1).bind fun r19 =>
 if r19.1.1=true then
 (abg r19.2.1.o 0 0).bind fun r20 =>
 some ((r20.1.1,()),(({ r19.2.1 with o:=r20.2.1 }:(SweepV MV)),r19.2.2.1,()))
 else
 some ((false,()),(({ r19.2.1 with line:=wi (r19.2.1.line+1) }:(SweepV MV)),r19.2.2.1,()))
 else
 if y0.line=4 then
 (ae6 y1.l y0.task).bind fun r21 =>
 if y0.q=y0.q then
 if y0.q=y0.q then
 (asW y1.m r21.1.1 y0.q (wu (y0.q+1))).bind fun r22 =>
 if (!r22.1.1)=true then
 (abg r1.2.1 4 0).bind fun r23 =>
 some ((r23.1.1,()),(({ y0 with o:=r23.2.1 }:(SweepV MV)),({ y1 with m:=r22.2.1 }:EnvP),()))
 else
 (abO ({ y0 with o:=r1.2.1 }:(SweepV MV)) 12).bind fun r24 =>
 (aec ({ y1 with m:=r22.2.1 }:EnvP) r24.1.1).bind fun r25 =>
 some ((false,()),(({ r24.2.1 with line:=wi (r24.2.1.line+1) }:(SweepV MV)),r25.2.1,()))
 else none
 else none
 else
 if y0.line=5 then
 (aiN y1.l y0.task).bind fun r26 =>
 (arD y1.k).bind fun r27 =>
 (aa2 y1.m r26.1.1 (wu (r27.1.1))).bind fun r28 =>
 (acA y0.worker (wi ((wi (y0.q))+1)) y0.task).bind fun r29 =>
 some ((false,()),(({ y0 with o:=r1.2.1,line:=wi (y0.line+1),push:=r29.1.1 }:(SweepV MV)),({ y1 with m:=r28.2.1,k:=r27.2.1 }:EnvP),()))
 else
 (adJ y0.push y1).bind fun r30 =>
 if (!r30.1.1)=true then
 some ((false,()),(({ y0 with o:=r1.2.1,push:=r30.2.1 }:(SweepV MV)),r30.2.2.1,()))
 else
 (abz r30.2.1).bind fun r31 =>
 if r31.1.1=3 then
 (abO ({ y0 with o:=r1.2.1,push:=r31.2.1 }:(SweepV MV)) 19).bind fun r32 =>
 (aec r30.2.2.1 r32.1.1).bind fun r33 =>
 (abg r32.2.1.o 1 0).bind fun r34 =>
 some ((r34.1.1,()),(({ r32.2.1 with o:=r34.2.1 }:(SweepV MV)),r33.2.1,()))
 else
 (abg r1.2.1 1 0).bind fun r35 =>
 some ((r35.1.1,()),(({ y0 with o:=r35.2.1,push:=r31.2.1 }:(SweepV MV)),r30.2.2.1,()))
 else
 if y0.line=3 then
 (abD ({ y0 with o:=r1.2.1 }:(SweepV MV)) y1).bind fun r36 =>
 if r36.1.1=true then
 (abg r36.2.1.o 0 0).bind fun r37 =>
 some ((r37.1.1,()),(({ r36.2.1 with o:=r37.2.1 }:(SweepV MV)),r36.2.2.1,()))
 else
 some ((false,()),(({ r36.2.1 with line:=wi (r36.2.1.line+1) }:(SweepV MV)),r36.2.2.1,()))
 else
 if y0.line=4 then
 (ae6 y1.l y0.task).bind fun r38 =>
 if y0.q=y0.q then
 if y0.q=y0.q then
 (asW y1.m r38.1.1 y0.q (wu (y0.q+1))).bind fun r39 =>
 if (!r39.1.1)=true then
 (abg r1.2.1 4 0).bind fun r40 =>
 some ((r40.1.1,()),(({ y0 with o:=r40.2.1 }:(SweepV MV)),({ y1 with m:=r39.2.1 }:EnvP),()))
 else
 (abO ({ y0 with o:=r1.2.1 }:(SweepV MV)) 12).bind fun r41 =>
 (aec ({ y1 with m:=r39.2.1 }:EnvP) r41.1.1).bind fun r42 =>
 some ((false,()),(({ r41.2.1 with line:=wi (r41.2.1.line+1) }:(SweepV MV)),r42.2.1,()))
 else none
 else none
 else
 if y0.line=5 then
 (aiN y1.l y0.task).bind fun r43 =>
 (arD y1.k).bind fun r44 =>
 (aa2 y1.m r43.1.1 (wu (r44.1.1))).bind fun r45 =>
 (acA y0.worker (wi ((wi (y0.q))+1)) y0.task).bind fun r46 =>
 some ((false,()),(({ y0 with o:=r1.2.1,line:=wi (y0.line+1),push:=r46.1.1 }:(SweepV MV)),({ y1 with m:=r45.2.1,k:=r44.2.1 }:EnvP),()))
 else
 (adJ y0.push y1).bind fun r47 =>
 if (!r47.1.1)=true then
 some ((false,()),(({ y0 with o:=r1.2.1,push:=r47.2.1 }:(SweepV MV)),r47.2.2.1,()))
 else
 (abz r47.2.1).bind fun r48 =>
 if r48.1.1=3 then
 (abO ({ y0 with o:=r1.2.1,push:=r48.2.1 }:(SweepV MV)) 19).bind fun r49 =>
 (aec r47.2.2.1 r49.1.1).bind fun r50 =>
 (abg r49.2.1.o 1 0).bind fun r51 =>
 some ((r51.1.1,()),(({ r49.2.1 with o:=r51.2.1 }:(SweepV MV)),r50.2.1,()))
 else
 (abg r1.2.1 1 0).bind fun r52 =>
 some ((r52.1.1,()),(({ y0 with o:=r52.2.1,push:=r48.2.1 }:(SweepV MV)),r47.2.2.1,()))
noncomputable abbrev aog:Con SR1:=⟨205,[.ref 40,.ref 27],[.sh .b],fun x =>aaC x.1 x.2.1⟩
theorem anj:CO Tryz.prog aog:=aan aak Tryz.func205 [abp,aiT,acD,agi,alD,ah8,aff,ajV,anA,adL,aeF,aid,afe] ⟨aa6,ank,abC,afC,ajo,amm,aer,ajj,akL,adb,aeU,ahC,afd,trivial⟩
noncomputable def ab2 (y0:(EnterV MV)) (y1:EnvP):Option ((Bool×Unit)×((EnterV MV)×EnvP×Unit)) :=
 (aaw y0.o).bind fun r1 =>
 if r1.1.1=true then
 some ((true,()),(({ y0 with o:=r1.2.1 }:(EnterV MV)),y1,()))
 else
 if y0.line=1 then
 (afb y1 y0.task).bind fun r2 =>
 if (!r2.1.1)=true then
 (abg r1.2.1 4 0).bind fun r3 =>
 some ((r3.1.1,()),(({ y0 with o:=r3.2.1 }:(EnterV MV)),r2.2.1,()))
 else
 (aiN r2.2.1.l y0.task).bind fun r4 =>
 (arD r2.2.1.k).bind fun r5 =>
 (aa2 r2.2.1.m r4.1.1 (wu (r5.1.1))).bind fun r6 =>
 some ((false,()),(({ y0 with o:=r1.2.1,line:=wi (y0.line+1) }:(EnterV MV)),({ r2.2.1 with m:=r6.2.1,k:=r5.2.1 }:EnvP),()))
 else
 if y0.line=2 then
 (aeC y1.l y0.task).bind fun r7 =>
 (aa2 y1.m r7.1.1 1).bind fun r8 =>
 some ((false,()),(({ y0 with o:=r1.2.1,line:=wi (y0.line+1) }:(EnterV MV)),({ y1 with m:=r8.2.1 }:EnvP),()))
 else
 if y0.line=3 then
 (ae6 y1.l y0.task).bind fun r9 =>
 (acz y1.m r9.1.1).bind fun r10 =>
 (acA y0.worker (wi (r10.1.1)) y0.task).bind fun r11 =>
 some ((false,()),(({ y0 with o:=r1.2.1,level:=wi (r10.1.1),line:=wi (y0.line+1),push:=r11.1.1 }:(EnterV MV)),({ y1 with m:=r10.2.1 }:EnvP),()))
 else
 (adJ y0.push y1).bind fun r12 =>
 if (!r12.1.1)=true then
 some ((false,()),(({ y0 with o:=r1.2.1,push:=r12.2.1 }:(EnterV MV)),r12.2.2.1,()))
 else
 (abz r12.2.1).bind fun r13 =>
 (abg r1.2.1 r13.1.1 y0.level).bind fun r14 =>
 some ((r14.1.1,()),(({ y0 with o:=r14.2.1,push:=r13.2.1 }:(EnterV MV)),r12.2.2.1,()))
noncomputable abbrev anO:Con SR1:=⟨248,[.ref 49,.ref 27],[.sh .b],fun x =>ab2 x.1 x.2.1⟩
theorem amu:CO Tryz.prog anO:=aan aak Tryz.func248 [abp,agb,acD,ajV,anA,adL,agh,agi,acC,aeF,aid,afe] ⟨aa6,ahj,abC,ajj,akL,adb,afB,afC,abT,aeU,ahC,afd,trivial⟩
noncomputable def avs (y0:Int):Option ((MV×Unit)×(Unit)) :=
 some ((MV.attempt (⟨⟨false,0,0⟩,y0,true⟩:AttemptV),()),())
noncomputable abbrev atU:Con SR1:=⟨212,[.sh sI_],[.sh .mach],fun x =>avs x.1⟩
theorem axW:CO Tryz.prog atU:=aan aak Tryz.func212 [] trivial
noncomputable def aaK (y0:(DrainV MV)) (y1:Int) (y2:MV):Option ((Unit)×((DrainV MV)×Unit)) :=
 some ((()),(({ y0 with line:=y1,inside:=y2 }:(DrainV MV)),()))
noncomputable abbrev adV:Con SR1:=⟨211,[.ref 41,.sh sI_,.sh .mach],[],fun x =>aaK x.1 x.2.1 x.2.2.1⟩
theorem aes:CO Tryz.prog adV:=aan aak Tryz.func211 [] trivial
noncomputable def afr (y0:Int):Option ((MV×Unit)×(Unit)) :=
 some ((MV.remove (⟨⟨false,0,0⟩,y0,1,0,0,0,0,0,0⟩:RemoveV),()),())
noncomputable abbrev aiP:Con SR1:=⟨217,[.sh sI_],[.sh .mach],fun x =>afr x.1⟩
theorem am2:CO Tryz.prog aiP:=aan aak Tryz.func217 [] trivial
noncomputable def abq (y0:(DrainV MV)):Option ((Unit)×((DrainV MV)×Unit)) :=
 (afr y0.worker).bind fun r1 =>
 (aaK y0 3 r1.1.1).bind fun r2 =>
 some ((()),(r2.2.1,()))
noncomputable abbrev ag9:Con SR1:=⟨214,[.ref 41],[],fun x =>abq x.1⟩
theorem akQ:CO Tryz.prog ag9:=aan aak Tryz.func214 [aiP,adV] ⟨am2,aes,trivial⟩
noncomputable def afg  : Option ((MV×Unit)×(Unit)) :=
 some ((MV.release (⟨⟨false,0,0⟩⟩:ReleaseV),()),())
noncomputable abbrev aik:Con SR1:=⟨100,[],[.sh .mach],fun x =>afg ⟩
theorem akx:CO Tryz.prog aik:=aan aak Tryz.func100 [] trivial
noncomputable def aa1 (y0:(DrainV MV)):Option ((Unit)×((DrainV MV)×Unit)) :=
 (afg).bind fun r1 =>
 (aaK y0 6 r1.1.1).bind fun r2 =>
 some ((()),(r2.2.1,()))
noncomputable abbrev aew:Con SR1:=⟨210,[.ref 41],[],fun x =>aa1 x.1⟩
theorem af7:CO Tryz.prog aew:=aan aak Tryz.func210 [aik,adV] ⟨akx,aes,trivial⟩
noncomputable def acO (y0:(DrainV MV)) (y1:Int):Option ((Unit)×((DrainV MV)×Unit)) :=
 if y1=3 then
 (aa1 ({ y0 with direct:=true }:(DrainV MV))).bind fun r1 =>
 some ((()),(r1.2.1,()))
 else
 some ((()),(({ y0 with last:=y0.p,count:=wi (y0.count+1) }:(DrainV MV)),()))
noncomputable abbrev aha:Con SR1:=⟨215,[.ref 41,.sh sI_],[],fun x =>acO x.1 x.2.1⟩
theorem akR:CO Tryz.prog aha:=aan aak Tryz.func215 [aew] ⟨af7,trivial⟩
noncomputable def acV (y0:Int) (y1:Int):Option ((MV×Unit)×(Unit)) :=
 some ((MV.wake (⟨⟨false,0,0⟩,y0,y1,1,0,0⟩:WakeV),()),())
noncomputable abbrev ahQ:Con SR1:=⟨101,[.sh sI_,.sh sI_],[.sh .mach],fun x =>acV x.1 x.2.1⟩
theorem aie:CO Tryz.prog ahQ:=aan aak Tryz.func101 [] trivial
noncomputable def aaY (y0:(DrainV MV)):Option ((Bool×Unit)×((DrainV MV)×Unit)) :=
 if y0.direct=true then
 (abg y0.o 1 y0.x).bind fun r1 =>
 some ((r1.1.1,()),(({ y0 with o:=r1.2.1 }:(DrainV MV)),()))
 else
 if 0<y0.count then
 (abg y0.o 0 y0.count).bind fun r2 =>
 some ((r2.1.1,()),(({ y0 with o:=r2.2.1 }:(DrainV MV)),()))
 else
 (abg y0.o 2 0).bind fun r3 =>
 some ((r3.1.1,()),(({ y0 with o:=r3.2.1 }:(DrainV MV)),()))
noncomputable abbrev ahb:Con SR1:=⟨216,[.ref 41],[.sh .b],fun x =>aaY x.1⟩
theorem akS:CO Tryz.prog ahb:=aan aak Tryz.func216 [acD] ⟨abC,trivial⟩
noncomputable def acH (y0:(DrainV MV)) (y1:EnvP) (y2:Int) (y3:Int):Option ((Bool×Unit)×((DrainV MV)×EnvP×Unit)) :=
 if y0.line=2 then
 if y2=5 then
 (abg y0.o 5 0).bind fun r1 =>
 some ((r1.1.1,()),(({ y0 with o:=r1.2.1 }:(DrainV MV)),y1,()))
 else
 if y0.line=2 then
 (abq y0).bind fun r2 =>
 some ((false,()),(r2.2.1,y1,()))
 else
 if y0.line=3 then
 if y2=2 then
 (aa1 y0).bind fun r3 =>
 some ((false,()),(r3.2.1,y1,()))
 else
 if y0.line=3 then
 (aaK ({ y0 with x:=y3 }:(DrainV MV)) 4 MV.nil).bind fun r4 =>
 some ((false,()),(r4.2.1,y1,()))
 else
 if y0.line=5 then
 (acO y0 y2).bind fun r5 =>
 if r5.2.1.direct=true then
 some ((false,()),(r5.2.1,y1,()))
 else
 if r5.2.1.count<y1.c.batch then
 (abq r5.2.1).bind fun r6 =>
 some ((false,()),(r6.2.1,y1,()))
 else
 (aa1 r5.2.1).bind fun r7 =>
 some ((false,()),(r7.2.1,y1,()))
 else
 if y0.line=6 then
 if 0<y0.count then
 (acV y0.worker y0.last).bind fun r8 =>
 (aaK y0 7 r8.1.1).bind fun r9 =>
 some ((false,()),(r9.2.1,y1,()))
 else
 (aaY y0).bind fun r10 =>
 some ((r10.1.1,()),(r10.2.1,y1,()))
 else
 (aaY y0).bind fun r11 =>
 some ((r11.1.1,()),(r11.2.1,y1,()))
 else
 if y0.line=3 then
 (aaK ({ y0 with x:=y3 }:(DrainV MV)) 4 MV.nil).bind fun r12 =>
 some ((false,()),(r12.2.1,y1,()))
 else
 if y0.line=5 then
 (acO y0 y2).bind fun r13 =>
 if r13.2.1.direct=true then
 some ((false,()),(r13.2.1,y1,()))
 else
 if r13.2.1.count<y1.c.batch then
 (abq r13.2.1).bind fun r14 =>
 some ((false,()),(r14.2.1,y1,()))
 else
 (aa1 r13.2.1).bind fun r15 =>
 some ((false,()),(r15.2.1,y1,()))
 else
 if y0.line=6 then
 if 0<y0.count then
 (acV y0.worker y0.last).bind fun r16 =>
 (aaK y0 7 r16.1.1).bind fun r17 =>
 some ((false,()),(r17.2.1,y1,()))
 else
 (aaY y0).bind fun r18 =>
 some ((r18.1.1,()),(r18.2.1,y1,()))
 else
 (aaY y0).bind fun r19 =>
 some ((r19.1.1,()),(r19.2.1,y1,()))
 else
 if y0.line=2 then
 (abq y0).bind fun r20 =>
 some ((false,()),(r20.2.1,y1,()))
 else
 if y0.line=3 then
 if y2=2 then
 (aa1 y0).bind fun r21 =>
 some ((false,()),(r21.2.1,y1,()))
 else
 if y0.line=3 then
 (aaK ({ y0 with x:=y3 }:(DrainV MV)) 4 MV.nil).bind fun r22 =>
 some ((false,()),(r22.2.1,y1,()))
 else
 if y0.line=5 then
 (acO y0 y2).bind fun r23 =>
 if r23.2.1.direct=true then
 some ((false,()),(r23.2.1,y1,()))
 else
 if r23.2.1.count<y1.c.batch then
 (abq r23.2.1).bind fun r24 =>
 some ((false,()),(r24.2.1,y1,()))
 else
 (aa1 r23.2.1).bind fun r25 =>
 some ((false,()),(r25.2.1,y1,()))
 else
 if y0.line=6 then
 if 0<y0.count then
 (acV y0.worker y0.last).bind fun r26 =>
 (aaK y0 7 r26.1.1).bind fun r27 =>
 some ((false,()),(r27.2.1,y1,()))
 else
 (aaY y0).bind fun r28 =>
 some ((r28.1.1,()),(r28.2.1,y1,()))
 else
 (aaY y0).bind fun r29 =>
 some ((r29.1.1,()),(r29.2.1,y1,()))
 else
 if y0.line=3 then
 (aaK ({ y0 with x:=y3 }:(DrainV MV)) 4 MV.nil).bind fun r30 =>
 some ((false,()),(r30.2.1,y1,()))
 else
 if y0.line=5 then
 (acO y0 y2).bind fun r31 =>
 if r31.2.1.direct=true then
 some ((false,()),(r31.2.1,y1,()))
 else
 if r31.2.1.count<y1.c.batch then
 (abq r31.2.1).bind fun r32 =>
 some ((false,()),(r32.2.1,y1,()))
 else
 (aa1 r31.2.1).bind fun r33 =>
 some ((false,()),(r33.2.1,y1,()))
 else
 if y0.line=6 then
 if 0<y0.count then
 (acV y0.worker y0.last).bind fun r34 =>
 (aaK y0 7 r34.1.1).bind fun r35 =>
 some ((false,()),(r35.2.1,y1,()))
 else
 (aaY y0).bind fun r36 =>
 some ((r36.1.1,()),(r36.2.1,y1,()))
 else
 (aaY y0).bind fun r37 =>
 some ((r37.1.1,()),(r37.2.1,y1,()))
noncomputable abbrev ahZ:Con SR1:=⟨213,[.ref 41,.ref 27,.sh sI_,.sh sI_],[.sh .b],fun x =>acH x.1 x.2.1 x.2.2.1 x.2.2.2.1⟩
theorem al4:CO Tryz.prog ahZ:=aan aak Tryz.func213 [acD,ag9,aew,adV,aha,ahQ,ahb] ⟨abC,akQ,af7,aes,akR,aie,akS,trivial⟩
noncomputable def abm (y0:(DrainV MV)) (y1:EnvP):Option ((Bool×Unit)×((DrainV MV)×EnvP×Unit)) :=
 (aaw y0.o).bind fun r1 =>
 if r1.1.1=true then
 some ((true,()),(({ y0 with o:=r1.2.1 }:(DrainV MV)),y1,()))
 else
 if y0.line=1 then
 (af6 y1.l).bind fun r2 =>
 (acz y1.m r2.1.1).bind fun r3 =>
 if (wi (r3.1.1))≤0 then
 (abg r1.2.1 2 0).bind fun r4 =>
 some ((r4.1.1,()),(({ y0 with o:=r4.2.1 }:(DrainV MV)),({ y1 with m:=r3.2.1 }:EnvP),()))
 else
 (avs y0.worker).bind fun r5 =>
 (aaK ({ y0 with o:=r1.2.1 }:(DrainV MV)) 2 r5.1.1).bind fun r6 =>
 some ((false,()),(r6.2.1,({ y1 with m:=r3.2.1 }:EnvP),()))
 else
 if y0.line=4 then
 (ae6 y1.l y0.x).bind fun r7 =>
 (acz y1.m r7.1.1).bind fun r8 =>
 (acA y0.worker (wi (r8.1.1)) y0.x).bind fun r9 =>
 (aaK ({ y0 with o:=r1.2.1,p:=wi (r8.1.1) }:(DrainV MV)) 5 r9.1.1).bind fun r10 =>
 some ((false,()),(r10.2.1,({ y1 with m:=r8.2.1 }:EnvP),()))
 else
 (adJ y0.inside y1).bind fun r11 =>
 if (!r11.1.1)=true then
 some ((false,()),(({ y0 with o:=r1.2.1,inside:=r11.2.1 }:(DrainV MV)),r11.2.2.1,()))
 else
 (abz r11.2.1).bind fun r12 =>
 (acH ({ y0 with o:=r1.2.1,inside:=r12.2.1 }:(DrainV MV)) r11.2.2.1 r12.1.1 r12.1.2.1).bind fun r13 =>
 some ((r13.1.1,()),(r13.2.1,r13.2.2.1,()))
noncomputable abbrev aoa:Con SR1:=⟨209,[.ref 41,.ref 27],[.sh .b],fun x =>abm x.1 x.2.1⟩
theorem am7:CO Tryz.prog aoa:=aan aak Tryz.func209 [abp,ajX,acC,acD,atU,adV,agi,aeF,aid,afe,ahZ] ⟨aa6,ajn,abT,abC,axW,aes,afC,aeU,ahC,afd,al4,trivial⟩
noncomputable def aeM (m:MV) (e:EnvP):Option ((Bool×Unit)×(MV×EnvP×Unit)) :=
 match m with
 | .alloc x =>(ab1 x e).bind fun o =>some (o.1,(MV.alloc o.2.1,o.2.2))
 | .publish x =>(abR x e).bind fun o =>some (o.1,(MV.publish o.2.1,o.2.2))
 | .claim x =>(ac2 x e).bind fun o =>some (o.1,(MV.claim o.2.1,o.2.2))
 | .attempt x =>(acG x e).bind fun o =>some (o.1,(MV.attempt o.2.1,o.2.2))
 | .release x =>(acF x e).bind fun o =>some (o.1,(MV.release o.2.1,o.2.2))
 | .opush x =>(adq x e).bind fun o =>some (o.1,(MV.opush o.2.1,o.2.2))
 | .opop x =>(adS x e).bind fun o =>some (o.1,(MV.opop o.2.1,o.2.2))
 | .steal x =>(ac1 x e).bind fun o =>some (o.1,(MV.steal o.2.1,o.2.2))
 | .set x =>(adu x e).bind fun o =>some (o.1,(MV.set o.2.1,o.2.2))
 | .reset x =>(acI x e).bind fun o =>some (o.1,(MV.reset o.2.1,o.2.2))
 | .insert x =>(abL x e).bind fun o =>some (o.1,(MV.insert o.2.1,o.2.2))
 | .remove x =>(abK x e).bind fun o =>some (o.1,(MV.remove o.2.1,o.2.2))
 | .sleep x =>(acW x e).bind fun o =>some (o.1,(MV.sleep o.2.1,o.2.2))
 | .wake x =>(adj x e).bind fun o =>some (o.1,(MV.wake o.2.1,o.2.2))
 | .raise x =>(acv x e).bind fun o =>some (o.1,(MV.raise o.2.1,o.2.2))
 | .probe x =>(abl x e).bind fun o =>some (o.1,(MV.probe o.2.1,o.2.2))
 | .lpush x =>(acu x e).bind fun o =>some (o.1,(MV.lpush o.2.1,o.2.2))
 | .lpop x =>(acY x e).bind fun o =>some (o.1,(MV.lpop o.2.1,o.2.2))
 | .walk x =>(ab4 x e).bind fun o =>some (o.1,(MV.walk o.2.1,o.2.2))
 | .take x =>(aeA x e).bind fun o =>some (o.1,(MV.take o.2.1,o.2.2))
 | .sweep x =>(aaC x e).bind fun o =>some (o.1,(MV.sweep o.2.1,o.2.2))
 | .enter x =>(ab2 x e).bind fun o =>some (o.1,(MV.enter o.2.1,o.2.2))
 | .drain x =>(abm x e).bind fun o =>some (o.1,(MV.drain o.2.1,o.2.2))
 | _ =>none
noncomputable abbrev aoh:Con SR1:=⟨1000000000,[.mch,.ref 27],[.sh .b],fun x =>aeM x.1 x.2.1⟩
theorem ajQ (m:MV) (xs:akZ SR1 [.ref 27]) (out:ak3 SR1 [.sh .b]×(MV×ajO SR1 [.ref 27])) (h:aeM m xs.1=some out):aqv SR1 Tryz.prog 0 [.ref 27] [.sh .b] m xs out:=by
 cases m with
 | alloc x =>exact aaz (.alloc x) xs out h
 | publish x =>exact aaz (.publish x) xs out h
 | claim x =>exact aaz (.claim x) xs out h
 | attempt x =>exact aaz (.attempt x) xs out h
 | release x =>exact aaz (.release x) xs out h
 | opush x =>exact aaz (.opush x) xs out h
 | opop x =>exact aaz (.opop x) xs out h
 | steal x =>exact aaz (.steal x) xs out h
 | set x =>exact aaz (.set x) xs out h
 | reset x =>exact aaz (.reset x) xs out h
 | insert x =>exact aaz (.insert x) xs out h
 | remove x =>exact aaz (.remove x) xs out h
 | sleep x =>exact aaz (.sleep x) xs out h
 | wake x =>exact aaz (.wake x) xs out h
 | raise x =>exact aaz (.raise x) xs out h
 | probe x =>exact aaz (.probe x) xs out h
 | lpush x =>exact alb (.lpush x) xs out h
 | lpop x =>exact alb (.lpop x) xs out h
 | walk x =>exact aa9 (S:=SR1) (ps:=[.ref 27]) (rs:=[.sh .b]) (c:=48) (mk:=MV.walk) (fun _ =>rfl) rfl (fun _ _ _ _ =>by kernel_rfl) aoc h
 | take x =>exact aa9 (S:=SR1) (ps:=[.ref 27]) (rs:=[.sh .b]) (c:=39) (mk:=MV.take) (fun _ =>rfl) rfl (fun _ _ _ _ =>by kernel_rfl) aoS h
 | sweep x =>exact aa9 (S:=SR1) (ps:=[.ref 27]) (rs:=[.sh .b]) (c:=40) (mk:=MV.sweep) (fun _ =>rfl) rfl (fun _ _ _ _ =>by kernel_rfl) anj h
 | enter x =>exact aa9 (S:=SR1) (ps:=[.ref 27]) (rs:=[.sh .b]) (c:=49) (mk:=MV.enter) (fun _ =>rfl) rfl (fun _ _ _ _ =>by kernel_rfl) amu h
 | drain x =>exact aa9 (S:=SR1) (ps:=[.ref 27]) (rs:=[.sh .b]) (c:=41) (mk:=MV.drain) (fun _ =>rfl) rfl (fun _ _ _ _ =>by kernel_rfl) am7 h
 | _ =>cases h
theorem aoV:CO Tryz.prog aoh:=ajB (S:=SR1) (i:=0) (ps:=[.ref 27]) (rs:=[.sh .b]) (spec:=fun m xs =>aeM m xs.1) ajQ
noncomputable def ado (m:MV):Option ((Int×Int×Unit)×(MV×Unit)) :=
 match m with
 | .alloc x =>some ((x.o.code,x.o.value,()),(MV.alloc x,()))
 | .publish x =>some ((x.o.code,x.o.value,()),(MV.publish x,()))
 | .claim x =>some ((x.o.code,x.o.value,()),(MV.claim x,()))
 | .attempt x =>some ((x.o.code,x.o.value,()),(MV.attempt x,()))
 | .release x =>some ((x.o.code,x.o.value,()),(MV.release x,()))
 | .opush x =>some ((x.o.code,x.o.value,()),(MV.opush x,()))
 | .opop x =>some ((x.o.code,x.o.value,()),(MV.opop x,()))
 | .steal x =>some ((x.o.code,x.o.value,()),(MV.steal x,()))
 | .set x =>some ((x.o.code,x.o.value,()),(MV.set x,()))
 | .reset x =>some ((x.o.code,x.o.value,()),(MV.reset x,()))
 | .insert x =>some ((x.o.code,x.o.value,()),(MV.insert x,()))
 | .remove x =>some ((x.o.code,x.o.value,()),(MV.remove x,()))
 | .sleep x =>some ((x.o.code,x.o.value,()),(MV.sleep x,()))
 | .wake x =>some ((x.o.code,x.o.value,()),(MV.wake x,()))
 | .raise x =>some ((x.o.code,x.o.value,()),(MV.raise x,()))
 | .probe x =>some ((x.o.code,x.o.value,()),(MV.probe x,()))
 | .lpush x =>some ((x.o.code,x.o.value,()),(MV.lpush x,()))
 | .lpop x =>some ((x.o.code,x.o.value,()),(MV.lpop x,()))
 | .walk x =>some ((x.o.code,x.o.value,()),(MV.walk x,()))
 | .take x =>some ((x.o.code,x.o.value,()),(MV.take x,()))
 | .sweep x =>some ((x.o.code,x.o.value,()),(MV.sweep x,()))
 | .enter x =>some ((x.o.code,x.o.value,()),(MV.enter x,()))
 | .drain x =>some ((x.o.code,x.o.value,()),(MV.drain x,()))
 | _ =>none
noncomputable abbrev amD:Con SR1:=⟨1000000001,[.mch],[.sh sI_,.sh sI_],fun x =>ado x.1⟩
theorem agp (m:MV) (xs:akZ SR1 []) (out:ak3 SR1 [.sh sI_,.sh sI_]×(MV×ajO SR1 [])) (h:ado m=some out):aqv SR1 Tryz.prog 1 [] [.sh sI_,.sh sI_] m xs out:=by
 cases m with
 | alloc x =>exact aaj (.alloc x) xs out h
 | publish x =>exact aaj (.publish x) xs out h
 | claim x =>exact aaj (.claim x) xs out h
 | attempt x =>exact aaj (.attempt x) xs out h
 | release x =>exact aaj (.release x) xs out h
 | opush x =>exact aaj (.opush x) xs out h
 | opop x =>exact aaj (.opop x) xs out h
 | steal x =>exact aaj (.steal x) xs out h
 | set x =>exact aaj (.set x) xs out h
 | reset x =>exact aaj (.reset x) xs out h
 | insert x =>exact aaj (.insert x) xs out h
 | remove x =>exact aaj (.remove x) xs out h
 | sleep x =>exact aaj (.sleep x) xs out h
 | wake x =>exact aaj (.wake x) xs out h
 | raise x =>exact aaj (.raise x) xs out h
 | probe x =>exact aaj (.probe x) xs out h
 | lpush x =>exact ahO (.lpush x) xs out h
 | lpop x =>exact ahO (.lpop x) xs out h
 | walk x =>exact aa9 (S:=SR1) (ps:=[]) (rs:=[.sh sI_,.sh sI_]) (c:=48) (mk:=MV.walk) (f:=143) (sp:=fun x =>some ((x.1.o.code,x.1.o.value,()),(x.1,()))) (fun _ =>rfl) rfl (fun _ _ _ _ =>by kernel_rfl) (acr [aaX] ⟨aaP,trivial⟩ fun x =>by kernel_rfl) h
 | take x =>exact aa9 (S:=SR1) (ps:=[]) (rs:=[.sh sI_,.sh sI_]) (c:=39) (mk:=MV.take) (f:=143) (sp:=fun x =>some ((x.1.o.code,x.1.o.value,()),(x.1,()))) (fun _ =>rfl) rfl (fun _ _ _ _ =>by kernel_rfl) (acr [aaX] ⟨aaP,trivial⟩ fun x =>by kernel_rfl) h
 | sweep x =>exact aa9 (S:=SR1) (ps:=[]) (rs:=[.sh sI_,.sh sI_]) (c:=40) (mk:=MV.sweep) (f:=143) (sp:=fun x =>some ((x.1.o.code,x.1.o.value,()),(x.1,()))) (fun _ =>rfl) rfl (fun _ _ _ _ =>by kernel_rfl) (acr [aaX] ⟨aaP,trivial⟩ fun x =>by kernel_rfl) h
 | enter x =>exact aa9 (S:=SR1) (ps:=[]) (rs:=[.sh sI_,.sh sI_]) (c:=49) (mk:=MV.enter) (f:=143) (sp:=fun x =>some ((x.1.o.code,x.1.o.value,()),(x.1,()))) (fun _ =>rfl) rfl (fun _ _ _ _ =>by kernel_rfl) (acr [aaX] ⟨aaP,trivial⟩ fun x =>by kernel_rfl) h
 | drain x =>exact aa9 (S:=SR1) (ps:=[]) (rs:=[.sh sI_,.sh sI_]) (c:=41) (mk:=MV.drain) (f:=143) (sp:=fun x =>some ((x.1.o.code,x.1.o.value,()),(x.1,()))) (fun _ =>rfl) rfl (fun _ _ _ _ =>by kernel_rfl) (acr [aaX] ⟨aaP,trivial⟩ fun x =>by kernel_rfl) h
 | _ =>cases h
theorem ao7:CO Tryz.prog amD:=ajB (S:=SR1) (i:=1) (ps:=[]) (rs:=[.sh sI_,.sh sI_]) (spec:=fun m _ =>ado m) agp
noncomputable def aeO (y0:(RunV MV)) (y1:EnvP):Option ((Int×Unit)×((RunV MV)×EnvP×Unit)) :=
 if 0≤(tlI y0.stack)∧(tlI y0.stack)<((y0.stack.length:Nat):Int) then
 if 0≤tpI y0.stack∧tpI y0.stack<((y1.recs.length:Nat):Int) then
 if 0≤(tlI y0.stack)∧(tlI y0.stack)<((y0.stack.length:Nat):Int) then
 if 0≤tpI y0.stack∧tpI y0.stack<((y1.recs.length:Nat):Int) then
 if ((aab y1.recs (tpI y0.stack)).prog)<0 then
 if ((aab y1.recs (tpI y0.stack)).waiting)≠(-1) then
 some ((1,()),(y0,y1,()))
 else
 if ((aab y1.recs (tpI y0.stack)).pc)<0 then
 some ((16,()),(y0,y1,()))
 else
 if 0≤((aab y1.recs (tpI y0.stack)).pc) then
 some ((16,()),(y0,y1,()))
 else
 none
 else
 if ((y1.c.progs.length:Nat):Int)≤((aab y1.recs (tpI y0.stack)).prog) then
 if ((aab y1.recs (tpI y0.stack)).waiting)≠(-1) then
 some ((1,()),(y0,y1,()))
 else
 if ((aab y1.recs (tpI y0.stack)).pc)<0 then
 some ((16,()),(y0,y1,()))
 else
 if 0≤((aab y1.recs (tpI y0.stack)).pc) then
 some ((16,()),(y0,y1,()))
 else
 none
 else
 if 0≤(aab y1.recs (tpI y0.stack)).prog∧(aab y1.recs (tpI y0.stack)).prog<((y1.c.progs.length:Nat):Int) then
 if ((aab y1.recs (tpI y0.stack)).waiting)≠(-1) then
 some ((1,()),(y0,y1,()))
 else
 if ((aab y1.recs (tpI y0.stack)).pc)<0 then
 some ((16,()),(y0,y1,()))
 else
 if (((atL [] y1.c.progs ((aab y1.recs (tpI y0.stack)).prog)).length:Nat):Int)≤((aab y1.recs (tpI y0.stack)).pc) then
 some ((16,()),(y0,y1,()))
 else
 if 0≤(aab y1.recs (tpI y0.stack)).pc∧(aab y1.recs (tpI y0.stack)).pc<(((atL [] y1.c.progs ((aab y1.recs (tpI y0.stack)).prog)).length:Nat):Int) then
 if ((abX (atL [] y1.c.progs ((aab y1.recs (tpI y0.stack)).prog)) ((aab y1.recs (tpI y0.stack)).pc)).op)=0 then
 some ((2,()),(y0,y1,()))
 else
 if 0≤(aab y1.recs (tpI y0.stack)).pc∧(aab y1.recs (tpI y0.stack)).pc<(((atL [] y1.c.progs ((aab y1.recs (tpI y0.stack)).prog)).length:Nat):Int) then
 if ((abX (atL [] y1.c.progs ((aab y1.recs (tpI y0.stack)).prog)) ((aab y1.recs (tpI y0.stack)).pc)).op)=1 then
 some ((4,()),(y0,y1,()))
 else
 if 0≤(aab y1.recs (tpI y0.stack)).pc∧(aab y1.recs (tpI y0.stack)).pc<(((atL [] y1.c.progs ((aab y1.recs (tpI y0.stack)).prog)).length:Nat):Int) then
 if ((abX (atL [] y1.c.progs ((aab y1.recs (tpI y0.stack)).prog)) ((aab y1.recs (tpI y0.stack)).pc)).a)<0 then
 some ((3,()),(y0,y1,()))
 else
 if ((((aab y1.recs (tpI y0.stack)).kids).length:Nat):Int)≤((abX (atL [] y1.c.progs ((aab y1.recs (tpI y0.stack)).prog)) ((aab y1.recs (tpI y0.stack)).pc)).a) then
 some ((3,()),(y0,({ y1 with recs:=y1.recs.set (tpI y0.stack).toNat (aab y1.recs (tpI y0.stack)) }:EnvP),()))
 else
 if 0≤(abX (atL [] y1.c.progs ((aab y1.recs (tpI y0.stack)).prog)) ((aab y1.recs (tpI y0.stack)).pc)).a∧(abX (atL [] y1.c.progs ((aab y1.recs (tpI y0.stack)).prog)) ((aab y1.recs (tpI y0.stack)).pc)).a<((((aab y1.recs (tpI y0.stack)).kids).length:Nat):Int) then
 if (abn ((aab y1.recs (tpI y0.stack)).kids) ((abX (atL [] y1.c.progs ((aab y1.recs (tpI y0.stack)).prog)) ((aab y1.recs (tpI y0.stack)).pc)).a))=(-1) then
 some ((3,()),(y0,({ y1 with recs:=y1.recs.set (tpI y0.stack).toNat (aab y1.recs (tpI y0.stack)) }:EnvP),()))
 else
 some ((9,()),(y0,({ y1 with recs:=y1.recs.set (tpI y0.stack).toNat (aab y1.recs (tpI y0.stack)) }:EnvP),()))
 else none
 else none
 else none
 else none
 else none
 else none
 else none
 else none
 else none
noncomputable abbrev ahM:Con SR1:=⟨159,[.ref 33,.ref 27],[.sh sI_],fun x =>aeO x.1 x.2.1⟩
noncomputable def alo:List (Nat×Func):=[(164,Tryz.f164),(158,Tryz.f158),(165,Tryz.f165)]
theorem alp:CO Tryz.prog ahM:=agV aak Tryz.func159 [] trivial alo ⟨Tryz.func164,Tryz.func158,Tryz.func165,trivial⟩ (fun _ =>[]) [] fun x =>by kernel_rfl
noncomputable def aeL  : Option ((MV×Unit)×(Unit)) :=
 some ((MV.alloc (⟨⟨false,0,0⟩⟩:AllocV),()),())
noncomputable abbrev agA:Con SR1:=⟨98,[],[.sh .mach],fun x =>aeL ⟩
theorem aiJ:CO Tryz.prog agA:=aan aak Tryz.func98 [] trivial
noncomputable def aac (y0:(RunV MV)) (y1:Int) (y2:MV):Option ((Bool×Unit)×((RunV MV)×Unit)) :=
 some ((false,()),(({ y0 with line:=y1,inside:=y2 }:(RunV MV)),()))
noncomputable abbrev adm:Con SR1:=⟨168,[.ref 33,.sh sI_,.sh .mach],[.sh .b],fun x =>aac x.1 x.2.1 x.2.2.1⟩
theorem adC:CO Tryz.prog adm:=aan aak Tryz.func168 [] trivial
end
end Go.Proofs.YtidhehdanppcoaaGreat
