/- The program's machines in the evaluator's form. The program's machines in the evaluator's form. -/
import Derived.Test.YtdnimkpfgjcjeaaGreatEzaj
set_option linter.all false
namespace Go.Proofs.YtdnimkpfgjcjeaaGreat
section
open Go Go.RowKit
set_option maxRecDepth 100000
variable [Tb]
noncomputable def aeA (y0:(WalkV MV)) (y1:EnvP):Option ((Bool×Unit)×((WalkV MV)×EnvP×Unit)) :=
 if (SR1.spl y0.inside).isNone=true then
 (ajV y1 y0.task y0.level).bind fun r1 =>
 if (!r1.1.1)=true then
 (abh y0.o 4 0).bind fun r2 =>
 some ((r2.1.1,()),(({ y0 with o:=r2.2.1 }:(WalkV MV)),r1.2.1,()))
 else
 (anu y0.worker y0.task y0.level).bind fun r3 =>
 (adW r3.1.1 r1.2.1).bind fun r4 =>
 if (!r4.1.1)=true then
 some ((false,()),(({ y0 with inside:=r4.2.1 }:(WalkV MV)),r4.2.2.1,()))
 else
 (abv r4.2.1).bind fun r5 =>
 if r5.1.1=1 then
 some ((false,()),(({ y0 with line:=2,inside:=MV.nil }:(WalkV MV)),r4.2.2.1,()))
 else
 some ((false,()),(({ y0 with line:=4,inside:=MV.nil }:(WalkV MV)),r4.2.2.1,()))
 else
 (adW y0.inside y1).bind fun r6 =>
 if (!r6.1.1)=true then
 some ((false,()),(({ y0 with inside:=r6.2.1 }:(WalkV MV)),r6.2.2.1,()))
 else
 (abv r6.2.1).bind fun r7 =>
 if r7.1.1=1 then
 some ((false,()),(({ y0 with line:=2,inside:=MV.nil }:(WalkV MV)),r6.2.2.1,()))
 else
 some ((false,()),(({ y0 with line:=4,inside:=MV.nil }:(WalkV MV)),r6.2.2.1,()))
noncomputable abbrev ai1:Con SR1:=⟨256,[.ref 48,.ref 27],[.sh .b],fun x =>aeA x.1 x.2.1⟩
theorem ans:CO Tryz.prog ai1:=aak aaj Tryz.func256 [aln,acN,an1,aif,afm] ⟨an2,abz,asV,ahE,afl,trivial⟩ [] trivial (fun _ =>[]) [] fun x =>by kernel_rfl
noncomputable def acH (y0:Int) (y1:Int) (y2:Int):Option ((MV×Unit)×(Unit)) :=
 some ((MV.lpush (⟨⟨false,0,0⟩,y0,y1,y2,1,MV.nil⟩:(LPushV MV)),()),())
noncomputable abbrev aeP:Con SR1:=⟨193,[.sh sI_,.sh sI_,.sh sI_],[.sh .mach],fun x =>acH x.1 x.2.1 x.2.2.1⟩
theorem ae2:CO Tryz.prog aeP:=aak aaj Tryz.func193 [] trivial [] trivial (fun _ =>[]) [] fun x =>by kernel_rfl
noncomputable def aiK (y0:(WalkV MV)) (y1:EnvP):Option ((Unit)×((WalkV MV)×EnvP×Unit)) :=
 (adW y0.inside y1).bind fun r1 =>
 if (!r1.1.1)=true then
 some ((()),(({ y0 with inside:=r1.2.1 }:(WalkV MV)),r1.2.2.1,()))
 else
 (abv r1.2.1).bind fun r2 =>
 if r2.1.1=3 then
 (aep r1.2.2.1 ({ y0 with kind:=19,other:=0 }:Ev)).bind fun r3 =>
 some ((()),(({ y0 with line:=4,inside:=MV.nil }:(WalkV MV)),r3.2.1,()))
 else
 some ((()),(({ y0 with line:=4,inside:=MV.nil }:(WalkV MV)),r1.2.2.1,()))
noncomputable abbrev ajT:Con SR1:=⟨257,[.ref 48,.ref 27],[],fun x =>aiK x.1 x.2.1⟩
theorem aov:CO Tryz.prog ajT:=aak aaj Tryz.func257 [aif,afm,afn] ⟨ahE,afl,aeD,trivial⟩ [] trivial (fun _ =>[]) [] fun x =>by kernel_rfl
noncomputable def ab8 (y0:(WalkV MV)) (y1:EnvP):Option ((Bool×Unit)×((WalkV MV)×EnvP×Unit)) :=
 (aav y0.o).bind fun r1 =>
 if r1.1.1=true then
 some ((true,()),(({ y0 with o:=r1.2.1 }:(WalkV MV)),y1,()))
 else
 if y0.line=1 then
 (aeA ({ y0 with o:=r1.2.1 }:(WalkV MV)) y1).bind fun r2 =>
 some ((r2.1.1,()),(r2.2.1,r2.2.2.1,()))
 else
 if y0.line=2 then
 (ad8 y1.l y0.task).bind fun r3 =>
 (acG y1.m r3.1.1).bind fun r4 =>
 if r4.1.1=1 then
 (acH y0.worker y0.level y0.task).bind fun r5 =>
 some ((false,()),(({ y0 with o:=r1.2.1,line:=3,inside:=r5.1.1 }:(WalkV MV)),({ y1 with m:=r4.2.1 }:EnvP),()))
 else
 some ((false,()),(({ y0 with o:=r1.2.1,line:=4 }:(WalkV MV)),({ y1 with m:=r4.2.1 }:EnvP),()))
 else
 if y0.line=3 then
 (aiK ({ y0 with o:=r1.2.1 }:(WalkV MV)) y1).bind fun r6 =>
 some ((false,()),(r6.2.1,r6.2.2.1,()))
 else
 (aju y1.l y0.task).bind fun r7 =>
 (acG y1.m r7.1.1).bind fun r8 =>
 if r8.1.1=0 then
 (abh r1.2.1 0 0).bind fun r9 =>
 some ((r9.1.1,()),(({ y0 with o:=r9.2.1 }:(WalkV MV)),({ y1 with m:=r8.2.1 }:EnvP),()))
 else
 some ((false,()),(({ y0 with o:=r1.2.1,task:=wi (wu (r8.1.1-1)),line:=1 }:(WalkV MV)),({ y1 with m:=r8.2.1 }:EnvP),()))
noncomputable abbrev aqw:Con SR1:=⟨255,[.ref 48,.ref 27],[.sh .b],fun x =>ab8 x.1 x.2.1⟩
theorem aou:CO Tryz.prog aqw:=aak aaj Tryz.func255 [abn,ai1,afz,acM,aeP,ajT,aoK,acN] ⟨aa6,ans,aeZ,abT,ae2,aov,apD,abz,trivial⟩ [] trivial (fun _ =>[]) [] fun x =>by kernel_rfl
noncomputable def afO (y0:Int):Option ((MV×Unit)×(Unit)) :=
 some ((MV.lpop (⟨⟨false,0,0⟩,y0,0,1,MV.nil⟩:(LPopV MV)),()),())
noncomputable abbrev alc:Con SR1:=⟨145,[.sh sI_],[.sh .mach],fun x =>afO x.1⟩
theorem anV:CO Tryz.prog alc:=aak aaj Tryz.func145 [] trivial [] trivial (fun _ =>[]) [] fun x =>by kernel_rfl
noncomputable def acF (y0:Int) (y1:Int):Option ((MV×Unit)×(Unit)) :=
 some ((MV.claim (⟨⟨false,0,0⟩,y0,y1⟩:ClaimV),()),())
noncomputable abbrev afK:Con SR1:=⟨146,[.sh sI_,.sh sI_],[.sh .mach],fun x =>acF x.1 x.2.1⟩
theorem agy:CO Tryz.prog afK:=aak aaj Tryz.func146 [] trivial [] trivial (fun _ =>[]) [] fun x =>by kernel_rfl
noncomputable def aeM (y0:(TakeV MV)) (y1:EnvP):Option ((Bool×Unit)×((TakeV MV)×EnvP×Unit)) :=
 (aav y0.o).bind fun r1 =>
 if r1.1.1=true then
 some ((true,()),(({ y0 with o:=r1.2.1 }:(TakeV MV)),y1,()))
 else
 (adW y0.inside y1).bind fun r2 =>
 if (!r2.1.1)=true then
 some ((false,()),(({ y0 with o:=r1.2.1,inside:=r2.2.1 }:(TakeV MV)),r2.2.2.1,()))
 else
 (abv r2.2.1).bind fun r3 =>
 if y0.claiming=true then
 if r3.1.1=1 then
 (abh r1.2.1 1 r3.1.2.1).bind fun r4 =>
 some ((r4.1.1,()),(({ y0 with o:=r4.2.1,inside:=r3.2.1 }:(TakeV MV)),r2.2.2.1,()))
 else
 if y0.claiming=true then
 (afO y0.worker).bind fun r5 =>
 some ((false,()),((⟨r1.2.1,y0.worker,false,r5.1.1⟩:(TakeV MV)),r2.2.2.1,()))
 else
 if r3.1.1=2 then
 (abh r1.2.1 2 0).bind fun r6 =>
 some ((r6.1.1,()),(({ y0 with o:=r6.2.1,inside:=r3.2.1 }:(TakeV MV)),r2.2.2.1,()))
 else
 (acF y0.worker r3.1.2.1).bind fun r7 =>
 some ((false,()),((⟨r1.2.1,y0.worker,true,r7.1.1⟩:(TakeV MV)),r2.2.2.1,()))
 else
 if y0.claiming=true then
 (afO y0.worker).bind fun r8 =>
 some ((false,()),((⟨r1.2.1,y0.worker,false,r8.1.1⟩:(TakeV MV)),r2.2.2.1,()))
 else
 if r3.1.1=2 then
 (abh r1.2.1 2 0).bind fun r9 =>
 some ((r9.1.1,()),(({ y0 with o:=r9.2.1,inside:=r3.2.1 }:(TakeV MV)),r2.2.2.1,()))
 else
 (acF y0.worker r3.1.2.1).bind fun r10 =>
 some ((false,()),((⟨r1.2.1,y0.worker,true,r10.1.1⟩:(TakeV MV)),r2.2.2.1,()))
noncomputable abbrev aqF:Con SR1:=⟨188,[.ref 39,.ref 27],[.sh .b],fun x =>aeM x.1 x.2.1⟩
theorem apg:CO Tryz.prog aqF:=aak aaj Tryz.func188 [abn,aif,afm,acN,alc,afK] ⟨aa6,ahE,afl,abz,anV,agy,trivial⟩ [] trivial (fun _ =>[]) [] fun x =>by kernel_rfl
noncomputable def abD (y0:(SweepV MV)) (y1:EnvP):Option ((Bool×Unit)×((SweepV MV)×EnvP×Unit)) :=
 if y0.line=1 then
 ((
 if y0.task<0 then
 some (true,y0,y1,())
 else
 if y1.c.tasks≤y0.task then
 some (true,y0,y1,())
 else
 some (decide (y1.c.age=0),y0,y1,())
 ):Option (Bool×(SweepV MV)×EnvP×Unit)).bind fun z1 =>
 if z1.1=true then
 some ((true,()),(z1.2.1,z1.2.2.1,()))
 else
 (ad8 z1.2.2.1.l z1.2.1.task).bind fun r2 =>
 (acG z1.2.2.1.m r2.1.1).bind fun r3 =>
 some ((decide (r3.1.1≠1),()),(z1.2.1,({ z1.2.2.1 with m:=r3.2.1 }:EnvP),()))
 else
 if y0.line=2 then
 (aiX y1.l y0.task).bind fun r4 =>
 (acG y1.m r4.1.1).bind fun r5 =>
 (arX y1.k).bind fun r6 =>
 if y1.c.age=y1.c.age then
 some ((decide ((wi (r6.1.1-(wi (r5.1.1))))<y1.c.age),()),(y0,({ y1 with m:=r5.2.1,k:=r6.2.1 }:EnvP),()))
 else none
 else
 (afb y1.l y0.task).bind fun r7 =>
 (acG y1.m r7.1.1).bind fun r8 =>
 some ((decide ((wi (y1.c.levels-1))≤(wi (r8.1.1))),()),(({ y0 with q:=r8.1.1 }:(SweepV MV)),({ y1 with m:=r8.2.1 }:EnvP),()))
noncomputable abbrev ai2:Con SR1:=⟨191,[.ref 40,.ref 27],[.sh .b],fun x =>abD x.1 x.2.1⟩
theorem anE:CO Tryz.prog ai2:=aak aaj Tryz.func191 [afz,acM,aka,anT,agB] ⟨aeZ,abT,ajv,ak8,afL,trivial⟩ [] trivial (fun _ =>[]) [(4,.cut [.rg 36 .b,.ob 0 40,.ob 1 27] [])] fun x =>by kernel_rfl
noncomputable def abK (y0:(SweepV MV)) (y1:Int):Option ((Ev×Unit)×((SweepV MV)×Unit)) :=
 some ((({ y0 with kind:=y1,other:=0,level:=wi ((wi (y0.q))+1) }:Ev),()),(y0,()))
noncomputable abbrev aia:Con SR1:=⟨192,[.ref 40,.sh sI_],[.val 2],fun x =>abK x.1 x.2.1⟩
theorem amF:CO Tryz.prog aia:=aak aaj Tryz.func192 [] trivial [] trivial (fun _ =>[]) [] fun x =>by kernel_rfl
noncomputable def aaC (y0:(SweepV MV)) (y1:EnvP):Option ((Bool×Unit)×((SweepV MV)×EnvP×Unit)) :=
 (aav y0.o).bind fun r1 =>
 if r1.1.1=true then
 some ((true,()),(({ y0 with o:=r1.2.1 }:(SweepV MV)),y1,()))
 else
 if y0.line=1 then
 if y0.line=1 then
 (abD ({ y0 with o:=r1.2.1 }:(SweepV MV)) y1).bind fun r2 =>
 if r2.1.1=true then
 (abh r2.2.1.o 0 0).bind fun r3 =>
 some ((r3.1.1,()),(({ r2.2.1 with o:=r3.2.1 }:(SweepV MV)),r2.2.2.1,()))
 else
 some ((false,()),(({ r2.2.1 with line:=wi (r2.2.1.line+1) }:(SweepV MV)),r2.2.2.1,()))
 else
 if y0.line=4 then
 (afb y1.l y0.task).bind fun r4 =>
 if y0.q=y0.q then
 if y0.q=y0.q then
 (atb y1.m r4.1.1 y0.q (wu (y0.q+1))).bind fun r5 =>
 if (!r5.1.1)=true then
 (abh r1.2.1 4 0).bind fun r6 =>
 some ((r6.1.1,()),(({ y0 with o:=r6.2.1 }:(SweepV MV)),({ y1 with m:=r5.2.1 }:EnvP),()))
 else
 (abK ({ y0 with o:=r1.2.1 }:(SweepV MV)) 12).bind fun r7 =>
 (aep ({ y1 with m:=r5.2.1 }:EnvP) r7.1.1).bind fun r8 =>
 some ((false,()),(({ r7.2.1 with line:=wi (r7.2.1.line+1) }:(SweepV MV)),r8.2.1,()))
 else none
 else none
 else
 if y0.line=5 then
 (aiX y1.l y0.task).bind fun r9 =>
 (arX y1.k).bind fun r10 =>
 (aa3 y1.m r9.1.1 (wu (r10.1.1))).bind fun r11 =>
 (acH y0.worker (wi ((wi (y0.q))+1)) y0.task).bind fun r12 =>
 some ((false,()),(({ y0 with o:=r1.2.1,line:=wi (y0.line+1),push:=r12.1.1 }:(SweepV MV)),({ y1 with m:=r11.2.1,k:=r10.2.1 }:EnvP),()))
 else
 (adW y0.push y1).bind fun r13 =>
 if (!r13.1.1)=true then
 some ((false,()),(({ y0 with o:=r1.2.1,push:=r13.2.1 }:(SweepV MV)),r13.2.2.1,()))
 else
 (abv r13.2.1).bind fun r14 =>
 if r14.1.1=3 then
 (abK ({ y0 with o:=r1.2.1,push:=r14.2.1 }:(SweepV MV)) 19).bind fun r15 =>
 (aep r13.2.2.1 r15.1.1).bind fun r16 =>
 (abh r15.2.1.o 1 0).bind fun r17 =>
 some ((r17.1.1,()),(({ r15.2.1 with o:=r17.2.1 }:(SweepV MV)),r16.2.1,()))
 else
 (abh r1.2.1 1 0).bind fun r18 =>
 some ((r18.1.1,()),(({ y0 with o:=r18.2.1,push:=r14.2.1 }:(SweepV MV)),r13.2.2.1,()))
 else
 if y0.line=2 then
 if y0.line=2 then
 (abD ({ y0 with o:=r1.2.1 }:(SweepV MV)) y1).bind fun r19 =>
 if r19.1.1=true then
 (abh r19.2.1.o 0 0).bind fun r20 =>
 some ((r20.1.1,()),(({ r19.2.1 with o:=r20.2.1 }:(SweepV MV)),r19.2.2.1,()))
 else
 some ((false,()),(({ r19.2.1 with line:=wi (r19.2.1.line+1) }:(SweepV MV)),r19.2.2.1,()))
 else
 if y0.line=4 then
 (afb y1.l y0.task).bind fun r21 =>
 if y0.q=y0.q then
 if y0.q=y0.q then
 (atb y1.m r21.1.1 y0.q (wu (y0.q+1))).bind fun r22 =>
 if (!r22.1.1)=true then
 (abh r1.2.1 4 0).bind fun r23 =>
 some ((r23.1.1,()),(({ y0 with o:=r23.2.1 }:(SweepV MV)),({ y1 with m:=r22.2.1 }:EnvP),()))
 else
 (abK ({ y0 with o:=r1.2.1 }:(SweepV MV)) 12).bind fun r24 =>
 (aep ({ y1 with m:=r22.2.1 }:EnvP) r24.1.1).bind fun r25 =>
 some ((false,()),(({ r24.2.1 with line:=wi (r24.2.1.line+1) }:(SweepV MV)),r25.2.1,()))
 else none
 else none
 else
 if y0.line=5 then
 (aiX y1.l y0.task).bind fun r26 =>
 (arX y1.k).bind fun r27 =>
 (aa3 y1.m r26.1.1 (wu (r27.1.1))).bind fun r28 =>
 (acH y0.worker (wi ((wi (y0.q))+1)) y0.task).bind fun r29 =>
 some ((false,()),(({ y0 with o:=r1.2.1,line:=wi (y0.line+1),push:=r29.1.1 }:(SweepV MV)),({ y1 with m:=r28.2.1,k:=r27.2.1 }:EnvP),()))
 else
 (adW y0.push y1).bind fun r30 =>
 if (!r30.1.1)=true then
 some ((false,()),(({ y0 with o:=r1.2.1,push:=r30.2.1 }:(SweepV MV)),r30.2.2.1,()))
 else
 (abv r30.2.1).bind fun r31 =>
 if r31.1.1=3 then
 (abK ({ y0 with o:=r1.2.1,push:=r31.2.1 }:(SweepV MV)) 19).bind fun r32 =>
 (aep r30.2.2.1 r32.1.1).bind fun r33 =>
 (abh r32.2.1.o 1 0).bind fun r34 =>
 some ((r34.1.1,()),(({ r32.2.1 with o:=r34.2.1 }:(SweepV MV)),r33.2.1,()))
 else
 (abh r1.2.1 1 0).bind fun r35 =>
 some ((r35.1.1,()),(({ y0 with o:=r35.2.1,push:=r31.2.1 }:(SweepV MV)),r30.2.2.1,()))
 else
 if y0.line=3 then
 (abD ({ y0 with o:=r1.2.1 }:(SweepV MV)) y1).bind fun r36 =>
 if r36.1.1=true then
 (abh r36.2.1.o 0 0).bind fun r37 =>
 some ((r37.1.1,()),(({ r36.2.1 with o:=r37.2.1 }:(SweepV MV)),r36.2.2.1,()))
 else
 some ((false,()),(({ r36.2.1 with line:=wi (r36.2.1.line+1) }:(SweepV MV)),r36.2.2.1,()))
 else
 if y0.line=4 then
 (afb y1.l y0.task).bind fun r38 =>
 if y0.q=y0.q then
 if y0.q=y0.q then
 (atb y1.m r38.1.1 y0.q (wu (y0.q+1))).bind fun r39 =>
 if (!r39.1.1)=true then
 (abh r1.2.1 4 0).bind fun r40 =>
 some ((r40.1.1,()),(({ y0 with o:=r40.2.1 }:(SweepV MV)),({ y1 with m:=r39.2.1 }:EnvP),()))
 else
 (abK ({ y0 with o:=r1.2.1 }:(SweepV MV)) 12).bind fun r41 =>
 (aep ({ y1 with m:=r39.2.1 }:EnvP) r41.1.1).bind fun r42 =>
 some ((false,()),(({ r41.2.1 with line:=wi (r41.2.1.line+1) }:(SweepV MV)),r42.2.1,()))
 else none
 else none
 else
 if y0.line=5 then
 (aiX y1.l y0.task).bind fun r43 =>
 (arX y1.k).bind fun r44 =>
 (aa3 y1.m r43.1.1 (wu (r44.1.1))).bind fun r45 =>
 (acH y0.worker (wi ((wi (y0.q))+1)) y0.task).bind fun r46 =>
 some ((false,()),(({ y0 with o:=r1.2.1,line:=wi (y0.line+1),push:=r46.1.1 }:(SweepV MV)),({ y1 with m:=r45.2.1,k:=r44.2.1 }:EnvP),()))
 else
 (adW y0.push y1).bind fun r47 =>
 if (!r47.1.1)=true then
 some ((false,()),(({ y0 with o:=r1.2.1,push:=r47.2.1 }:(SweepV MV)),r47.2.2.1,()))
 else
 (abv r47.2.1).bind fun r48 =>
 if r48.1.1=3 then
 (abK ({ y0 with o:=r1.2.1,push:=r48.2.1 }:(SweepV MV)) 19).bind fun r49 =>
 (aep r47.2.2.1 r49.1.1).bind fun r50 =>
 (abh r49.2.1.o 1 0).bind fun r51 =>
 some ((r51.1.1,()),(({ r49.2.1 with o:=r51.2.1 }:(SweepV MV)),r50.2.1,()))
 else
 (abh r1.2.1 1 0).bind fun r52 =>
 some ((r52.1.1,()),(({ y0 with o:=r52.2.1,push:=r48.2.1 }:(SweepV MV)),r47.2.2.1,()))
noncomputable abbrev aoA:Con SR1:=⟨190,[.ref 40,.ref 27],[.sh .b],fun x =>aaC x.1 x.2.1⟩
theorem anD:CO Tryz.prog aoA:=aak aaj Tryz.func190 [abn,ai2,acN,agB,al0,aia,afn,aka,anT,adY,aeP,aif,afm] ⟨aa6,anE,abz,afL,ajA,amF,aeD,ajv,ak8,adt,ae2,ahE,afl,trivial⟩ [] trivial (fun _ =>[]) [] fun x =>by kernel_rfl
noncomputable def ab5 (y0:(EnterV MV)) (y1:EnvP):Option ((Bool×Unit)×((EnterV MV)×EnvP×Unit)) :=
 (aav y0.o).bind fun r1 =>
 if r1.1.1=true then
 some ((true,()),(({ y0 with o:=r1.2.1 }:(EnterV MV)),y1,()))
 else
 if y0.line=1 then
 (afj y1 y0.task).bind fun r2 =>
 if (!r2.1.1)=true then
 (abh r1.2.1 4 0).bind fun r3 =>
 some ((r3.1.1,()),(({ y0 with o:=r3.2.1 }:(EnterV MV)),r2.2.1,()))
 else
 (aiX r2.2.1.l y0.task).bind fun r4 =>
 (arX r2.2.1.k).bind fun r5 =>
 (aa3 r2.2.1.m r4.1.1 (wu (r5.1.1))).bind fun r6 =>
 some ((false,()),(({ y0 with o:=r1.2.1,line:=wi (y0.line+1) }:(EnterV MV)),({ r2.2.1 with m:=r6.2.1,k:=r5.2.1 }:EnvP),()))
 else
 if y0.line=2 then
 (ad8 y1.l y0.task).bind fun r7 =>
 (aa3 y1.m r7.1.1 1).bind fun r8 =>
 some ((false,()),(({ y0 with o:=r1.2.1,line:=wi (y0.line+1) }:(EnterV MV)),({ y1 with m:=r8.2.1 }:EnvP),()))
 else
 if y0.line=3 then
 (afb y1.l y0.task).bind fun r9 =>
 (acG y1.m r9.1.1).bind fun r10 =>
 (acH y0.worker (wi (r10.1.1)) y0.task).bind fun r11 =>
 some ((false,()),(({ y0 with o:=r1.2.1,level:=wi (r10.1.1),line:=wi (y0.line+1),push:=r11.1.1 }:(EnterV MV)),({ y1 with m:=r10.2.1 }:EnvP),()))
 else
 (adW y0.push y1).bind fun r12 =>
 if (!r12.1.1)=true then
 some ((false,()),(({ y0 with o:=r1.2.1,push:=r12.2.1 }:(EnterV MV)),r12.2.2.1,()))
 else
 (abv r12.2.1).bind fun r13 =>
 (abh r1.2.1 r13.1.1 y0.level).bind fun r14 =>
 some ((r14.1.1,()),(({ y0 with o:=r14.2.1,push:=r13.2.1 }:(EnterV MV)),r12.2.2.1,()))
noncomputable abbrev an6:Con SR1:=⟨261,[.ref 49,.ref 27],[.sh .b],fun x =>ab5 x.1 x.2.1⟩
theorem amM:CO Tryz.prog an6:=aak aaj Tryz.func261 [abn,agx,acN,aka,anT,adY,afz,agB,acM,aeP,aif,afm] ⟨aa6,ahq,abz,ajv,ak8,adt,aeZ,afL,abT,ae2,ahE,afl,trivial⟩ [] trivial (fun _ =>[]) [] fun x =>by kernel_rfl
noncomputable def avu (y0:Int):Option ((MV×Unit)×(Unit)) :=
 some ((MV.attempt (⟨⟨false,0,0⟩,y0,true⟩:AttemptV),()),())
noncomputable abbrev at7:Con SR1:=⟨198,[.sh sI_],[.sh .mach],fun x =>avu x.1⟩
theorem axC:CO Tryz.prog at7:=aak aaj Tryz.func198 [] trivial [] trivial (fun _ =>[]) [] fun x =>by kernel_rfl
noncomputable def aaL (y0:(DrainV MV)) (y1:Int) (y2:MV):Option ((Unit)×((DrainV MV)×Unit)) :=
 some ((()),(({ y0 with line:=y1,inside:=y2 }:(DrainV MV)),()))
noncomputable abbrev aec:Con SR1:=⟨197,[.ref 41,.sh sI_,.sh .mach],[],fun x =>aaL x.1 x.2.1 x.2.2.1⟩
theorem aeE:CO Tryz.prog aec:=aak aaj Tryz.func197 [] trivial [] trivial (fun _ =>[]) [] fun x =>by kernel_rfl
noncomputable def afA (y0:Int):Option ((MV×Unit)×(Unit)) :=
 some ((MV.remove (⟨⟨false,0,0⟩,y0,1,0,0,0,0,0,0⟩:RemoveV),()),())
noncomputable abbrev aiZ:Con SR1:=⟨203,[.sh sI_],[.sh .mach],fun x =>afA x.1⟩
theorem anl:CO Tryz.prog aiZ:=aak aaj Tryz.func203 [] trivial [] trivial (fun _ =>[]) [] fun x =>by kernel_rfl
noncomputable def abo (y0:(DrainV MV)):Option ((Unit)×((DrainV MV)×Unit)) :=
 (afA y0.worker).bind fun r1 =>
 (aaL y0 3 r1.1.1).bind fun r2 =>
 some ((()),(r2.2.1,()))
noncomputable abbrev ahh:Con SR1:=⟨200,[.ref 41],[],fun x =>abo x.1⟩
theorem alf:CO Tryz.prog ahh:=aak aaj Tryz.func200 [aiZ,aec] ⟨anl,aeE,trivial⟩ [] trivial (fun _ =>[]) [] fun x =>by kernel_rfl
noncomputable def afo  : Option ((MV×Unit)×(Unit)) :=
 some ((MV.release (⟨⟨false,0,0⟩⟩:ReleaseV),()),())
noncomputable abbrev aiq:Con SR1:=⟨109,[],[.sh .mach],fun x =>afo ⟩
theorem akS:CO Tryz.prog aiq:=aak aaj Tryz.func109 [] trivial [] trivial (fun _ =>[]) [] fun x =>by kernel_rfl
noncomputable def aa2 (y0:(DrainV MV)):Option ((Unit)×((DrainV MV)×Unit)) :=
 (afo).bind fun r1 =>
 (aaL y0 6 r1.1.1).bind fun r2 =>
 some ((()),(r2.2.1,()))
noncomputable abbrev aeJ:Con SR1:=⟨196,[.ref 41],[],fun x =>aa2 x.1⟩
theorem agp:CO Tryz.prog aeJ:=aak aaj Tryz.func196 [aiq,aec] ⟨akS,aeE,trivial⟩ [] trivial (fun _ =>[]) [] fun x =>by kernel_rfl
noncomputable def ac1 (y0:(DrainV MV)) (y1:Int):Option ((Unit)×((DrainV MV)×Unit)) :=
 if y1=3 then
 (aa2 ({ y0 with direct:=true }:(DrainV MV))).bind fun r1 =>
 some ((()),(r1.2.1,()))
 else
 some ((()),(({ y0 with last:=y0.p,count:=wi (y0.count+1) }:(DrainV MV)),()))
noncomputable abbrev ahi:Con SR1:=⟨201,[.ref 41,.sh sI_],[],fun x =>ac1 x.1 x.2.1⟩
theorem alg:CO Tryz.prog ahi:=aak aaj Tryz.func201 [aeJ] ⟨agp,trivial⟩ [] trivial (fun _ =>[]) [] fun x =>by kernel_rfl
noncomputable def ac8 (y0:Int) (y1:Int):Option ((MV×Unit)×(Unit)) :=
 some ((MV.wake (⟨⟨false,0,0⟩,y0,y1,1,0,0⟩:WakeV),()),())
noncomputable abbrev ahT:Con SR1:=⟨110,[.sh sI_,.sh sI_],[.sh .mach],fun x =>ac8 x.1 x.2.1⟩
theorem aik:CO Tryz.prog ahT:=aak aaj Tryz.func110 [] trivial [] trivial (fun _ =>[]) [] fun x =>by kernel_rfl
noncomputable def aa0 (y0:(DrainV MV)):Option ((Bool×Unit)×((DrainV MV)×Unit)) :=
 if y0.direct=true then
 (abh y0.o 1 y0.x).bind fun r1 =>
 some ((r1.1.1,()),(({ y0 with o:=r1.2.1 }:(DrainV MV)),()))
 else
 if 0<y0.count then
 (abh y0.o 0 y0.count).bind fun r2 =>
 some ((r2.1.1,()),(({ y0 with o:=r2.2.1 }:(DrainV MV)),()))
 else
 (abh y0.o 2 0).bind fun r3 =>
 some ((r3.1.1,()),(({ y0 with o:=r3.2.1 }:(DrainV MV)),()))
noncomputable abbrev ahj:Con SR1:=⟨202,[.ref 41],[.sh .b],fun x =>aa0 x.1⟩
theorem alh:CO Tryz.prog ahj:=aak aaj Tryz.func202 [acN] ⟨abz,trivial⟩ [] trivial (fun _ =>[]) [] fun x =>by kernel_rfl
noncomputable def acS (y0:(DrainV MV)) (y1:EnvP) (y2:Int) (y3:Int):Option ((Bool×Unit)×((DrainV MV)×EnvP×Unit)) :=
 if y0.line=2 then
 if y2=5 then
 (abh y0.o 5 0).bind fun r1 =>
 some ((r1.1.1,()),(({ y0 with o:=r1.2.1 }:(DrainV MV)),y1,()))
 else
 if y0.line=2 then
 (abo y0).bind fun r2 =>
 some ((false,()),(r2.2.1,y1,()))
 else
 if y0.line=3 then
 if y2=2 then
 (aa2 y0).bind fun r3 =>
 some ((false,()),(r3.2.1,y1,()))
 else
 if y0.line=3 then
 (aaL ({ y0 with x:=y3 }:(DrainV MV)) 4 MV.nil).bind fun r4 =>
 some ((false,()),(r4.2.1,y1,()))
 else
 if y0.line=5 then
 (ac1 y0 y2).bind fun r5 =>
 if r5.2.1.direct=true then
 some ((false,()),(r5.2.1,y1,()))
 else
 if r5.2.1.count<y1.c.batch then
 (abo r5.2.1).bind fun r6 =>
 some ((false,()),(r6.2.1,y1,()))
 else
 (aa2 r5.2.1).bind fun r7 =>
 some ((false,()),(r7.2.1,y1,()))
 else
 if y0.line=6 then
 if 0<y0.count then
 (ac8 y0.worker y0.last).bind fun r8 =>
 (aaL y0 7 r8.1.1).bind fun r9 =>
 some ((false,()),(r9.2.1,y1,()))
 else
 (aa0 y0).bind fun r10 =>
 some ((r10.1.1,()),(r10.2.1,y1,()))
 else
 (aa0 y0).bind fun r11 =>
 some ((r11.1.1,()),(r11.2.1,y1,()))
 else
 if y0.line=3 then
 (aaL ({ y0 with x:=y3 }:(DrainV MV)) 4 MV.nil).bind fun r12 =>
 some ((false,()),(r12.2.1,y1,()))
 else
 if y0.line=5 then
 (ac1 y0 y2).bind fun r13 =>
 if r13.2.1.direct=true then
 some ((false,()),(r13.2.1,y1,()))
 else
 if r13.2.1.count<y1.c.batch then
 (abo r13.2.1).bind fun r14 =>
 some ((false,()),(r14.2.1,y1,()))
 else
 (aa2 r13.2.1).bind fun r15 =>
 some ((false,()),(r15.2.1,y1,()))
 else
 if y0.line=6 then
 if 0<y0.count then
 (ac8 y0.worker y0.last).bind fun r16 =>
 (aaL y0 7 r16.1.1).bind fun r17 =>
 some ((false,()),(r17.2.1,y1,()))
 else
 (aa0 y0).bind fun r18 =>
 some ((r18.1.1,()),(r18.2.1,y1,()))
 else
 (aa0 y0).bind fun r19 =>
 some ((r19.1.1,()),(r19.2.1,y1,()))
 else
 if y0.line=2 then
 (abo y0).bind fun r20 =>
 some ((false,()),(r20.2.1,y1,()))
 else
 if y0.line=3 then
 if y2=2 then
 (aa2 y0).bind fun r21 =>
 some ((false,()),(r21.2.1,y1,()))
 else
 if y0.line=3 then
 (aaL ({ y0 with x:=y3 }:(DrainV MV)) 4 MV.nil).bind fun r22 =>
 some ((false,()),(r22.2.1,y1,()))
 else
 if y0.line=5 then
 (ac1 y0 y2).bind fun r23 =>
 if r23.2.1.direct=true then
 some ((false,()),(r23.2.1,y1,()))
 else
 if r23.2.1.count<y1.c.batch then
 (abo r23.2.1).bind fun r24 =>
 some ((false,()),(r24.2.1,y1,()))
 else
 (aa2 r23.2.1).bind fun r25 =>
 some ((false,()),(r25.2.1,y1,()))
 else
 if y0.line=6 then
 if 0<y0.count then
 (ac8 y0.worker y0.last).bind fun r26 =>
 (aaL y0 7 r26.1.1).bind fun r27 =>
 some ((false,()),(r27.2.1,y1,()))
 else
 (aa0 y0).bind fun r28 =>
 some ((r28.1.1,()),(r28.2.1,y1,()))
 else
 (aa0 y0).bind fun r29 =>
 some ((r29.1.1,()),(r29.2.1,y1,()))
 else
 if y0.line=3 then
 (aaL ({ y0 with x:=y3 }:(DrainV MV)) 4 MV.nil).bind fun r30 =>
 some ((false,()),(r30.2.1,y1,()))
 else
 if y0.line=5 then
 (ac1 y0 y2).bind fun r31 =>
 if r31.2.1.direct=true then
 some ((false,()),(r31.2.1,y1,()))
 else
 if r31.2.1.count<y1.c.batch then
 (abo r31.2.1).bind fun r32 =>
 some ((false,()),(r32.2.1,y1,()))
 else
 (aa2 r31.2.1).bind fun r33 =>
 some ((false,()),(r33.2.1,y1,()))
 else
 if y0.line=6 then
 if 0<y0.count then
 (ac8 y0.worker y0.last).bind fun r34 =>
 (aaL y0 7 r34.1.1).bind fun r35 =>
 some ((false,()),(r35.2.1,y1,()))
 else
 (aa0 y0).bind fun r36 =>
 some ((r36.1.1,()),(r36.2.1,y1,()))
 else
 (aa0 y0).bind fun r37 =>
 some ((r37.1.1,()),(r37.2.1,y1,()))
noncomputable abbrev ah4:Con SR1:=⟨199,[.ref 41,.ref 27,.sh sI_,.sh sI_],[.sh .b],fun x =>acS x.1 x.2.1 x.2.2.1 x.2.2.2.1⟩
theorem amq:CO Tryz.prog ah4:=aak aaj Tryz.func199 [acN,ahh,aeJ,aec,ahi,ahT,ahj] ⟨abz,alf,agp,aeE,alg,aik,alh,trivial⟩ [] trivial (fun _ =>[]) [] fun x =>by kernel_rfl
noncomputable def abl (y0:(DrainV MV)) (y1:EnvP):Option ((Bool×Unit)×((DrainV MV)×EnvP×Unit)) :=
 (aav y0.o).bind fun r1 =>
 if r1.1.1=true then
 some ((true,()),(({ y0 with o:=r1.2.1 }:(DrainV MV)),y1,()))
 else
 if y0.line=1 then
 (agn y1.l).bind fun r2 =>
 (acG y1.m r2.1.1).bind fun r3 =>
 if (wi (r3.1.1))≤0 then
 (abh r1.2.1 2 0).bind fun r4 =>
 some ((r4.1.1,()),(({ y0 with o:=r4.2.1 }:(DrainV MV)),({ y1 with m:=r3.2.1 }:EnvP),()))
 else
 (avu y0.worker).bind fun r5 =>
 (aaL ({ y0 with o:=r1.2.1 }:(DrainV MV)) 2 r5.1.1).bind fun r6 =>
 some ((false,()),(r6.2.1,({ y1 with m:=r3.2.1 }:EnvP),()))
 else
 if y0.line=4 then
 (afb y1.l y0.x).bind fun r7 =>
 (acG y1.m r7.1.1).bind fun r8 =>
 (acH y0.worker (wi (r8.1.1)) y0.x).bind fun r9 =>
 (aaL ({ y0 with o:=r1.2.1,p:=wi (r8.1.1) }:(DrainV MV)) 5 r9.1.1).bind fun r10 =>
 some ((false,()),(r10.2.1,({ y1 with m:=r8.2.1 }:EnvP),()))
 else
 (adW y0.inside y1).bind fun r11 =>
 if (!r11.1.1)=true then
 some ((false,()),(({ y0 with o:=r1.2.1,inside:=r11.2.1 }:(DrainV MV)),r11.2.2.1,()))
 else
 (abv r11.2.1).bind fun r12 =>
 (acS ({ y0 with o:=r1.2.1,inside:=r12.2.1 }:(DrainV MV)) r11.2.2.1 r12.1.1 r12.1.2.1).bind fun r13 =>
 some ((r13.1.1,()),(r13.2.1,r13.2.2.1,()))
noncomputable abbrev aos:Con SR1:=⟨195,[.ref 41,.ref 27],[.sh .b],fun x =>abl x.1 x.2.1⟩
theorem anp:CO Tryz.prog aos:=aak aaj Tryz.func195 [abn,akc,acM,acN,at7,aec,agB,aeP,aif,afm,ah4] ⟨aa6,ajz,abT,abz,axC,aeE,afL,ae2,ahE,afl,amq,trivial⟩ [] trivial (fun _ =>[]) [] fun x =>by kernel_rfl
noncomputable def aeV (m:MV) (e:EnvP):Option ((Bool×Unit)×(MV×EnvP×Unit)) :=
 match m with
 | .alloc x =>(ab2 x e).bind fun o =>some (o.1,(MV.alloc o.2.1,o.2.2))
 | .publish x =>(abO x e).bind fun o =>some (o.1,(MV.publish o.2.1,o.2.2))
 | .claim x =>(adh x e).bind fun o =>some (o.1,(MV.claim o.2.1,o.2.2))
 | .attempt x =>(acR x e).bind fun o =>some (o.1,(MV.attempt o.2.1,o.2.2))
 | .release x =>(acQ x e).bind fun o =>some (o.1,(MV.release o.2.1,o.2.2))
 | .opush x =>(adF x e).bind fun o =>some (o.1,(MV.opush o.2.1,o.2.2))
 | .opop x =>(ad9 x e).bind fun o =>some (o.1,(MV.opop o.2.1,o.2.2))
 | .steal x =>(adg x e).bind fun o =>some (o.1,(MV.steal o.2.1,o.2.2))
 | .set x =>(adJ x e).bind fun o =>some (o.1,(MV.set o.2.1,o.2.2))
 | .reset x =>(acU x e).bind fun o =>some (o.1,(MV.reset o.2.1,o.2.2))
 | .insert x =>(abH x e).bind fun o =>some (o.1,(MV.insert o.2.1,o.2.2))
 | .remove x =>(abG x e).bind fun o =>some (o.1,(MV.remove o.2.1,o.2.2))
 | .sleep x =>(ac9 x e).bind fun o =>some (o.1,(MV.sleep o.2.1,o.2.2))
 | .wake x =>(adz x e).bind fun o =>some (o.1,(MV.wake o.2.1,o.2.2))
 | .raise x =>(acB x e).bind fun o =>some (o.1,(MV.raise o.2.1,o.2.2))
 | .probe x =>(abk x e).bind fun o =>some (o.1,(MV.probe o.2.1,o.2.2))
 | .lpush x =>(acA x e).bind fun o =>some (o.1,(MV.lpush o.2.1,o.2.2))
 | .lpop x =>(ada x e).bind fun o =>some (o.1,(MV.lpop o.2.1,o.2.2))
 | .walk x =>(ab8 x e).bind fun o =>some (o.1,(MV.walk o.2.1,o.2.2))
 | .take x =>(aeM x e).bind fun o =>some (o.1,(MV.take o.2.1,o.2.2))
 | .sweep x =>(aaC x e).bind fun o =>some (o.1,(MV.sweep o.2.1,o.2.2))
 | .enter x =>(ab5 x e).bind fun o =>some (o.1,(MV.enter o.2.1,o.2.2))
 | .drain x =>(abl x e).bind fun o =>some (o.1,(MV.drain o.2.1,o.2.2))
 | _ =>none
noncomputable abbrev aoD:Con SR1:=⟨1000000000,[.mch,.ref 27],[.sh .b],fun x =>aeV x.1 x.2.1⟩
theorem aj4 (m:MV) (xs:alp SR1 [.ref 27]) (out:alr SR1 [.sh .b]×(MV×aj0 SR1 [.ref 27])) (h:aeV m xs.1=some out):aqR SR1 Tryz.prog 0 [.ref 27] [.sh .b] m xs out:=by
 cases m with
 | alloc x =>exact aaz (.alloc x) xs out h
 | publish x =>exact aaz (.publish x) xs out h
 | claim x =>exact aaz (.claim x) xs out h
 | attempt x =>exact aaz (.attempt x) xs out h
 | release x =>exact aaz (.release x) xs out h
 | opush x =>exact aaz (.opush x) xs out h
 | opop x =>exact aaz (.opop x) xs out h
 | steal x =>exact aaz (.steal x) xs out h
 | set x =>exact aaz (.set x) xs out h
 | reset x =>exact aaz (.reset x) xs out h
 | insert x =>exact aaz (.insert x) xs out h
 | remove x =>exact aaz (.remove x) xs out h
 | sleep x =>exact aaz (.sleep x) xs out h
 | wake x =>exact aaz (.wake x) xs out h
 | raise x =>exact aaz (.raise x) xs out h
 | probe x =>exact aaz (.probe x) xs out h
 | lpush x =>exact alx (.lpush x) xs out h
 | lpop x =>exact alx (.lpop x) xs out h
 | walk x =>exact aa8 (S:=SR1) (ps:=[.ref 27]) (rs:=[.sh .b]) (c:=48) (mk:=MV.walk) (fun _ =>rfl) rfl (fun _ _ _ _ =>by kernel_rfl) aou h
 | take x =>exact aa8 (S:=SR1) (ps:=[.ref 27]) (rs:=[.sh .b]) (c:=39) (mk:=MV.take) (fun _ =>rfl) rfl (fun _ _ _ _ =>by kernel_rfl) apg h
 | sweep x =>exact aa8 (S:=SR1) (ps:=[.ref 27]) (rs:=[.sh .b]) (c:=40) (mk:=MV.sweep) (fun _ =>rfl) rfl (fun _ _ _ _ =>by kernel_rfl) anD h
 | enter x =>exact aa8 (S:=SR1) (ps:=[.ref 27]) (rs:=[.sh .b]) (c:=49) (mk:=MV.enter) (fun _ =>rfl) rfl (fun _ _ _ _ =>by kernel_rfl) amM h
 | drain x =>exact aa8 (S:=SR1) (ps:=[.ref 27]) (rs:=[.sh .b]) (c:=41) (mk:=MV.drain) (fun _ =>rfl) rfl (fun _ _ _ _ =>by kernel_rfl) anp h
 | _ =>cases h
theorem apk:CO Tryz.prog aoD:=ajN (S:=SR1) (i:=0) (ps:=[.ref 27]) (rs:=[.sh .b]) (spec:=fun m xs =>aeV m xs.1) aj4
noncomputable def adD (m:MV):Option ((Int×Int×Unit)×(MV×Unit)) :=
 match m with
 | .alloc x =>some ((x.o.code,x.o.value,()),(MV.alloc x,()))
 | .publish x =>some ((x.o.code,x.o.value,()),(MV.publish x,()))
 | .claim x =>some ((x.o.code,x.o.value,()),(MV.claim x,()))
 | .attempt x =>some ((x.o.code,x.o.value,()),(MV.attempt x,()))
 | .release x =>some ((x.o.code,x.o.value,()),(MV.release x,()))
 | .opush x =>some ((x.o.code,x.o.value,()),(MV.opush x,()))
 | .opop x =>some ((x.o.code,x.o.value,()),(MV.opop x,()))
 | .steal x =>some ((x.o.code,x.o.value,()),(MV.steal x,()))
 | .set x =>some ((x.o.code,x.o.value,()),(MV.set x,()))
 | .reset x =>some ((x.o.code,x.o.value,()),(MV.reset x,()))
 | .insert x =>some ((x.o.code,x.o.value,()),(MV.insert x,()))
 | .remove x =>some ((x.o.code,x.o.value,()),(MV.remove x,()))
 | .sleep x =>some ((x.o.code,x.o.value,()),(MV.sleep x,()))
 | .wake x =>some ((x.o.code,x.o.value,()),(MV.wake x,()))
 | .raise x =>some ((x.o.code,x.o.value,()),(MV.raise x,()))
 | .probe x =>some ((x.o.code,x.o.value,()),(MV.probe x,()))
 | .lpush x =>some ((x.o.code,x.o.value,()),(MV.lpush x,()))
 | .lpop x =>some ((x.o.code,x.o.value,()),(MV.lpop x,()))
 | .walk x =>some ((x.o.code,x.o.value,()),(MV.walk x,()))
 | .take x =>some ((x.o.code,x.o.value,()),(MV.take x,()))
 | .sweep x =>some ((x.o.code,x.o.value,()),(MV.sweep x,()))
 | .enter x =>some ((x.o.code,x.o.value,()),(MV.enter x,()))
 | .drain x =>some ((x.o.code,x.o.value,()),(MV.drain x,()))
 | _ =>none
noncomputable abbrev amV:Con SR1:=⟨1000000001,[.mch],[.sh sI_,.sh sI_],fun x =>adD x.1⟩
theorem agI (m:MV) (xs:alp SR1 []) (out:alr SR1 [.sh sI_,.sh sI_]×(MV×aj0 SR1 [])) (h:adD m=some out):aqR SR1 Tryz.prog 1 [] [.sh sI_,.sh sI_] m xs out:=by
 cases m with
 | alloc x =>exact aan (.alloc x) xs out h
 | publish x =>exact aan (.publish x) xs out h
 | claim x =>exact aan (.claim x) xs out h
 | attempt x =>exact aan (.attempt x) xs out h
 | release x =>exact aan (.release x) xs out h
 | opush x =>exact aan (.opush x) xs out h
 | opop x =>exact aan (.opop x) xs out h
 | steal x =>exact aan (.steal x) xs out h
 | set x =>exact aan (.set x) xs out h
 | reset x =>exact aan (.reset x) xs out h
 | insert x =>exact aan (.insert x) xs out h
 | remove x =>exact aan (.remove x) xs out h
 | sleep x =>exact aan (.sleep x) xs out h
 | wake x =>exact aan (.wake x) xs out h
 | raise x =>exact aan (.raise x) xs out h
 | probe x =>exact aan (.probe x) xs out h
 | lpush x =>exact ahQ (.lpush x) xs out h
 | lpop x =>exact ahQ (.lpop x) xs out h
 | walk x =>exact aa8 (S:=SR1) (ps:=[]) (rs:=[.sh sI_,.sh sI_]) (c:=48) (mk:=MV.walk) (f:=150) (sp:=fun x =>some ((x.1.o.code,x.1.o.value,()),(x.1,()))) (fun _ =>rfl) rfl (fun _ _ _ _ =>by kernel_rfl) (acy [aaZ] ⟨aaR,trivial⟩ fun x =>by kernel_rfl) h
 | take x =>exact aa8 (S:=SR1) (ps:=[]) (rs:=[.sh sI_,.sh sI_]) (c:=39) (mk:=MV.take) (f:=150) (sp:=fun x =>some ((x.1.o.code,x.1.o.value,()),(x.1,()))) (fun _ =>rfl) rfl (fun _ _ _ _ =>by kernel_rfl) (acy [aaZ] ⟨aaR,trivial⟩ fun x =>by kernel_rfl) h
 | sweep x =>exact aa8 (S:=SR1) (ps:=[]) (rs:=[.sh sI_,.sh sI_]) (c:=40) (mk:=MV.sweep) (f:=150) (sp:=fun x =>some ((x.1.o.code,x.1.o.value,()),(x.1,()))) (fun _ =>rfl) rfl (fun _ _ _ _ =>by kernel_rfl) (acy [aaZ] ⟨aaR,trivial⟩ fun x =>by kernel_rfl) h
 | enter x =>exact aa8 (S:=SR1) (ps:=[]) (rs:=[.sh sI_,.sh sI_]) (c:=49) (mk:=MV.enter) (f:=150) (sp:=fun x =>some ((x.1.o.code,x.1.o.value,()),(x.1,()))) (fun _ =>rfl) rfl (fun _ _ _ _ =>by kernel_rfl) (acy [aaZ] ⟨aaR,trivial⟩ fun x =>by kernel_rfl) h
 | drain x =>exact aa8 (S:=SR1) (ps:=[]) (rs:=[.sh sI_,.sh sI_]) (c:=41) (mk:=MV.drain) (f:=150) (sp:=fun x =>some ((x.1.o.code,x.1.o.value,()),(x.1,()))) (fun _ =>rfl) rfl (fun _ _ _ _ =>by kernel_rfl) (acy [aaZ] ⟨aaR,trivial⟩ fun x =>by kernel_rfl) h
 | _ =>cases h
theorem apt:CO Tryz.prog amV:=ajN (S:=SR1) (i:=1) (ps:=[]) (rs:=[.sh sI_,.sh sI_]) (spec:=fun m _ =>adD m) agI
noncomputable def aeX (y0:(RunV MV)) (y1:EnvP):Option ((Int×Unit)×((RunV MV)×EnvP×Unit)) :=
 if 0≤(tlI y0.stack)∧(tlI y0.stack)<((y0.stack.length:Nat):Int) then
 if 0≤tpI y0.stack∧tpI y0.stack<((y1.recs.length:Nat):Int) then
 if 0≤(tlI y0.stack)∧(tlI y0.stack)<((y0.stack.length:Nat):Int) then
 if 0≤tpI y0.stack∧tpI y0.stack<((y1.recs.length:Nat):Int) then
 if ((aab y1.recs (tpI y0.stack)).prog)<0 then
 if ((aab y1.recs (tpI y0.stack)).waiting)≠(-1) then
 some ((1,()),(y0,y1,()))
 else
 if ((aab y1.recs (tpI y0.stack)).pc)<0 then
 some ((16,()),(y0,y1,()))
 else
 if 0≤((aab y1.recs (tpI y0.stack)).pc) then
 some ((16,()),(y0,y1,()))
 else
 none
 else
 if ((y1.c.progs.length:Nat):Int)≤((aab y1.recs (tpI y0.stack)).prog) then
 if ((aab y1.recs (tpI y0.stack)).waiting)≠(-1) then
 some ((1,()),(y0,y1,()))
 else
 if ((aab y1.recs (tpI y0.stack)).pc)<0 then
 some ((16,()),(y0,y1,()))
 else
 if 0≤((aab y1.recs (tpI y0.stack)).pc) then
 some ((16,()),(y0,y1,()))
 else
 none
 else
 if 0≤(aab y1.recs (tpI y0.stack)).prog∧(aab y1.recs (tpI y0.stack)).prog<((y1.c.progs.length:Nat):Int) then
 if ((aab y1.recs (tpI y0.stack)).waiting)≠(-1) then
 some ((1,()),(y0,y1,()))
 else
 if ((aab y1.recs (tpI y0.stack)).pc)<0 then
 some ((16,()),(y0,y1,()))
 else
 if (((atL [] y1.c.progs ((aab y1.recs (tpI y0.stack)).prog)).length:Nat):Int)≤((aab y1.recs (tpI y0.stack)).pc) then
 some ((16,()),(y0,y1,()))
 else
 if 0≤(aab y1.recs (tpI y0.stack)).pc∧(aab y1.recs (tpI y0.stack)).pc<(((atL [] y1.c.progs ((aab y1.recs (tpI y0.stack)).prog)).length:Nat):Int) then
 if ((acu (atL [] y1.c.progs ((aab y1.recs (tpI y0.stack)).prog)) ((aab y1.recs (tpI y0.stack)).pc)).op)=0 then
 some ((2,()),(y0,y1,()))
 else
 if 0≤(aab y1.recs (tpI y0.stack)).pc∧(aab y1.recs (tpI y0.stack)).pc<(((atL [] y1.c.progs ((aab y1.recs (tpI y0.stack)).prog)).length:Nat):Int) then
 if ((acu (atL [] y1.c.progs ((aab y1.recs (tpI y0.stack)).prog)) ((aab y1.recs (tpI y0.stack)).pc)).op)=1 then
 some ((4,()),(y0,y1,()))
 else
 if 0≤(aab y1.recs (tpI y0.stack)).pc∧(aab y1.recs (tpI y0.stack)).pc<(((atL [] y1.c.progs ((aab y1.recs (tpI y0.stack)).prog)).length:Nat):Int) then
 if ((acu (atL [] y1.c.progs ((aab y1.recs (tpI y0.stack)).prog)) ((aab y1.recs (tpI y0.stack)).pc)).a)<0 then
 some ((3,()),(y0,y1,()))
 else
 if ((((aab y1.recs (tpI y0.stack)).kids).length:Nat):Int)≤((acu (atL [] y1.c.progs ((aab y1.recs (tpI y0.stack)).prog)) ((aab y1.recs (tpI y0.stack)).pc)).a) then
 some ((3,()),(y0,({ y1 with recs:=y1.recs.set (tpI y0.stack).toNat (aab y1.recs (tpI y0.stack)) }:EnvP),()))
 else
 if 0≤(acu (atL [] y1.c.progs ((aab y1.recs (tpI y0.stack)).prog)) ((aab y1.recs (tpI y0.stack)).pc)).a∧(acu (atL [] y1.c.progs ((aab y1.recs (tpI y0.stack)).prog)) ((aab y1.recs (tpI y0.stack)).pc)).a<((((aab y1.recs (tpI y0.stack)).kids).length:Nat):Int) then
 if (ahz ((aab y1.recs (tpI y0.stack)).kids) ((acu (atL [] y1.c.progs ((aab y1.recs (tpI y0.stack)).prog)) ((aab y1.recs (tpI y0.stack)).pc)).a))=(-1) then
 some ((3,()),(y0,({ y1 with recs:=y1.recs.set (tpI y0.stack).toNat (aab y1.recs (tpI y0.stack)) }:EnvP),()))
 else
 some ((9,()),(y0,({ y1 with recs:=y1.recs.set (tpI y0.stack).toNat (aab y1.recs (tpI y0.stack)) }:EnvP),()))
 else none
 else none
 else none
 else none
 else none
 else none
 else none
 else none
 else none
noncomputable abbrev ahO:Con SR1:=⟨213,[.ref 33,.ref 27],[.sh sI_],fun x =>aeX x.1 x.2.1⟩
noncomputable def alI:List (Nat×Func):=[(218,Tryz.f218),(212,Tryz.f212),(219,Tryz.f219)]
theorem alJ:CO Tryz.prog ahO:=aak aaj Tryz.func213 [] trivial alI ⟨Tryz.func218,Tryz.func212,Tryz.func219,trivial⟩ (fun _ =>[]) [] fun x =>by kernel_rfl
noncomputable def aeU  : Option ((MV×Unit)×(Unit)) :=
 some ((MV.alloc (⟨⟨false,0,0⟩⟩:AllocV),()),())
noncomputable abbrev agQ:Con SR1:=⟨107,[],[.sh .mach],fun x =>aeU ⟩
theorem aiR:CO Tryz.prog agQ:=aak aaj Tryz.func107 [] trivial [] trivial (fun _ =>[]) [] fun x =>by kernel_rfl
noncomputable def aac (y0:(RunV MV)) (y1:Int) (y2:MV):Option ((Bool×Unit)×((RunV MV)×Unit)) :=
 some ((false,()),(({ y0 with line:=y1,inside:=y2 }:(RunV MV)),()))
noncomputable abbrev adC:Con SR1:=⟨222,[.ref 33,.sh sI_,.sh .mach],[.sh .b],fun x =>aac x.1 x.2.1 x.2.2.1⟩
theorem adR:CO Tryz.prog adC:=aak aaj Tryz.func222 [] trivial [] trivial (fun _ =>[]) [] fun x =>by kernel_rfl
noncomputable def aaF (y0:(RunV MV)) (y1:EnvP):Option ((Bool×Unit)×((RunV MV)×EnvP×Unit)) :=
 if 0≤(tlI y0.stack)∧(tlI y0.stack)<((y0.stack.length:Nat):Int) then
 if 0≤tpI y0.stack∧tpI y0.stack<((y1.recs.length:Nat):Int) then
 if y0.line=1 then
 if 0≤(tlI y0.stack)∧(tlI y0.stack)<((y0.stack.length:Nat):Int) then
 if y1.l.workers=y1.l.workers then
 if y1.l.levels=y1.l.levels then
 if y1.l.classes=y1.l.classes then
 if y1.l.tasks=y1.l.tasks then
 if y1.l.deque=y1.l.deque then
 if y1.l.heap=y1.l.heap then
 if y1.l.sleepers=y1.l.sleepers then
 if y1.l.epochs=y1.l.epochs then
 if y1.l.bitmaps=y1.l.bitmaps then
 if y1.l.queues=y1.l.queues then
 if y1.l.table=y1.l.table then
 (aju y1.l (tpI y0.stack)).bind fun r1 =>
 (aa3 y1.m r1.1.1 0).bind fun r2 =>
 (aac y0 0 MV.nil).bind fun r3 =>
 some ((r3.1.1,()),(r3.2.1,({ y1 with m:=r2.2.1,recs:=y1.recs.set (tpI y0.stack).toNat ({ aab y1.recs (tpI y0.stack) with waiting:=(-1) }:RecP) }:EnvP),()))
 else none
 else none
 else none
 else none
 else none
 else none
 else none
 else none
 else none
 else none
 else none
 else none
 else
 if y0.line=2 then
 if ((aab y1.recs (tpI y0.stack)).left)=0 then
 if 0≤(tlI y0.stack)∧(tlI y0.stack)<((y0.stack.length:Nat):Int) then
 if 0≤tpI y0.stack∧tpI y0.stack<((y1.recs.length:Nat):Int) then
 if ((aab y1.recs (tpI y0.stack)).prog)<0 then
 if 0≤(tlI y0.stack)∧(tlI y0.stack)<((y0.stack.length:Nat):Int) then
 if 0≤tpI y0.stack∧tpI y0.stack<((y1.recs.length:Nat):Int) then
 none
 else none
 else none
 else
 if ((y1.c.progs.length:Nat):Int)≤((aab y1.recs (tpI y0.stack)).prog) then
 if 0≤(tlI y0.stack)∧(tlI y0.stack)<((y0.stack.length:Nat):Int) then
 if 0≤tpI y0.stack∧tpI y0.stack<((y1.recs.length:Nat):Int) then
 none
 else none
 else none
 else
 if 0≤(aab y1.recs (tpI y0.stack)).prog∧(aab y1.recs (tpI y0.stack)).prog<((y1.c.progs.length:Nat):Int) then
 if 0≤(tlI y0.stack)∧(tlI y0.stack)<((y0.stack.length:Nat):Int) then
 if 0≤tpI y0.stack∧tpI y0.stack<((y1.recs.length:Nat):Int) then
 if 0≤(aab y1.recs (tpI y0.stack)).pc∧(aab y1.recs (tpI y0.stack)).pc<(((atL [] y1.c.progs ((aab y1.recs (tpI y0.stack)).prog)).length:Nat):Int) then
 if ((aab ((y1.recs.set (tpI y0.stack).toNat ({ aab y1.recs (tpI y0.stack) with left:=(acu (atL [] y1.c.progs ((aab y1.recs (tpI y0.stack)).prog)) ((aab y1.recs (tpI y0.stack)).pc)).a }:RecP)).set (tpI y0.stack).toNat ({ aab (y1.recs.set (tpI y0.stack).toNat ({ aab y1.recs (tpI y0.stack) with left:=(acu (atL [] y1.c.progs ((aab y1.recs (tpI y0.stack)).prog)) ((aab y1.recs (tpI y0.stack)).pc)).a }:RecP)) (tpI y0.stack) with left:=wi (((aab (y1.recs.set (tpI y0.stack).toNat ({ aab y1.recs (tpI y0.stack) with left:=(acu (atL [] y1.c.progs ((aab y1.recs (tpI y0.stack)).prog)) ((aab y1.recs (tpI y0.stack)).pc)).a }:RecP)) (tpI y0.stack)).left)-1) }:RecP)) (tpI y0.stack)).left)=0 then
 (aac y0 0 MV.nil).bind fun r4 =>
 some ((r4.1.1,()),(r4.2.1,({ y1 with recs:=((y1.recs.set (tpI y0.stack).toNat ({ aab y1.recs (tpI y0.stack) with left:=(acu (atL [] y1.c.progs ((aab y1.recs (tpI y0.stack)).prog)) ((aab y1.recs (tpI y0.stack)).pc)).a }:RecP)).set (tpI y0.stack).toNat ({ aab (y1.recs.set (tpI y0.stack).toNat ({ aab y1.recs (tpI y0.stack) with left:=(acu (atL [] y1.c.progs ((aab y1.recs (tpI y0.stack)).prog)) ((aab y1.recs (tpI y0.stack)).pc)).a }:RecP)) (tpI y0.stack) with left:=wi (((aab (y1.recs.set (tpI y0.stack).toNat ({ aab y1.recs (tpI y0.stack) with left:=(acu (atL [] y1.c.progs ((aab y1.recs (tpI y0.stack)).prog)) ((aab y1.recs (tpI y0.stack)).pc)).a }:RecP)) (tpI y0.stack)).left)-1) }:RecP)).set (tpI y0.stack).toNat ({ aab ((y1.recs.set (tpI y0.stack).toNat ({ aab y1.recs (tpI y0.stack) with left:=(acu (atL [] y1.c.progs ((aab y1.recs (tpI y0.stack)).prog)) ((aab y1.recs (tpI y0.stack)).pc)).a }:RecP)).set (tpI y0.stack).toNat ({ aab (y1.recs.set (tpI y0.stack).toNat ({ aab y1.recs (tpI y0.stack) with left:=(acu (atL [] y1.c.progs ((aab y1.recs (tpI y0.stack)).prog)) ((aab y1.recs (tpI y0.stack)).pc)).a }:RecP)) (tpI y0.stack) with left:=wi (((aab (y1.recs.set (tpI y0.stack).toNat ({ aab y1.recs (tpI y0.stack) with left:=(acu (atL [] y1.c.progs ((aab y1.recs (tpI y0.stack)).prog)) ((aab y1.recs (tpI y0.stack)).pc)).a }:RecP)) (tpI y0.stack)).left)-1) }:RecP)) (tpI y0.stack) with pc:=wi (((aab ((y1.recs.set (tpI y0.stack).toNat ({ aab y1.recs (tpI y0.stack) with left:=(acu (atL [] y1.c.progs ((aab y1.recs (tpI y0.stack)).prog)) ((aab y1.recs (tpI y0.stack)).pc)).a }:RecP)).set (tpI y0.stack).toNat ({ aab (y1.recs.set (tpI y0.stack).toNat ({ aab y1.recs (tpI y0.stack) with left:=(acu (atL [] y1.c.progs ((aab y1.recs (tpI y0.stack)).prog)) ((aab y1.recs (tpI y0.stack)).pc)).a }:RecP)) (tpI y0.stack) with left:=wi (((aab (y1.recs.set (tpI y0.stack).toNat ({ aab y1.recs (tpI y0.stack) with left:=(acu (atL [] y1.c.progs ((aab y1.recs (tpI y0.stack)).prog)) ((aab y1.recs (tpI y0.stack)).pc)).a }:RecP)) (tpI y0.stack)).left)-1) }:RecP)) (tpI y0.stack)).pc)+1) }:RecP) }:EnvP),()))
 else
 (aac y0 0 MV.nil).bind fun r5 =>
 some ((r5.1.1,()),(r5.2.1,({ y1 with recs:=(y1.recs.set (tpI y0.stack).toNat ({ aab y1.recs (tpI y0.stack) with left:=(acu (atL [] y1.c.progs ((aab y1.recs (tpI y0.stack)).prog)) ((aab y1.recs (tpI y0.stack)).pc)).a }:RecP)).set (tpI y0.stack).toNat ({ aab (y1.recs.set (tpI y0.stack).toNat ({ aab y1.recs (tpI y0.stack) with left:=(acu (atL [] y1.c.progs ((aab y1.recs (tpI y0.stack)).prog)) ((aab y1.recs (tpI y0.stack)).pc)).a }:RecP)) (tpI y0.stack) with left:=wi (((aab (y1.recs.set (tpI y0.stack).toNat ({ aab y1.recs (tpI y0.stack) with left:=(acu (atL [] y1.c.progs ((aab y1.recs (tpI y0.stack)).prog)) ((aab y1.recs (tpI y0.stack)).pc)).a }:RecP)) (tpI y0.stack)).left)-1) }:RecP) }:EnvP),()))
 else none
 else none
 else none
 else none
 else none
 else none
 else
 if ((aab (y1.recs.set (tpI y0.stack).toNat ({ aab y1.recs (tpI y0.stack) with left:=wi (((aab y1.recs (tpI y0.stack)).left)-1) }:RecP)) (tpI y0.stack)).left)=0 then
 (aac y0 0 MV.nil).bind fun r6 =>
 some ((r6.1.1,()),(r6.2.1,({ y1 with recs:=(y1.recs.set (tpI y0.stack).toNat ({ aab y1.recs (tpI y0.stack) with left:=wi (((aab y1.recs (tpI y0.stack)).left)-1) }:RecP)).set (tpI y0.stack).toNat ({ aab (y1.recs.set (tpI y0.stack).toNat ({ aab y1.recs (tpI y0.stack) with left:=wi (((aab y1.recs (tpI y0.stack)).left)-1) }:RecP)) (tpI y0.stack) with pc:=wi (((aab (y1.recs.set (tpI y0.stack).toNat ({ aab y1.recs (tpI y0.stack) with left:=wi (((aab y1.recs (tpI y0.stack)).left)-1) }:RecP)) (tpI y0.stack)).pc)+1) }:RecP) }:EnvP),()))
 else
 (aac y0 0 MV.nil).bind fun r7 =>
 some ((r7.1.1,()),(r7.2.1,({ y1 with recs:=y1.recs.set (tpI y0.stack).toNat ({ aab y1.recs (tpI y0.stack) with left:=wi (((aab y1.recs (tpI y0.stack)).left)-1) }:RecP) }:EnvP),()))
 else
 (aac y0 0 MV.nil).bind fun r8 =>
 some ((r8.1.1,()),(r8.2.1,({ y1 with recs:=y1.recs.set (tpI y0.stack).toNat ({ aab y1.recs (tpI y0.stack) with pc:=wi (((aab y1.recs (tpI y0.stack)).pc)+1) }:RecP) }:EnvP),()))
 else none
 else none
noncomputable abbrev ahK:Con SR1:=⟨214,[.ref 33,.ref 27],[.sh .b],fun x =>aaF x.1 x.2.1⟩
noncomputable def alC:List (Nat×Func):=[(218,Tryz.f218),(212,Tryz.f212),(221,Tryz.f221),(219,Tryz.f219)]
theorem alD:CO Tryz.prog ahK:=aak aaj Tryz.func214 [aoK,adY,adC] ⟨apD,adt,adR,trivial⟩ alC ⟨Tryz.func218,Tryz.func212,Tryz.func221,Tryz.func219,trivial⟩ (fun _ =>[]) [] fun x =>by kernel_rfl
noncomputable def aaG (y0:(RunV MV)) (y1:EnvP) (y2:Ev):Option ((Unit)×((RunV MV)×EnvP×Unit)) :=
 (aep y1 ({ y2 with worker:=y0.worker }:Ev)).bind fun r1 =>
 some ((()),(y0,r1.2.1,()))
noncomputable abbrev ad6:Con SR1:=⟨224,[.ref 33,.ref 27,.val 2],[],fun x =>aaG x.1 x.2.1 x.2.2.1⟩
theorem aeC:CO Tryz.prog ad6:=aak aaj Tryz.func224 [afn] ⟨aeD,trivial⟩ [] trivial (fun _ =>[]) [] fun x =>by kernel_rfl
noncomputable def aji (y0:Int) (y1:Int):Option ((MV×Unit)×(Unit)) :=
 some ((MV.publish (⟨⟨false,0,0⟩,y0,y1,1⟩:PublishV),()),())
noncomputable abbrev akJ:Con SR1:=⟨229,[.sh sI_,.sh sI_],[.sh .mach],fun x =>aji x.1 x.2.1⟩
theorem aph:CO Tryz.prog akJ:=aak aaj Tryz.func229 [] trivial [] trivial (fun _ =>[]) [] fun x =>by kernel_rfl
noncomputable def aci (y0:(RunV MV)) (y1:EnvP) (y2:Int) (y3:Int):Option ((Bool×Unit)×((RunV MV)×EnvP×Unit)) :=
 if 0≤(tlI y0.stack)∧(tlI y0.stack)<((y0.stack.length:Nat):Int) then
 if 0≤tpI y0.stack∧tpI y0.stack<((y1.recs.length:Nat):Int) then
 if 0≤(tlI y0.stack)∧(tlI y0.stack)<((y0.stack.length:Nat):Int) then
 if 0≤tpI y0.stack∧tpI y0.stack<((y1.recs.length:Nat):Int) then
 if ((aab y1.recs (tpI y0.stack)).prog)<0 then
 if 0≤(tlI y0.stack)∧(tlI y0.stack)<((y0.stack.length:Nat):Int) then
 if 0≤tpI y0.stack∧tpI y0.stack<((y1.recs.length:Nat):Int) then
 none
 else none
 else none
 else
 if ((y1.c.progs.length:Nat):Int)≤((aab y1.recs (tpI y0.stack)).prog) then
 if 0≤(tlI y0.stack)∧(tlI y0.stack)<((y0.stack.length:Nat):Int) then
 if 0≤tpI y0.stack∧tpI y0.stack<((y1.recs.length:Nat):Int) then
 none
 else none
 else none
 else
 if 0≤(aab y1.recs (tpI y0.stack)).prog∧(aab y1.recs (tpI y0.stack)).prog<((y1.c.progs.length:Nat):Int) then
 if 0≤(tlI y0.stack)∧(tlI y0.stack)<((y0.stack.length:Nat):Int) then
 if 0≤tpI y0.stack∧tpI y0.stack<((y1.recs.length:Nat):Int) then
 if 0≤(aab y1.recs (tpI y0.stack)).pc∧(aab y1.recs (tpI y0.stack)).pc<(((atL [] y1.c.progs ((aab y1.recs (tpI y0.stack)).prog)).length:Nat):Int) then
 if y2=3 then
 if (((((aab (y1.recs.set (tpI y0.stack).toNat ({ aab y1.recs (tpI y0.stack) with pc:=wi (((aab y1.recs (tpI y0.stack)).pc)+1) }:RecP)) (tpI y0.stack)).kids).length+([(-1)]:List Int).length:Nat)):Int)<1000000000000 then
 if 0≤(tlI y0.stack)∧(tlI y0.stack)<((y0.stack.length:Nat):Int) then
 (aaG y0 ({ y1 with recs:=(y1.recs.set (tpI y0.stack).toNat ({ aab y1.recs (tpI y0.stack) with pc:=wi (((aab y1.recs (tpI y0.stack)).pc)+1) }:RecP)).set (tpI y0.stack).toNat ({ aab (y1.recs.set (tpI y0.stack).toNat ({ aab y1.recs (tpI y0.stack) with pc:=wi (((aab y1.recs (tpI y0.stack)).pc)+1) }:RecP)) (tpI y0.stack) with kids:=((aab (y1.recs.set (tpI y0.stack).toNat ({ aab y1.recs (tpI y0.stack) with pc:=wi (((aab y1.recs (tpI y0.stack)).pc)+1) }:RecP)) (tpI y0.stack)).kids)++([(-1)]) }:RecP) }:EnvP) (⟨4,0,tpI y0.stack,0,0⟩:Ev)).bind fun r1 =>
 (aac r1.2.1 0 MV.nil).bind fun r2 =>
 some ((r2.1.1,()),(r2.2.1,r1.2.2.1,()))
 else none
 else none
 else
 if (((((aab (y1.recs.set (tpI y0.stack).toNat ({ aab y1.recs (tpI y0.stack) with pc:=wi (((aab y1.recs (tpI y0.stack)).pc)+1) }:RecP)) (tpI y0.stack)).kids).length+([y3]:List Int).length:Nat)):Int)<1000000000000 then
 if 0≤(tlI y0.stack)∧(tlI y0.stack)<((y0.stack.length:Nat):Int) then
 if ((acu (atL [] y1.c.progs ((aab y1.recs (tpI y0.stack)).prog)) ((aab y1.recs (tpI y0.stack)).pc)).a)=((acu (atL [] y1.c.progs ((aab y1.recs (tpI y0.stack)).prog)) ((aab y1.recs (tpI y0.stack)).pc)).a) then
 if 0≤y3∧y3<((((y1.recs.set (tpI y0.stack).toNat ({ aab y1.recs (tpI y0.stack) with pc:=wi (((aab y1.recs (tpI y0.stack)).pc)+1) }:RecP)).set (tpI y0.stack).toNat ({ aab (y1.recs.set (tpI y0.stack).toNat ({ aab y1.recs (tpI y0.stack) with pc:=wi (((aab y1.recs (tpI y0.stack)).pc)+1) }:RecP)) (tpI y0.stack) with kids:=((aab (y1.recs.set (tpI y0.stack).toNat ({ aab y1.recs (tpI y0.stack) with pc:=wi (((aab y1.recs (tpI y0.stack)).pc)+1) }:RecP)) (tpI y0.stack)).kids)++([y3]) }:RecP)).length:Nat):Int) then
 if ((acu (atL [] y1.c.progs ((aab y1.recs (tpI y0.stack)).prog)) ((aab y1.recs (tpI y0.stack)).pc)).b)=((acu (atL [] y1.c.progs ((aab y1.recs (tpI y0.stack)).prog)) ((aab y1.recs (tpI y0.stack)).pc)).b) then
 (aji y3 ((acu (atL [] y1.c.progs ((aab y1.recs (tpI y0.stack)).prog)) ((aab y1.recs (tpI y0.stack)).pc)).b)).bind fun r3 =>
 (aac ({ y0 with id:=y3,level:=(acu (atL [] y1.c.progs ((aab y1.recs (tpI y0.stack)).prog)) ((aab y1.recs (tpI y0.stack)).pc)).b }:(RunV MV)) 5 r3.1.1).bind fun r4 =>
 some ((r4.1.1,()),(r4.2.1,({ y1 with recs:=((y1.recs.set (tpI y0.stack).toNat ({ aab y1.recs (tpI y0.stack) with pc:=wi (((aab y1.recs (tpI y0.stack)).pc)+1) }:RecP)).set (tpI y0.stack).toNat ({ aab (y1.recs.set (tpI y0.stack).toNat ({ aab y1.recs (tpI y0.stack) with pc:=wi (((aab y1.recs (tpI y0.stack)).pc)+1) }:RecP)) (tpI y0.stack) with kids:=((aab (y1.recs.set (tpI y0.stack).toNat ({ aab y1.recs (tpI y0.stack) with pc:=wi (((aab y1.recs (tpI y0.stack)).pc)+1) }:RecP)) (tpI y0.stack)).kids)++([y3]) }:RecP)).set y3.toNat (⟨(acu (atL [] y1.c.progs ((aab y1.recs (tpI y0.stack)).prog)) ((aab y1.recs (tpI y0.stack)).pc)).a,tpI y0.stack,0,0,(-1),[],false⟩:RecP) }:EnvP),()))
 else none
 else none
 else none
 else none
 else none
 else none
 else none
 else none
 else none
 else none
 else none
 else none
 else none
noncomputable abbrev agl:Con SR1:=⟨223,[.ref 33,.ref 27,.sh sI_,.sh sI_],[.sh .b],fun x =>aci x.1 x.2.1 x.2.2.1 x.2.2.2.1⟩
noncomputable def ajo:List (Nat×Func):=[(218,Tryz.f218),(212,Tryz.f212),(221,Tryz.f221),(219,Tryz.f219)]
theorem ajp:CO Tryz.prog agl:=aak aaj Tryz.func223 [ad6,adC,akJ] ⟨aeC,adR,aph,trivial⟩ ajo ⟨Tryz.func218,Tryz.func212,Tryz.func221,Tryz.func219,trivial⟩ (fun _ =>[]) [(8,.close)] fun x =>by kernel_rfl
noncomputable def abj (y0:(RunV MV)) (y1:EnvP):Option ((Bool×Unit)×((RunV MV)×EnvP×Unit)) :=
 (aeV y0.inside y1).bind fun r1 =>
 if (!r1.1.1)=true then
 some ((false,()),(({ y0 with inside:=r1.2.1 }:(RunV MV)),r1.2.2.1,()))
 else
 (adD r1.2.1).bind fun r2 =>
 if y0.line=4 then
 (aci ({ y0 with inside:=r2.2.1 }:(RunV MV)) r1.2.2.1 r2.1.1 r2.1.2.1).bind fun r3 =>
 some ((r3.1.1,()),(r3.2.1,r3.2.2.1,()))
 else
 if y0.line=5 then
 if 0≤(tlI y0.stack)∧(tlI y0.stack)<((y0.stack.length:Nat):Int) then
 if y0.level=y0.level then
 if y0.id=y0.id then
 (aaG ({ y0 with inside:=r2.2.1 }:(RunV MV)) r1.2.2.1 (⟨3,0,y0.id,tpI y0.stack,y0.level⟩:Ev)).bind fun r4 =>
 (acH r4.2.1.worker r4.2.1.level r4.2.1.id).bind fun r5 =>
 (aac r4.2.1 6 r5.1.1).bind fun r6 =>
 some ((r6.1.1,()),(r6.2.1,r4.2.2.1,()))
 else none
 else none
 else none
 else
 if y0.line=6 then
 if r2.1.1=3 then
 (acF y0.worker y0.id).bind fun r7 =>
 (aac ({ y0 with inside:=r2.2.1 }:(RunV MV)) 8 r7.1.1).bind fun r8 =>
 some ((r8.1.1,()),(r8.2.1,r1.2.2.1,()))
 else
 (ac8 y0.worker y0.level).bind fun r9 =>
 (aac ({ y0 with inside:=r2.2.1 }:(RunV MV)) 7 r9.1.1).bind fun r10 =>
 some ((r10.1.1,()),(r10.2.1,r1.2.2.1,()))
 else
 if y0.line=8 then
 if r2.1.1=1 then
 if (((y0.stack.length+([y0.id]:List Int).length:Nat)):Int)<1000000000000 then
 (aac ({ y0 with stack:=y0.stack++([y0.id]),inside:=r2.2.1 }:(RunV MV)) 0 MV.nil).bind fun r11 =>
 some ((r11.1.1,()),(r11.2.1,r1.2.2.1,()))
 else none
 else
 (aac ({ y0 with inside:=r2.2.1 }:(RunV MV)) 0 MV.nil).bind fun r12 =>
 some ((r12.1.1,()),(r12.2.1,r1.2.2.1,()))
 else
 (aac ({ y0 with inside:=r2.2.1 }:(RunV MV)) 0 MV.nil).bind fun r13 =>
 some ((r13.1.1,()),(r13.2.1,r1.2.2.1,()))
noncomputable abbrev aiT:Con SR1:=⟨215,[.ref 33,.ref 27],[.sh .b],fun x =>abj x.1 x.2.1⟩
noncomputable def amR:List (Nat×Func):=[(212,Tryz.f212)]
theorem amS:CO Tryz.prog aiT:=aak aaj Tryz.func215 [aoD,amV,agl,ad6,aeP,adC,afK,ahT] ⟨apk,apt,ajp,aeC,ae2,adR,agy,aik,trivial⟩ amR ⟨Tryz.func212,trivial⟩ (fun _ =>[]) [] fun x =>by kernel_rfl
noncomputable def ajU (y0:Int) (y1:Int) (y2:Int):Option ((MV×Unit)×(Unit)) :=
 some ((MV.walk (⟨⟨false,0,0⟩,y0,y1,y2,1,MV.nil⟩:(WalkV MV)),()),())
noncomputable abbrev aqv:Con SR1:=⟨226,[.sh sI_,.sh sI_,.sh sI_],[.sh .mach],fun x =>ajU x.1 x.2.1 x.2.2.1⟩
theorem auC:CO Tryz.prog aqv:=aak aaj Tryz.func226 [] trivial [] trivial (fun _ =>[]) [] fun x =>by kernel_rfl
noncomputable def aao (y0:(RunV MV)):Option ((Bool×Unit)×((RunV MV)×Unit)) :=
 if 0≤(tlI y0.stack)∧(tlI y0.stack)≤((y0.stack.length:Nat):Int) then
 if (((y0.stack.take ((tlI y0.stack):Int).toNat).length:Nat):Int)=0 then
 (abh y0.o 0 0).bind fun r1 =>
 some ((r1.1.1,()),(({ y0 with o:=r1.2.1,stack:=y0.stack.take ((tlI y0.stack):Int).toNat }:(RunV MV)),()))
 else
 (aac ({ y0 with stack:=y0.stack.take ((tlI y0.stack):Int).toNat }:(RunV MV)) 0 MV.nil).bind fun r2 =>
 some ((r2.1.1,()),(r2.2.1,()))
 else none
noncomputable abbrev af9:Con SR1:=⟨227,[.ref 33],[.sh .b],fun x =>aao x.1⟩
theorem ahL:CO Tryz.prog af9:=aak aaj Tryz.func227 [acN,adC] ⟨abz,adR,trivial⟩ [] trivial (fun _ =>[]) [] fun x =>by kernel_rfl
noncomputable def agS (y0:(RunV MV)) (y1:EnvP):Option ((Bool×Unit)×((RunV MV)×EnvP×Unit)) :=
 agr (
 if 0≤(tlI y0.stack)∧(tlI y0.stack)<((y0.stack.length:Nat):Int) then
 if y1.l.workers=y1.l.workers then
 if y1.l.levels=y1.l.levels then
 if y1.l.classes=y1.l.classes then
 if y1.l.tasks=y1.l.tasks then
 if y1.l.deque=y1.l.deque then
 if y1.l.heap=y1.l.heap then
 if y1.l.sleepers=y1.l.sleepers then
 if y1.l.epochs=y1.l.epochs then
 if y1.l.bitmaps=y1.l.bitmaps then
 if y1.l.queues=y1.l.queues then
 if y1.l.table=y1.l.table then
 if y1.l.workers=y1.l.workers then
 if y1.l.levels=y1.l.levels then
 if y1.l.classes=y1.l.classes then
 if y1.l.tasks=y1.l.tasks then
 if y1.l.deque=y1.l.deque then
 if y1.l.heap=y1.l.heap then
 if y1.l.sleepers=y1.l.sleepers then
 if y1.l.epochs=y1.l.epochs then
 if y1.l.bitmaps=y1.l.bitmaps then
 if y1.l.queues=y1.l.queues then
 if y1.l.table=y1.l.table then
 if y0.line=9 then
 if 0≤(tlI y0.stack)∧(tlI y0.stack)<((y0.stack.length:Nat):Int) then
 if 0≤tpI y0.stack∧tpI y0.stack<((y1.recs.length:Nat):Int) then
 if 0≤(tlI y0.stack)∧(tlI y0.stack)<((y0.stack.length:Nat):Int) then
 if 0≤tpI y0.stack∧tpI y0.stack<((y1.recs.length:Nat):Int) then
 if (tpI y0.stack)=(tpI y0.stack) then
 if ((aab y1.recs (tpI y0.stack)).prog)<0 then
 if 0≤(tlI y0.stack)∧(tlI y0.stack)<((y0.stack.length:Nat):Int) then
 if 0≤tpI y0.stack∧tpI y0.stack<((y1.recs.length:Nat):Int) then
 if (tpI y0.stack)=(tpI y0.stack) then
 none
 else none
 else none
 else none
 else
 if ((y1.c.progs.length:Nat):Int)≤((aab y1.recs (tpI y0.stack)).prog) then
 if 0≤(tlI y0.stack)∧(tlI y0.stack)<((y0.stack.length:Nat):Int) then
 if 0≤tpI y0.stack∧tpI y0.stack<((y1.recs.length:Nat):Int) then
 if (tpI y0.stack)=(tpI y0.stack) then
 none
 else none
 else none
 else none
 else
 if 0≤(aab y1.recs (tpI y0.stack)).prog∧(aab y1.recs (tpI y0.stack)).prog<((y1.c.progs.length:Nat):Int) then
 if 0≤(tlI y0.stack)∧(tlI y0.stack)<((y0.stack.length:Nat):Int) then
 if 0≤tpI y0.stack∧tpI y0.stack<((y1.recs.length:Nat):Int) then
 if (tpI y0.stack)=(tpI y0.stack) then
 if 0≤(aab y1.recs (tpI y0.stack)).pc∧(aab y1.recs (tpI y0.stack)).pc<(((atL [] y1.c.progs ((aab y1.recs (tpI y0.stack)).prog)).length:Nat):Int) then
 if 0≤(acu (atL [] y1.c.progs ((aab y1.recs (tpI y0.stack)).prog)) ((aab y1.recs (tpI y0.stack)).pc)).a∧(acu (atL [] y1.c.progs ((aab y1.recs (tpI y0.stack)).prog)) ((aab y1.recs (tpI y0.stack)).pc)).a<((((aab y1.recs (tpI y0.stack)).kids).length:Nat):Int) then
 (aju y1.l (tpI y0.stack)).bind fun r26 =>
 if (ahz ((aab y1.recs (tpI y0.stack)).kids) ((acu (atL [] y1.c.progs ((aab y1.recs (tpI y0.stack)).prog)) ((aab y1.recs (tpI y0.stack)).pc)).a))=(ahz ((aab y1.recs (tpI y0.stack)).kids) ((acu (atL [] y1.c.progs ((aab y1.recs (tpI y0.stack)).prog)) ((aab y1.recs (tpI y0.stack)).pc)).a)) then
 (aa3 y1.m r26.1.1 (wu (wi ((ahz ((aab y1.recs (tpI y0.stack)).kids) ((acu (atL [] y1.c.progs ((aab y1.recs (tpI y0.stack)).prog)) ((aab y1.recs (tpI y0.stack)).pc)).a))+1)))).bind fun r27 =>
 (aac ({ y0 with child:=ahz ((aab y1.recs (tpI y0.stack)).kids) ((acu (atL [] y1.c.progs ((aab y1.recs (tpI y0.stack)).prog)) ((aab y1.recs (tpI y0.stack)).pc)).a) }:(RunV MV)) (wi (y0.line+1)) MV.nil).bind fun r28 =>
 some ((r28.1.1,()),(r28.2.1,({ y1 with m:=r27.2.1,recs:=((y1.recs.set (tpI y0.stack).toNat (aab y1.recs (tpI y0.stack))).set (tpI y0.stack).toNat ({ aab (y1.recs.set (tpI y0.stack).toNat (aab y1.recs (tpI y0.stack))) (tpI y0.stack) with pc:=wi (((aab (y1.recs.set (tpI y0.stack).toNat (aab y1.recs (tpI y0.stack))) (tpI y0.stack)).pc)+1) }:RecP)).set (tpI y0.stack).toNat ({ aab ((y1.recs.set (tpI y0.stack).toNat (aab y1.recs (tpI y0.stack))).set (tpI y0.stack).toNat ({ aab (y1.recs.set (tpI y0.stack).toNat (aab y1.recs (tpI y0.stack))) (tpI y0.stack) with pc:=wi (((aab (y1.recs.set (tpI y0.stack).toNat (aab y1.recs (tpI y0.stack))) (tpI y0.stack)).pc)+1) }:RecP)) (tpI y0.stack) with waiting:=ahz ((aab y1.recs (tpI y0.stack)).kids) ((acu (atL [] y1.c.progs ((aab y1.recs (tpI y0.stack)).prog)) ((aab y1.recs (tpI y0.stack)).pc)).a) }:RecP) }:EnvP),()))
 else none
 else none
 else none
 else none
 else none
 else none
 else none
 else none
 else none
 else none
 else none
 else none
 else
 if y0.line=10 then
 (ad8 y1.l (tpI y0.stack)).bind fun r29 =>
 (aa3 y1.m r29.1.1 3).bind fun r30 =>
 (aac y0 (wi (y0.line+1)) MV.nil).bind fun r31 =>
 some ((r31.1.1,()),(r31.2.1,({ y1 with m:=r30.2.1 }:EnvP),()))
 else
 if y0.line=11 then
 (aok y1.l y0.child).bind fun r32 =>
 (atb y1.m r32.1.1 0 (wu (wi ((tpI y0.stack)+1)))).bind fun r33 =>
 if (!r33.1.1)=true then
 (aac y0 14 MV.nil).bind fun r34 =>
 some ((r34.1.1,()),(r34.2.1,({ y1 with m:=r33.2.1 }:EnvP),()))
 else
 (aaG y0 ({ y1 with m:=r33.2.1 }:EnvP) (⟨6,0,tpI y0.stack,y0.child,0⟩:Ev)).bind fun r35 =>
 (aac r35.2.1 (wi (r35.2.1.line+1)) MV.nil).bind fun r36 =>
 some ((r36.1.1,()),(r36.2.1,r35.2.2.1,()))
 else
 if y0.line=12 then
 (afb y1.l (tpI y0.stack)).bind fun r37 =>
 (acG y1.m r37.1.1).bind fun r38 =>
 (ajU y0.worker y0.child (wi (r38.1.1))).bind fun r39 =>
 (aac ({ y0 with level:=wi (r38.1.1) }:(RunV MV)) 13 r39.1.1).bind fun r40 =>
 some ((r40.1.1,()),(r40.2.1,({ y1 with m:=r38.2.1 }:EnvP),()))
 else
 if y0.line=13 then
 (aeV y0.inside y1).bind fun r41 =>
 if (!r41.1.1)=true then
 some ((false,()),(({ y0 with inside:=r41.2.1 }:(RunV MV)),r41.2.2.1,()))
 else
 (aaG ({ y0 with inside:=r41.2.1 }:(RunV MV)) r41.2.2.1 (⟨7,0,tpI y0.stack,0,y0.level⟩:Ev)).bind fun r42 =>
 (aao r42.2.1).bind fun r43 =>
 some ((r43.1.1,()),(r43.2.1,r42.2.2.1,()))
 else
 if y0.line=14 then
 (ad8 y1.l (tpI y0.stack)).bind fun r44 =>
 (aa3 y1.m r44.1.1 2).bind fun r45 =>
 (aac y0 (wi (y0.line+1)) MV.nil).bind fun r46 =>
 some ((r46.1.1,()),(r46.2.1,({ y1 with m:=r45.2.1 }:EnvP),()))
 else
 (aju y1.l (tpI y0.stack)).bind fun r47 =>
 (aa3 y1.m r47.1.1 0).bind fun r48 =>
 if 0≤(tlI y0.stack)∧(tlI y0.stack)<((y0.stack.length:Nat):Int) then
 if 0≤tpI y0.stack∧tpI y0.stack<((y1.recs.length:Nat):Int) then
 (aaG y0 ({ y1 with m:=r48.2.1,recs:=y1.recs.set (tpI y0.stack).toNat ({ aab y1.recs (tpI y0.stack) with waiting:=(-1) }:RecP) }:EnvP) (⟨8,0,tpI y0.stack,y0.child,0⟩:Ev)).bind fun r49 =>
 (aac r49.2.1 0 MV.nil).bind fun r50 =>
 some ((r50.1.1,()),(r50.2.1,r49.2.2.1,()))
 else none
 else none
 else none
 else none
 else none
 else none
 else none
 else none
 else none
 else none
 else none
 else none
 else none
 else none
 else none
 else none
 else none
 else none
 else none
 else none
 else none
 else none
 else none
 else none
 else none
 ) (
 if y1.l.workers=y1.l.workers then
 if y1.l.levels=y1.l.levels then
 if y1.l.classes=y1.l.classes then
 if y1.l.tasks=y1.l.tasks then
 if y1.l.deque=y1.l.deque then
 if y1.l.heap=y1.l.heap then
 if y1.l.sleepers=y1.l.sleepers then
 if y1.l.epochs=y1.l.epochs then
 if y1.l.bitmaps=y1.l.bitmaps then
 if y1.l.queues=y1.l.queues then
 if y1.l.table=y1.l.table then
 if 0≤(tlI y0.stack)∧(tlI y0.stack)<((y0.stack.length:Nat):Int) then
 if y1.l.workers=y1.l.workers then
 if y1.l.levels=y1.l.levels then
 if y1.l.classes=y1.l.classes then
 if y1.l.tasks=y1.l.tasks then
 if y1.l.deque=y1.l.deque then
 if y1.l.heap=y1.l.heap then
 if y1.l.sleepers=y1.l.sleepers then
 if y1.l.epochs=y1.l.epochs then
 if y1.l.bitmaps=y1.l.bitmaps then
 if y1.l.queues=y1.l.queues then
 if y1.l.table=y1.l.table then
 if y0.line=9 then
 if 0≤(tlI y0.stack)∧(tlI y0.stack)<((y0.stack.length:Nat):Int) then
 if 0≤tpI y0.stack∧tpI y0.stack<((y1.recs.length:Nat):Int) then
 if 0≤(tlI y0.stack)∧(tlI y0.stack)<((y0.stack.length:Nat):Int) then
 if 0≤tpI y0.stack∧tpI y0.stack<((y1.recs.length:Nat):Int) then
 if (tpI y0.stack)=(tpI y0.stack) then
 if ((aab y1.recs (tpI y0.stack)).prog)<0 then
 if 0≤(tlI y0.stack)∧(tlI y0.stack)<((y0.stack.length:Nat):Int) then
 if 0≤tpI y0.stack∧tpI y0.stack<((y1.recs.length:Nat):Int) then
 if (tpI y0.stack)=(tpI y0.stack) then
 none
 else none
 else none
 else none
 else
 if ((y1.c.progs.length:Nat):Int)≤((aab y1.recs (tpI y0.stack)).prog) then
 if 0≤(tlI y0.stack)∧(tlI y0.stack)<((y0.stack.length:Nat):Int) then
 if 0≤tpI y0.stack∧tpI y0.stack<((y1.recs.length:Nat):Int) then
 if (tpI y0.stack)=(tpI y0.stack) then
 none
 else none
 else none
 else none
 else
 if 0≤(aab y1.recs (tpI y0.stack)).prog∧(aab y1.recs (tpI y0.stack)).prog<((y1.c.progs.length:Nat):Int) then
 if 0≤(tlI y0.stack)∧(tlI y0.stack)<((y0.stack.length:Nat):Int) then
 if 0≤tpI y0.stack∧tpI y0.stack<((y1.recs.length:Nat):Int) then
 if (tpI y0.stack)=(tpI y0.stack) then
 if 0≤(aab y1.recs (tpI y0.stack)).pc∧(aab y1.recs (tpI y0.stack)).pc<(((atL [] y1.c.progs ((aab y1.recs (tpI y0.stack)).prog)).length:Nat):Int) then
 if 0≤(acu (atL [] y1.c.progs ((aab y1.recs (tpI y0.stack)).prog)) ((aab y1.recs (tpI y0.stack)).pc)).a∧(acu (atL [] y1.c.progs ((aab y1.recs (tpI y0.stack)).prog)) ((aab y1.recs (tpI y0.stack)).pc)).a<((((aab y1.recs (tpI y0.stack)).kids).length:Nat):Int) then
 (aju y1.l (tpI y0.stack)).bind fun r1 =>
 if (ahz ((aab y1.recs (tpI y0.stack)).kids) ((acu (atL [] y1.c.progs ((aab y1.recs (tpI y0.stack)).prog)) ((aab y1.recs (tpI y0.stack)).pc)).a))=(ahz ((aab y1.recs (tpI y0.stack)).kids) ((acu (atL [] y1.c.progs ((aab y1.recs (tpI y0.stack)).prog)) ((aab y1.recs (tpI y0.stack)).pc)).a)) then
 (aa3 y1.m r1.1.1 (wu (wi ((ahz ((aab y1.recs (tpI y0.stack)).kids) ((acu (atL [] y1.c.progs ((aab y1.recs (tpI y0.stack)).prog)) ((aab y1.recs (tpI y0.stack)).pc)).a))+1)))).bind fun r2 =>
 (aac ({ y0 with child:=ahz ((aab y1.recs (tpI y0.stack)).kids) ((acu (atL [] y1.c.progs ((aab y1.recs (tpI y0.stack)).prog)) ((aab y1.recs (tpI y0.stack)).pc)).a) }:(RunV MV)) (wi (y0.line+1)) MV.nil).bind fun r3 =>
 some ((r3.1.1,()),(r3.2.1,({ y1 with m:=r2.2.1,recs:=((y1.recs.set (tpI y0.stack).toNat (aab y1.recs (tpI y0.stack))).set (tpI y0.stack).toNat ({ aab (y1.recs.set (tpI y0.stack).toNat (aab y1.recs (tpI y0.stack))) (tpI y0.stack) with pc:=wi (((aab (y1.recs.set (tpI y0.stack).toNat (aab y1.recs (tpI y0.stack))) (tpI y0.stack)).pc)+1) }:RecP)).set (tpI y0.stack).toNat ({ aab ((y1.recs.set (tpI y0.stack).toNat (aab y1.recs (tpI y0.stack))).set (tpI y0.stack).toNat ({ aab (y1.recs.set (tpI y0.stack).toNat (aab y1.recs (tpI y0.stack))) (tpI y0.stack) with pc:=wi (((aab (y1.recs.set (tpI y0.stack).toNat (aab y1.recs (tpI y0.stack))) (tpI y0.stack)).pc)+1) }:RecP)) (tpI y0.stack) with waiting:=ahz ((aab y1.recs (tpI y0.stack)).kids) ((acu (atL [] y1.c.progs ((aab y1.recs (tpI y0.stack)).prog)) ((aab y1.recs (tpI y0.stack)).pc)).a) }:RecP) }:EnvP),()))
 else none
 else none
 else none
 else none
 else none
 else none
 else none
 else none
 else none
 else none
 else none
 else none
 else
 if y0.line=10 then
 (ad8 y1.l (tpI y0.stack)).bind fun r4 =>
 (aa3 y1.m r4.1.1 3).bind fun r5 =>
 (aac y0 (wi (y0.line+1)) MV.nil).bind fun r6 =>
 some ((r6.1.1,()),(r6.2.1,({ y1 with m:=r5.2.1 }:EnvP),()))
 else
 if y0.line=11 then
 (aok y1.l y0.child).bind fun r7 =>
 (atb y1.m r7.1.1 0 (wu (wi ((tpI y0.stack)+1)))).bind fun r8 =>
 if (!r8.1.1)=true then
 (aac y0 14 MV.nil).bind fun r9 =>
 some ((r9.1.1,()),(r9.2.1,({ y1 with m:=r8.2.1 }:EnvP),()))
 else
 (aaG y0 ({ y1 with m:=r8.2.1 }:EnvP) (⟨6,0,tpI y0.stack,y0.child,0⟩:Ev)).bind fun r10 =>
 (aac r10.2.1 (wi (r10.2.1.line+1)) MV.nil).bind fun r11 =>
 some ((r11.1.1,()),(r11.2.1,r10.2.2.1,()))
 else
 if y0.line=12 then
 (afb y1.l (tpI y0.stack)).bind fun r12 =>
 (acG y1.m r12.1.1).bind fun r13 =>
 (ajU y0.worker y0.child (wi (r13.1.1))).bind fun r14 =>
 (aac ({ y0 with level:=wi (r13.1.1) }:(RunV MV)) 13 r14.1.1).bind fun r15 =>
 some ((r15.1.1,()),(r15.2.1,({ y1 with m:=r13.2.1 }:EnvP),()))
 else
 if y0.line=13 then
 (aeV y0.inside y1).bind fun r16 =>
 if (!r16.1.1)=true then
 some ((false,()),(({ y0 with inside:=r16.2.1 }:(RunV MV)),r16.2.2.1,()))
 else
 (aaG ({ y0 with inside:=r16.2.1 }:(RunV MV)) r16.2.2.1 (⟨7,0,tpI y0.stack,0,y0.level⟩:Ev)).bind fun r17 =>
 (aao r17.2.1).bind fun r18 =>
 some ((r18.1.1,()),(r18.2.1,r17.2.2.1,()))
 else
 if y0.line=14 then
 (ad8 y1.l (tpI y0.stack)).bind fun r19 =>
 (aa3 y1.m r19.1.1 2).bind fun r20 =>
 (aac y0 (wi (y0.line+1)) MV.nil).bind fun r21 =>
 some ((r21.1.1,()),(r21.2.1,({ y1 with m:=r20.2.1 }:EnvP),()))
 else
 (aju y1.l (tpI y0.stack)).bind fun r22 =>
 (aa3 y1.m r22.1.1 0).bind fun r23 =>
 if 0≤(tlI y0.stack)∧(tlI y0.stack)<((y0.stack.length:Nat):Int) then
 if 0≤tpI y0.stack∧tpI y0.stack<((y1.recs.length:Nat):Int) then
 (aaG y0 ({ y1 with m:=r23.2.1,recs:=y1.recs.set (tpI y0.stack).toNat ({ aab y1.recs (tpI y0.stack) with waiting:=(-1) }:RecP) }:EnvP) (⟨8,0,tpI y0.stack,y0.child,0⟩:Ev)).bind fun r24 =>
 (aac r24.2.1 0 MV.nil).bind fun r25 =>
 some ((r25.1.1,()),(r25.2.1,r24.2.2.1,()))
 else none
 else none
 else none
 else none
 else none
 else none
 else none
 else none
 else none
 else none
 else none
 else none
 else none
 else none
 else none
 else none
 else none
 else none
 else none
 else none
 else none
 else none
 else none
 else none
 else none
 )
noncomputable abbrev ahM:Con SR1:=⟨216,[.ref 33,.ref 27],[.sh .b],fun x =>agS x.1 x.2.1⟩
noncomputable def alE:List (Nat×Func):=[(212,Tryz.f212),(218,Tryz.f218),(221,Tryz.f221),(219,Tryz.f219)]
theorem alF:CO Tryz.prog ahM:=aak aaj Tryz.func216 [aoK,adY,adC,afz,ave,al0,ad6,agB,acM,aqv,aoD,af9] ⟨apD,adt,adR,aeZ,awy,ajA,aeC,afL,abT,auC,apk,ahL,trivial⟩ alE ⟨Tryz.func212,Tryz.func218,Tryz.func221,Tryz.func219,trivial⟩ (fun _ =>[]) [] fun x =>by kernel_rfl
end
end Go.Proofs.YtdnimkpfgjcjeaaGreat
