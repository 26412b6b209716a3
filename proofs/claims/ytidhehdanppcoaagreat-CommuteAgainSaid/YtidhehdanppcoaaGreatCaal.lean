/- The program's machines in the evaluator's form. The program's machines in the evaluator's form: all. The program's machines,said plainly: their states,and what a step does. No program occurs here but its numbers. The program's machines do what was said plainly,1: memory,cells,words,the machines that run none inside. -/
import Derived.Test.YtidhehdanppcoaaGreatCaak
set_option linter.all false
namespace Go.Proofs.YtidhehdanppcoaaGreat
section
open Go Go.RowKit
set_option maxRecDepth 100000
variable [Tb]
noncomputable def aeg (y0:(ClientV MV)) (y1:EnvP):Option ((Bool×Unit)×((ClientV MV)×EnvP×Unit)) :=
 if 0≤y0.i∧y0.i<((y0.subs.length:Nat):Int) then
 agr (
 if y1.l.workers=y1.l.workers then
 if y1.l.levels=y1.l.levels then
 if y1.l.classes=y1.l.classes then
 if y1.l.tasks=y1.l.tasks then
 if y1.l.deque=y1.l.deque then
 if y1.l.heap=y1.l.heap then
 if y1.l.sleepers=y1.l.sleepers then
 if y1.l.epochs=y1.l.epochs then
 if y1.l.bitmaps=y1.l.bitmaps then
 if y1.l.queues=y1.l.queues then
 if y1.l.table=y1.l.table then
 if ((abZ y0.subs y0.i).prog)=((abZ y0.subs y0.i).prog) then
 if ((abZ y0.subs y0.i).level)=((abZ y0.subs y0.i).level) then
 if ((abZ y0.subs y0.i).deadline)=((abZ y0.subs y0.i).deadline) then
 if y0.i=y0.i then
 if y1.l.workers=y1.l.workers then
 if y1.l.levels=y1.l.levels then
 if y1.l.classes=y1.l.classes then
 if y1.l.tasks=y1.l.tasks then
 if y1.l.deque=y1.l.deque then
 if y1.l.heap=y1.l.heap then
 if y1.l.sleepers=y1.l.sleepers then
 if y1.l.epochs=y1.l.epochs then
 if y1.l.bitmaps=y1.l.bitmaps then
 if y1.l.queues=y1.l.queues then
 if y1.l.table=y1.l.table then
 if ((abZ y0.subs y0.i).prog)=((abZ y0.subs y0.i).prog) then
 if ((abZ y0.subs y0.i).level)=((abZ y0.subs y0.i).level) then
 if ((abZ y0.subs y0.i).deadline)=((abZ y0.subs y0.i).deadline) then
 if y0.i=y0.i then
 if y1.l.workers=y1.l.workers then
 if y1.l.levels=y1.l.levels then
 if y1.l.classes=y1.l.classes then
 if y1.l.tasks=y1.l.tasks then
 if y1.l.deque=y1.l.deque then
 if y1.l.heap=y1.l.heap then
 if y1.l.sleepers=y1.l.sleepers then
 if y1.l.epochs=y1.l.epochs then
 if y1.l.bitmaps=y1.l.bitmaps then
 if y1.l.queues=y1.l.queues then
 if y1.l.table=y1.l.table then
 if y0.line=2 then
 (af6 y1.l).bind fun r15 =>
 if y1.c.heap=y1.c.heap then
 (acz y1.m r15.1.1).bind fun r16 =>
 if y1.c.heap=y1.c.heap then
 if y1.c.heap≤(wi (r16.1.1)) then
 (abM y0 ({ y1 with m:=r16.2.1 }:EnvP) 1).bind fun r17 =>
 some ((r17.1.1,()),(r17.2.1,r17.2.2.1,()))
 else
 (aai y0 (wi (y0.line+1))).bind fun r18 =>
 some ((r18.1.1,()),(r18.2.1,({ y1 with m:=r16.2.1 }:EnvP),()))
 else none
 else none
 else
 if y0.line=4 then
 (ae6 y1.l y0.id).bind fun r19 =>
 if ((abZ y0.subs y0.i).level)=((abZ y0.subs y0.i).level) then
 (aa2 y1.m r19.1.1 (wu ((abZ y0.subs y0.i).level))).bind fun r20 =>
 (aai y0 (wi (y0.line+1))).bind fun r21 =>
 some ((r21.1.1,()),(r21.2.1,({ y1 with m:=r20.2.1 }:EnvP),()))
 else none
 else
 if y0.line=5 then
 (aiN y1.l y0.id).bind fun r22 =>
 (arD y1.k).bind fun r23 =>
 (aa2 y1.m r22.1.1 (wu (r23.1.1))).bind fun r24 =>
 (aai y0 (wi (y0.line+1))).bind fun r25 =>
 some ((r25.1.1,()),(r25.2.1,({ y1 with m:=r24.2.1,k:=r23.2.1 }:EnvP),()))
 else
 (aeC y1.l y0.id).bind fun r26 =>
 (aa2 y1.m r26.1.1 1).bind fun r27 =>
 (aai y0 (wi (y0.line+1))).bind fun r28 =>
 some ((r28.1.1,()),(r28.2.1,({ y1 with m:=r27.2.1 }:EnvP),()))
 else none
 else none
 else none
 else none
 else none
 else none
 else none
 else none
 else none
 else none
 else none
 else none
 else none
 else none
 else none
 else none
 else none
 else none
 else none
 else none
 else none
 else none
 else none
 else none
 else none
 else none
 else none
 else none
 else none
 else none
 else none
 else none
 else none
 else none
 else none
 else none
 else none
 else none
 else none
 else none
 else none
 ) (
 if y1.l.workers=y1.l.workers then
 if y1.l.levels=y1.l.levels then
 if y1.l.classes=y1.l.classes then
 if y1.l.tasks=y1.l.tasks then
 if y1.l.deque=y1.l.deque then
 if y1.l.heap=y1.l.heap then
 if y1.l.sleepers=y1.l.sleepers then
 if y1.l.epochs=y1.l.epochs then
 if y1.l.bitmaps=y1.l.bitmaps then
 if y1.l.queues=y1.l.queues then
 if y1.l.table=y1.l.table then
 if ((abZ y0.subs y0.i).prog)=((abZ y0.subs y0.i).prog) then
 if ((abZ y0.subs y0.i).level)=((abZ y0.subs y0.i).level) then
 if ((abZ y0.subs y0.i).deadline)=((abZ y0.subs y0.i).deadline) then
 if y0.i=y0.i then
 if y1.l.workers=y1.l.workers then
 if y1.l.levels=y1.l.levels then
 if y1.l.classes=y1.l.classes then
 if y1.l.tasks=y1.l.tasks then
 if y1.l.deque=y1.l.deque then
 if y1.l.heap=y1.l.heap then
 if y1.l.sleepers=y1.l.sleepers then
 if y1.l.epochs=y1.l.epochs then
 if y1.l.bitmaps=y1.l.bitmaps then
 if y1.l.queues=y1.l.queues then
 if y1.l.table=y1.l.table then
 if ((abZ y0.subs y0.i).prog)=((abZ y0.subs y0.i).prog) then
 if ((abZ y0.subs y0.i).level)=((abZ y0.subs y0.i).level) then
 if ((abZ y0.subs y0.i).deadline)=((abZ y0.subs y0.i).deadline) then
 if y0.i=y0.i then
 if y1.l.workers=y1.l.workers then
 if y1.l.levels=y1.l.levels then
 if y1.l.classes=y1.l.classes then
 if y1.l.tasks=y1.l.tasks then
 if y1.l.deque=y1.l.deque then
 if y1.l.heap=y1.l.heap then
 if y1.l.sleepers=y1.l.sleepers then
 if y1.l.epochs=y1.l.epochs then
 if y1.l.bitmaps=y1.l.bitmaps then
 if y1.l.queues=y1.l.queues then
 if y1.l.table=y1.l.table then
 if y0.line=2 then
 (af6 y1.l).bind fun r1 =>
 if y1.c.heap=y1.c.heap then
 (acz y1.m r1.1.1).bind fun r2 =>
 if y1.c.heap=y1.c.heap then
 if y1.c.heap≤(wi (r2.1.1)) then
 (abM y0 ({ y1 with m:=r2.2.1 }:EnvP) 1).bind fun r3 =>
 some ((r3.1.1,()),(r3.2.1,r3.2.2.1,()))
 else
 (aai y0 (wi (y0.line+1))).bind fun r4 =>
 some ((r4.1.1,()),(r4.2.1,({ y1 with m:=r2.2.1 }:EnvP),()))
 else none
 else none
 else
 if y0.line=4 then
 (ae6 y1.l y0.id).bind fun r5 =>
 if ((abZ y0.subs y0.i).level)=((abZ y0.subs y0.i).level) then
 (aa2 y1.m r5.1.1 (wu ((abZ y0.subs y0.i).level))).bind fun r6 =>
 (aai y0 (wi (y0.line+1))).bind fun r7 =>
 some ((r7.1.1,()),(r7.2.1,({ y1 with m:=r6.2.1 }:EnvP),()))
 else none
 else
 if y0.line=5 then
 (aiN y1.l y0.id).bind fun r8 =>
 (arD y1.k).bind fun r9 =>
 (aa2 y1.m r8.1.1 (wu (r9.1.1))).bind fun r10 =>
 (aai y0 (wi (y0.line+1))).bind fun r11 =>
 some ((r11.1.1,()),(r11.2.1,({ y1 with m:=r10.2.1,k:=r9.2.1 }:EnvP),()))
 else
 (aeC y1.l y0.id).bind fun r12 =>
 (aa2 y1.m r12.1.1 1).bind fun r13 =>
 (aai y0 (wi (y0.line+1))).bind fun r14 =>
 some ((r14.1.1,()),(r14.2.1,({ y1 with m:=r13.2.1 }:EnvP),()))
 else none
 else none
 else none
 else none
 else none
 else none
 else none
 else none
 else none
 else none
 else none
 else none
 else none
 else none
 else none
 else none
 else none
 else none
 else none
 else none
 else none
 else none
 else none
 else none
 else none
 else none
 else none
 else none
 else none
 else none
 else none
 else none
 else none
 else none
 else none
 else none
 else none
 else none
 else none
 else none
 else none
 )
 else none
noncomputable abbrev ae8:Con SR1:=⟨95,[.ref 30,.ref 27],[.sh .b],fun x =>aeg x.1 x.2.1⟩
theorem aiA:CO Tryz.prog ae8:=aan aak Tryz.func95 [ajX,acC,aef,adz,agi,adL,ajV,anA,agh] ⟨ajn,abT,afN,ad8,afC,adb,ajj,akL,afB,trivial⟩
noncomputable def aa7 (y0:(ClientV MV)) (y1:EnvP):Option ((Bool×Unit)×((ClientV MV)×EnvP×Unit)) :=
 if 0≤y0.i∧y0.i<((y0.subs.length:Nat):Int) then
 if y0.line=2 then
 (af6 y1.l).bind fun r1 =>
 (acz y1.m r1.1.1).bind fun r2 =>
 if y1.c.heap≤(wi (r2.1.1)) then
 (abM y0 ({ y1 with m:=r2.2.1 }:EnvP) 1).bind fun r3 =>
 some ((r3.1.1,()),(r3.2.1,r3.2.2.1,()))
 else
 (aai y0 (wi (y0.line+1))).bind fun r4 =>
 some ((r4.1.1,()),(r4.2.1,({ y1 with m:=r2.2.1 }:EnvP),()))
 else
 if y0.line=4 then
 (ae6 y1.l y0.id).bind fun r5 =>
 (aa2 y1.m r5.1.1 (wu ((abZ y0.subs y0.i).level))).bind fun r6 =>
 (aai y0 (wi (y0.line+1))).bind fun r7 =>
 some ((r7.1.1,()),(r7.2.1,({ y1 with m:=r6.2.1 }:EnvP),()))
 else
 if y0.line=5 then
 (aiN y1.l y0.id).bind fun r8 =>
 (arD y1.k).bind fun r9 =>
 (aa2 y1.m r8.1.1 (wu (r9.1.1))).bind fun r10 =>
 (aai y0 (wi (y0.line+1))).bind fun r11 =>
 some ((r11.1.1,()),(r11.2.1,({ y1 with m:=r10.2.1,k:=r9.2.1 }:EnvP),()))
 else
 (aeC y1.l y0.id).bind fun r12 =>
 (aa2 y1.m r12.1.1 1).bind fun r13 =>
 (aai y0 (wi (y0.line+1))).bind fun r14 =>
 some ((r14.1.1,()),(r14.2.1,({ y1 with m:=r13.2.1 }:EnvP),()))
 else none
noncomputable abbrev af9:Con SR1:=⟨95,[.ref 30,.ref 27],[.sh .b],fun x =>aa7 x.1 x.2.1⟩
theorem ajD (y0:(ClientV MV)) (y1:EnvP):aeg y0 y1=aa7 y0 y1:=by
 unfold aeg aa7
 simp only [if_true,asJ,anf]
theorem ajC:CO Tryz.prog af9:=aC8 aiA fun x out hx =>(show ae8.spec x=some out from (ajD x.1 x.2.1).trans hx)
noncomputable def acP (y0:(ClientV MV)):Option ((Bool×Unit)×((ClientV MV)×Unit)) :=
 (aai ({ y0 with i:=wi (y0.i+1),accepted:=false }:(ClientV MV)) 1).bind fun r1 =>
 (aax r1.2.1).bind fun r2 =>
 some ((r2.1.1,()),(r2.2.1,()))
noncomputable abbrev ahf:Con SR1:=⟨112,[.ref 30],[.sh .b],fun x =>acP x.1⟩
theorem akV:CO Tryz.prog ahf:=aan aak Tryz.func112 [adz,aeY] ⟨ad8,agR,trivial⟩
noncomputable def aaT (y0:(ClientV MV)) (y1:EnvP) (y2:Int) (y3:Int):Option ((Bool×Unit)×((ClientV MV)×EnvP×Unit)) :=
 if 0≤y0.i∧y0.i<((y0.subs.length:Nat):Int) then
 if ((abZ y0.subs y0.i).prog)=((abZ y0.subs y0.i).prog) then
 if ((abZ y0.subs y0.i).level)=((abZ y0.subs y0.i).level) then
 if ((abZ y0.subs y0.i).deadline)=((abZ y0.subs y0.i).deadline) then
 if y0.i=y0.i then
 if y0.line=3 then
 if y2=3 then
 (abM y0 y1 2).bind fun r1 =>
 some ((r1.1.1,()),(r1.2.1,r1.2.2.1,()))
 else
 if 0≤y3∧y3<((y1.recs.length:Nat):Int) then
 (aai ({ y0 with id:=y3 }:(ClientV MV)) (wi (y0.line+1))).bind fun r2 =>
 some ((r2.1.1,()),(r2.2.1,({ y1 with recs:=y1.recs.set y3.toNat (⟨(abZ y0.subs y0.i).prog,(-1),0,0,(-1),[],false⟩:RecP) }:EnvP),()))
 else none
 else
 if y0.line=6 then
 if y2≠0 then
 (aai y0 8).bind fun r3 =>
 some ((r3.1.1,()),(r3.2.1,y1,()))
 else
 (aec y1 (⟨1,y0.me,y0.id,y0.i,(abZ y0.subs y0.i).level⟩:Ev)).bind fun r4 =>
 (aai ({ y0 with accepted:=true }:(ClientV MV)) (wi (y0.line+1))).bind fun r5 =>
 some ((r5.1.1,()),(r5.2.1,r4.2.1,()))
 else
 if y0.line=8 then
 if (!y0.accepted)=true then
 (acP y0).bind fun r6 =>
 some ((r6.1.1,()),(r6.2.1,y1,()))
 else
 (aai y0 (wi (y0.line+1))).bind fun r7 =>
 some ((r7.1.1,()),(r7.2.1,y1,()))
 else
 if y0.line=9 then
 (acP y0).bind fun r8 =>
 some ((r8.1.1,()),(r8.2.1,y1,()))
 else
 (aai y0 (wi (y0.line+1))).bind fun r9 =>
 some ((r9.1.1,()),(r9.2.1,y1,()))
 else none
 else none
 else none
 else none
 else none
noncomputable abbrev agS:Con SR1:=⟨96,[.ref 30,.ref 27,.sh sI_,.sh sI_],[.sh .b],fun x =>aaT x.1 x.2.1 x.2.2.1 x.2.2.2.1⟩
theorem akp:CO Tryz.prog agS:=aan aak Tryz.func96 [aef,adz,aff,ahf] ⟨afN,ad8,aer,akV,trivial⟩
noncomputable def aao (y0:(ClientV MV)) (y1:EnvP):Option ((Bool×Unit)×((ClientV MV)×EnvP×Unit)) :=
 (aax y0).bind fun r1 =>
 if r1.1.1=true then
 some ((true,()),(r1.2.1,y1,()))
 else
 if r1.2.1.fresh=true then
 (ac9 r1.2.1).bind fun r2 =>
 if (SR1.spl r2.1.1).isNone=true then
 (aa7 ({ r2.2.1 with inside:=r2.1.1,fresh:=false }:(ClientV MV)) y1).bind fun r3 =>
 some ((r3.1.1,()),(r3.2.1,r3.2.2.1,()))
 else
 (adI r2.1.1 y1).bind fun r4 =>
 if (!r4.1.1)=true then
 some ((false,()),(({ r2.2.1 with inside:=r4.2.1,fresh:=false }:(ClientV MV)),r4.2.2.1,()))
 else
 (aby r4.2.1).bind fun r5 =>
 (aaT ({ r2.2.1 with inside:=r5.2.1,fresh:=false }:(ClientV MV)) r4.2.2.1 r5.1.1 r5.1.2.1).bind fun r6 =>
 some ((r6.1.1,()),(r6.2.1,r6.2.2.1,()))
 else
 if (SR1.spl r1.2.1.inside).isNone=true then
 (aa7 r1.2.1 y1).bind fun r7 =>
 some ((r7.1.1,()),(r7.2.1,r7.2.2.1,()))
 else
 (adI r1.2.1.inside y1).bind fun r8 =>
 if (!r8.1.1)=true then
 some ((false,()),(({ r1.2.1 with inside:=r8.2.1 }:(ClientV MV)),r8.2.2.1,()))
 else
 (aby r8.2.1).bind fun r9 =>
 (aaT ({ r1.2.1 with inside:=r9.2.1 }:(ClientV MV)) r8.2.2.1 r9.1.1 r9.1.2.1).bind fun r10 =>
 some ((r10.1.1,()),(r10.2.1,r10.2.2.1,()))
noncomputable abbrev ac0:Con SR1:=⟨93,[.ref 30,.ref 27],[.sh .b],fun x =>aao x.1 x.2.1⟩
theorem adt:CO Tryz.prog ac0:=aan aak Tryz.func93 [aeY,ae7,af9,ard,amC,agS] ⟨agR,aiz,ajC,as6,ao6,akp,trivial⟩
noncomputable def afm (y0:Int):Option ((MV×Unit)×(Unit)) :=
 (afG y0).bind fun r1 =>
 some ((MV.take (⟨⟨false,0,0⟩,y0,false,r1.1.1⟩:(TakeV MV)),()),())
noncomputable abbrev amt:Con SR1:=⟨127,[.sh sI_],[.sh .mach],fun x =>afm x.1⟩
theorem aoR:CO Tryz.prog amt:=aan aak Tryz.func127 [akO] ⟨anB,trivial⟩
noncomputable def aaf (y0:(WorkerV MV)) (y1:Int) (y2:MV):Option ((Unit)×((WorkerV MV)×Unit)) :=
 some ((()),(({ y0 with line:=y1,inside:=y2 }:(WorkerV MV)),()))
noncomputable abbrev ack:Con SR1:=⟨126,[.ref 31,.sh sI_,.sh .mach],[],fun x =>aaf x.1 x.2.1 x.2.2.1⟩
theorem acw:CO Tryz.prog ack:=aan aak Tryz.func126 [] trivial
noncomputable def anl (y0:Int) (y1:Int):Option ((MV×Unit)×(Unit)) :=
 some ((MV.sweep (⟨⟨false,0,0⟩,y0,y1,1,0,MV.nil⟩:(SweepV MV)),()),())
noncomputable abbrev anM:Con SR1:=⟨128,[.sh sI_,.sh sI_],[.sh .mach],fun x =>anl x.1 x.2.1⟩
theorem asK:CO Tryz.prog anM:=aan aak Tryz.func128 [] trivial
noncomputable def ad2 (y0:(WorkerV MV)) (y1:EnvP):Option ((Unit)×((WorkerV MV)×EnvP×Unit)) :=
 if y1.c.age=0 then
 (afm y0.worker).bind fun r1 =>
 (aaf y0 2 r1.1.1).bind fun r2 =>
 some ((()),(r2.2.1,y1,()))
 else
 (atz y0.worker y1.c.tasks).bind fun r3 =>
 if y1.c.tasks=y1.c.tasks then
 if y0.cursor=y0.cursor then
 if y0.worker=y0.worker then
 (atz (wi (r3.1.1+y0.cursor)) y1.c.tasks).bind fun r4 =>
 if y0.worker=y0.worker then
 (anl y0.worker r4.1.1).bind fun r5 =>
 (aaf y0 1 r5.1.1).bind fun r6 =>
 some ((()),(r6.2.1,y1,()))
 else none
 else none
 else none
 else none
noncomputable abbrev agv:Con SR1:=⟨122,[.ref 31,.ref 27],[],fun x =>ad2 x.1 x.2.1⟩
theorem akc:CO Tryz.prog agv:=aan aak Tryz.func122 [amt,ack,ahR,anM] ⟨aoR,acw,afX,asK,trivial⟩
noncomputable def alq (y0:Int) (y1:Int):Option ((MV×Unit)×(Unit)) :=
 some ((MV.run (⟨⟨false,0,0⟩,y0,[y1],0,MV.nil,0,0,0,0⟩:(RunV MV)),()),())
noncomputable abbrev ao0:Con SR1:=⟨137,[.sh sI_,.sh sI_],[.sh .mach],fun x =>alq x.1 x.2.1⟩
theorem atf:CO Tryz.prog ao0:=aan aak Tryz.func137 [] trivial
noncomputable def ada (y0:(WorkerV MV)) (y1:Int):Option ((Unit)×((WorkerV MV)×Unit)) :=
 (alq y0.worker y1).bind fun r1 =>
 (aaf ({ y0 with x:=y1 }:(WorkerV MV)) 7 r1.1.1).bind fun r2 =>
 some ((()),(r2.2.1,()))
noncomputable abbrev afa:Con SR1:=⟨125,[.ref 31,.sh sI_],[],fun x =>ada x.1 x.2.1⟩
theorem agX:CO Tryz.prog afa:=aan aak Tryz.func125 [ao0,ack] ⟨atf,acw,trivial⟩
noncomputable def aj7 (y0:Int):Option ((MV×Unit)×(Unit)) :=
 some ((MV.drain (⟨⟨false,0,0⟩,y0,1,MV.nil,0,false,0,0,0⟩:(DrainV MV)),()),())
noncomputable abbrev anH:Con SR1:=⟨129,[.sh sI_],[.sh .mach],fun x =>aj7 x.1⟩
theorem asn:CO Tryz.prog anH:=aan aak Tryz.func129 [] trivial
noncomputable def acx (y0:(WorkerV MV)) (y1:Int):Option ((Unit)×((WorkerV MV)×Unit)) :=
 (acy y0.worker y1).bind fun r1 =>
 (aaf ({ y0 with x:=y1 }:(WorkerV MV)) 6 r1.1.1).bind fun r2 =>
 some ((()),(r2.2.1,()))
noncomputable abbrev aeu:Con SR1:=⟨130,[.ref 31,.sh sI_],[],fun x =>acx x.1 x.2.1⟩
theorem af2:CO Tryz.prog aeu:=aan aak Tryz.func130 [afA,ack] ⟨agc,acw,trivial⟩
noncomputable def adx (y0:Int):Option ((MV×Unit)×(Unit)) :=
 some ((MV.sleep (⟨⟨false,0,0⟩,y0,1,0,0,0⟩:SleepV),()),())
noncomputable abbrev akJ:Con SR1:=⟨132,[.sh sI_],[.sh .mach],fun x =>adx x.1⟩
theorem anx:CO Tryz.prog akJ:=aan aak Tryz.func132 [] trivial
noncomputable def amN (y0:Int):Option ((MV×Unit)×(Unit)) :=
 some ((MV.probe (⟨⟨false,0,0⟩,y0,false,0,0,⟨0,0,0,0,0,0,0,0,0,0,0,0,0,0,0,0⟩⟩:ProbeV),()),())
noncomputable abbrev anw:Con SR1:=⟨140,[.sh sI_],[.sh .mach],fun x =>amN x.1⟩
theorem ary:CO Tryz.prog anw:=aan aak Tryz.func140 [] trivial
noncomputable def abd (y0:(WorkerV MV)) (y1:EnvP):Option ((Unit)×((WorkerV MV)×EnvP×Unit)) :=
 if y1.c.workers=1 then
 (adx y0.worker).bind fun r1 =>
 (aaf y0 8 r1.1.1).bind fun r2 =>
 some ((()),(r2.2.1,y1,()))
 else
 (amN y0.worker).bind fun r3 =>
 (aaf y0 4 r3.1.1).bind fun r4 =>
 some ((()),(r4.2.1,y1,()))
noncomputable abbrev agY:Con SR1:=⟨131,[.ref 31,.ref 27],[],fun x =>abd x.1 x.2.1⟩
theorem akE:CO Tryz.prog agY:=aan aak Tryz.func131 [akJ,ack,anw] ⟨anx,acw,ary,trivial⟩
noncomputable def adB (y0:QV):Option ((MV×Unit)×(Unit)) :=
 some ((MV.steal (⟨⟨false,0,0⟩,y0,1,0,0⟩:StealV),()),())
noncomputable abbrev anr:Con SR1:=⟨133,[.val 14],[.sh .mach],fun x =>adB x.1⟩
theorem ara:CO Tryz.prog anr:=aan aak Tryz.func133 [] trivial
noncomputable def ab0 (y0:(WorkerV MV)) (y1:EnvP) (y2:Int) (y3:Int):Option ((Unit)×((WorkerV MV)×EnvP×Unit)) :=
 if y0.line=1 then
 (afm y0.worker).bind fun r1 =>
 (aaf ({ y0 with cursor:=wi (y0.cursor+1) }:(WorkerV MV)) 2 r1.1.1).bind fun r2 =>
 some ((()),(r2.2.1,y1,()))
 else
 if y0.line=2 then
 if y2=1 then
 (ada y0 y3).bind fun r3 =>
 some ((()),(r3.2.1,y1,()))
 else
 if y0.line=2 then
 (aj7 y0.worker).bind fun r4 =>
 (aaf y0 3 r4.1.1).bind fun r5 =>
 some ((()),(r5.2.1,y1,()))
 else
 if y0.line=3 then
 if y2=1 then
 (acx y0 y3).bind fun r6 =>
 some ((()),(r6.2.1,y1,()))
 else
 if y0.line=3 then
 if y2=0 then
 (afm y0.worker).bind fun r7 =>
 (aaf y0 2 r7.1.1).bind fun r8 =>
 some ((()),(r8.2.1,y1,()))
 else
 if y0.line=3 then
 (abd y0 y1).bind fun r9 =>
 some ((()),(r9.2.1,r9.2.2.1,()))
 else
 if y2=2 then
 (adx y0.worker).bind fun r10 =>
 (aaf y0 8 r10.1.1).bind fun r11 =>
 some ((()),(r11.2.1,y1,()))
 else
 (agK y1.l (wi (Int.tdiv y3 64)) (Int.tmod y3 64)).bind fun r12 =>
 (adB r12.1.1).bind fun r13 =>
 (aaf ({ y0 with victim:=wi (Int.tdiv y3 64),level:=(Int.tmod y3 64) }:(WorkerV MV)) 5 r13.1.1).bind fun r14 =>
 some ((()),(r14.2.1,y1,()))
 else
 if y0.line=3 then
 (abd y0 y1).bind fun r15 =>
 some ((()),(r15.2.1,r15.2.2.1,()))
 else
 if y2=2 then
 (adx y0.worker).bind fun r16 =>
 (aaf y0 8 r16.1.1).bind fun r17 =>
 some ((()),(r17.2.1,y1,()))
 else
 (agK y1.l (wi (Int.tdiv y3 64)) (Int.tmod y3 64)).bind fun r18 =>
 (adB r18.1.1).bind fun r19 =>
 (aaf ({ y0 with victim:=wi (Int.tdiv y3 64),level:=(Int.tmod y3 64) }:(WorkerV MV)) 5 r19.1.1).bind fun r20 =>
 some ((()),(r20.2.1,y1,()))
 else
 if y0.line=3 then
 if y2=0 then
 (afm y0.worker).bind fun r21 =>
 (aaf y0 2 r21.1.1).bind fun r22 =>
 some ((()),(r22.2.1,y1,()))
 else
 if y0.line=3 then
 (abd y0 y1).bind fun r23 =>
 some ((()),(r23.2.1,r23.2.2.1,()))
 else
 if y2=2 then
 (adx y0.worker).bind fun r24 =>
 (aaf y0 8 r24.1.1).bind fun r25 =>
 some ((()),(r25.2.1,y1,()))
 else
 (agK y1.l (wi (Int.tdiv y3 64)) (Int.tmod y3 64)).bind fun r26 =>
 (adB r26.1.1).bind fun r27 =>
 (aaf ({ y0 with victim:=wi (Int.tdiv y3 64),level:=(Int.tmod y3 64) }:(WorkerV MV)) 5 r27.1.1).bind fun r28 =>
 some ((()),(r28.2.1,y1,()))
 else
 if y0.line=3 then
 (abd y0 y1).bind fun r29 =>
 some ((()),(r29.2.1,r29.2.2.1,()))
 else
 if y2=2 then
 (adx y0.worker).bind fun r30 =>
 (aaf y0 8 r30.1.1).bind fun r31 =>
 some ((()),(r31.2.1,y1,()))
 else
 (agK y1.l (wi (Int.tdiv y3 64)) (Int.tmod y3 64)).bind fun r32 =>
 (adB r32.1.1).bind fun r33 =>
 (aaf ({ y0 with victim:=wi (Int.tdiv y3 64),level:=(Int.tmod y3 64) }:(WorkerV MV)) 5 r33.1.1).bind fun r34 =>
 some ((()),(r34.2.1,y1,()))
 else
 if y0.line=2 then
 (aj7 y0.worker).bind fun r35 =>
 (aaf y0 3 r35.1.1).bind fun r36 =>
 some ((()),(r36.2.1,y1,()))
 else
 if y0.line=3 then
 if y2=1 then
 (acx y0 y3).bind fun r37 =>
 some ((()),(r37.2.1,y1,()))
 else
 if y0.line=3 then
 if y2=0 then
 (afm y0.worker).bind fun r38 =>
 (aaf y0 2 r38.1.1).bind fun r39 =>
 some ((()),(r39.2.1,y1,()))
 else
 if y0.line=3 then
 (abd y0 y1).bind fun r40 =>
 some ((()),(r40.2.1,r40.2.2.1,()))
 else
 if y2=2 then
 (adx y0.worker).bind fun r41 =>
 (aaf y0 8 r41.1.1).bind fun r42 =>
 some ((()),(r42.2.1,y1,()))
 else
 (agK y1.l (wi (Int.tdiv y3 64)) (Int.tmod y3 64)).bind fun r43 =>
 (adB r43.1.1).bind fun r44 =>
 (aaf ({ y0 with victim:=wi (Int.tdiv y3 64),level:=(Int.tmod y3 64) }:(WorkerV MV)) 5 r44.1.1).bind fun r45 =>
 some ((()),(r45.2.1,y1,()))
 else
 if y0.line=3 then
 (abd y0 y1).bind fun r46 =>
 some ((()),(r46.2.1,r46.2.2.1,()))
 else
 if y2=2 then
 (adx y0.worker).bind fun r47 =>
 (aaf y0 8 r47.1.1).bind fun r48 =>
 some ((()),(r48.2.1,y1,()))
 else
 (agK y1.l (wi (Int.tdiv y3 64)) (Int.tmod y3 64)).bind fun r49 =>
 (adB r49.1.1).bind fun r50 =>
 (aaf ({ y0 with victim:=wi (Int.tdiv y3 64),level:=(Int.tmod y3 64) }:(WorkerV MV)) 5 r50.1.1).bind fun r51 =>
 some ((()),(r51.2.1,y1,()))
 else
 if y0.line=3 then
 if y2=0 then
 (afm y0.worker).bind fun r52 =>
 (aaf y0 2 r52.1.1).bind fun r53 =>
 some ((()),(r53.2.1,y1,()))
 else
 if y0.line=3 then
 (abd y0 y1).bind fun r54 =>
 some ((()),(r54.2.1,r54.2.2.1,()))
 else
 if y2=2 then
 (adx y0.worker).bind fun r55 =>
 (aaf y0 8 r55.1.1).bind fun r56 =>
 some ((()),(r56.2.1,y1,()))
 else
 (agK y1.l (wi (Int.tdiv y3 64)) (Int.tmod y3 64)).bind fun r57 =>
 (adB r57.1.1).bind fun r58 =>
 (aaf ({ y0 with victim:=wi (Int.tdiv y3 64),level:=(Int.tmod y3 64) }:(WorkerV MV)) 5 r58.1.1).bind fun r59 =>
 some ((()),(r59.2.1,y1,()))
 else
 if y0.line=3 then
 (abd y0 y1).bind fun r60 =>
 some ((()),(r60.2.1,r60.2.2.1,()))
 else
 if y2=2 then
 (adx y0.worker).bind fun r61 =>
 (aaf y0 8 r61.1.1).bind fun r62 =>
 some ((()),(r62.2.1,y1,()))
 else
 (agK y1.l (wi (Int.tdiv y3 64)) (Int.tmod y3 64)).bind fun r63 =>
 (adB r63.1.1).bind fun r64 =>
 (aaf ({ y0 with victim:=wi (Int.tdiv y3 64),level:=(Int.tmod y3 64) }:(WorkerV MV)) 5 r64.1.1).bind fun r65 =>
 some ((()),(r65.2.1,y1,()))
noncomputable abbrev agx:Con SR1:=⟨123,[.ref 31,.ref 27,.sh sI_,.sh sI_],[],fun x =>ab0 x.1 x.2.1 x.2.2.1 x.2.2.2.1⟩
theorem akd:CO Tryz.prog agx:=aan aak Tryz.func123 [amt,ack,afa,anH,aeu,agY,akJ,ajW,anr] ⟨aoR,acw,agX,asn,af2,akE,anx,ajl,ara,trivial⟩
noncomputable def aaW (y0:(WorkerV MV)):Option ((Unit)×((WorkerV MV)×Unit)) :=
 some ((()),(({ y0 with line:=0,inside:=MV.nil }:(WorkerV MV)),()))
noncomputable abbrev aeI:Con SR1:=⟨121,[.ref 31],[],fun x =>aaW x.1⟩
theorem agw:CO Tryz.prog aeI:=aan aak Tryz.func121 [] trivial
noncomputable def adG (y0:(WorkerV MV)) (y1:EnvP) (y2:Int) (y3:Int):Option ((Unit)×((WorkerV MV)×EnvP×Unit)) :=
 if y2=1 then
 (aec y1 ({ y0 with kind:=14,task:=y3,other:=y0.victim }:Ev)).bind fun r1 =>
 (acx y0 y3).bind fun r2 =>
 some ((()),(r2.2.1,r1.2.1,()))
 else
 if y2=2 then
 (ahl y1.l y0.victim).bind fun r3 =>
 if y0.level=y0.level then
 if y0.victim=y0.victim then
 if y1.l.workers=y1.l.workers then
 if y1.l.levels=y1.l.levels then
 if y1.l.classes=y1.l.classes then
 if y1.l.tasks=y1.l.tasks then
 if y1.l.deque=y1.l.deque then
 if y1.l.heap=y1.l.heap then
 if y1.l.sleepers=y1.l.sleepers then
 if y1.l.epochs=y1.l.epochs then
 if y1.l.bitmaps=y1.l.bitmaps then
 if y1.l.queues=y1.l.queues then
 if y1.l.table=y1.l.table then
 if y0.level=y0.level then
 (agK y1.l y0.victim y0.level).bind fun r4 =>
 if y0.level=y0.level then
 (agT r3.1.1 y0.level r4.1.1).bind fun r5 =>
 (aaf y0 9 r5.1.1).bind fun r6 =>
 some ((()),(r6.2.1,y1,()))
 else none
 else none
 else none
 else none
 else none
 else none
 else none
 else none
 else none
 else none
 else none
 else none
 else none
 else none
 else none
 else
 (aaW y0).bind fun r7 =>
 some ((()),(r7.2.1,y1,()))
noncomputable abbrev af1:Con SR1:=⟨124,[.ref 31,.ref 27,.sh sI_,.sh sI_],[],fun x =>adG x.1 x.2.1 x.2.2.1 x.2.2.2.1⟩
theorem ai3:CO Tryz.prog af1:=aan aak Tryz.func124 [aff,aeu,agL,ajW,aiE,ack,aeI] ⟨aer,af2,agq,ajl,akC,acw,agw,trivial⟩
noncomputable def aah (y0:(WorkerV MV)) (y1:EnvP):Option ((Bool×Unit)×((WorkerV MV)×EnvP×Unit)) :=
 if y0.line=0 then
 (ad2 y0 y1).bind fun r1 =>
 (adI r1.2.1.inside r1.2.2.1).bind fun r2 =>
 if (!r2.1.1)=true then
 some ((false,()),(({ r1.2.1 with inside:=r2.2.1 }:(WorkerV MV)),r2.2.2.1,()))
 else
 (aby r2.2.1).bind fun r3 =>
 if r1.2.1.line≤4 then
 (ab0 ({ r1.2.1 with inside:=r3.2.1 }:(WorkerV MV)) r2.2.2.1 r3.1.1 r3.1.2.1).bind fun r4 =>
 some ((false,()),(r4.2.1,r4.2.2.1,()))
 else
 if r1.2.1.line=5 then
 (adG ({ r1.2.1 with inside:=r3.2.1 }:(WorkerV MV)) r2.2.2.1 r3.1.1 r3.1.2.1).bind fun r5 =>
 some ((false,()),(r5.2.1,r5.2.2.1,()))
 else
 if r1.2.1.line=6 then
 if r3.1.1=1 then
 (ada ({ r1.2.1 with inside:=r3.2.1 }:(WorkerV MV)) r1.2.1.x).bind fun r6 =>
 some ((false,()),(r6.2.1,r2.2.2.1,()))
 else
 (aaW ({ r1.2.1 with inside:=r3.2.1 }:(WorkerV MV))).bind fun r7 =>
 some ((false,()),(r7.2.1,r2.2.2.1,()))
 else
 (aaW ({ r1.2.1 with inside:=r3.2.1 }:(WorkerV MV))).bind fun r8 =>
 some ((false,()),(r8.2.1,r2.2.2.1,()))
 else
 (adI y0.inside y1).bind fun r9 =>
 if (!r9.1.1)=true then
 some ((false,()),(({ y0 with inside:=r9.2.1 }:(WorkerV MV)),r9.2.2.1,()))
 else
 (aby r9.2.1).bind fun r10 =>
 if y0.line≤4 then
 (ab0 ({ y0 with inside:=r10.2.1 }:(WorkerV MV)) r9.2.2.1 r10.1.1 r10.1.2.1).bind fun r11 =>
 some ((false,()),(r11.2.1,r11.2.2.1,()))
 else
 if y0.line=5 then
 (adG ({ y0 with inside:=r10.2.1 }:(WorkerV MV)) r9.2.2.1 r10.1.1 r10.1.2.1).bind fun r12 =>
 some ((false,()),(r12.2.1,r12.2.2.1,()))
 else
 if y0.line=6 then
 if r10.1.1=1 then
 (ada ({ y0 with inside:=r10.2.1 }:(WorkerV MV)) y0.x).bind fun r13 =>
 some ((false,()),(r13.2.1,r9.2.2.1,()))
 else
 (aaW ({ y0 with inside:=r10.2.1 }:(WorkerV MV))).bind fun r14 =>
 some ((false,()),(r14.2.1,r9.2.2.1,()))
 else
 (aaW ({ y0 with inside:=r10.2.1 }:(WorkerV MV))).bind fun r15 =>
 some ((false,()),(r15.2.1,r9.2.2.1,()))
noncomputable abbrev acS:Con SR1:=⟨120,[.ref 31,.ref 27],[.sh .b],fun x =>aah x.1 x.2.1⟩
theorem adk:CO Tryz.prog acS:=aan aak Tryz.func120 [agv,ard,amC,agx,af1,afa,aeI] ⟨akc,as6,ao6,akd,ai3,agX,agw,trivial⟩
noncomputable def afh (y0:Cfg):Option ((Cfg×Unit)×(Unit)) :=
 (ah5 y0.progs).bind fun r1 =>
 (lpF (σ:=Int×(Int×Int×Int×Int×Int×Int×Int×Int×Int×List (List Ins)×List Sub×Unit)×Unit) (β:=Int×(Int×Int×Int×Int×Int×Int×Int×Int×Int×List (List Ins)×List Sub×Unit)×Unit) (fun self4 x2 =>
 if x2.1<((r1.1.1.length:Nat):Int) then
 if 0≤x2.1∧x2.1<((x2.2.1.2.2.2.2.2.2.2.2.2.1.length:Nat):Int) then
 (aj8 (aAR x2.2.1.2.2.2.2.2.2.2.2.2.1 x2.1)).bind fun r5 =>
 if 0≤x2.1∧x2.1<((x2.2.1.2.2.2.2.2.2.2.2.2.1.length:Nat):Int) then
 self4 (wi (x2.1+1),(x2.2.1.1,x2.2.1.2.1,x2.2.1.2.2.1,x2.2.1.2.2.2.1,x2.2.1.2.2.2.2.1,x2.2.1.2.2.2.2.2.1,x2.2.1.2.2.2.2.2.2.1,x2.2.1.2.2.2.2.2.2.2.1,x2.2.1.2.2.2.2.2.2.2.2.1,x2.2.1.2.2.2.2.2.2.2.2.2.1.set x2.1.toNat r5.1.1,x2.2.1.2.2.2.2.2.2.2.2.2.2.1,()),())
 else none
 else none
 else
 some (x2.1,(x2.2.1.1,x2.2.1.2.1,x2.2.1.2.2.1,x2.2.1.2.2.2.1,x2.2.1.2.2.2.2.1,x2.2.1.2.2.2.2.2.1,x2.2.1.2.2.2.2.2.2.1,x2.2.1.2.2.2.2.2.2.2.1,x2.2.1.2.2.2.2.2.2.2.2.1,x2.2.1.2.2.2.2.2.2.2.2.2.1,x2.2.1.2.2.2.2.2.2.2.2.2.2.1,()),())
 ) 18446744073709551616 (0,(y0.workers,y0.levels,y0.classes,y0.tasks,y0.deque,y0.heap,y0.batch,y0.age,y0.patience,r1.1.1,y0.subs,()),())).bind fun z3 =>
 (ah4 z3.2.1.2.2.2.2.2.2.2.2.2.2.1).bind fun r6 =>
 some (((⟨z3.2.1.1,z3.2.1.2.1,z3.2.1.2.2.1,z3.2.1.2.2.2.1,z3.2.1.2.2.2.2.1,z3.2.1.2.2.2.2.2.1,z3.2.1.2.2.2.2.2.2.1,z3.2.1.2.2.2.2.2.2.2.1,z3.2.1.2.2.2.2.2.2.2.2.1,z3.2.1.2.2.2.2.2.2.2.2.2.1,r6.1.1⟩:Cfg),()),())
noncomputable abbrev aiw:Con SR1:=⟨54,[.val 13],[.val 13],fun x =>afh x.1⟩
theorem akB:CO Tryz.prog aiw:=aan aak Tryz.func54 [aiy,aqZ,ap1] ⟨aue,avK,aud,trivial⟩ [(3,.loop [.rg 11 sI_,.cs 11 [sI_,sI_,sI_,sI_,sI_,sI_,sI_,sI_,sI_,(.row 18),(.ro 4)]] 18446744073709551616 0)]
noncomputable def alT (y0:Cfg):Option ((LayV×Int×Unit)×(Unit)) :=
 (asw y0).bind fun r1 =>
 if r1.1.1≠0 then
 some (((⟨0,0,0,0,0,0,0,0,0,0,0⟩:LayV),r1.1.1,()),())
 else
 some ((({ y0 with sleepers:=wi (4+y0.heap),epochs:=wi ((wi (4+y0.heap))+y0.classes),bitmaps:=wi ((wi ((wi (4+y0.heap))+y0.classes))+y0.workers),queues:=wi ((wi ((wi ((wi (4+y0.heap))+y0.classes))+y0.workers))+y0.workers),table:=wi ((wi ((wi ((wi ((wi (4+y0.heap))+y0.classes))+y0.workers))+y0.workers))+(wi ((wi (y0.workers*y0.levels))*(wi (2+y0.deque))))) }:LayV),0,()),())
noncomputable abbrev apG:Con SR1:=⟨63,[.val 13],[.val 24,.sh sI_],fun x =>alT x.1⟩
theorem atW:CO Tryz.prog apG:=aan aak Tryz.func63 [aq1] ⟨avO,trivial⟩
noncomputable def apw (y0:Int):Option ((MemV×Unit)×(Unit)) :=
 if (if 131072<(if y0<0 then 0 else y0) then 131072 else (if y0<0 then 0 else y0))=(if 131072<(if y0<0 then 0 else y0) then 131072 else (if y0<0 then 0 else y0)) then
 if 0≤(if 131072<(if y0<0 then 0 else y0) then 131072 else (if y0<0 then 0 else y0))∧(if 131072<(if y0<0 then 0 else y0) then 131072 else (if y0<0 then 0 else y0))≤1099511627776 then
 some (((⟨List.replicate ((if 131072<(if y0<0 then 0 else y0) then 131072 else (if y0<0 then 0 else y0)):Int).toNat (0:Int),⟨0,0,0,0⟩,0⟩:MemV),()),())
 else none
 else none
noncomputable abbrev apv:Con SR1:=⟨70,[.sh sI_],[.sh (.own 9)],fun x =>apw x.1⟩
theorem atO:CO Tryz.prog apv:=aan aak Tryz.func70 [] trivial
noncomputable def asv  : Option ((ClkV×Unit)×(Unit)) :=
 some (((⟨0,0⟩:ClkV),()),())
noncomputable abbrev aq0:Con SR1:=⟨71,[],[.sh (.own 25)],fun x =>asv ⟩
theorem avL:CO Tryz.prog aq0:=aan aak Tryz.func71 [] trivial
noncomputable def aii (y0:Int):Option ((EnvP×Unit)×(Unit)) :=
 (apw y0).bind fun r1 =>
 (asv).bind fun r2 =>
 some (((⟨⟨0,0,0,0,0,0,0,0,0,[],[]⟩,⟨0,0,0,0,0,0,0,0,0,0,0⟩,r1.1.1,r2.1.1,[],[]⟩:EnvP),()),())
noncomputable abbrev alI:Con SR1:=⟨64,[.sh sI_],[.sh (.own 27)],fun x =>aii x.1⟩
theorem aqo:CO Tryz.prog alI:=aan aak Tryz.func64 [apv,aq0] ⟨atO,avL,trivial⟩
noncomputable def agQ (y0:Cfg):Option (((ClientV MV)×Unit)×(Unit)) :=
 (afh y0).bind fun r1 =>
 if y0.workers=y0.workers then
 some (((⟨r1.1.1.subs,y0.workers,0,1,MV.nil,true,0,false⟩:(ClientV MV)),()),())
 else none
noncomputable abbrev agP:Con SR1:=⟨50,[.val 13],[.sh (.own 30)],fun x =>agQ x.1⟩
theorem ahe:CO Tryz.prog agP:=aan aak Tryz.func50 [aiw] ⟨akB,trivial⟩
noncomputable def adv (y0:Int):Option (((WorkerV MV)×Unit)×(Unit)) :=
 some (((⟨y0,0,0,MV.nil,0,0,0⟩:(WorkerV MV)),()),())
noncomputable abbrev agy:Con SR1:=⟨51,[.sh sI_],[.sh (.own 31)],fun x =>adv x.1⟩
theorem agZ:CO Tryz.prog agy:=aan aak Tryz.func51 [] trivial
noncomputable def abJ (r:CodV) (k:Int):Option ((Int×Unit)×(CodV×Unit)) :=
 if r.at_<((r.inn.length:Nat):Int) then
 if 0≤r.at_∧r.at_<((r.inn.length:Nat):Int) then
 if k≠0 then
 some (((Int.tmod (wi (ai1 r.inn r.at_)) k),()),(({ r with at_:=wi (r.at_+1) }:CodV),()))
 else none
 else none
 else
 some ((0,()),(({ r with at_:=wi (r.at_+1) }:CodV),()))
noncomputable abbrev aqC:Con SR1:=⟨40,[.ref 19,.sh sI_],[.sh sI_],fun x =>abJ x.1 x.2.1⟩
theorem auW:CO Tryz.prog aqC:=aan aak Tryz.func40 [] trivial
noncomputable def aok (b:List Int):Option ((Cfg×Unit)×(Unit)) :=
 (abJ (⟨b,[],0,false⟩:CodV) 4).bind fun r1 =>
 (abJ r1.2.1 4).bind fun r2 =>
 (abJ r2.2.1 (if wi (1+r2.1.1)<3 then wi (1+r2.1.1) else 3)).bind fun r3 =>
 (abJ r3.2.1 12).bind fun r4 =>
 (abJ r4.2.1 4).bind fun r5 =>
 (abJ r5.2.1 4).bind fun r6 =>
 (abJ r6.2.1 (wi (1+r5.1.1))).bind fun r7 =>
 (abJ r7.2.1 6).bind fun r8 =>
 (abJ r8.2.1 8).bind fun r9 =>
 (abJ r9.2.1 4).bind fun r10 =>
 (lpF (σ:=Int×CodV×Cfg×Unit) (β:=Int×CodV×Cfg×Unit) (fun self13 x11 =>
 if x11.1<(wi (1+r10.1.1)) then
 (abJ x11.2.1 6).bind fun r14 =>
 (lpF (σ:=List Ins×Int×CodV×Unit) (β:=List Ins×Int×CodV×Unit) (fun self17 x15 =>
 if 0<x15.2.1 then
 (abJ x15.2.2.1 3).bind fun r18 =>
 if r18.1.1=0 then
 (abJ r18.2.1 4).bind fun r19 =>
 if (((x15.1.length+([(⟨r18.1.1,wi (1+r19.1.1),0⟩:Ins)]:List Ins).length:Nat)):Int)<1000000000000 then
 self17 (x15.1++([(⟨r18.1.1,wi (1+r19.1.1),0⟩:Ins)]),wi (x15.2.1-1),r19.2.1,())
 else none
 else
 if r18.1.1=1 then
 (abJ r18.2.1 (wi (1+r10.1.1))).bind fun r20 =>
 (abJ r20.2.1 x11.2.2.1.levels).bind fun r21 =>
 if (((x15.1.length+([(⟨r18.1.1,r20.1.1,r21.1.1⟩:Ins)]:List Ins).length:Nat)):Int)<1000000000000 then
 self17 (x15.1++([(⟨r18.1.1,r20.1.1,r21.1.1⟩:Ins)]),wi (x15.2.1-1),r21.2.1,())
 else none
 else
 (abJ r18.2.1 4).bind fun r22 =>
 if (((x15.1.length+([(⟨r18.1.1,r22.1.1,0⟩:Ins)]:List Ins).length:Nat)):Int)<1000000000000 then
 self17 (x15.1++([(⟨r18.1.1,r22.1.1,0⟩:Ins)]),wi (x15.2.1-1),r22.2.1,())
 else none
 else
 some (x15.1,x15.2.1,x15.2.2.1,())
 ) 18446744073709551616 ([],r14.1.1,r14.2.1,())).bind fun z16 =>
 if (((x11.2.2.1.progs.length+([z16.1]:List (List Ins)).length:Nat)):Int)<100000000000 then
 self13 (wi (x11.1+1),z16.2.2.1,({ x11.2.2.1 with progs:=x11.2.2.1.progs++([z16.1]) }:Cfg),())
 else none
 else
 some (x11.1,x11.2.1,x11.2.2.1,())
 ) 18446744073709551616 (0,r10.2.1,(⟨wi (1+r1.1.1),wi (1+r2.1.1),wi (1+r3.1.1),wi (1+r4.1.1),wi (1+r5.1.1),wi (1+r6.1.1),wi (1+r7.1.1),r8.1.1,wi (1+r9.1.1),[],[]⟩:Cfg),())).bind fun z12 =>
 (abJ z12.2.1 6).bind fun r23 =>
 (lpF (σ:=Int×CodV×Cfg×Unit) (β:=Int×CodV×Cfg×Unit) (fun self26 x24 =>
 if 0<x24.1 then
 (abJ x24.2.1 (wi (1+r10.1.1))).bind fun r27 =>
 (abJ r27.2.1 x24.2.2.1.levels).bind fun r28 =>
 (abJ r28.2.1 16).bind fun r29 =>
 if (((x24.2.2.1.subs.length+([(⟨r27.1.1,r28.1.1,r29.1.1⟩:Sub)]:List Sub).length:Nat)):Int)<1000000000000 then
 self26 (wi (x24.1-1),r29.2.1,({ x24.2.2.1 with subs:=x24.2.2.1.subs++([(⟨r27.1.1,r28.1.1,r29.1.1⟩:Sub)]) }:Cfg),())
 else none
 else
 some (x24.1,x24.2.1,x24.2.2.1,())
 ) 18446744073709551616 (r23.1.1,r23.2.1,z12.2.2.1,())).bind fun z25 =>
 some ((z25.2.2.1,()),())
noncomputable abbrev aqD:Con SR1:=⟨21,[.sh (.ro 17)],[.val 13],fun x =>aok x.1⟩
theorem auX:CO Tryz.prog aqD:=aan aak Tryz.func21 [aqC] ⟨auW,trivial⟩ [(12,.loop [.rg 6 sI_,.rg 3 (.own 19),.rg 4 (.own 20)] 18446744073709551616 0),(16,.loop [.rg 7 (.row 3),.rg 8 sI_,.rg 3 (.own 19)] 18446744073709551616 2),(29,.loop [.rg 10 sI_,.rg 3 (.own 19),.rg 4 (.own 20)] 18446744073709551616 5)]
noncomputable def afZ (b:List Int):Option ((Cfg×Unit)×(Unit)) :=
 (aok b).bind fun r1 =>
 some ((r1.1.1,()),())
noncomputable abbrev ahX:Con SR1:=⟨7,[.sh (.ro 17)],[.val 13],fun x =>afZ x.1⟩
theorem ahW:CO Tryz.prog ahX:=aan aak Tryz.func7 [aqD] ⟨auX,trivial⟩
noncomputable def apH (b:List Int) (l:List (List Int)):Option ((Bool×Unit)×(Unit)) :=
 (lpF (σ:=Int×Unit) (β:=(Int×Unit)⊕((Bool×Unit)×(Unit))) (fun self3 x1 =>
 if x1.1<((l.length:Nat):Int) then
 if 0≤x1.1∧x1.1<((l.length:Nat):Int) then
 if 400<(((atL [] l x1.1).length:Nat):Int) then
 Option.map Sum.inr (
 some ((false,()),())
 )
 else
 self3 (wi (x1.1+1),())
 else none
 else
 some (Sum.inl (x1.1,()))
 ) 18446744073709551616 (0,())).bind fun z2 =>match z2 with
 | .inr o4 =>some o4
 | .inl z2 =>
 some ((decide (((b.length:Nat):Int)≤400),()),())
noncomputable abbrev alW:Con SR1:=⟨6,[.sh (.ro 17),.sh (.rr 1)],[.sh .b],fun x =>apH x.1 x.2.1⟩
theorem alV:CO Tryz.prog alW:=aan aak Tryz.func6 [] trivial [(2,.loopR [.rg 5 sI_] 18446744073709551616 0)]
noncomputable def aeE (y0:Cfg):Option ((EnvP×Int×Unit)×(Unit)) :=
 (alT y0).bind fun r1 =>
 if r1.1.2.1≠0 then
 none
 else
 (awL r1.1.1).bind fun r2 =>
 (aii r2.1.1).bind fun r3 =>
 (afh y0).bind fun r4 =>
 if r1.1.1.workers=r1.1.1.workers then
 if r1.1.1.levels=r1.1.1.levels then
 if r1.1.1.classes=r1.1.1.classes then
 if r1.1.1.tasks=r1.1.1.tasks then
 if r1.1.1.deque=r1.1.1.deque then
 if r1.1.1.heap=r1.1.1.heap then
 if r1.1.1.sleepers=r1.1.1.sleepers then
 if r1.1.1.epochs=r1.1.1.epochs then
 if r1.1.1.bitmaps=r1.1.1.bitmaps then
 if r1.1.1.queues=r1.1.1.queues then
 if r1.1.1.table=r1.1.1.table then
 if r1.1.1.workers=r1.1.1.workers then
 if r1.1.1.levels=r1.1.1.levels then
 if r1.1.1.classes=r1.1.1.classes then
 if r1.1.1.tasks=r1.1.1.tasks then
 if r1.1.1.deque=r1.1.1.deque then
 if r1.1.1.heap=r1.1.1.heap then
 if r1.1.1.sleepers=r1.1.1.sleepers then
 if r1.1.1.epochs=r1.1.1.epochs then
 if r1.1.1.bitmaps=r1.1.1.bitmaps then
 if r1.1.1.queues=r1.1.1.queues then
 if r1.1.1.table=r1.1.1.table then
 (lpF (σ:=Int×EnvP×Unit) (β:=Int×EnvP×Unit) (fun self7 x5 =>
 if x5.1<y0.tasks then
 if (((x5.2.1.recs.length+([(⟨0,(-1),0,0,(-1),[],false⟩:RecP)]:List RecP).length:Nat)):Int)<100000000000 then
 self7 (wi (x5.1+1),({ x5.2.1 with recs:=x5.2.1.recs++([(⟨0,(-1),0,0,(-1),[],false⟩:RecP)]) }:EnvP),())
 else none
 else
 some (x5.1,x5.2.1,())
 ) 18446744073709551616 (0,({ r3.1.1 with c:=r4.1.1,l:=r1.1.1 }:EnvP),())).bind fun z6 =>
 some ((z6.2.1,0,()),())
 else none
 else none
 else none
 else none
 else none
 else none
 else none
 else none
 else none
 else none
 else none
 else none
 else none
 else none
 else none
 else none
 else none
 else none
 else none
 else none
 else none
 else none
noncomputable abbrev afE:Con SR1:=⟨49,[.val 13],[.sh (.own 27),.sh sI_],fun x =>aeE x.1⟩
theorem agj:CO Tryz.prog afE:=aan aak Tryz.func49 [apG,awK,alI,aiw] ⟨atW,azo,aqo,akB,trivial⟩ [(7,.loop [.rg 29 sI_,.rg 6 (.own 27)] 18446744073709551616 0)]
noncomputable def aaS (y0:MemV):Option ((Int×Unit)×(MemV×Unit)) :=
 some ((y0.count,()),(y0,()))
noncomputable abbrev acE:Con SR1:=⟨35,[.ref 9],[.sh sI_],fun x =>aaS x.1⟩
theorem ac8:CO Tryz.prog acE:=aan aak Tryz.func35 [] trivial
noncomputable def acp (y0:EntV) (y1:Int):Option ((Int×Unit)×(Unit)) :=
 if y0.kind≠0 then
 some (((-1),()),())
 else
 if y1<1 then
 some (((-1),()),())
 else
 if y1≠0 then
 if (Int.tmod y0.value y1)<0 then
 some ((wi ((Int.tmod y0.value y1)+y1),()),())
 else
 some (((Int.tmod y0.value y1),()),())
 else none
noncomputable abbrev adP:Con SR1:=⟨36,[.val 5,.sh sI_],[.sh sI_],fun x =>acp x.1 x.2.1⟩
theorem aep:CO Tryz.prog adP:=aan aak Tryz.func36 [] trivial
noncomputable def ael (y0:ClkV):Option ((Unit)×(ClkV×Unit)) :=
 some ((()),((⟨wi (y0.now+1),y0.draw⟩:ClkV),()))
noncomputable abbrev ady:Con SR1:=⟨37,[.ref 25],[],fun x =>ael x.1⟩
theorem ad7:CO Tryz.prog ady:=aan aak Tryz.func37 [] trivial
noncomputable def aeX (y0:ClkV) (y1:Int):Option ((Unit)×(ClkV×Unit)) :=
 some ((()),((⟨y0.now,y1⟩:ClkV),()))
noncomputable abbrev ad1:Con SR1:=⟨38,[.ref 25,.sh sI_],[],fun x =>aeX x.1 x.2.1⟩
theorem aet:CO Tryz.prog ad1:=aan aak Tryz.func38 [] trivial
noncomputable def afY (y0:MemV):Option ((AccV×Unit)×(MemV×Unit)) :=
 some ((y0.last,()),(y0,()))
noncomputable abbrev acX:Con SR1:=⟨39,[.ref 9],[.val 60],fun x =>afY x.1⟩
theorem adr:CO Tryz.prog acX:=aan aak Tryz.func39 [] trivial
end
section
open Go Go.RowKit
set_option maxRecDepth 100000
end
section
open Go Go.RowKit
inductive Rs (σ:Type) where
 | go (s:σ)
 | fin (c v:Int)
inductive OPushS where
 | l1 | l2 (b:Int) | l3 (b:Int) | l4 (b:Int)
inductive OPopS where
 | l1 | l2 (b:Int) | l3 (b t:Int) | l4 (b t:Int) | l5 (b t:Int) | l6 (b t:Int) | l7 (b t:Int) | l8 (b t:Int) | l9 (b t:Int)
inductive StealS where
 | l1 | l2 (t:Int) | l3 (t:Int) | l4 (t v:Int)
inductive ResetS where
 | l1 | l2 | l3 (b:Int) | l4 (b:Int)
inductive PublishS where
 | l1 | l2 | l3
inductive InsertS where
 | l1 | l2 (n:Int) | l3 (n i k x:Int) | l4 (n i k x:Int) | l5 (n i k x:Int) | l6 (n i k x:Int)
inductive RemoveS where
 | l1 | l2 (n:Int) | l3 (n x:Int) | l4 (n x y:Int) | l5 (n i c x y z:Int) | l6 (n i c x y z:Int) | l7 (n i c x y z:Int) | l8 (n i c x y z:Int)
inductive WakeS where
 | l1 (j:Int) | l2 (j v:Int) | l3 (j v:Int)
inductive SleepS where
 | l1 | l2 (ep:Int) | l3 (ep:Int) | l4 (ep v:Int) | l5 (ep v s:Int) | l6 (ep v s:Int) | l7 (ep v s:Int)
inductive ProbeS where
 | new | run (start next:Int) (bm:B16)
inductive RaiseS where
 | l1 (q:Int) | l2 (q:Int)
inductive LPushS where
 | new | push (s:OPushS) | set
inductive LPopS where
 | l1 (v:Int) | l2 (v:Int) (s:OPopS) | l3 (v:Int) (s:ResetS)
inductive WalkS where
 | l1 (t:Int) | raise (t:Int) (s:RaiseS) | l2 (t:Int) | push (t:Int) (s:LPushS) | l4 (t:Int)
inductive EnterS where
 | l1 | l2 | l3 | l4 (v:Int) (s:LPushS)
inductive SweepS where
 | l1 | l2 | l3 | l4 (q:Int) | l5 (q:Int) | l6 (q:Int) (s:LPushS)
inductive TakeS where
 | pop (s:LPopS) | claim (t:Int)
inductive DrainC where
 | l1 | l2 | l3 (s:RemoveS) | l4 | l5 (s:LPushS) | l6 | l7 (s:WakeS)
structure DrainS where
 x:Int
 direct:Bool
 p:Int
 last:Int
 count:Int
 c:DrainC
inductive RunC where
 | next | s2 (s:PublishS) | s3 (s:LPushS) | s4 (s:WakeS) | s5 | j2 | j3 | j4 | j5 (s:WalkS) | j6 | j7 | f2 | f3 | f4 (s:EnterS) | f5 (v:Int) (s:WakeS) | f6
structure RunS where
 stack:List Int
 id:Int
 child:Int
 level:Int
 waiter:Int
 c:RunC
inductive WorkC where
 | top | t1 (t:Int) (s:SweepS) | t2 (s:TakeS) | t3 (s:DrainS) | t4 (s:ProbeS) | t5 (s:StealS) | t6 | t7 (s:RunS) | t8 (s:SleepS) | t9 (s:ResetS)
structure WorkS where
 cursor:Int
 victim:Int
 level:Int
 x:Int
 c:WorkC
inductive ClieC where
 | n1 | a1 | n2 | n3 | n4 | n5 | n6 | a6 (s:InsertS) | n7 | n8 | n9 | a9 (s:WakeS)
structure ClieS where
 i:Int
 id:Int
 acc:Bool
 c:ClieC
def MemV.gt (m:MemV) (a:Int):Int:=if 0≤a∧a<(m.cells.length:Int) then ags m.cells a else 0
def MemV.pt (m:MemV) (k a v:Int):MemV:=if 0≤a∧a<(m.cells.length:Int) then ⟨m.cells.set a.toNat v,⟨k,a,ags m.cells a,v⟩,wi (m.count+1)⟩ else m
def MemV.hit (m:MemV) (a o:Int):Bool:=decide ((0≤a∧a<(m.cells.length:Int))∧ags m.cells a=o)
def MemV.cas (m:MemV) (a o v:Int):MemV:=m.pt 3 a (if m.gt a=o then v else m.gt a)
abbrev EnvP.gt (e:EnvP) (a:Int):Int:=e.m.gt a
def EnvP.pt (e:EnvP) (k a v:Int):EnvP:={ e with m:=e.m.pt k a v }
def EnvP.lk (e:EnvP) (a:Int):EnvP:={ e with m:=e.m.pt 1 a (e.m.gt a) }
abbrev EnvP.hit (e:EnvP) (a o:Int):Bool:=e.m.hit a o
def EnvP.cas (e:EnvP) (a o v:Int):EnvP:={ e with m:=e.m.cas a o v }
def EnvP.em (e:EnvP) (k w t o l:Int):EnvP:={ e with evs:=e.evs++[⟨k,w,t,o,l⟩] }
def EnvP.rc (e:EnvP) (t:Int):RecP:=aab e.recs t
def EnvP.pr (e:EnvP) (t:Int) (r:RecP):EnvP:={ e with recs:=e.recs.set t.toNat r }
def IsT (e:EnvP) (t:Int):Prop:=0≤t∧t<e.c.tasks
instance (e : EnvP) (t : Int) : Decidable (IsT e t) := inferInstanceAs (Decidable (_ ∧ _))
def asR (e:EnvP) (t v:Int):Prop:=(0≤t∧t<e.c.tasks)∧0≤v∧v<e.c.levels
instance (e : EnvP) (t v : Int) : Decidable (asR e t v) := inferInstanceAs (Decidable (_ ∧ _))
def szP (b t:Int):Int:=wi (wu (b-t))
def agW (q:QV) (i:Int):Int:=if q.cap<1 then -1 else wi (q.ring+wi (Int.tmod i (wu q.cap)))
def aBi (n:Int):Int:=if n<0 then 0 else if 63<n then 0 else wu (1*2 ^ min (wu n).toNat IntKind.u64.bits)
def arS (a n:Int):Int:=if n<1 then 0 else if Int.tmod a n<0 then wi (Int.tmod a n+n) else Int.tmod a n
def atP (i n a w:Int):Int:=if i<0 then -1 else if n≤i then -1 else wi (a+wi (i*w))
def acU (l:LayV) (t f:Int):Int:=atP t l.tasks (wi (l.table+f)) 5
def aaN (l:LayV) (t:Int):Int:=acU l t 0
def abx (l:LayV) (t:Int):Int:=acU l t 1
def acB (l:LayV) (t:Int):Int:=acU l t 2
def ad9 (l:LayV) (t:Int):Int:=acU l t 3
def ald (l:LayV) (t:Int):Int:=acU l t 4
def aeN (l:LayV) (i:Int):Int:=atP i l.heap 4 1
def afL (l:LayV) (w:Int):Int:=atP w l.workers l.epochs 1
def ahE (l:LayV) (k:Int):Int:=atP k l.classes l.sleepers 1
def aaF (l:LayV) (w:Int):Int:=atP w l.workers l.bitmaps 1
def aat (l:LayV) (w v:Int):QV :=
 if atP w l.workers l.queues (wi (l.levels*wi (2+l.deque)))<0 then ⟨-1,-1,-1,0⟩
 else if atP v l.levels (atP w l.workers l.queues (wi (l.levels*wi (2+l.deque)))) (wi (2+l.deque))<0 then ⟨-1,-1,-1,0⟩
 else ⟨atP v l.levels (atP w l.workers l.queues (wi (l.levels*wi (2+l.deque)))) (wi (2+l.deque)),wi (atP v l.levels (atP w l.workers l.queues (wi (l.levels*wi (2+l.deque)))) (wi (2+l.deque))+1),wi (atP v l.levels (atP w l.workers l.queues (wi (l.levels*wi (2+l.deque)))) (wi (2+l.deque))+2),l.deque⟩
def apg (d a t:Int):Int×Bool :=
 if d<0 then (0,false) else if 16777215<d then (0,false) else if a<0 then (0,false) else if 16777215<a then (0,false) else if t<0 then (0,false) else if 65535<t then (0,false)
 else (orU (orU (wu ((wu (d))*2 ^ min (40:Int).toNat IntKind.u64.bits)) (wu ((wu (a))*2 ^ min (16:Int).toNat IntKind.u64.bits))) (wu (t)),true)
def aAy (l n c:Int):Int:=if n<1 then 0 else if 64<n then 0 else if c<1 then 0 else if 8<c then 0 else if l<0 then 0 else if n≤l then 0 else wi (Int.tdiv (wi (l*c)) n)
def atX (k:Int):Int:=wi (ani k 65535)
noncomputable def ar4 (x:Int):Int:=match agU x with
 | some o =>o.1.1
 | none =>0
def at8 (k:ClkV) (n:Int):Int:=arS k.draw n
def aei (q:QV) (v:Int) (e:EnvP):OPushS→Rs OPushS×EnvP
 | .l1 =>(.go (.l2 (e.gt q.bottom)),e.lk q.bottom)
 | .l2 b =>(if q.cap≤szP b (e.gt q.top) then .fin 3 0 else .go (.l3 b),e.lk q.top)
 | .l3 b =>(.go (.l4 b),e.pt 2 (agW q b) (wu v))
 | .l4 b =>(.fin 0 0,e.pt 2 q.bottom (wu (b+1)))
def akM (q:QV) (e:EnvP):OPopS→Rs OPopS×EnvP
 | .l1 =>(.go (.l2 (e.gt q.bottom)),e.lk q.bottom)
 | .l2 b =>(if szP b (e.gt q.top)≤0 then .fin 2 0 else .go (.l3 b (e.gt q.top)),e.lk q.top)
 | .l3 b t =>(.go (.l4 b t),e.pt 2 q.bottom (wu (b-1)))
 | .l4 b _ =>(if 0<szP (wu (b-1)) (e.gt q.top) then .go (.l5 b (e.gt q.top)) else if szP (wu (b-1)) (e.gt q.top)=0 then .go (.l6 b (e.gt q.top)) else .go (.l9 b (e.gt q.top)),e.lk q.top)
 | .l5 b _ =>(.fin 1 (wi (e.gt (agW q (wu (b-1))))),e.lk (agW q (wu (b-1))))
 | .l6 b t =>(if e.hit q.top t=true then .go (.l7 b t) else .go (.l9 b t),e.cas q.top t (wu (t+1)))
 | .l7 b t =>(.go (.l8 b t),e.pt 2 q.bottom b)
 | .l8 b _ =>(.fin 1 (wi (e.gt (agW q (wu (b-1))))),e.lk (agW q (wu (b-1))))
 | .l9 b _ =>(.fin 2 0,e.pt 2 q.bottom b)
def agD (q:QV) (e:EnvP):StealS→Rs StealS×EnvP
 | .l1 =>(.go (.l2 (e.gt q.top)),e.lk q.top)
 | .l2 t =>(if szP (e.gt q.bottom) t≤0 then .fin 2 0 else .go (.l3 t),e.lk q.bottom)
 | .l3 t =>(.go (.l4 t (e.gt (agW q t))),e.lk (agW q t))
 | .l4 t v =>(if e.hit q.top t=true then .fin 1 (wi v) else .fin 4 0,e.cas q.top t (wu (t+1)))
def aeB (a b:Int) (q:QV) (e:EnvP):ResetS→Rs ResetS×EnvP
 | .l1 =>(.go .l2,e.pt 5 a (ani (e.gt a) (aC4 (aBi b))))
 | .l2 =>(.go (.l3 (e.gt q.bottom)),e.lk q.bottom)
 | .l3 x =>(if szP x (e.gt q.top)≤0 then .fin 2 0 else .go (.l4 x),e.lk q.top)
 | .l4 _ =>(.fin 1 0,e.pt 4 a (orU (e.gt a) (aBi b)))
def aBN (a b:Int) (e:EnvP):EnvP:=e.pt 4 a (orU (e.gt a) (aBi b))
def abN (e:EnvP):EnvP:=e.pt 6 0 (wu (e.gt 0+1))
def aeS (t v:Int) (e:EnvP) (s:PublishS):Rs PublishS×EnvP :=
 if ¬ IsT e t then (.fin 4 0,e)
 else match s with
  | .l1 =>(.go .l2,e.pt 2 (abx e.l t) (wu v))
  | .l2 =>(.go .l3,e.pt 2 (ald e.l t) (wu e.k.now))
  | .l3 =>(.fin 0 0,e.pt 2 (aaN e.l t) 1)
def acN (t:Int) (e:EnvP):Bool:=e.hit (aaN e.l t) 1
def aeb (w t:Int) (e:EnvP):EnvP :=
 if acN t e=true then
  if (e.rc t).started=true then (e.cas (aaN e.l t) 1 2).em 9 w t 0 0 else ((e.cas (aaN e.l t) 1 2).pr t { e.rc t with started:=true }).em 5 w t 0 0
 else (e.cas (aaN e.l t) 1 2).em 15 w t 0 0
def aqq (o:Int) (e:EnvP):EnvP:=e.cas 1 0 (wu (wi (o+1)))
def ar7 (e:EnvP):EnvP:=e.pt 2 1 0
def atv (n i k x:Int):InsertS:=if 0<i then .l3 n i k x else .l5 n i k x
abbrev upP (i:Int):Int:=wi (Int.tdiv (wi (i-1)) 2)
def abS (d t:Int) (e:EnvP):InsertS→Rs InsertS×EnvP
 | .l1 =>(if e.c.heap≤wi (e.gt 2) then .fin 3 0 else .go (.l2 (wi (e.gt 2))),e.lk 2)
 | .l2 n =>(if (apg d (wi (e.gt 3)) t).2=true then .go (atv n n (apg d (wi (e.gt 3)) t).1 0) else .fin 4 0,e.pt 6 3 (wu (e.gt 3+1)))
 | .l3 n i k _ =>(if k<e.gt (aeN e.l (upP i)) then .go (.l4 n i k (e.gt (aeN e.l (upP i)))) else .go (.l5 n i k (e.gt (aeN e.l (upP i)))),e.lk (aeN e.l (upP i)))
 | .l4 n i k x =>(.go (atv n (upP i) k x),e.pt 2 (aeN e.l i) x)
 | .l5 n i k x =>(.go (.l6 n i k x),e.pt 2 (aeN e.l i) k)
 | .l6 n _ _ _ =>(.fin 0 0,e.pt 2 2 (wu (wi (n+1))))
def aug (n i c x y z:Int):RemoveS:=if wi (wi (2*i)+1)<wi (n-1) then .l5 n i c x y z else .l8 n i c x y z
def ax2 (n i c x y z:Int):RemoveS:=if z<y then .l7 n i c x y z else .l8 n i c x y z
def acl (w:Int) (e:EnvP):RemoveS→Rs RemoveS×EnvP
 | .l1 =>(if wi (e.gt 2)≤0 then .fin 2 0 else .go (.l2 (wi (e.gt 2))),e.lk 2)
 | .l2 n =>(.go (.l3 n (e.gt (aeN e.l 0))),e.lk (aeN e.l 0))
 | .l3 n x =>(.go (.l4 n x (e.gt (aeN e.l (wi (n-1))))),e.lk (aeN e.l (wi (n-1))))
 | .l4 n x y =>(if n=1 then .fin 1 (atX x) else .go (aug n 0 0 x y 0),(e.pt 2 2 (wu (wi (n-1)))).em 13 w (atX x) 0 0)
 | .l5 n i _ x y _ =>(if wi (wi (wi (2*i)+1)+1)<wi (n-1) then .go (.l6 n i (wi (wi (2*i)+1)) x y (e.gt (aeN e.l (wi (wi (2*i)+1))))) else .go (ax2 n i (wi (wi (2*i)+1)) x y (e.gt (aeN e.l (wi (wi (2*i)+1))))),e.lk (aeN e.l (wi (wi (2*i)+1))))
 | .l6 n i c x y z =>(if e.gt (aeN e.l (wi (wi (2*i)+2)))<z then .go (ax2 n i (wi (wi (2*i)+2)) x y (e.gt (aeN e.l (wi (wi (2*i)+2))))) else .go (ax2 n i c x y z),e.lk (aeN e.l (wi (wi (2*i)+2))))
 | .l7 n i c x y z =>(.go (aug n c c x y z),e.pt 2 (aeN e.l i) z)
 | .l8 _ i _ x y _ =>(.fin 1 (atX x),e.pt 2 (aeN e.l i) y)
def af3 (w:Int) (e:EnvP):Int:=if e.c.classes<1 then -1 else ahE e.l (arS w e.c.classes)
def ac5 (w:Int) (e:EnvP):SleepS→Rs SleepS×EnvP
 | .l1 =>(.go (.l2 (e.gt (afL e.l w))),e.lk (afL e.l w))
 | .l2 ep =>(.go (.l3 ep),e.pt 4 (af3 w e) (orU (e.gt (af3 w e)) (aBi w)))
 | .l3 ep =>(if e.gt 2≠0 then .go (.l7 ep 0 0) else .go (.l4 ep 0),e.lk 2)
 | .l4 ep v =>
  if e.gt (aaF e.l v)≠0 then (.go (.l7 ep v 0),e.lk (aaF e.l v))
  else if e.c.workers≤wi (v+1) then (.go (.l5 ep (wi (v+1)) e.k.now),(e.lk (aaF e.l v)).em 16 w 0 0 0)
  else (.go (.l4 ep (wi (v+1))),e.lk (aaF e.l v))
 | .l5 ep v s =>
  if e.gt (afL e.l w)≠ep then (.go (.l6 ep v s),(e.lk (afL e.l w)).em 17 w 0 1 0)
  else if e.c.patience≤wi (e.k.now-s) then (.go (.l6 ep v s),(e.lk (afL e.l w)).em 17 w 0 2 0)
  else (.go (.l5 ep v s),e.lk (afL e.l w))
 | .l6 _ _ _ =>(.fin 1 0,e.pt 5 (af3 w e) (ani (e.gt (af3 w e)) (aC4 (aBi w))))
 | .l7 _ _ _ =>(.fin 5 0,e.pt 5 (af3 w e) (ani (e.gt (af3 w e)) (aC4 (aBi w))))
def ake (v j:Int) (e:EnvP):Int:=if e.c.classes<1 then -1 else ahE e.l (arS (wi (aAy v e.c.levels e.c.classes+j)) e.c.classes)
noncomputable def aJX [Tb] (x:Int):Int:=if x=0 then -1 else tzV x
noncomputable def adN [Tb] (w v:Int) (e:EnvP):WakeS→Rs WakeS×EnvP
 | .l1 j =>(if e.gt (ake v j e)≠0 then .go (.l2 j (aJX (e.gt (ake v j e)))) else if e.c.classes≤wi (j+1) then .fin 2 0 else .go (.l1 (wi (j+1))),e.lk (ake v j e))
 | .l2 j x =>(if ani (e.gt (ake v j e)) (aBi x)=0 then .fin 4 0 else .go (.l3 j x),e.pt 5 (ake v j e) (ani (e.gt (ake v j e)) (aC4 (aBi x))))
 | .l3 _ x =>(.fin 1 x,(e.pt 6 (afL e.l x) (wu (e.gt (afL e.l x)+1))).em 18 w 0 x 0)
def aea (w t v:Int) (e:EnvP) (s:RaiseS):Rs RaiseS×EnvP :=
 if ¬ asR e t v then (.fin 4 0,e)
 else match s with
  | .l1 _ =>(if v≤wi (e.gt (abx e.l t)) then .fin 0 0 else .go (.l2 (e.gt (abx e.l t))),e.lk (abx e.l t))
  | .l2 q =>if e.hit (abx e.l t) q=true then (.fin 1 0,(e.cas (abx e.l t) q (wu v)).em 11 w t 0 v) else (.go (.l1 q),e.cas (abx e.l t) q (wu v))
def B16.at (b:B16) (i:Int):Int :=
 if i=15 then b.b15 else if i=14 then b.b14 else if i=13 then b.b13 else if i=12 then b.b12 else if i=11 then b.b11 else if i=10 then b.b10 else if i=9 then b.b9 else if i=8 then b.b8
 else if i=7 then b.b7 else if i=6 then b.b6 else if i=5 then b.b5 else if i=4 then b.b4 else if i=3 then b.b3 else if i=2 then b.b2 else if i=1 then b.b1 else b.b0
def B16.put (b:B16) (i v:Int):B16 :=
 if i=15 then { b with b15:=v } else if i=14 then { b with b14:=v } else if i=13 then { b with b13:=v } else if i=12 then { b with b12:=v } else if i=11 then { b with b11:=v } else if i=10 then { b with b10:=v }
 else if i=9 then { b with b9:=v } else if i=8 then { b with b8:=v } else if i=7 then { b with b7:=v } else if i=6 then { b with b6:=v } else if i=5 then { b with b5:=v } else if i=4 then { b with b4:=v }
 else if i=3 then { b with b3:=v } else if i=2 then { b with b2:=v } else if i=1 then { b with b1:=v } else { b with b0:=v }
def aI6:B16:=⟨0,0,0,0,0,0,0,0,0,0,0,0,0,0,0,0⟩
def abt (e:EnvP):Int:=if 16<e.c.workers then 16 else e.c.workers
def akj (w n s i:Int):Int:=if i<n∧Int.tmod (wi (s+i)) n=w then wi (i+1) else i
noncomputable def axS (w n s:Int) (bm:B16):Nat→Int→Int×Int→Int×Int
 | 0,_,r =>r
 | k+1,i,r =>axS w n s bm k (i+1) (if Int.tmod (wi (s+i)) n≠w∧r.2<ar4 (bm.at (Int.tmod (wi (s+i)) n)) then (Int.tmod (wi (s+i)) n,ar4 (bm.at (Int.tmod (wi (s+i)) n))) else r)
noncomputable def ap4 (w n s:Int) (bm:B16):Int×Int:=axS w n (arS s n) bm n.toNat 0 (-1,-1)
noncomputable def af5 (w:Int) (e:EnvP) (s i:Int) (bm:B16):Rs ProbeS×EnvP :=
 if abt e≤akj w (abt e) s i then (.fin 2 0,e)
 else
  let v:=Int.tmod (wi (s+akj w (abt e) s i)) (abt e)
  let bm':=bm.put v (e.gt (aaF e.l v))
  let i':=akj w (abt e) s (wi (akj w (abt e) s i+1))
  if abt e≤i' then
   (if (ap4 w (abt e) s bm').1<0 then .fin 2 0 else .fin 1 (wi (wi ((ap4 w (abt e) s bm').1*64)+(ap4 w (abt e) s bm').2)),e.lk (aaF e.l v))
  else (.go (.run s i' bm'),e.lk (aaF e.l v))
noncomputable def aiL (w:Int) (e:EnvP):ProbeS→Rs ProbeS×EnvP
 | .new =>af5 w e (at8 e.k (abt e)) 0 aI6
 | .run s i bm =>af5 w e s i bm
def abw (w v x:Int) (e:EnvP):LPushS→Rs LPushS×EnvP
 | .new =>match aei (aat e.l w v) x e .l1 with
  | (.go s,e') =>(.go (.push s),e')
  | (.fin c _,e') =>(if c=3 then .fin 3 0 else .go .set,e')
 | .push s =>match aei (aat e.l w v) x e s with
  | (.go s,e') =>(.go (.push s),e')
  | (.fin c _,e') =>(if c=3 then .fin 3 0 else .go .set,e')
 | .set =>(.fin 0 0,aBN (aaF e.l w) v e)
noncomputable def afF (w:Int) (e:EnvP):LPopS→Rs LPopS×EnvP
 | .l1 _ =>(if e.gt (aaF e.l w)=0 then .fin 2 0 else .go (.l2 (ar4 (e.gt (aaF e.l w))) .l1),e.lk (aaF e.l w))
 | .l2 v s =>match akM (aat e.l w v) e s with
  | (.go s,e') =>(.go (.l2 v s),e')
  | (.fin c x,e') =>(if c=1 then .fin 1 x else .go (.l3 v .l1),e')
 | .l3 v s =>match aeB (aaF e.l w) v (aat e.l w v) e s with
  | (.go s,e') =>(.go (.l3 v s),e')
  | (.fin _ _,e') =>(.go (.l1 v),e')
def ad3 (w v:Int) (e:EnvP):WalkS→Rs WalkS×EnvP
 | .l1 t =>if ¬ asR e t v then (.fin 4 0,e) else match aea w t v e (.l1 0) with
  | (.go s,e') =>(.go (.raise t s),e')
  | (.fin c _,e') =>(.go (if c=1 then .l2 t else .l4 t),e')
 | .raise t s =>match aea w t v e s with
  | (.go s,e') =>(.go (.raise t s),e')
  | (.fin c _,e') =>(.go (if c=1 then .l2 t else .l4 t),e')
 | .l2 t =>(.go (if e.gt (aaN e.l t)=1 then .push t .new else .l4 t),e.lk (aaN e.l t))
 | .push t s =>match abw w v t e s with
  | (.go s,e') =>(.go (.push t s),e')
  | (.fin c _,e') =>(.go (.l4 t),if c=3 then e'.em 19 w t 0 v else e')
 | .l4 t =>(if e.gt (ad9 e.l t)=0 then .fin 0 0 else .go (.l1 (wi (wu (e.gt (ad9 e.l t)-1)))),e.lk (ad9 e.l t))
def adg (w t:Int) (e:EnvP):EnterS→Rs EnterS×EnvP
 | .l1 =>if ¬ IsT e t then (.fin 4 0,e) else (.go .l2,e.pt 2 (ald e.l t) (wu e.k.now))
 | .l2 =>(.go .l3,e.pt 2 (aaN e.l t) 1)
 | .l3 =>(.go (.l4 (wi (e.gt (abx e.l t))) .new),e.lk (abx e.l t))
 | .l4 v s =>match abw w v t e s with
  | (.go s,e') =>(.go (.l4 v s),e')
  | (.fin c _,e') =>(.fin c v,e')
def aba (w t:Int) (e:EnvP):SweepS→Rs SweepS×EnvP
 | .l1 =>if ¬ IsT e t∨e.c.age=0 then (.fin 0 0,e) else (if e.gt (aaN e.l t)=1 then .go .l2 else .fin 0 0,e.lk (aaN e.l t))
 | .l2 =>(if wi (e.k.now-wi (e.gt (ald e.l t)))<e.c.age then .fin 0 0 else .go .l3,e.lk (ald e.l t))
 | .l3 =>(if wi (e.c.levels-1)≤wi (e.gt (abx e.l t)) then .fin 0 0 else .go (.l4 (e.gt (abx e.l t))),e.lk (abx e.l t))
 | .l4 q =>if e.hit (abx e.l t) q=true then (.go (.l5 q),(e.cas (abx e.l t) q (wu (q+1))).em 12 w t 0 (wi (wi q+1))) else (.fin 4 0,e.cas (abx e.l t) q (wu (q+1)))
 | .l5 q =>(.go (.l6 q .new),e.pt 2 (ald e.l t) (wu e.k.now))
 | .l6 q s =>match abw w (wi (wi q+1)) t e s with
  | (.go s,e') =>(.go (.l6 q s),e')
  | (.fin c _,e') =>(.fin 1 0,if c=3 then e'.em 19 w t 0 (wi (wi q+1)) else e')
noncomputable def ai5 (w:Int) (e:EnvP):TakeS→Rs TakeS×EnvP
 | .pop s =>match afF w e s with
  | (.go s,e') =>(.go (.pop s),e')
  | (.fin c x,e') =>(if c=2 then .fin 2 0 else .go (.claim x),e')
 | .claim t =>(if acN t e=true then .fin 1 t else .go (.pop (.l1 0)),aeb w t e)
def al3 (s:DrainS):Rs DrainS:=if s.direct=true then .fin 1 s.x else if 0<s.count then .fin 0 s.count else .fin 2 0
noncomputable def aa3 [Tb] (w:Int) (e:EnvP) (d:DrainS):Rs DrainS×EnvP :=
 match d.c with
 | .l1 =>(if wi (e.gt 2)≤0 then .fin 2 0 else .go { d with c:=.l2 },e.lk 2)
 | .l2 =>(if e.hit 1 0=true then .go { d with c:=.l3 .l1 } else .fin 5 0,aqq w e)
 | .l3 s =>match acl w e s with
  | (.go s,e') =>(.go { d with c:=.l3 s },e')
  | (.fin c x,e') =>(if c=2 then .go { d with c:=.l6 } else .go { d with x:=x,c:=.l4 },e')
 | .l4 =>(.go { d with p:=wi (e.gt (abx e.l d.x)),c:=.l5 .new },e.lk (abx e.l d.x))
 | .l5 s =>match abw w d.p d.x e s with
  | (.go s,e') =>(.go { d with c:=.l5 s },e')
  | (.fin c _,e') =>(if c=3 then .go { d with direct:=true,c:=.l6 } else if wi (d.count+1)<e.c.batch then .go { d with last:=d.p,count:=wi (d.count+1),c:=.l3 .l1 } else .go { d with last:=d.p,count:=wi (d.count+1),c:=.l6 },e')
 | .l6 =>(if 0<d.count then .go { d with c:=.l7 (.l1 0) } else al3 d,ar7 e)
 | .l7 s =>match adN w d.last e s with
  | (.go s,e') =>(.go { d with c:=.l7 s },e')
  | (.fin _ _,e') =>(al3 d,e')
def aaA (l:List Int):Int:=l.getLast?.getD 0
def ag7 (r:RunS) (e:EnvP):Rs RunS×EnvP:=(if r.stack.length=1 then .fin 0 0 else .go { r with stack:=r.stack.dropLast,c:=.next },e)
def asp (x:RecP) (i:Ins):RecP :=
 if wi ((if x.left=0 then i.a else x.left)-1)=0 then { x with left:=wi ((if x.left=0 then i.a else x.left)-1),pc:=wi (x.pc+1) } else { x with left:=wi ((if x.left=0 then i.a else x.left)-1) }
def EnvP.prog (e:EnvP) (x:RecP):List Ins:=if x.prog<0∨(e.c.progs.length:Int)≤x.prog then [] else atL [] e.c.progs x.prog
def awU (p t:Int):RecP:=⟨p,t,0,0,-1,[],false⟩
def an4 (w:Int) (e:EnvP) (r:RunS) (t:Int) (x:RecP) (p:List Ins):Rs RunS×EnvP :=
 if x.waiting ≠ -1 then (.go r,(e.pt 2 (ad9 e.l t) 0).pr t { x with waiting := -1 })
 else if x.pc<0∨(p.length:Int)≤x.pc then (.go { r with c:=.f2 },e.pt 2 (aaN e.l t) 4)
 else if (abX p x.pc).op=0 then (.go r,e.pr t (asp x (abX p x.pc)))
 else if (abX p x.pc).op=1 then
  if IsT e (wi (e.gt 0)) then (.go { r with id:=wi (e.gt 0),level:=(abX p x.pc).b,c:=.s2 .l1 },((abN e).pr t { x with pc:=wi (x.pc+1),kids:=x.kids++[wi (e.gt 0)] }).pr (wi (e.gt 0)) (awU (abX p x.pc).a t))
  else (.go r,((abN e).pr t { x with pc:=wi (x.pc+1),kids:=x.kids++[-1] }).em 4 w t 0 0)
 else if (abX p x.pc).a<0∨(x.kids.length:Int)≤(abX p x.pc).a∨abn x.kids (abX p x.pc).a=-1 then (.go r,e.pr t { x with pc:=wi (x.pc+1) })
 else (.go { r with child:=abn x.kids (abX p x.pc).a,c:=.j2 },(e.pt 2 (ad9 e.l t) (wu (wi (abn x.kids (abX p x.pc).a+1)))).pr t { x with pc:=wi (x.pc+1),waiting:=abn x.kids (abX p x.pc).a })
noncomputable def adn [Tb] (w:Int) (e:EnvP) (r:RunS) (t:Int):Rs RunS×EnvP :=
 match r.c with
 | .next =>an4 w e r t (e.rc t) (e.prog (e.rc t))
 | .s2 s =>match aeS r.id r.level e s with
  | (.go s,e') =>(.go { r with c:=.s2 s },e')
  | (.fin _ _,e') =>(.go { r with c:=.s3 .new },e'.em 3 w r.id t r.level)
 | .s3 s =>match abw w r.level r.id e s with
  | (.go s,e') =>(.go { r with c:=.s3 s },e')
  | (.fin c _,e') =>(.go { r with c:=if c=3 then .s5 else .s4 (.l1 0) },e')
 | .s4 s =>match adN w r.level e s with
  | (.go s,e') =>(.go { r with c:=.s4 s },e')
  | (.fin _ _,e') =>(.go { r with c:=.next },e')
 | .s5 =>(.go (if acN r.id e=true then { r with stack:=r.stack++[r.id],c:=.next } else { r with c:=.next }),aeb w r.id e)
 | .j2 =>(.go { r with c:=.j3 },e.pt 2 (aaN e.l t) 3)
 | .j3 =>if e.hit (acB e.l r.child) 0=true then (.go { r with c:=.j4 },(e.cas (acB e.l r.child) 0 (wu (wi (t+1)))).em 6 w t r.child 0) else (.go { r with c:=.j6 },e.cas (acB e.l r.child) 0 (wu (wi (t+1))))
 | .j4 =>(.go { r with level:=wi (e.gt (abx e.l t)),c:=.j5 (.l1 r.child) },e.lk (abx e.l t))
 | .j5 s =>match ad3 w r.level e s with
  | (.go s,e') =>(.go { r with c:=.j5 s },e')
  | (.fin _ _,e') =>ag7 r (e'.em 7 w t 0 r.level)
 | .j6 =>(.go { r with c:=.j7 },e.pt 2 (aaN e.l t) 2)
 | .j7 =>(.go { r with c:=.next },((e.pt 2 (ad9 e.l t) 0).pr t { e.rc t with waiting := -1 }).em 8 w t r.child 0)
 | .f2 =>if e.hit (acB e.l t) 0=true then ag7 r ((e.cas (acB e.l t) 0 4294967296).em 10 w t 0 0) else (.go { r with c:=.f3 },(e.cas (acB e.l t) 0 4294967296).em 10 w t 0 0)
 | .f3 =>if IsT e (wi (wi (e.gt (acB e.l t))-1)) then (.go { r with waiter:=wi (wi (e.gt (acB e.l t))-1),c:=.f4 .l1 },e.lk (acB e.l t)) else ag7 { r with waiter:=wi (wi (e.gt (acB e.l t))-1) } (e.lk (acB e.l t))
 | .f4 s =>match adg w r.waiter e s with
  | (.go s,e') =>(.go { r with c:=.f4 s },e')
  | (.fin c v,e') =>(.go { r with c:=if c=3 then .f6 else .f5 v (.l1 0) },e')
 | .f5 v s =>match adN w v e s with
  | (.go s,e') =>(.go { r with c:=.f5 v s },e')
  | (.fin _ _,e') =>ag7 r e'
 | .f6 =>if acN r.waiter e=true then (.go { r with stack:=r.stack.dropLast++[r.waiter],c:=.next },aeb w r.waiter e) else ag7 r (aeb w r.waiter e)
noncomputable def auB [Tb] (w:Int) (e:EnvP) (r:RunS):Rs RunS×EnvP:=if ¬ IsT e (aaA r.stack) then (.fin 4 0,e) else adn w e r (aaA r.stack)
def aE2 (t:Int):RunS:=⟨[t],0,0,0,0,.next⟩
def aAk:DrainS:=⟨0,false,0,0,0,.l1⟩
def axG:TakeS:=.pop (.l1 0)
def abH (w:Int) (e:EnvP) (k:WorkS):WorkC:=match k.c with
 | .top =>if e.c.age=0 then .t2 axG else .t1 (arS (wi (arS w e.c.tasks+k.cursor)) e.c.tasks) .l1
 | c =>c
def an8 (e:EnvP):WorkC:=if e.c.workers=1 then .t8 .l1 else .t4 .new
noncomputable def abe [Tb] (w:Int) (e:EnvP) (k:WorkS):WorkS×EnvP :=
 match abH w e k with
 | .top =>(k,e)
 | .t1 t s =>match aba w t e s with
  | (.go s,e') =>({ k with c:=.t1 t s },e')
  | (.fin _ _,e') =>({ k with cursor:=wi (k.cursor+1),c:=.t2 axG },e')
 | .t2 s =>match ai5 w e s with
  | (.go s,e') =>({ k with c:=.t2 s },e')
  | (.fin c x,e') =>(if c=1 then { k with x:=x,c:=.t7 (aE2 x) } else { k with c:=.t3 aAk },e')
 | .t3 s =>match aa3 w e s with
  | (.go s,e') =>({ k with c:=.t3 s },e')
  | (.fin c x,e') =>(if c=1 then { k with x:=x,c:=.t6 } else if c=0 then { k with c:=.t2 axG } else { k with c:=an8 e' },e')
 | .t4 s =>match aiL w e s with
  | (.go s,e') =>({ k with c:=.t4 s },e')
  | (.fin c x,e') =>(if c=2 then { k with c:=.t8 .l1 } else { k with victim:=wi (Int.tdiv x 64),level:=Int.tmod x 64,c:=.t5 .l1 },e')
 | .t5 s =>match agD (aat e.l k.victim k.level) e s with
  | (.go s,e') =>({ k with c:=.t5 s },e')
  | (.fin c x,e') =>if c=1 then ({ k with x:=x,c:=.t6 },e'.em 14 w x k.victim k.level) else if c=2 then ({ k with c:=.t9 .l1 },e') else ({ k with c:=.top },e')
 | .t6 =>(if acN k.x e=true then { k with c:=.t7 (aE2 k.x) } else { k with c:=.top },aeb w k.x e)
 | .t7 s =>match auB w e s with
  | (.go s,e') =>({ k with c:=.t7 s },e')
  | (.fin _ _,e') =>({ k with c:=.top },e')
 | .t8 s =>match ac5 w e s with
  | (.go s,e') =>({ k with c:=.t8 s },e')
  | (.fin _ _,e') =>({ k with c:=.top },e')
 | .t9 s =>match aeB (aaF e.l k.victim) k.level (aat e.l k.victim k.level) e s with
  | (.go s,e') =>({ k with c:=.t9 s },e')
  | (.fin _ _,e') =>({ k with c:=.top },e')
def aAw (subs:List Sub) (k:ClieS) (e:EnvP):Bool×ClieS×EnvP:=(decide ((subs.length:Int)≤wi (k.i+1)),{ k with i:=wi (k.i+1),acc:=false,c:=.n1 },e)
noncomputable def aa8 [Tb] (subs:List Sub) (me:Int) (e:EnvP) (k:ClieS) (s:Sub):Bool×ClieS×EnvP :=
 match k.c with
 | .n1 =>(false,{ k with c:=if e.hit 1 0=true then .n2 else .a1 },aqq me e)
 | .a1 =>(false,{ k with c:=if e.hit 1 0=true then .n2 else .a1 },aqq me e)
 | .n2 =>if e.c.heap≤wi (e.gt 2) then (false,{ k with c:=.n8 },(e.lk 2).em 2 me 0 k.i 1) else (false,{ k with c:=.n3 },e.lk 2)
 | .n3 =>if IsT e (wi (e.gt 0)) then (false,{ k with id:=wi (e.gt 0),c:=.n4 },(abN e).pr (wi (e.gt 0)) (awU s.prog (-1))) else (false,{ k with c:=.n8 },(abN e).em 2 me 0 k.i 2)
 | .n4 =>(false,{ k with c:=.n5 },e.pt 2 (abx e.l k.id) (wu s.level))
 | .n5 =>(false,{ k with c:=.n6 },e.pt 2 (ald e.l k.id) (wu e.k.now))
 | .n6 =>match abS s.deadline k.id e .l1 with
  | (.go t,e') =>(false,{ k with c:=.a6 t },e')
  | (.fin c _,e') =>if c=0 then (false,{ k with acc:=true,c:=.n7 },e'.em 1 me k.id k.i s.level) else (false,{ k with c:=.n8 },e')
 | .a6 t =>match abS s.deadline k.id e t with
  | (.go t,e') =>(false,{ k with c:=.a6 t },e')
  | (.fin c _,e') =>if c=0 then (false,{ k with acc:=true,c:=.n7 },e'.em 1 me k.id k.i s.level) else (false,{ k with c:=.n8 },e')
 | .n7 =>(false,{ k with c:=.n8 },e.pt 2 (aaN e.l k.id) 1)
 | .n8 =>if k.acc=true then (false,{ k with c:=.n9 },ar7 e) else aAw subs k (ar7 e)
 | .n9 =>match adN me s.level e (.l1 0) with
  | (.go t,e') =>(false,{ k with c:=.a9 t },e')
  | (.fin _ _,e') =>aAw subs k e'
 | .a9 t =>match adN me s.level e t with
  | (.go t,e') =>(false,{ k with c:=.a9 t },e')
  | (.fin _ _,e') =>aAw subs k e'
noncomputable def aiB [Tb] (subs:List Sub) (me:Int) (e:EnvP) (k:ClieS):Bool×ClieS×EnvP :=
 if (subs.length:Int)≤k.i then (true,k,e) else aa8 subs me e k (abZ subs k.i)
end
section
open Go Go.RowKit
set_option maxRecDepth 100000
theorem aAQ {α:Type} {d:α} {xs:List α} {a:Int} {x:α} (h:0≤a∧a<(xs.length:Int)):atL d (xs.set a.toNat x) a=x:=by
 have:a.toNat<xs.length:=by omega
 simp [atL,this]
theorem ajL {cs:List Int} {a x:Int} (h:0≤a∧a<(cs.length:Int)):ags (cs.set a.toNat x) a=x:=aAQ h
theorem aG2 {x:Int} (h:¬ x<1) (h2:x≤9223372036854775807):wu x≠0:=by
 simp only [wu,IntKind.wrap,IntKind.bits,IntKind.signed]
 simp
 omega
theorem aG3 (a:Int):0≤wu a∧wu a≤18446744073709551615:=by
 simp only [wu,IntKind.wrap,IntKind.bits,IntKind.signed]
 simp
 omega
section
variable {m:MemV} {a o v:Int}
theorem abB:acz m a=some ((m.gt a,()),(m.pt 1 a (m.gt a),())):=by
 unfold acz MemV.gt MemV.pt
 by_cases h:0≤a∧a<(m.cells.length:Int)
 ·have h1:¬ a<0:=by omega
  have h2:¬ ((m.cells.length:Nat):Int)≤a:=by omega
  simp only [h1,h2,h,and_self,if_true,if_false,List.length_set,ajL h]
 ·by_cases h1:a<0
  ·simp only [h1,h,if_true,if_false]
  ·have h2:((m.cells.length:Nat):Int)≤a:=by omega
   simp only [h1,h2,h,if_true,if_false]
theorem abv:aa2 m a v=some ((),(m.pt 2 a v,())):=by
 unfold aa2 MemV.pt
 by_cases h:0≤a∧a<(m.cells.length:Int)
 ·have h1:¬ a<0:=by omega
  have h2:¬ ((m.cells.length:Nat):Int)≤a:=by omega
  simp only [h1,h2,h,and_self,if_true,if_false,List.length_set,ajL h]
 ·by_cases h1:a<0
  ·simp only [h1,h,if_true,if_false]
  ·have h2:((m.cells.length:Nat):Int)≤a:=by omega
   simp only [h1,h2,h,if_true,if_false]
theorem ajp:asW m a o v=some ((m.hit a o,()),(m.cas a o v,())):=by
 unfold asW MemV.hit MemV.cas MemV.pt MemV.gt
 by_cases h:0≤a∧a<(m.cells.length:Int)
 ·have h1:¬ a<0:=by omega
  have h2:¬ ((m.cells.length:Nat):Int)≤a:=by omega
  by_cases hc:ags m.cells a=o
  ·simp only [h1,h2,h,hc,and_self,if_true,if_false,List.length_set,ajL h]
  ·simp only [h1,h2,h,hc,and_self,if_true,if_false,List.length_set,ajL h,and_false]
 ·by_cases h1:a<0
  ·simp only [h1,h,if_true,if_false,false_and,decide_false]
  ·have h2:((m.cells.length:Nat):Int)≤a:=by omega
   simp only [h1,h2,h,if_true,if_false,false_and,decide_false]
theorem awE:pOr m a v=some ((m.gt a,()),(m.pt 4 a (orU (m.gt a) v),())):=by
 unfold pOr MemV.gt MemV.pt
 by_cases h:0≤a∧a<(m.cells.length:Int)
 ·have h1:¬ a<0:=by omega
  have h2:¬ ((m.cells.length:Nat):Int)≤a:=by omega
  simp only [h1,h2,h,and_self,if_true,if_false,List.length_set,ajL h]
 ·by_cases h1:a<0
  ·simp only [h1,h,if_true,if_false]
  ·have h2:((m.cells.length:Nat):Int)≤a:=by omega
   simp only [h1,h2,h,if_true,if_false]
theorem apl:aDQ m a v=some ((m.gt a,()),(m.pt 5 a (ani (m.gt a) v),())):=by
 unfold aDQ MemV.gt MemV.pt
 by_cases h:0≤a∧a<(m.cells.length:Int)
 ·have h1:¬ a<0:=by omega
  have h2:¬ ((m.cells.length:Nat):Int)≤a:=by omega
  simp only [h1,h2,h,and_self,if_true,if_false,List.length_set,ajL h]
 ·by_cases h1:a<0
  ·simp only [h1,h,if_true,if_false]
  ·have h2:((m.cells.length:Nat):Int)≤a:=by omega
   simp only [h1,h2,h,if_true,if_false]
theorem arK:aGP m a v=some ((m.gt a,()),(m.pt 6 a (wu (m.gt a+v)),())):=by
 unfold aGP MemV.gt MemV.pt
 by_cases h:0≤a∧a<(m.cells.length:Int)
 ·have h1:¬ a<0:=by omega
  have h2:¬ ((m.cells.length:Nat):Int)≤a:=by omega
  simp only [h1,h2,h,and_self,if_true,if_false,List.length_set,ajL h]
 ·by_cases h1:a<0
  ·simp only [h1,h,if_true,if_false]
  ·have h2:((m.cells.length:Nat):Int)≤a:=by omega
   simp only [h1,h2,h,if_true,if_false]
end
theorem amR {a n:Int}:atz a n=some ((arS a n,()),()):=by
 unfold atz arS
 by_cases h:n<1
 ·rw [if_pos h,if_pos h]
 ·rw [if_neg h,if_neg h,if_pos (show n≠0 by omega)]
  split<;>rfl
theorem aCh {k:ClkV} {n:Int}:aCi k n=some ((at8 k n,()),(k,())):=by
 unfold aCi at8 arS
 by_cases h:n<1
 ·rw [if_pos h,if_pos h]
 ·rw [if_neg h,if_neg h,if_pos (show n≠0 by omega)]
  split<;>rfl
theorem amS {n:Int}:aBe n=some ((aBi n,()),()):=by
 unfold aBe aBi
 rw [if_pos (aG3 n).1]
 split
 ·rfl
 ·split<;>rfl
theorem arH {q:QV} {i:Int} (h:q.cap≤9223372036854775807):avc q i=some ((agW q i,()),()):=by
 unfold avc agW
 by_cases h1:q.cap<1
 ·rw [if_pos h1,if_pos h1]
 ·rw [if_neg h1,if_neg h1,if_pos (aG2 h1 h)]
theorem aoo {b t:Int}:au8 b t=some ((szP b t,()),()):=rfl
theorem aqL {i n a w:Int}:pAt i n a w=some ((atP i n a w,()),()):=by
 unfold pAt atP
 split
 ·rfl
 ·split<;>rfl
theorem alA {l:LayV} {t f:Int}:aty l t f=some ((acU l t f,()),()):=by unfold aty; rw [aqL]; rfl
theorem aeT {l:LayV} {t:Int}:aeC l t=some ((aaN l t,()),()):=by unfold aeC; rw [alA]; rfl
theorem afD {l:LayV} {t:Int}:ae6 l t=some ((abx l t,()),()):=by unfold ae6; rw [alA]; rfl
theorem ajk {l:LayV} {t:Int}:aiN l t=some ((ald l t,()),()):=by unfold aiN; rw [alA]; rfl
theorem aly {l:LayV} {t:Int}:aji l t=some ((ad9 l t,()),()):=by unfold aji; rw [alA]; rfl
theorem arE {l:LayV} {t:Int}:an2 l t=some ((acB l t,()),()):=by unfold an2; rw [alA]; rfl
theorem awD {l:LayV} {t:Int}:an1 l t=some ((aeN l t,()),()):=by unfold an1; rw [aqL]; rfl
theorem alC {l:LayV} {t:Int}:aqJ l t=some ((afL l t,()),()):=by unfold aqJ; rw [aqL]; rfl
theorem ag5 {l:LayV} {t:Int}:agJ l t=some ((ahE l t,()),()):=by unfold agJ; rw [aqL]; rfl
theorem aeD {l:LayV} {t:Int}:ahl l t=some ((aaF l t,()),()):=by unfold ahl; rw [aqL]; rfl
theorem ajm {l:LayV} {w v:Int}:agK l w v=some ((aat l w v,()),()):=by
 unfold agK aat
 simp only [aqL,Option.bind_some]
 split
 ·rfl
 ·split<;>rfl
theorem aCa {d a t:Int}:aCb d a t=some (((apg d a t).1,(apg d a t).2,()),()):=by
 unfold aCb apg
 repeat' split
 all_goals rfl
theorem atA {l n c:Int}:atB l n c=some ((aAy l n c,()),()):=by
 unfold atB aAy
 by_cases h:n<1
 ·rw [if_pos h,if_pos h]
 ·rw [if_neg h,if_neg h,if_pos (show n≠0 by omega)]
  repeat' split
  all_goals rfl
theorem aJI (a:Int):0≤IntKind.u8.wrap a∧IntKind.u8.wrap a<256:=by
 simp only [IntKind.wrap,IntKind.bits,IntKind.signed]
 simp
 omega
theorem awI {x:Int}:agU x=some ((ar4 x,()),()):=by
 have h:∃ y,agU x=some ((y,()),()):=by
  have hs:((ai7.size:Nat):Int)=256:=rfl
  unfold agU
  simp only [hs,aJI,and_self,if_true]
  repeat' split
  all_goals exact ⟨_,rfl⟩
 obtain ⟨y,hy⟩:=h
 unfold ar4
 rw [hy]
theorem azk [Tb] {x:Int}:aJo x=some ((aJX x,()),()):=by
 unfold aJo aJX
 split<;>rfl
theorem ace {e:EnvP} {v:Ev} (h:e.evs.length≤999999999):aec e v=some ((),({ e with evs:=e.evs++[v] },())):=by
 unfold aec
 rw [if_pos (by rw [List.length_singleton]; omega)]
@[reducible] def o0 : OutV := ⟨false,0,0⟩
@[reducible] def awP (q : QV) (v : Int) : OPushS → OPushV
 | .l1 =>⟨o0,q,v,1,0⟩
 | .l2 b =>⟨o0,q,v,2,b⟩
 | .l3 b =>⟨o0,q,v,3,b⟩
 | .l4 b =>⟨o0,q,v,4,b⟩
@[reducible] def aCl (q : QV) : OPopS → OPopV
 | .l1 =>⟨o0,q,1,0,0⟩
 | .l2 b =>⟨o0,q,2,b,0⟩
 | .l3 b t =>⟨o0,q,3,b,t⟩
 | .l4 b t =>⟨o0,q,4,b,t⟩
 | .l5 b t =>⟨o0,q,5,b,t⟩
 | .l6 b t =>⟨o0,q,6,b,t⟩
 | .l7 b t =>⟨o0,q,7,b,t⟩
 | .l8 b t =>⟨o0,q,8,b,t⟩
 | .l9 b t =>⟨o0,q,9,b,t⟩
@[reducible] def awe (q : QV) : StealS → StealV
 | .l1 =>⟨o0,q,1,0,0⟩
 | .l2 t =>⟨o0,q,2,t,0⟩
 | .l3 t =>⟨o0,q,3,t,0⟩
 | .l4 t v =>⟨o0,q,4,t,v⟩
@[reducible] def atl (a b : Int) (q : QV) : ResetS → ResetV
 | .l1 =>⟨o0,a,b,q,1,0⟩
 | .l2 =>⟨o0,a,b,q,2,0⟩
 | .l3 x =>⟨o0,a,b,q,3,x⟩
 | .l4 x =>⟨o0,a,b,q,4,x⟩
@[reducible] def alt (t v : Int) : PublishS → PublishV
 | .l1 =>⟨o0,t,v,1⟩
 | .l2 =>⟨o0,t,v,2⟩
 | .l3 =>⟨o0,t,v,3⟩
@[reducible] def ar3 (d t : Int) : InsertS → InsertV
 | .l1 =>⟨o0,d,t,1,0,0,0,0⟩
 | .l2 n =>⟨o0,d,t,2,n,0,0,0⟩
 | .l3 n i k x =>⟨o0,d,t,3,n,i,k,x⟩
 | .l4 n i k x =>⟨o0,d,t,4,n,i,k,x⟩
 | .l5 n i k x =>⟨o0,d,t,5,n,i,k,x⟩
 | .l6 n i k x =>⟨o0,d,t,6,n,i,k,x⟩
@[reducible] def art (w : Int) : RemoveS → RemoveV
 | .l1 =>⟨o0,w,1,0,0,0,0,0,0⟩
 | .l2 n =>⟨o0,w,2,n,0,0,0,0,0⟩
 | .l3 n x =>⟨o0,w,3,n,0,0,x,0,0⟩
 | .l4 n x y =>⟨o0,w,4,n,0,0,x,y,0⟩
 | .l5 n i c x y z =>⟨o0,w,5,n,i,c,x,y,z⟩
 | .l6 n i c x y z =>⟨o0,w,6,n,i,c,x,y,z⟩
 | .l7 n i c x y z =>⟨o0,w,7,n,i,c,x,y,z⟩
 | .l8 n i c x y z =>⟨o0,w,8,n,i,c,x,y,z⟩
@[reducible] def as2 (w v : Int) : WakeS → WakeV
 | .l1 j =>⟨o0,w,v,1,j,0⟩
 | .l2 j x =>⟨o0,w,v,2,j,x⟩
 | .l3 j x =>⟨o0,w,v,3,j,x⟩
@[reducible] def as9 (w : Int) : SleepS → SleepV
 | .l1 =>⟨o0,w,1,0,0,0⟩
 | .l2 ep =>⟨o0,w,2,ep,0,0⟩
 | .l3 ep =>⟨o0,w,3,ep,0,0⟩
 | .l4 ep v =>⟨o0,w,4,ep,v,0⟩
 | .l5 ep v s =>⟨o0,w,5,ep,v,s⟩
 | .l6 ep v s =>⟨o0,w,6,ep,v,s⟩
 | .l7 ep v s =>⟨o0,w,7,ep,v,s⟩
@[reducible] def alw (w : Int) : ProbeS → ProbeV
 | .new =>⟨o0,w,false,0,0,aI6⟩
 | .run s i bm =>⟨o0,w,true,s,i,bm⟩
@[reducible] def ats (w t v : Int) : RaiseS → RaiseV
 | .l1 q =>⟨o0,w,t,v,1,q⟩
 | .l2 q =>⟨o0,w,t,v,2,q⟩
def aaV {σ X:Type} (og:X→OutV) (mk:σ→X) (res:Option ((Bool×Unit)×(X×EnvP×Unit))) (r:Rs σ×EnvP):Prop :=
 match r with
 | (.go s,e) =>res=some ((false,()),(mk s,e,()))
 | (.fin c v,e) =>∃ x,res=some ((true,()),(x,e,()))∧og x=⟨true,c,v⟩
section
variable {σ X:Type} {og:X→OutV} {mk:σ→X} {a b:Option ((Bool×Unit)×(X×EnvP×Unit))} {r s:Rs σ×EnvP}
theorem aaV.ite {c:Prop} [Decidable c] (h1:c→aaV og mk a r) (h2:¬ c→aaV og mk b s):aaV og mk (if c then a else b) (if c then r else s):=by
 by_cases h:c
 ·rw [if_pos h,if_pos h]; exact h1 h
 ·rw [if_neg h,if_neg h]; exact h2 h
theorem aaV.iteN {c:Bool} (h1:c=true→aaV og mk b r) (h2:c=false→aaV og mk a s):aaV og mk (if (!c)=true then a else b) (if c=true then r else s):=by
 cases c
 ·exact h2 rfl
 ·exact h1 rfl
theorem aaV.iteL {c:Prop} [Decidable c] (h1:c→aaV og mk a r) (h2:¬ c→aaV og mk b r):aaV og mk (if c then a else b) r:=by
 by_cases h:c
 ·rw [if_pos h]; exact h1 h
 ·rw [if_neg h]; exact h2 h
theorem aa0 {c:Prop} [Decidable c] {x y:Rs σ} {e:EnvP}:((if c then x else y),e)=if c then (x,e) else (y,e):=by split<;>rfl
theorem at2 {c:Prop} [Decidable c] {x y:σ}:Rs.go (if c then x else y)=if c then Rs.go x else Rs.go y:=by split<;>rfl
end
theorem aci {α β:Type} {c:Prop} [Decidable c] {x y:Option α} {f:α→Option β}:(if c then x else y).bind f=if c then x.bind f else y.bind f:=by split<;>rfl
section
variable {e:EnvP}
theorem atF {q:QV} {v:Int} (hq:q.cap≤9223372036854775807) (s:OPushS):aaV OPushV.o (awP q v) (adq (awP q v s) e) (aei q v e s):=by
 cases s<;>simp only [adq,awP,aei,aaw,abg,o0,abB,abv,aoo,arH hq,Option.bind_some,Bool.false_eq_true,if_true,if_false,reduceIte,Int.reduceEq,aa0]
 all_goals repeat' first | with_reducible refine aaV.ite (fun _ =>?_) fun _ =>?_ | with_reducible refine aaV.iteN (fun _ =>?_) fun _ =>?_
 all_goals first | rfl | exact ⟨_,rfl,rfl⟩
theorem aCj {q:QV} (hq:q.cap≤9223372036854775807) (s:OPopS):aaV OPopV.o (aCl q) (adS (aCl q s) e) (akM q e s):=by
 cases s<;>simp only [adS,ahm,aCl,akM,aaw,abg,o0,abB,abv,ajp,aoo,arH hq,Option.bind_some,Bool.false_eq_true,if_true,if_false,reduceIte,Int.reduceEq,aa0,aci]
 all_goals repeat' first | with_reducible refine aaV.ite (fun _ =>?_) fun _ =>?_ | with_reducible refine aaV.iteN (fun _ =>?_) fun _ =>?_
 all_goals first | rfl | exact ⟨_,rfl,rfl⟩
theorem ayx {q:QV} (hq:q.cap≤9223372036854775807) (s:StealS):aaV StealV.o (awe q) (ac1 (awe q s) e) (agD q e s):=by
 cases s<;>simp only [ac1,awe,agD,aaw,abg,o0,abB,abv,ajp,aoo,arH hq,Option.bind_some,Bool.false_eq_true,if_true,if_false,reduceIte,Int.reduceEq,aa0]
 all_goals repeat' first | with_reducible refine aaV.ite (fun _ =>?_) fun _ =>?_ | with_reducible refine aaV.iteN (fun _ =>?_) fun _ =>?_
 all_goals first | rfl | exact ⟨_,rfl,rfl⟩
theorem atj {a b:Int} {q:QV} (s:ResetS):aaV ResetV.o (atl a b q) (acI (atl a b q s) e) (aeB a b q e s):=by
 cases s<;>simp only [acI,atl,aeB,aaw,abg,o0,abB,abv,apl,awE,amS,aoo,Option.bind_some,Bool.false_eq_true,if_true,if_false,reduceIte,Int.reduceEq,aa0]
 all_goals repeat' first | with_reducible refine aaV.ite (fun _ =>?_) fun _ =>?_ | with_reducible refine aaV.iteN (fun _ =>?_) fun _ =>?_
 all_goals first | rfl | exact ⟨_,rfl,rfl⟩
theorem aET {a b:Int}:∃ x,adu ⟨o0,a,b⟩ e=some ((true,()),(x,aBN a b e,()))∧x.o=⟨true,0,0⟩:=by
 simp only [adu,aaw,abg,o0,awE,amS,Option.bind_some,Bool.false_eq_true,if_true,if_false]
 exact ⟨_,rfl,rfl⟩
theorem ajw {t:Int}:afb e t=some ((decide (IsT e t),()),(e,())):=by
 unfold afb IsT
 by_cases h:0≤t
 ·simp only [h,if_true,true_and]
 ·simp only [h,if_false,false_and,decide_false]
theorem ase {t v:Int}:ajI e t v=some ((decide (asR e t v),()),(e,())):=by
 unfold ajI asR
 by_cases h:0≤t
 ·by_cases h2:t<e.c.tasks
  ·by_cases h3:0≤v
   ·simp only [h,h2,h3,if_true,true_and]
   ·simp only [h,h2,h3,if_true,if_false,false_and,and_false,decide_false]
  ·simp only [h,h2,if_true,if_false,false_and,and_false,decide_false]
 ·simp only [h,if_false,false_and,decide_false]
theorem auo:∃ x,ab1 ⟨o0⟩ e=some ((true,()),(x,abN e,()))∧x.o=if IsT e (wi (e.gt 0)) then ⟨true,1,wi (e.gt 0)⟩ else ⟨true,3,0⟩:=by
 simp only [ab1,aaw,abg,aFn,o0,arK,ajw,Option.bind_some,Bool.false_eq_true,if_true,if_false]
 by_cases h:IsT e (wi (e.gt 0))
 ·have h':IsT { e with m:=e.m.pt 6 0 (wu (e.m.gt 0+1)) } (wi (e.m.gt 0)):=h
  simp only [h,h',decide_true,Bool.not_true,Bool.false_eq_true,if_true,if_false]
  exact ⟨_,rfl,rfl⟩
 ·have h':¬ IsT { e with m:=e.m.pt 6 0 (wu (e.m.gt 0+1)) } (wi (e.m.gt 0)):=h
  simp only [h,h',decide_false,Bool.not_false,if_true,if_false]
  exact ⟨_,rfl,rfl⟩
theorem au0 {t v:Int} (s:PublishS):aaV PublishV.o (alt t v) (abR (alt t v s) e) (aeS t v e s):=by
 by_cases h:IsT e t
 ·cases s<;>simp only [abR,alt,aeS,ajw,h,not_true,decide_true,Bool.not_true,aaw,abg,arD,o0,abv,afD,ajk,aeT,Option.bind_some,Bool.false_eq_true,if_true,if_false,reduceIte,Int.reduceEq]
  all_goals first | rfl | exact ⟨_,rfl,rfl⟩
 ·cases s<;>simp only [abR,alt,aeS,ajw,h,not_false_eq_true,decide_false,Bool.not_false,aaw,abg,o0,Option.bind_some,Bool.false_eq_true,if_true,if_false]
  all_goals exact ⟨_,rfl,rfl⟩
theorem arW {w:Int} {b:Bool}:∃ d x,acG ⟨o0,w,b⟩ e=some ((d,()),(x,aqq w e,()))∧(d=true→x.o=if e.hit 1 0=true then ⟨true,1,0⟩ else ⟨true,5,0⟩)∧(d=(e.hit 1 0 || b))∧(d=false→x=⟨o0,w,b⟩):=by
 simp only [acG,aaw,abg,azl,o0,ajp,Option.bind_some,Bool.false_eq_true,if_true,if_false]
 rcases Bool.eq_false_or_eq_true (e.m.hit 1 0) with h | h
 ·simp only [h,if_true]; exact ⟨_,_,rfl,(fun _ =>rfl),rfl,(fun h =>by cases h)⟩
 ·cases b
  ·simp only [h,Bool.false_eq_true,if_false]; exact ⟨_,_,rfl,(fun h =>by cases h),rfl,fun _ =>rfl⟩
  ·simp only [h,Bool.false_eq_true,if_false,if_true]; exact ⟨_,_,rfl,(fun _ =>rfl),rfl,(fun h =>by cases h)⟩
theorem aw7:∃ x,acF ⟨o0⟩ e=some ((true,()),(x,ar7 e,()))∧x.o=⟨true,0,0⟩:=by
 simp only [acF,aaw,abg,azl,o0,abv,Option.bind_some,Bool.false_eq_true,if_true,if_false]
 exact ⟨_,rfl,rfl⟩
theorem amd {w t:Int} (hl:e.evs.length≤999999999) (hr:e.hit (aaN e.l t) 1=true→0≤t∧t<(e.recs.length:Int)):∃ x,ac2 ⟨o0,w,t⟩ e=some ((true,()),(x,aeb w t e,()))∧x.o=if acN t e=true then ⟨true,1,t⟩ else ⟨true,4,0⟩:=by
 simp only [ac2,aaw,abg,o0,ajp,aeT,Option.bind_some,Bool.false_eq_true,if_true,if_false]
 unfold aeb acN
 simp only [EnvP.hit] at hr ⊢
 rcases Bool.eq_false_or_eq_true (e.m.hit (aaN e.l t) 1) with h | h
 ·simp only [h,Bool.not_true,Bool.false_eq_true,if_true,if_false,hr h,and_self]
  by_cases hs:(aab e.recs t).started=true
  ·have hs':(e.rc t).started=true:=hs
   simp only [hs,hs',if_true,ace (e:={ e with m:=e.m.cas (aaN e.l t) 1 2 }) hl,Option.bind_some]
   exact ⟨_,rfl,rfl⟩
  ·have hs':¬ (e.rc t).started=true:=hs
   simp only [hs,hs',if_false,ace (e:={ e with m:=e.m.cas (aaN e.l t) 1 2,recs:=e.recs.set t.toNat { aab e.recs t with started:=true } }) hl,Option.bind_some]
   exact ⟨_,rfl,rfl⟩
 ·simp only [h,Bool.not_false,Bool.false_eq_true,if_true,if_false,ace (e:={ e with m:=e.m.cas (aaN e.l t) 1 2 }) hl,Option.bind_some]
  exact ⟨_,rfl,rfl⟩
theorem aqS {d t:Int} (s:InsertS):aaV InsertV.o (ar3 d t) (abL (ar3 d t s) e) (abS d t e s):=by
 cases s<;>simp only [abL,ads,atv,ar3,abS,aaw,abg,af6,arJ,o0,abB,abv,arK,awD,aCa,Option.bind_some,Bool.false_eq_true,if_true,if_false,reduceIte,Int.reduceEq,aa0,aci,at2]
 all_goals repeat' first | with_reducible refine aaV.ite (fun _ =>?_) fun _ =>?_ | with_reducible refine aaV.iteN (fun _ =>?_) fun _ =>?_
 all_goals first | rfl | exact ⟨_,rfl,rfl⟩
theorem axO {w:Int} (hl:e.evs.length≤999999999) (s:RemoveS):aaV RemoveV.o (art w) (abK (art w s) e) (acl w e s):=by
 have hm:∀ m v,aec { e with m:=m } v=some ((),({ e with m:=m,evs:=e.evs++[v] },())):=fun m v =>ace (e:={ e with m:=m }) hl
 cases s<;>simp only [abK,aev,acZ,acL,ab8,aug,ax2,art,acl,aaw,abg,af6,au7,o0,abB,abv,awD,hm,Option.bind_some,Bool.false_eq_true,if_true,if_false,reduceIte,Int.reduceEq,aa0,aci,at2]
 all_goals repeat' first | with_reducible refine aaV.ite (fun _ =>?_) fun _ =>?_ | with_reducible refine aaV.iteN (fun _ =>?_) fun _ =>?_
 all_goals first | rfl | exact ⟨_,rfl,rfl⟩ | skip
 refine aaV.iteL (fun h =>?_) fun h =>?_
 ·rw [if_pos h]
  exact aaV.ite (fun _ =>rfl) fun _ =>rfl
 ·rw [if_neg h]
  exact aaV.ite (fun _ =>rfl) fun _ =>rfl
theorem atq {w t v:Int} (hl:e.evs.length≤999999999) (s:RaiseS):aaV RaiseV.o (ats w t v) (acv (ats w t v s) e) (aea w t v e s):=by
 have hm:∀ m v,aec { e with m:=m } v=some ((),({ e with m:=m,evs:=e.evs++[v] },())):=fun m v =>ace (e:={ e with m:=m }) hl
 by_cases h:asR e t v
 ·cases s<;>simp only [acv,ats,aea,ase,h,not_true,decide_true,Bool.not_true,aaw,abg,o0,abB,ajp,afD,hm,Option.bind_some,Bool.false_eq_true,if_true,if_false,reduceIte,Int.reduceEq,aa0]
  all_goals repeat' first | with_reducible refine aaV.ite (fun _ =>?_) fun _ =>?_ | with_reducible refine aaV.iteN (fun _ =>?_) fun _ =>?_
  all_goals first | rfl | exact ⟨_,rfl,rfl⟩
 ·cases s<;>simp only [acv,ats,aea,ase,h,not_false_eq_true,decide_false,Bool.not_false,aaw,abg,o0,Option.bind_some,Bool.false_eq_true,if_true,if_false]
  all_goals exact ⟨_,rfl,rfl⟩
theorem ayF {w:Int} (hl:e.evs.length≤999999999) (s:SleepS):aaV SleepV.o (as9 w) (acW (as9 w s) e) (ac5 w e s):=by
 have hm:∀ m k v,aec { e with m:=m,k:=k } v=some ((),({ e with m:=m,k:=k,evs:=e.evs++[v] },())):=fun m k v =>ace (e:={ e with m:=m,k:=k }) hl
 by_cases hc:e.c.classes<1
 ·cases s<;>simp only [acW,agf,agd,as9,ac5,af3,hc,aaw,abg,arD,af6,o0,abB,awE,apl,amS,amR,alC,ag5,aeD,hm,Option.bind_some,Bool.false_eq_true,if_true,if_false,reduceIte,Int.reduceEq,aa0,aci]
  all_goals repeat' first | with_reducible refine aaV.ite (fun _ =>?_) fun _ =>?_ | with_reducible refine aaV.iteN (fun _ =>?_) fun _ =>?_
  all_goals first | rfl | exact ⟨_,rfl,rfl⟩
 ·cases s<;>simp only [acW,agf,agd,as9,ac5,af3,hc,aaw,abg,arD,af6,o0,abB,awE,apl,amS,amR,alC,ag5,aeD,hm,Option.bind_some,Bool.false_eq_true,if_true,if_false,reduceIte,Int.reduceEq,aa0,aci]
  all_goals repeat' first | with_reducible refine aaV.ite (fun _ =>?_) fun _ =>?_ | with_reducible refine aaV.iteN (fun _ =>?_) fun _ =>?_
  all_goals first | rfl | exact ⟨_,rfl,rfl⟩
theorem ak6 [Tb] {w v:Int} (hl:e.evs.length≤999999999) (s:WakeS):aaV WakeV.o (as2 w v) (adj (as2 w v s) e) (adN w v e s):=by
 have hm:∀ m v,aec { e with m:=m } v=some ((),({ e with m:=m,evs:=e.evs++[v] },())):=fun m v =>ace (e:={ e with m:=m }) hl
 by_cases hc:e.c.classes<1
 ·cases s<;>simp only [adj,as2,adN,ake,hc,aaw,abg,azk,o0,abB,arK,apl,amS,amR,atA,alC,ag5,hm,Option.bind_some,Bool.false_eq_true,if_true,if_false,reduceIte,Int.reduceEq,aa0,aci,decide_eq_true_eq]
  all_goals repeat' first | with_reducible refine aaV.ite (fun _ =>?_) fun _ =>?_ | with_reducible refine aaV.iteN (fun _ =>?_) fun _ =>?_
  all_goals first | rfl | exact ⟨_,rfl,rfl⟩
 ·cases s<;>simp only [adj,as2,adN,ake,hc,aaw,abg,azk,o0,abB,arK,apl,amS,amR,atA,alC,ag5,hm,Option.bind_some,Bool.false_eq_true,if_true,if_false,reduceIte,Int.reduceEq,aa0,aci,decide_eq_true_eq]
  all_goals repeat' first | with_reducible refine aaV.ite (fun _ =>?_) fun _ =>?_ | with_reducible refine aaV.iteN (fun _ =>?_) fun _ =>?_
  all_goals first | rfl | exact ⟨_,rfl,rfl⟩
end
end
end Go.Proofs.YtidhehdanppcoaaGreat
