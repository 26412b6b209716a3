/- The program's machines in the evaluator's form. The program's machines in the evaluator's form. The program's machines in the evaluator's form: all. -/
import Derived.Test.YtdnimkpfgjcjeaaGreatEzak
set_option linter.all false
namespace Go.Proofs.YtdnimkpfgjcjeaaGreat
section
open Go Go.RowKit
set_option maxRecDepth 100000
variable [Tb]
noncomputable def aaK (y0:(RunV MV)) (y1:EnvP):Option ((Bool×Unit)×((RunV MV)×EnvP×Unit)) :=
 if 0≤(tlI y0.stack)∧(tlI y0.stack)<((y0.stack.length:Nat):Int) then
 if y0.line=9 then
 if 0≤(tlI y0.stack)∧(tlI y0.stack)<((y0.stack.length:Nat):Int) then
 if 0≤tpI y0.stack∧tpI y0.stack<((y1.recs.length:Nat):Int) then
 if 0≤(tlI y0.stack)∧(tlI y0.stack)<((y0.stack.length:Nat):Int) then
 if 0≤tpI y0.stack∧tpI y0.stack<((y1.recs.length:Nat):Int) then
 if ((aab y1.recs (tpI y0.stack)).prog)<0 then
 if 0≤(tlI y0.stack)∧(tlI y0.stack)<((y0.stack.length:Nat):Int) then
 if 0≤tpI y0.stack∧tpI y0.stack<((y1.recs.length:Nat):Int) then
 none
 else none
 else none
 else
 if ((y1.c.progs.length:Nat):Int)≤((aab y1.recs (tpI y0.stack)).prog) then
 if 0≤(tlI y0.stack)∧(tlI y0.stack)<((y0.stack.length:Nat):Int) then
 if 0≤tpI y0.stack∧tpI y0.stack<((y1.recs.length:Nat):Int) then
 none
 else none
 else none
 else
 if 0≤(aab y1.recs (tpI y0.stack)).prog∧(aab y1.recs (tpI y0.stack)).prog<((y1.c.progs.length:Nat):Int) then
 if 0≤(tlI y0.stack)∧(tlI y0.stack)<((y0.stack.length:Nat):Int) then
 if 0≤tpI y0.stack∧tpI y0.stack<((y1.recs.length:Nat):Int) then
 if 0≤(aab y1.recs (tpI y0.stack)).pc∧(aab y1.recs (tpI y0.stack)).pc<(((atL [] y1.c.progs ((aab y1.recs (tpI y0.stack)).prog)).length:Nat):Int) then
 if 0≤(acu (atL [] y1.c.progs ((aab y1.recs (tpI y0.stack)).prog)) ((aab y1.recs (tpI y0.stack)).pc)).a∧(acu (atL [] y1.c.progs ((aab y1.recs (tpI y0.stack)).prog)) ((aab y1.recs (tpI y0.stack)).pc)).a<((((aab y1.recs (tpI y0.stack)).kids).length:Nat):Int) then
 (aju y1.l (tpI y0.stack)).bind fun r1 =>
 (aa3 y1.m r1.1.1 (wu (wi ((ahz ((aab y1.recs (tpI y0.stack)).kids) ((acu (atL [] y1.c.progs ((aab y1.recs (tpI y0.stack)).prog)) ((aab y1.recs (tpI y0.stack)).pc)).a))+1)))).bind fun r2 =>
 (aac ({ y0 with child:=ahz ((aab y1.recs (tpI y0.stack)).kids) ((acu (atL [] y1.c.progs ((aab y1.recs (tpI y0.stack)).prog)) ((aab y1.recs (tpI y0.stack)).pc)).a) }:(RunV MV)) (wi (y0.line+1)) MV.nil).bind fun r3 =>
 some ((r3.1.1,()),(r3.2.1,({ y1 with m:=r2.2.1,recs:=((y1.recs.set (tpI y0.stack).toNat (aab y1.recs (tpI y0.stack))).set (tpI y0.stack).toNat ({ aab (y1.recs.set (tpI y0.stack).toNat (aab y1.recs (tpI y0.stack))) (tpI y0.stack) with pc:=wi (((aab (y1.recs.set (tpI y0.stack).toNat (aab y1.recs (tpI y0.stack))) (tpI y0.stack)).pc)+1) }:RecP)).set (tpI y0.stack).toNat ({ aab ((y1.recs.set (tpI y0.stack).toNat (aab y1.recs (tpI y0.stack))).set (tpI y0.stack).toNat ({ aab (y1.recs.set (tpI y0.stack).toNat (aab y1.recs (tpI y0.stack))) (tpI y0.stack) with pc:=wi (((aab (y1.recs.set (tpI y0.stack).toNat (aab y1.recs (tpI y0.stack))) (tpI y0.stack)).pc)+1) }:RecP)) (tpI y0.stack) with waiting:=ahz ((aab y1.recs (tpI y0.stack)).kids) ((acu (atL [] y1.c.progs ((aab y1.recs (tpI y0.stack)).prog)) ((aab y1.recs (tpI y0.stack)).pc)).a) }:RecP) }:EnvP),()))
 else none
 else none
 else none
 else none
 else none
 else none
 else none
 else none
 else none
 else
 if y0.line=10 then
 (ad8 y1.l (tpI y0.stack)).bind fun r4 =>
 (aa3 y1.m r4.1.1 3).bind fun r5 =>
 (aac y0 (wi (y0.line+1)) MV.nil).bind fun r6 =>
 some ((r6.1.1,()),(r6.2.1,({ y1 with m:=r5.2.1 }:EnvP),()))
 else
 if y0.line=11 then
 (aok y1.l y0.child).bind fun r7 =>
 (atb y1.m r7.1.1 0 (wu (wi ((tpI y0.stack)+1)))).bind fun r8 =>
 if (!r8.1.1)=true then
 (aac y0 14 MV.nil).bind fun r9 =>
 some ((r9.1.1,()),(r9.2.1,({ y1 with m:=r8.2.1 }:EnvP),()))
 else
 (aaG y0 ({ y1 with m:=r8.2.1 }:EnvP) (⟨6,0,tpI y0.stack,y0.child,0⟩:Ev)).bind fun r10 =>
 (aac r10.2.1 (wi (r10.2.1.line+1)) MV.nil).bind fun r11 =>
 some ((r11.1.1,()),(r11.2.1,r10.2.2.1,()))
 else
 if y0.line=12 then
 (afb y1.l (tpI y0.stack)).bind fun r12 =>
 (acG y1.m r12.1.1).bind fun r13 =>
 (ajU y0.worker y0.child (wi (r13.1.1))).bind fun r14 =>
 (aac ({ y0 with level:=wi (r13.1.1) }:(RunV MV)) 13 r14.1.1).bind fun r15 =>
 some ((r15.1.1,()),(r15.2.1,({ y1 with m:=r13.2.1 }:EnvP),()))
 else
 if y0.line=13 then
 (aeV y0.inside y1).bind fun r16 =>
 if (!r16.1.1)=true then
 some ((false,()),(({ y0 with inside:=r16.2.1 }:(RunV MV)),r16.2.2.1,()))
 else
 (aaG ({ y0 with inside:=r16.2.1 }:(RunV MV)) r16.2.2.1 (⟨7,0,tpI y0.stack,0,y0.level⟩:Ev)).bind fun r17 =>
 (aao r17.2.1).bind fun r18 =>
 some ((r18.1.1,()),(r18.2.1,r17.2.2.1,()))
 else
 if y0.line=14 then
 (ad8 y1.l (tpI y0.stack)).bind fun r19 =>
 (aa3 y1.m r19.1.1 2).bind fun r20 =>
 (aac y0 (wi (y0.line+1)) MV.nil).bind fun r21 =>
 some ((r21.1.1,()),(r21.2.1,({ y1 with m:=r20.2.1 }:EnvP),()))
 else
 (aju y1.l (tpI y0.stack)).bind fun r22 =>
 (aa3 y1.m r22.1.1 0).bind fun r23 =>
 if 0≤(tlI y0.stack)∧(tlI y0.stack)<((y0.stack.length:Nat):Int) then
 if 0≤tpI y0.stack∧tpI y0.stack<((y1.recs.length:Nat):Int) then
 (aaG y0 ({ y1 with m:=r23.2.1,recs:=y1.recs.set (tpI y0.stack).toNat ({ aab y1.recs (tpI y0.stack) with waiting:=(-1) }:RecP) }:EnvP) (⟨8,0,tpI y0.stack,y0.child,0⟩:Ev)).bind fun r24 =>
 (aac r24.2.1 0 MV.nil).bind fun r25 =>
 some ((r25.1.1,()),(r25.2.1,r24.2.2.1,()))
 else none
 else none
 else none
noncomputable abbrev ajn:Con SR1:=⟨216,[.ref 33,.ref 27],[.sh .b],fun x =>aaK x.1 x.2.1⟩
theorem aoc (y0:(RunV MV)) (y1:EnvP):agS y0 y1=aaK y0 y1:=by
 unfold agS aaK
 simp only [if_true,aiP,anx]
 try rfl
theorem aob:CO Tryz.prog ajn:=aFA alF fun x out hx =>(show ahM.spec x=some out from (aoc x.1 x.2.1).trans hx)
noncomputable def ahC (y0:Int) (y1:Int):Option ((MV×Unit)×(Unit)) :=
 some ((MV.enter (⟨⟨false,0,0⟩,y0,y1,0,1,MV.nil⟩:(EnterV MV)),()),())
noncomputable abbrev anO:Con SR1:=⟨228,[.sh sI_,.sh sI_],[.sh .mach],fun x =>ahC x.1 x.2.1⟩
theorem arz:CO Tryz.prog anO:=aak aaj Tryz.func228 [] trivial [] trivial (fun _ =>[]) [] fun x =>by kernel_rfl
noncomputable def afk (y0:(RunV MV)) (y1:EnvP):Option ((Bool×Unit)×((RunV MV)×EnvP×Unit)) :=
 agr (
 if 0≤(tlI y0.stack)∧(tlI y0.stack)<((y0.stack.length:Nat):Int) then
 if y1.l.workers=y1.l.workers then
 if y1.l.levels=y1.l.levels then
 if y1.l.classes=y1.l.classes then
 if y1.l.tasks=y1.l.tasks then
 if y1.l.deque=y1.l.deque then
 if y1.l.heap=y1.l.heap then
 if y1.l.sleepers=y1.l.sleepers then
 if y1.l.epochs=y1.l.epochs then
 if y1.l.bitmaps=y1.l.bitmaps then
 if y1.l.queues=y1.l.queues then
 if y1.l.table=y1.l.table then
 if y1.l.workers=y1.l.workers then
 if y1.l.levels=y1.l.levels then
 if y1.l.classes=y1.l.classes then
 if y1.l.tasks=y1.l.tasks then
 if y1.l.deque=y1.l.deque then
 if y1.l.heap=y1.l.heap then
 if y1.l.sleepers=y1.l.sleepers then
 if y1.l.epochs=y1.l.epochs then
 if y1.l.bitmaps=y1.l.bitmaps then
 if y1.l.queues=y1.l.queues then
 if y1.l.table=y1.l.table then
 if y0.line=16 then
 (ad8 y1.l (tpI y0.stack)).bind fun r29 =>
 (aa3 y1.m r29.1.1 4).bind fun r30 =>
 (aac y0 17 MV.nil).bind fun r31 =>
 some ((r31.1.1,()),(r31.2.1,({ y1 with m:=r30.2.1 }:EnvP),()))
 else
 if y0.line=17 then
 (aok y1.l (tpI y0.stack)).bind fun r32 =>
 (atb y1.m r32.1.1 0 4294967296).bind fun r33 =>
 (aaG y0 ({ y1 with m:=r33.2.1 }:EnvP) (⟨10,0,tpI y0.stack,0,0⟩:Ev)).bind fun r34 =>
 if r33.1.1=true then
 (aao r34.2.1).bind fun r35 =>
 some ((r35.1.1,()),(r35.2.1,r34.2.2.1,()))
 else
 (aac r34.2.1 18 MV.nil).bind fun r36 =>
 some ((r36.1.1,()),(r36.2.1,r34.2.2.1,()))
 else
 if y0.line=18 then
 (aok y1.l (tpI y0.stack)).bind fun r37 =>
 (acG y1.m r37.1.1).bind fun r38 =>
 if (wi ((wi (r38.1.1))-1))<0 then
 (aao ({ y0 with waiter:=wi ((wi (r38.1.1))-1) }:(RunV MV))).bind fun r39 =>
 some ((r39.1.1,()),(r39.2.1,({ y1 with m:=r38.2.1 }:EnvP),()))
 else
 if y1.c.tasks≤(wi ((wi (r38.1.1))-1)) then
 (aao ({ y0 with waiter:=wi ((wi (r38.1.1))-1) }:(RunV MV))).bind fun r40 =>
 some ((r40.1.1,()),(r40.2.1,({ y1 with m:=r38.2.1 }:EnvP),()))
 else
 (ahC y0.worker (wi ((wi (r38.1.1))-1))).bind fun r41 =>
 (aac ({ y0 with waiter:=wi ((wi (r38.1.1))-1) }:(RunV MV)) 19 r41.1.1).bind fun r42 =>
 some ((r42.1.1,()),(r42.2.1,({ y1 with m:=r38.2.1 }:EnvP),()))
 else
 (aeV y0.inside y1).bind fun r43 =>
 if (!r43.1.1)=true then
 some ((false,()),(({ y0 with inside:=r43.2.1 }:(RunV MV)),r43.2.2.1,()))
 else
 (adD r43.2.1).bind fun r44 =>
 if y0.line=19 then
 if r44.1.1=3 then
 (acF y0.worker y0.waiter).bind fun r45 =>
 (aac ({ y0 with inside:=r44.2.1 }:(RunV MV)) 21 r45.1.1).bind fun r46 =>
 some ((r46.1.1,()),(r46.2.1,r43.2.2.1,()))
 else
 if y0.line=19 then
 (ac8 y0.worker r44.1.2.1).bind fun r47 =>
 (aac ({ y0 with inside:=r44.2.1 }:(RunV MV)) 20 r47.1.1).bind fun r48 =>
 some ((r48.1.1,()),(r48.2.1,r43.2.2.1,()))
 else
 if y0.line=21 then
 if r44.1.1=1 then
 if 0≤(tlI y0.stack)∧(tlI y0.stack)<((y0.stack.length:Nat):Int) then
 (aac ({ y0 with stack:=y0.stack.set (tlI y0.stack).toNat y0.waiter,inside:=r44.2.1 }:(RunV MV)) 0 MV.nil).bind fun r49 =>
 some ((r49.1.1,()),(r49.2.1,r43.2.2.1,()))
 else none
 else
 (aao ({ y0 with inside:=r44.2.1 }:(RunV MV))).bind fun r50 =>
 some ((r50.1.1,()),(r50.2.1,r43.2.2.1,()))
 else
 (aao ({ y0 with inside:=r44.2.1 }:(RunV MV))).bind fun r51 =>
 some ((r51.1.1,()),(r51.2.1,r43.2.2.1,()))
 else
 if y0.line=19 then
 (ac8 y0.worker r44.1.2.1).bind fun r52 =>
 (aac ({ y0 with inside:=r44.2.1 }:(RunV MV)) 20 r52.1.1).bind fun r53 =>
 some ((r53.1.1,()),(r53.2.1,r43.2.2.1,()))
 else
 if y0.line=21 then
 if r44.1.1=1 then
 if 0≤(tlI y0.stack)∧(tlI y0.stack)<((y0.stack.length:Nat):Int) then
 (aac ({ y0 with stack:=y0.stack.set (tlI y0.stack).toNat y0.waiter,inside:=r44.2.1 }:(RunV MV)) 0 MV.nil).bind fun r54 =>
 some ((r54.1.1,()),(r54.2.1,r43.2.2.1,()))
 else none
 else
 (aao ({ y0 with inside:=r44.2.1 }:(RunV MV))).bind fun r55 =>
 some ((r55.1.1,()),(r55.2.1,r43.2.2.1,()))
 else
 (aao ({ y0 with inside:=r44.2.1 }:(RunV MV))).bind fun r56 =>
 some ((r56.1.1,()),(r56.2.1,r43.2.2.1,()))
 else none
 else none
 else none
 else none
 else none
 else none
 else none
 else none
 else none
 else none
 else none
 else none
 else none
 else none
 else none
 else none
 else none
 else none
 else none
 else none
 else none
 else none
 else none
 ) (
 if y1.l.workers=y1.l.workers then
 if y1.l.levels=y1.l.levels then
 if y1.l.classes=y1.l.classes then
 if y1.l.tasks=y1.l.tasks then
 if y1.l.deque=y1.l.deque then
 if y1.l.heap=y1.l.heap then
 if y1.l.sleepers=y1.l.sleepers then
 if y1.l.epochs=y1.l.epochs then
 if y1.l.bitmaps=y1.l.bitmaps then
 if y1.l.queues=y1.l.queues then
 if y1.l.table=y1.l.table then
 if 0≤(tlI y0.stack)∧(tlI y0.stack)<((y0.stack.length:Nat):Int) then
 if y1.l.workers=y1.l.workers then
 if y1.l.levels=y1.l.levels then
 if y1.l.classes=y1.l.classes then
 if y1.l.tasks=y1.l.tasks then
 if y1.l.deque=y1.l.deque then
 if y1.l.heap=y1.l.heap then
 if y1.l.sleepers=y1.l.sleepers then
 if y1.l.epochs=y1.l.epochs then
 if y1.l.bitmaps=y1.l.bitmaps then
 if y1.l.queues=y1.l.queues then
 if y1.l.table=y1.l.table then
 if y0.line=16 then
 (ad8 y1.l (tpI y0.stack)).bind fun r1 =>
 (aa3 y1.m r1.1.1 4).bind fun r2 =>
 (aac y0 17 MV.nil).bind fun r3 =>
 some ((r3.1.1,()),(r3.2.1,({ y1 with m:=r2.2.1 }:EnvP),()))
 else
 if y0.line=17 then
 (aok y1.l (tpI y0.stack)).bind fun r4 =>
 (atb y1.m r4.1.1 0 4294967296).bind fun r5 =>
 (aaG y0 ({ y1 with m:=r5.2.1 }:EnvP) (⟨10,0,tpI y0.stack,0,0⟩:Ev)).bind fun r6 =>
 if r5.1.1=true then
 (aao r6.2.1).bind fun r7 =>
 some ((r7.1.1,()),(r7.2.1,r6.2.2.1,()))
 else
 (aac r6.2.1 18 MV.nil).bind fun r8 =>
 some ((r8.1.1,()),(r8.2.1,r6.2.2.1,()))
 else
 if y0.line=18 then
 (aok y1.l (tpI y0.stack)).bind fun r9 =>
 (acG y1.m r9.1.1).bind fun r10 =>
 if (wi ((wi (r10.1.1))-1))<0 then
 (aao ({ y0 with waiter:=wi ((wi (r10.1.1))-1) }:(RunV MV))).bind fun r11 =>
 some ((r11.1.1,()),(r11.2.1,({ y1 with m:=r10.2.1 }:EnvP),()))
 else
 if y1.c.tasks≤(wi ((wi (r10.1.1))-1)) then
 (aao ({ y0 with waiter:=wi ((wi (r10.1.1))-1) }:(RunV MV))).bind fun r12 =>
 some ((r12.1.1,()),(r12.2.1,({ y1 with m:=r10.2.1 }:EnvP),()))
 else
 (ahC y0.worker (wi ((wi (r10.1.1))-1))).bind fun r13 =>
 (aac ({ y0 with waiter:=wi ((wi (r10.1.1))-1) }:(RunV MV)) 19 r13.1.1).bind fun r14 =>
 some ((r14.1.1,()),(r14.2.1,({ y1 with m:=r10.2.1 }:EnvP),()))
 else
 (aeV y0.inside y1).bind fun r15 =>
 if (!r15.1.1)=true then
 some ((false,()),(({ y0 with inside:=r15.2.1 }:(RunV MV)),r15.2.2.1,()))
 else
 (adD r15.2.1).bind fun r16 =>
 if y0.line=19 then
 if r16.1.1=3 then
 (acF y0.worker y0.waiter).bind fun r17 =>
 (aac ({ y0 with inside:=r16.2.1 }:(RunV MV)) 21 r17.1.1).bind fun r18 =>
 some ((r18.1.1,()),(r18.2.1,r15.2.2.1,()))
 else
 if y0.line=19 then
 (ac8 y0.worker r16.1.2.1).bind fun r19 =>
 (aac ({ y0 with inside:=r16.2.1 }:(RunV MV)) 20 r19.1.1).bind fun r20 =>
 some ((r20.1.1,()),(r20.2.1,r15.2.2.1,()))
 else
 if y0.line=21 then
 if r16.1.1=1 then
 if 0≤(tlI y0.stack)∧(tlI y0.stack)<((y0.stack.length:Nat):Int) then
 (aac ({ y0 with stack:=y0.stack.set (tlI y0.stack).toNat y0.waiter,inside:=r16.2.1 }:(RunV MV)) 0 MV.nil).bind fun r21 =>
 some ((r21.1.1,()),(r21.2.1,r15.2.2.1,()))
 else none
 else
 (aao ({ y0 with inside:=r16.2.1 }:(RunV MV))).bind fun r22 =>
 some ((r22.1.1,()),(r22.2.1,r15.2.2.1,()))
 else
 (aao ({ y0 with inside:=r16.2.1 }:(RunV MV))).bind fun r23 =>
 some ((r23.1.1,()),(r23.2.1,r15.2.2.1,()))
 else
 if y0.line=19 then
 (ac8 y0.worker r16.1.2.1).bind fun r24 =>
 (aac ({ y0 with inside:=r16.2.1 }:(RunV MV)) 20 r24.1.1).bind fun r25 =>
 some ((r25.1.1,()),(r25.2.1,r15.2.2.1,()))
 else
 if y0.line=21 then
 if r16.1.1=1 then
 if 0≤(tlI y0.stack)∧(tlI y0.stack)<((y0.stack.length:Nat):Int) then
 (aac ({ y0 with stack:=y0.stack.set (tlI y0.stack).toNat y0.waiter,inside:=r16.2.1 }:(RunV MV)) 0 MV.nil).bind fun r26 =>
 some ((r26.1.1,()),(r26.2.1,r15.2.2.1,()))
 else none
 else
 (aao ({ y0 with inside:=r16.2.1 }:(RunV MV))).bind fun r27 =>
 some ((r27.1.1,()),(r27.2.1,r15.2.2.1,()))
 else
 (aao ({ y0 with inside:=r16.2.1 }:(RunV MV))).bind fun r28 =>
 some ((r28.1.1,()),(r28.2.1,r15.2.2.1,()))
 else none
 else none
 else none
 else none
 else none
 else none
 else none
 else none
 else none
 else none
 else none
 else none
 else none
 else none
 else none
 else none
 else none
 else none
 else none
 else none
 else none
 else none
 else none
 )
noncomputable abbrev agT:Con SR1:=⟨217,[.ref 33,.ref 27],[.sh .b],fun x =>afk x.1 x.2.1⟩
noncomputable def akw:List (Nat×Func):=[(212,Tryz.f212)]
theorem akx:CO Tryz.prog agT:=aak aaj Tryz.func217 [afz,adY,adC,ave,al0,ad6,af9,acM,anO,aoD,amV,afK,ahT] ⟨aeZ,adt,adR,awy,ajA,aeC,ahL,abT,arz,apk,apt,agy,aik,trivial⟩ akw ⟨Tryz.func212,trivial⟩ (fun _ =>[]) [] fun x =>by kernel_rfl
noncomputable def aaq (y0:(RunV MV)) (y1:EnvP):Option ((Bool×Unit)×((RunV MV)×EnvP×Unit)) :=
 if 0≤(tlI y0.stack)∧(tlI y0.stack)<((y0.stack.length:Nat):Int) then
 if y0.line=16 then
 (ad8 y1.l (tpI y0.stack)).bind fun r1 =>
 (aa3 y1.m r1.1.1 4).bind fun r2 =>
 (aac y0 17 MV.nil).bind fun r3 =>
 some ((r3.1.1,()),(r3.2.1,({ y1 with m:=r2.2.1 }:EnvP),()))
 else
 if y0.line=17 then
 (aok y1.l (tpI y0.stack)).bind fun r4 =>
 (atb y1.m r4.1.1 0 4294967296).bind fun r5 =>
 (aaG y0 ({ y1 with m:=r5.2.1 }:EnvP) (⟨10,0,tpI y0.stack,0,0⟩:Ev)).bind fun r6 =>
 if r5.1.1=true then
 (aao r6.2.1).bind fun r7 =>
 some ((r7.1.1,()),(r7.2.1,r6.2.2.1,()))
 else
 (aac r6.2.1 18 MV.nil).bind fun r8 =>
 some ((r8.1.1,()),(r8.2.1,r6.2.2.1,()))
 else
 if y0.line=18 then
 (aok y1.l (tpI y0.stack)).bind fun r9 =>
 (acG y1.m r9.1.1).bind fun r10 =>
 if (wi ((wi (r10.1.1))-1))<0 then
 (aao ({ y0 with waiter:=wi ((wi (r10.1.1))-1) }:(RunV MV))).bind fun r11 =>
 some ((r11.1.1,()),(r11.2.1,({ y1 with m:=r10.2.1 }:EnvP),()))
 else
 if y1.c.tasks≤(wi ((wi (r10.1.1))-1)) then
 (aao ({ y0 with waiter:=wi ((wi (r10.1.1))-1) }:(RunV MV))).bind fun r12 =>
 some ((r12.1.1,()),(r12.2.1,({ y1 with m:=r10.2.1 }:EnvP),()))
 else
 (ahC y0.worker (wi ((wi (r10.1.1))-1))).bind fun r13 =>
 (aac ({ y0 with waiter:=wi ((wi (r10.1.1))-1) }:(RunV MV)) 19 r13.1.1).bind fun r14 =>
 some ((r14.1.1,()),(r14.2.1,({ y1 with m:=r10.2.1 }:EnvP),()))
 else
 (aeV y0.inside y1).bind fun r15 =>
 if (!r15.1.1)=true then
 some ((false,()),(({ y0 with inside:=r15.2.1 }:(RunV MV)),r15.2.2.1,()))
 else
 (adD r15.2.1).bind fun r16 =>
 if y0.line=19 then
 if r16.1.1=3 then
 (acF y0.worker y0.waiter).bind fun r17 =>
 (aac ({ y0 with inside:=r16.2.1 }:(RunV MV)) 21 r17.1.1).bind fun r18 =>
 some ((r18.1.1,()),(r18.2.1,r15.2.2.1,()))
 else
 if y0.line=19 then
 (ac8 y0.worker r16.1.2.1).bind fun r19 =>
 (aac ({ y0 with inside:=r16.2.1 }:(RunV MV)) 20 r19.1.1).bind fun r20 =>
 some ((r20.1.1,()),(r20.2.1,r15.2.2.1,()))
 else
 if y0.line=21 then
 if r16.1.1=1 then
 if 0≤(tlI y0.stack)∧(tlI y0.stack)<((y0.stack.length:Nat):Int) then
 (aac ({ y0 with stack:=y0.stack.set (tlI y0.stack).toNat y0.waiter,inside:=r16.2.1 }:(RunV MV)) 0 MV.nil).bind fun r21 =>
 some ((r21.1.1,()),(r21.2.1,r15.2.2.1,()))
 else none
 else
 (aao ({ y0 with inside:=r16.2.1 }:(RunV MV))).bind fun r22 =>
 some ((r22.1.1,()),(r22.2.1,r15.2.2.1,()))
 else
 (aao ({ y0 with inside:=r16.2.1 }:(RunV MV))).bind fun r23 =>
 some ((r23.1.1,()),(r23.2.1,r15.2.2.1,()))
 else
 if y0.line=19 then
 (ac8 y0.worker r16.1.2.1).bind fun r24 =>
 (aac ({ y0 with inside:=r16.2.1 }:(RunV MV)) 20 r24.1.1).bind fun r25 =>
 some ((r25.1.1,()),(r25.2.1,r15.2.2.1,()))
 else
 if y0.line=21 then
 if r16.1.1=1 then
 if 0≤(tlI y0.stack)∧(tlI y0.stack)<((y0.stack.length:Nat):Int) then
 (aac ({ y0 with stack:=y0.stack.set (tlI y0.stack).toNat y0.waiter,inside:=r16.2.1 }:(RunV MV)) 0 MV.nil).bind fun r26 =>
 some ((r26.1.1,()),(r26.2.1,r15.2.2.1,()))
 else none
 else
 (aao ({ y0 with inside:=r16.2.1 }:(RunV MV))).bind fun r27 =>
 some ((r27.1.1,()),(r27.2.1,r15.2.2.1,()))
 else
 (aao ({ y0 with inside:=r16.2.1 }:(RunV MV))).bind fun r28 =>
 some ((r28.1.1,()),(r28.2.1,r15.2.2.1,()))
 else none
noncomputable abbrev ahN:Con SR1:=⟨217,[.ref 33,.ref 27],[.sh .b],fun x =>aaq x.1 x.2.1⟩
theorem alH (y0:(RunV MV)) (y1:EnvP):afk y0 y1=aaq y0 y1:=by
 unfold afk aaq
 simp only [if_true,aiP,anx]
 try rfl
theorem alG:CO Tryz.prog ahN:=aFA akx fun x out hx =>(show agT.spec x=some out from (alH x.1 x.2.1).trans hx)
noncomputable def abm (y0:(RunV MV)) (y1:EnvP):Option ((Bool×Unit)×((RunV MV)×EnvP×Unit)) :=
 (aav y0.o).bind fun r1 =>
 if r1.1.1=true then
 some ((true,()),(({ y0 with o:=r1.2.1 }:(RunV MV)),y1,()))
 else
 if 0≤(tlI y0.stack)∧(tlI y0.stack)<((y0.stack.length:Nat):Int) then
 if (tpI y0.stack)<0 then
 (abh r1.2.1 4 0).bind fun r2 =>
 some ((r2.1.1,()),(({ y0 with o:=r2.2.1 }:(RunV MV)),y1,()))
 else
 if y1.c.tasks≤(tpI y0.stack) then
 (abh r1.2.1 4 0).bind fun r3 =>
 some ((r3.1.1,()),(({ y0 with o:=r3.2.1 }:(RunV MV)),y1,()))
 else
 if ((y1.recs.length:Nat):Int)≤(tpI y0.stack) then
 (abh r1.2.1 4 0).bind fun r4 =>
 some ((r4.1.1,()),(({ y0 with o:=r4.2.1 }:(RunV MV)),y1,()))
 else
 if y0.line=0 then
 (aeX ({ y0 with o:=r1.2.1 }:(RunV MV)) y1).bind fun r5 =>
 if r5.1.1=4 then
 (aeU).bind fun r6 =>
 if r5.1.1=1 then
 (aaF ({ r5.2.1 with line:=r5.1.1,inside:=r6.1.1 }:(RunV MV)) r5.2.2.1).bind fun r7 =>
 some ((r7.1.1,()),(r7.2.1,r7.2.2.1,()))
 else
 if r5.1.1=2 then
 (aaF ({ r5.2.1 with line:=r5.1.1,inside:=r6.1.1 }:(RunV MV)) r5.2.2.1).bind fun r8 =>
 some ((r8.1.1,()),(r8.2.1,r8.2.2.1,()))
 else
 if r5.1.1=3 then
 (aaF ({ r5.2.1 with line:=r5.1.1,inside:=r6.1.1 }:(RunV MV)) r5.2.2.1).bind fun r9 =>
 some ((r9.1.1,()),(r9.2.1,r9.2.2.1,()))
 else
 if 4≤r5.1.1 then
 if r5.1.1≤8 then
 (abj ({ r5.2.1 with line:=r5.1.1,inside:=r6.1.1 }:(RunV MV)) r5.2.2.1).bind fun r10 =>
 some ((r10.1.1,()),(r10.2.1,r10.2.2.1,()))
 else
 if 9≤r5.1.1 then
 if r5.1.1≤15 then
 (aaK ({ r5.2.1 with line:=r5.1.1,inside:=r6.1.1 }:(RunV MV)) r5.2.2.1).bind fun r11 =>
 some ((r11.1.1,()),(r11.2.1,r11.2.2.1,()))
 else
 (aaq ({ r5.2.1 with line:=r5.1.1,inside:=r6.1.1 }:(RunV MV)) r5.2.2.1).bind fun r12 =>
 some ((r12.1.1,()),(r12.2.1,r12.2.2.1,()))
 else
 (aaq ({ r5.2.1 with line:=r5.1.1,inside:=r6.1.1 }:(RunV MV)) r5.2.2.1).bind fun r13 =>
 some ((r13.1.1,()),(r13.2.1,r13.2.2.1,()))
 else
 if 9≤r5.1.1 then
 if r5.1.1≤15 then
 (aaK ({ r5.2.1 with line:=r5.1.1,inside:=r6.1.1 }:(RunV MV)) r5.2.2.1).bind fun r14 =>
 some ((r14.1.1,()),(r14.2.1,r14.2.2.1,()))
 else
 (aaq ({ r5.2.1 with line:=r5.1.1,inside:=r6.1.1 }:(RunV MV)) r5.2.2.1).bind fun r15 =>
 some ((r15.1.1,()),(r15.2.1,r15.2.2.1,()))
 else
 (aaq ({ r5.2.1 with line:=r5.1.1,inside:=r6.1.1 }:(RunV MV)) r5.2.2.1).bind fun r16 =>
 some ((r16.1.1,()),(r16.2.1,r16.2.2.1,()))
 else
 if r5.1.1=1 then
 (aaF ({ r5.2.1 with line:=r5.1.1 }:(RunV MV)) r5.2.2.1).bind fun r17 =>
 some ((r17.1.1,()),(r17.2.1,r17.2.2.1,()))
 else
 if r5.1.1=2 then
 (aaF ({ r5.2.1 with line:=r5.1.1 }:(RunV MV)) r5.2.2.1).bind fun r18 =>
 some ((r18.1.1,()),(r18.2.1,r18.2.2.1,()))
 else
 if r5.1.1=3 then
 (aaF ({ r5.2.1 with line:=r5.1.1 }:(RunV MV)) r5.2.2.1).bind fun r19 =>
 some ((r19.1.1,()),(r19.2.1,r19.2.2.1,()))
 else
 if 4≤r5.1.1 then
 if r5.1.1≤8 then
 (abj ({ r5.2.1 with line:=r5.1.1 }:(RunV MV)) r5.2.2.1).bind fun r20 =>
 some ((r20.1.1,()),(r20.2.1,r20.2.2.1,()))
 else
 if 9≤r5.1.1 then
 if r5.1.1≤15 then
 (aaK ({ r5.2.1 with line:=r5.1.1 }:(RunV MV)) r5.2.2.1).bind fun r21 =>
 some ((r21.1.1,()),(r21.2.1,r21.2.2.1,()))
 else
 (aaq ({ r5.2.1 with line:=r5.1.1 }:(RunV MV)) r5.2.2.1).bind fun r22 =>
 some ((r22.1.1,()),(r22.2.1,r22.2.2.1,()))
 else
 (aaq ({ r5.2.1 with line:=r5.1.1 }:(RunV MV)) r5.2.2.1).bind fun r23 =>
 some ((r23.1.1,()),(r23.2.1,r23.2.2.1,()))
 else
 if 9≤r5.1.1 then
 if r5.1.1≤15 then
 (aaK ({ r5.2.1 with line:=r5.1.1 }:(RunV MV)) r5.2.2.1).bind fun r24 =>
 some ((r24.1.1,()),(r24.2.1,r24.2.2.1,()))
 else
 (aaq ({ r5.2.1 with line:=r5.1.1 }:(RunV MV)) r5.2.2.1).bind fun r25 =>
 some ((r25.1.1,()),(r25.2.1,r25.2.2.1,()))
 else
 (aaq ({ r5.2.1 with line:=r5.1.1 }:(RunV MV)) r5.2.2.1).bind fun r26 =>
 some ((r26.1.1,()),(r26.2.1,r26.2.2.1,()))
 else
 if y0.line=1 then
 (aaF ({ y0 with o:=r1.2.1 }:(RunV MV)) y1).bind fun r27 =>
 some ((r27.1.1,()),(r27.2.1,r27.2.2.1,()))
 else
 if y0.line=2 then
 (aaF ({ y0 with o:=r1.2.1 }:(RunV MV)) y1).bind fun r28 =>
 some ((r28.1.1,()),(r28.2.1,r28.2.2.1,()))
 else
 if y0.line=3 then
 (aaF ({ y0 with o:=r1.2.1 }:(RunV MV)) y1).bind fun r29 =>
 some ((r29.1.1,()),(r29.2.1,r29.2.2.1,()))
 else
 if 4≤y0.line then
 if y0.line≤8 then
 (abj ({ y0 with o:=r1.2.1 }:(RunV MV)) y1).bind fun r30 =>
 some ((r30.1.1,()),(r30.2.1,r30.2.2.1,()))
 else
 if 9≤y0.line then
 if y0.line≤15 then
 (aaK ({ y0 with o:=r1.2.1 }:(RunV MV)) y1).bind fun r31 =>
 some ((r31.1.1,()),(r31.2.1,r31.2.2.1,()))
 else
 (aaq ({ y0 with o:=r1.2.1 }:(RunV MV)) y1).bind fun r32 =>
 some ((r32.1.1,()),(r32.2.1,r32.2.2.1,()))
 else
 (aaq ({ y0 with o:=r1.2.1 }:(RunV MV)) y1).bind fun r33 =>
 some ((r33.1.1,()),(r33.2.1,r33.2.2.1,()))
 else
 if 9≤y0.line then
 if y0.line≤15 then
 (aaK ({ y0 with o:=r1.2.1 }:(RunV MV)) y1).bind fun r34 =>
 some ((r34.1.1,()),(r34.2.1,r34.2.2.1,()))
 else
 (aaq ({ y0 with o:=r1.2.1 }:(RunV MV)) y1).bind fun r35 =>
 some ((r35.1.1,()),(r35.2.1,r35.2.2.1,()))
 else
 (aaq ({ y0 with o:=r1.2.1 }:(RunV MV)) y1).bind fun r36 =>
 some ((r36.1.1,()),(r36.2.1,r36.2.2.1,()))
 else none
noncomputable abbrev app:Con SR1:=⟨211,[.ref 33,.ref 27],[.sh .b],fun x =>abm x.1 x.2.1⟩
noncomputable def an9:List (Nat×Func):=[(212,Tryz.f212)]
theorem aoa:CO Tryz.prog app:=aak aaj Tryz.func211 [abn,acN,ahO,agQ,ahK,aiT,ajn,ahN] ⟨aa6,abz,alJ,aiR,alD,amS,aob,alG,trivial⟩ an9 ⟨Tryz.func212,trivial⟩ (fun _ =>[]) [] fun x =>by kernel_rfl
noncomputable def adV (m:MV) (e:EnvP):Option ((Bool×Unit)×(MV×EnvP×Unit)) :=
 match m with
 | .alloc x =>(ab2 x e).bind fun o =>some (o.1,(MV.alloc o.2.1,o.2.2))
 | .publish x =>(abO x e).bind fun o =>some (o.1,(MV.publish o.2.1,o.2.2))
 | .claim x =>(adh x e).bind fun o =>some (o.1,(MV.claim o.2.1,o.2.2))
 | .attempt x =>(acR x e).bind fun o =>some (o.1,(MV.attempt o.2.1,o.2.2))
 | .release x =>(acQ x e).bind fun o =>some (o.1,(MV.release o.2.1,o.2.2))
 | .opush x =>(adF x e).bind fun o =>some (o.1,(MV.opush o.2.1,o.2.2))
 | .opop x =>(ad9 x e).bind fun o =>some (o.1,(MV.opop o.2.1,o.2.2))
 | .steal x =>(adg x e).bind fun o =>some (o.1,(MV.steal o.2.1,o.2.2))
 | .set x =>(adJ x e).bind fun o =>some (o.1,(MV.set o.2.1,o.2.2))
 | .reset x =>(acU x e).bind fun o =>some (o.1,(MV.reset o.2.1,o.2.2))
 | .insert x =>(abH x e).bind fun o =>some (o.1,(MV.insert o.2.1,o.2.2))
 | .remove x =>(abG x e).bind fun o =>some (o.1,(MV.remove o.2.1,o.2.2))
 | .sleep x =>(ac9 x e).bind fun o =>some (o.1,(MV.sleep o.2.1,o.2.2))
 | .wake x =>(adz x e).bind fun o =>some (o.1,(MV.wake o.2.1,o.2.2))
 | .raise x =>(acB x e).bind fun o =>some (o.1,(MV.raise o.2.1,o.2.2))
 | .probe x =>(abk x e).bind fun o =>some (o.1,(MV.probe o.2.1,o.2.2))
 | .lpush x =>(acA x e).bind fun o =>some (o.1,(MV.lpush o.2.1,o.2.2))
 | .lpop x =>(ada x e).bind fun o =>some (o.1,(MV.lpop o.2.1,o.2.2))
 | .walk x =>(ab8 x e).bind fun o =>some (o.1,(MV.walk o.2.1,o.2.2))
 | .take x =>(aeM x e).bind fun o =>some (o.1,(MV.take o.2.1,o.2.2))
 | .sweep x =>(aaC x e).bind fun o =>some (o.1,(MV.sweep o.2.1,o.2.2))
 | .enter x =>(ab5 x e).bind fun o =>some (o.1,(MV.enter o.2.1,o.2.2))
 | .drain x =>(abl x e).bind fun o =>some (o.1,(MV.drain o.2.1,o.2.2))
 | .run x =>(abm x e).bind fun o =>some (o.1,(MV.run o.2.1,o.2.2))
 | _ =>none
noncomputable abbrev arA:Con SR1:=⟨1000000000,[.mch,.ref 27],[.sh .b],fun x =>adV x.1 x.2.1⟩
theorem aA9 (m:MV) (xs:alp SR1 [.ref 27]) (out:alr SR1 [.sh .b]×(MV×aj0 SR1 [.ref 27])) (h:adV m xs.1=some out):aqR SR1 Tryz.prog 0 [.ref 27] [.sh .b] m xs out:=by
 cases m with
 | alloc x =>exact aaz (.alloc x) xs out h
 | publish x =>exact aaz (.publish x) xs out h
 | claim x =>exact aaz (.claim x) xs out h
 | attempt x =>exact aaz (.attempt x) xs out h
 | release x =>exact aaz (.release x) xs out h
 | opush x =>exact aaz (.opush x) xs out h
 | opop x =>exact aaz (.opop x) xs out h
 | steal x =>exact aaz (.steal x) xs out h
 | set x =>exact aaz (.set x) xs out h
 | reset x =>exact aaz (.reset x) xs out h
 | insert x =>exact aaz (.insert x) xs out h
 | remove x =>exact aaz (.remove x) xs out h
 | sleep x =>exact aaz (.sleep x) xs out h
 | wake x =>exact aaz (.wake x) xs out h
 | raise x =>exact aaz (.raise x) xs out h
 | probe x =>exact aaz (.probe x) xs out h
 | lpush x =>exact alx (.lpush x) xs out h
 | lpop x =>exact alx (.lpop x) xs out h
 | walk x =>exact aj4 (.walk x) xs out h
 | take x =>exact aj4 (.take x) xs out h
 | sweep x =>exact aj4 (.sweep x) xs out h
 | enter x =>exact aj4 (.enter x) xs out h
 | drain x =>exact aj4 (.drain x) xs out h
 | run x =>exact aa8 (S:=SR1) (ps:=[.ref 27]) (rs:=[.sh .b]) (c:=33) (mk:=MV.run) (fun _ =>rfl) rfl (fun _ _ _ _ =>by kernel_rfl) aoa h
 | _ =>cases h
theorem atn:CO Tryz.prog arA:=ajN (S:=SR1) (i:=0) (ps:=[.ref 27]) (rs:=[.sh .b]) (spec:=fun m xs =>adV m xs.1) aA9
noncomputable def abu (m:MV):Option ((Int×Int×Unit)×(MV×Unit)) :=
 match m with
 | .alloc x =>some ((x.o.code,x.o.value,()),(MV.alloc x,()))
 | .publish x =>some ((x.o.code,x.o.value,()),(MV.publish x,()))
 | .claim x =>some ((x.o.code,x.o.value,()),(MV.claim x,()))
 | .attempt x =>some ((x.o.code,x.o.value,()),(MV.attempt x,()))
 | .release x =>some ((x.o.code,x.o.value,()),(MV.release x,()))
 | .opush x =>some ((x.o.code,x.o.value,()),(MV.opush x,()))
 | .opop x =>some ((x.o.code,x.o.value,()),(MV.opop x,()))
 | .steal x =>some ((x.o.code,x.o.value,()),(MV.steal x,()))
 | .set x =>some ((x.o.code,x.o.value,()),(MV.set x,()))
 | .reset x =>some ((x.o.code,x.o.value,()),(MV.reset x,()))
 | .insert x =>some ((x.o.code,x.o.value,()),(MV.insert x,()))
 | .remove x =>some ((x.o.code,x.o.value,()),(MV.remove x,()))
 | .sleep x =>some ((x.o.code,x.o.value,()),(MV.sleep x,()))
 | .wake x =>some ((x.o.code,x.o.value,()),(MV.wake x,()))
 | .raise x =>some ((x.o.code,x.o.value,()),(MV.raise x,()))
 | .probe x =>some ((x.o.code,x.o.value,()),(MV.probe x,()))
 | .lpush x =>some ((x.o.code,x.o.value,()),(MV.lpush x,()))
 | .lpop x =>some ((x.o.code,x.o.value,()),(MV.lpop x,()))
 | .walk x =>some ((x.o.code,x.o.value,()),(MV.walk x,()))
 | .take x =>some ((x.o.code,x.o.value,()),(MV.take x,()))
 | .sweep x =>some ((x.o.code,x.o.value,()),(MV.sweep x,()))
 | .enter x =>some ((x.o.code,x.o.value,()),(MV.enter x,()))
 | .drain x =>some ((x.o.code,x.o.value,()),(MV.drain x,()))
 | .run x =>some ((x.o.code,x.o.value,()),(MV.run x,()))
 | _ =>none
noncomputable abbrev amU:Con SR1:=⟨1000000001,[.mch],[.sh sI_,.sh sI_],fun x =>abu x.1⟩
theorem axv (m:MV) (xs:alp SR1 []) (out:alr SR1 [.sh sI_,.sh sI_]×(MV×aj0 SR1 [])) (h:abu m=some out):aqR SR1 Tryz.prog 1 [] [.sh sI_,.sh sI_] m xs out:=by
 cases m with
 | alloc x =>exact aan (.alloc x) xs out h
 | publish x =>exact aan (.publish x) xs out h
 | claim x =>exact aan (.claim x) xs out h
 | attempt x =>exact aan (.attempt x) xs out h
 | release x =>exact aan (.release x) xs out h
 | opush x =>exact aan (.opush x) xs out h
 | opop x =>exact aan (.opop x) xs out h
 | steal x =>exact aan (.steal x) xs out h
 | set x =>exact aan (.set x) xs out h
 | reset x =>exact aan (.reset x) xs out h
 | insert x =>exact aan (.insert x) xs out h
 | remove x =>exact aan (.remove x) xs out h
 | sleep x =>exact aan (.sleep x) xs out h
 | wake x =>exact aan (.wake x) xs out h
 | raise x =>exact aan (.raise x) xs out h
 | probe x =>exact aan (.probe x) xs out h
 | lpush x =>exact ahQ (.lpush x) xs out h
 | lpop x =>exact ahQ (.lpop x) xs out h
 | walk x =>exact agI (.walk x) xs out h
 | take x =>exact agI (.take x) xs out h
 | sweep x =>exact agI (.sweep x) xs out h
 | enter x =>exact agI (.enter x) xs out h
 | drain x =>exact agI (.drain x) xs out h
 | run x =>exact aa8 (S:=SR1) (ps:=[]) (rs:=[.sh sI_,.sh sI_]) (c:=33) (mk:=MV.run) (f:=150) (sp:=fun x =>some ((x.1.o.code,x.1.o.value,()),(x.1,()))) (fun _ =>rfl) rfl (fun _ _ _ _ =>by kernel_rfl) (acy [aaZ] ⟨aaR,trivial⟩ fun x =>by kernel_rfl) h
 | _ =>cases h
theorem aps:CO Tryz.prog amU:=ajN (S:=SR1) (i:=1) (ps:=[]) (rs:=[.sh sI_,.sh sI_]) (spec:=fun m _ =>abu m) axv
noncomputable def aau (y0:(ClientV MV)):Option ((Bool×Unit)×((ClientV MV)×Unit)) :=
 some ((decide (((y0.subs.length:Nat):Int)≤y0.i),()),(y0,()))
noncomputable abbrev ad0:Con SR1:=⟨60,[.ref 30],[.sh .b],fun x =>aau x.1⟩
theorem aeK:CO Tryz.prog ad0:=aak aaj Tryz.func60 [] trivial [] trivial (fun _ =>[]) [] fun x =>by kernel_rfl
noncomputable def alb (y0:Int):Option ((MV×Unit)×(Unit)) :=
 some ((MV.attempt (⟨⟨false,0,0⟩,y0,false⟩:AttemptV),()),())
noncomputable abbrev ame:Con SR1:=⟨106,[.sh sI_],[.sh .mach],fun x =>alb x.1⟩
theorem aqM:CO Tryz.prog ame:=aak aaj Tryz.func106 [] trivial [] trivial (fun _ =>[]) [] fun x =>by kernel_rfl
noncomputable def ahu (y0:Int) (y1:Int):Option ((MV×Unit)×(Unit)) :=
 some ((MV.insert (⟨⟨false,0,0⟩,y0,y1,1,0,0,0,0⟩:InsertV),()),())
noncomputable abbrev ai0:Con SR1:=⟨108,[.sh sI_,.sh sI_],[.sh .mach],fun x =>ahu x.1 x.2.1⟩
theorem anm:CO Tryz.prog ai0:=aak aaj Tryz.func108 [] trivial [] trivial (fun _ =>[]) [] fun x =>by kernel_rfl
noncomputable def ado (y0:(ClientV MV)):Option ((MV×Unit)×((ClientV MV)×Unit)) :=
 if 0≤y0.i∧y0.i<((y0.subs.length:Nat):Int) then
 if ((abf y0.subs y0.i).prog)=((abf y0.subs y0.i).prog) then
 if ((abf y0.subs y0.i).level)=((abf y0.subs y0.i).level) then
 if ((abf y0.subs y0.i).deadline)=((abf y0.subs y0.i).deadline) then
 if y0.i=y0.i then
 (alb y0.me).bind fun r1 =>
 if y0.line=y0.line then
 if ((abf y0.subs y0.i).level)=((abf y0.subs y0.i).level) then
 if y0.me=y0.me then
 if y0.id=y0.id then
 if ((abf y0.subs y0.i).deadline)=((abf y0.subs y0.i).deadline) then
 (aeU).bind fun r2 =>
 if y0.line=y0.line then
 if ((abf y0.subs y0.i).level)=((abf y0.subs y0.i).level) then
 if y0.me=y0.me then
 if y0.id=y0.id then
 if ((abf y0.subs y0.i).deadline)=((abf y0.subs y0.i).deadline) then
 (ahu ((abf y0.subs y0.i).deadline) y0.id).bind fun r3 =>
 if y0.line=y0.line then
 if ((abf y0.subs y0.i).level)=((abf y0.subs y0.i).level) then
 if y0.me=y0.me then
 (afo).bind fun r4 =>
 if y0.line=y0.line then
 if ((abf y0.subs y0.i).level)=((abf y0.subs y0.i).level) then
 if y0.me=y0.me then
 (ac8 y0.me ((abf y0.subs y0.i).level)).bind fun r5 =>
 if y0.line=y0.line then
 if y0.line=y0.line then
 if 0≤wi (y0.line-1)∧wi (y0.line-1)<((([r1.1.1,MV.nil,r2.1.1,MV.nil,MV.nil,r3.1.1,MV.nil,r4.1.1,r5.1.1]:List MV).length:Nat):Int) then
 some ((aJv ([r1.1.1,MV.nil,r2.1.1,MV.nil,MV.nil,r3.1.1,MV.nil,r4.1.1,r5.1.1]) (wi (y0.line-1)),()),(y0,()))
 else none
 else none
 else none
 else none
 else none
 else none
 else none
 else none
 else none
 else none
 else none
 else none
 else none
 else none
 else none
 else none
 else none
 else none
 else none
 else none
 else none
 else none
 else none
 else none
noncomputable abbrev afd:Con SR1:=⟨103,[.ref 30],[.sh .mach],fun x =>ado x.1⟩
theorem aiG:CO Tryz.prog afd:=aak aaj Tryz.func103 [ame,agQ,ai0,aiq,ahT] ⟨aqM,aiR,anm,akS,aik,trivial⟩ [] trivial (fun _ =>[]) [] fun x =>by kernel_rfl
noncomputable def aam (y0:(ClientV MV)) (y1:Int):Option ((Bool×Unit)×((ClientV MV)×Unit)) :=
 some ((false,()),(({ y0 with line:=y1,inside:=MV.nil,fresh:=true }:(ClientV MV)),()))
noncomputable abbrev adP:Con SR1:=⟨118,[.ref 30,.sh sI_],[.sh .b],fun x =>aam x.1 x.2.1⟩
theorem aej:CO Tryz.prog adP:=aak aaj Tryz.func118 [] trivial [] trivial (fun _ =>[]) [] fun x =>by kernel_rfl
noncomputable def abJ (y0:(ClientV MV)) (y1:EnvP) (y2:Int):Option ((Bool×Unit)×((ClientV MV)×EnvP×Unit)) :=
 (aep y1 (⟨2,y0.me,0,y0.i,y2⟩:Ev)).bind fun r1 =>
 (aam y0 8).bind fun r2 =>
 some ((r2.1.1,()),(r2.2.1,r1.2.1,()))
noncomputable abbrev aes:Con SR1:=⟨113,[.ref 30,.ref 27,.sh sI_],[.sh .b],fun x =>abJ x.1 x.2.1 x.2.2.1⟩
theorem afX:CO Tryz.prog aes:=aak aaj Tryz.func113 [afn,adP] ⟨aeD,aej,trivial⟩ [] trivial (fun _ =>[]) [] fun x =>by kernel_rfl
noncomputable def aet (y0:(ClientV MV)) (y1:EnvP):Option ((Bool×Unit)×((ClientV MV)×EnvP×Unit)) :=
 if 0≤y0.i∧y0.i<((y0.subs.length:Nat):Int) then
 agr (
 if y1.l.workers=y1.l.workers then
 if y1.l.levels=y1.l.levels then
 if y1.l.classes=y1.l.classes then
 if y1.l.tasks=y1.l.tasks then
 if y1.l.deque=y1.l.deque then
 if y1.l.heap=y1.l.heap then
 if y1.l.sleepers=y1.l.sleepers then
 if y1.l.epochs=y1.l.epochs then
 if y1.l.bitmaps=y1.l.bitmaps then
 if y1.l.queues=y1.l.queues then
 if y1.l.table=y1.l.table then
 if ((abf y0.subs y0.i).prog)=((abf y0.subs y0.i).prog) then
 if ((abf y0.subs y0.i).level)=((abf y0.subs y0.i).level) then
 if ((abf y0.subs y0.i).deadline)=((abf y0.subs y0.i).deadline) then
 if y0.i=y0.i then
 if y1.l.workers=y1.l.workers then
 if y1.l.levels=y1.l.levels then
 if y1.l.classes=y1.l.classes then
 if y1.l.tasks=y1.l.tasks then
 if y1.l.deque=y1.l.deque then
 if y1.l.heap=y1.l.heap then
 if y1.l.sleepers=y1.l.sleepers then
 if y1.l.epochs=y1.l.epochs then
 if y1.l.bitmaps=y1.l.bitmaps then
 if y1.l.queues=y1.l.queues then
 if y1.l.table=y1.l.table then
 if ((abf y0.subs y0.i).prog)=((abf y0.subs y0.i).prog) then
 if ((abf y0.subs y0.i).level)=((abf y0.subs y0.i).level) then
 if ((abf y0.subs y0.i).deadline)=((abf y0.subs y0.i).deadline) then
 if y0.i=y0.i then
 if y1.l.workers=y1.l.workers then
 if y1.l.levels=y1.l.levels then
 if y1.l.classes=y1.l.classes then
 if y1.l.tasks=y1.l.tasks then
 if y1.l.deque=y1.l.deque then
 if y1.l.heap=y1.l.heap then
 if y1.l.sleepers=y1.l.sleepers then
 if y1.l.epochs=y1.l.epochs then
 if y1.l.bitmaps=y1.l.bitmaps then
 if y1.l.queues=y1.l.queues then
 if y1.l.table=y1.l.table then
 if y0.line=2 then
 (agn y1.l).bind fun r15 =>
 if y1.c.heap=y1.c.heap then
 (acG y1.m r15.1.1).bind fun r16 =>
 if y1.c.heap=y1.c.heap then
 if y1.c.heap≤(wi (r16.1.1)) then
 (abJ y0 ({ y1 with m:=r16.2.1 }:EnvP) 1).bind fun r17 =>
 some ((r17.1.1,()),(r17.2.1,r17.2.2.1,()))
 else
 (aam y0 (wi (y0.line+1))).bind fun r18 =>
 some ((r18.1.1,()),(r18.2.1,({ y1 with m:=r16.2.1 }:EnvP),()))
 else none
 else none
 else
 if y0.line=4 then
 (afb y1.l y0.id).bind fun r19 =>
 if ((abf y0.subs y0.i).level)=((abf y0.subs y0.i).level) then
 (aa3 y1.m r19.1.1 (wu ((abf y0.subs y0.i).level))).bind fun r20 =>
 (aam y0 (wi (y0.line+1))).bind fun r21 =>
 some ((r21.1.1,()),(r21.2.1,({ y1 with m:=r20.2.1 }:EnvP),()))
 else none
 else
 if y0.line=5 then
 (aiX y1.l y0.id).bind fun r22 =>
 (arX y1.k).bind fun r23 =>
 (aa3 y1.m r22.1.1 (wu (r23.1.1))).bind fun r24 =>
 (aam y0 (wi (y0.line+1))).bind fun r25 =>
 some ((r25.1.1,()),(r25.2.1,({ y1 with m:=r24.2.1,k:=r23.2.1 }:EnvP),()))
 else
 (ad8 y1.l y0.id).bind fun r26 =>
 (aa3 y1.m r26.1.1 1).bind fun r27 =>
 (aam y0 (wi (y0.line+1))).bind fun r28 =>
 some ((r28.1.1,()),(r28.2.1,({ y1 with m:=r27.2.1 }:EnvP),()))
 else none
 else none
 else none
 else none
 else none
 else none
 else none
 else none
 else none
 else none
 else none
 else none
 else none
 else none
 else none
 else none
 else none
 else none
 else none
 else none
 else none
 else none
 else none
 else none
 else none
 else none
 else none
 else none
 else none
 else none
 else none
 else none
 else none
 else none
 else none
 else none
 else none
 else none
 else none
 else none
 else none
 ) (
 if y1.l.workers=y1.l.workers then
 if y1.l.levels=y1.l.levels then
 if y1.l.classes=y1.l.classes then
 if y1.l.tasks=y1.l.tasks then
 if y1.l.deque=y1.l.deque then
 if y1.l.heap=y1.l.heap then
 if y1.l.sleepers=y1.l.sleepers then
 if y1.l.epochs=y1.l.epochs then
 if y1.l.bitmaps=y1.l.bitmaps then
 if y1.l.queues=y1.l.queues then
 if y1.l.table=y1.l.table then
 if ((abf y0.subs y0.i).prog)=((abf y0.subs y0.i).prog) then
 if ((abf y0.subs y0.i).level)=((abf y0.subs y0.i).level) then
 if ((abf y0.subs y0.i).deadline)=((abf y0.subs y0.i).deadline) then
 if y0.i=y0.i then
 if y1.l.workers=y1.l.workers then
 if y1.l.levels=y1.l.levels then
 if y1.l.classes=y1.l.classes then
 if y1.l.tasks=y1.l.tasks then
 if y1.l.deque=y1.l.deque then
 if y1.l.heap=y1.l.heap then
 if y1.l.sleepers=y1.l.sleepers then
 if y1.l.epochs=y1.l.epochs then
 if y1.l.bitmaps=y1.l.bitmaps then
 if y1.l.queues=y1.l.queues then
 if y1.l.table=y1.l.table then
 if ((abf y0.subs y0.i).prog)=((abf y0.subs y0.i).prog) then
 if ((abf y0.subs y0.i).level)=((abf y0.subs y0.i).level) then
 if ((abf y0.subs y0.i).deadline)=((abf y0.subs y0.i).deadline) then
 if y0.i=y0.i then
 if y1.l.workers=y1.l.workers then
 if y1.l.levels=y1.l.levels then
 if y1.l.classes=y1.l.classes then
 if y1.l.tasks=y1.l.tasks then
 if y1.l.deque=y1.l.deque then
 if y1.l.heap=y1.l.heap then
 if y1.l.sleepers=y1.l.sleepers then
 if y1.l.epochs=y1.l.epochs then
 if y1.l.bitmaps=y1.l.bitmaps then
 if y1.l.queues=y1.l.queues then
 if y1.l.table=y1.l.table then
 if y0.line=2 then
 (agn y1.l).bind fun r1 =>
 if y1.c.heap=y1.c.heap then
 (acG y1.m r1.1.1).bind fun r2 =>
 if y1.c.heap=y1.c.heap then
 if y1.c.heap≤(wi (r2.1.1)) then
 (abJ y0 ({ y1 with m:=r2.2.1 }:EnvP) 1).bind fun r3 =>
 some ((r3.1.1,()),(r3.2.1,r3.2.2.1,()))
 else
 (aam y0 (wi (y0.line+1))).bind fun r4 =>
 some ((r4.1.1,()),(r4.2.1,({ y1 with m:=r2.2.1 }:EnvP),()))
 else none
 else none
 else
 if y0.line=4 then
 (afb y1.l y0.id).bind fun r5 =>
 if ((abf y0.subs y0.i).level)=((abf y0.subs y0.i).level) then
 (aa3 y1.m r5.1.1 (wu ((abf y0.subs y0.i).level))).bind fun r6 =>
 (aam y0 (wi (y0.line+1))).bind fun r7 =>
 some ((r7.1.1,()),(r7.2.1,({ y1 with m:=r6.2.1 }:EnvP),()))
 else none
 else
 if y0.line=5 then
 (aiX y1.l y0.id).bind fun r8 =>
 (arX y1.k).bind fun r9 =>
 (aa3 y1.m r8.1.1 (wu (r9.1.1))).bind fun r10 =>
 (aam y0 (wi (y0.line+1))).bind fun r11 =>
 some ((r11.1.1,()),(r11.2.1,({ y1 with m:=r10.2.1,k:=r9.2.1 }:EnvP),()))
 else
 (ad8 y1.l y0.id).bind fun r12 =>
 (aa3 y1.m r12.1.1 1).bind fun r13 =>
 (aam y0 (wi (y0.line+1))).bind fun r14 =>
 some ((r14.1.1,()),(r14.2.1,({ y1 with m:=r13.2.1 }:EnvP),()))
 else none
 else none
 else none
 else none
 else none
 else none
 else none
 else none
 else none
 else none
 else none
 else none
 else none
 else none
 else none
 else none
 else none
 else none
 else none
 else none
 else none
 else none
 else none
 else none
 else none
 else none
 else none
 else none
 else none
 else none
 else none
 else none
 else none
 else none
 else none
 else none
 else none
 else none
 else none
 else none
 else none
 )
 else none
noncomputable abbrev afe:Con SR1:=⟨104,[.ref 30,.ref 27],[.sh .b],fun x =>aet x.1 x.2.1⟩
theorem aiH:CO Tryz.prog afe:=aak aaj Tryz.func104 [akc,acM,aes,adP,agB,adY,aka,anT,afz] ⟨ajz,abT,afX,aej,afL,adt,ajv,ak8,aeZ,trivial⟩ [] trivial (fun _ =>[]) [] fun x =>by kernel_rfl
noncomputable def aa7 (y0:(ClientV MV)) (y1:EnvP):Option ((Bool×Unit)×((ClientV MV)×EnvP×Unit)) :=
 if 0≤y0.i∧y0.i<((y0.subs.length:Nat):Int) then
 if y0.line=2 then
 (agn y1.l).bind fun r1 =>
 (acG y1.m r1.1.1).bind fun r2 =>
 if y1.c.heap≤(wi (r2.1.1)) then
 (abJ y0 ({ y1 with m:=r2.2.1 }:EnvP) 1).bind fun r3 =>
 some ((r3.1.1,()),(r3.2.1,r3.2.2.1,()))
 else
 (aam y0 (wi (y0.line+1))).bind fun r4 =>
 some ((r4.1.1,()),(r4.2.1,({ y1 with m:=r2.2.1 }:EnvP),()))
 else
 if y0.line=4 then
 (afb y1.l y0.id).bind fun r5 =>
 (aa3 y1.m r5.1.1 (wu ((abf y0.subs y0.i).level))).bind fun r6 =>
 (aam y0 (wi (y0.line+1))).bind fun r7 =>
 some ((r7.1.1,()),(r7.2.1,({ y1 with m:=r6.2.1 }:EnvP),()))
 else
 if y0.line=5 then
 (aiX y1.l y0.id).bind fun r8 =>
 (arX y1.k).bind fun r9 =>
 (aa3 y1.m r8.1.1 (wu (r9.1.1))).bind fun r10 =>
 (aam y0 (wi (y0.line+1))).bind fun r11 =>
 some ((r11.1.1,()),(r11.2.1,({ y1 with m:=r10.2.1,k:=r9.2.1 }:EnvP),()))
 else
 (ad8 y1.l y0.id).bind fun r12 =>
 (aa3 y1.m r12.1.1 1).bind fun r13 =>
 (aam y0 (wi (y0.line+1))).bind fun r14 =>
 some ((r14.1.1,()),(r14.2.1,({ y1 with m:=r13.2.1 }:EnvP),()))
 else none
noncomputable abbrev ags:Con SR1:=⟨104,[.ref 30,.ref 27],[.sh .b],fun x =>aa7 x.1 x.2.1⟩
theorem ajQ (y0:(ClientV MV)) (y1:EnvP):aet y0 y1=aa7 y0 y1:=by
 unfold aet aa7
 simp only [if_true,aiP,anx]
 try rfl
theorem ajP:CO Tryz.prog ags:=aFA aiH fun x out hx =>(show afe.spec x=some out from (ajQ x.1 x.2.1).trans hx)
noncomputable def ac3 (y0:(ClientV MV)):Option ((Bool×Unit)×((ClientV MV)×Unit)) :=
 (aam ({ y0 with i:=wi (y0.i+1),accepted:=false }:(ClientV MV)) 1).bind fun r1 =>
 (aau r1.2.1).bind fun r2 =>
 some ((r2.1.1,()),(r2.2.1,()))
noncomputable abbrev ahm:Con SR1:=⟨120,[.ref 30],[.sh .b],fun x =>ac3 x.1⟩
theorem alj:CO Tryz.prog ahm:=aak aaj Tryz.func120 [adP,ad0] ⟨aej,aeK,trivial⟩ [] trivial (fun _ =>[]) [] fun x =>by kernel_rfl
noncomputable def aaV (y0:(ClientV MV)) (y1:EnvP) (y2:Int) (y3:Int):Option ((Bool×Unit)×((ClientV MV)×EnvP×Unit)) :=
 if 0≤y0.i∧y0.i<((y0.subs.length:Nat):Int) then
 if ((abf y0.subs y0.i).prog)=((abf y0.subs y0.i).prog) then
 if ((abf y0.subs y0.i).level)=((abf y0.subs y0.i).level) then
 if ((abf y0.subs y0.i).deadline)=((abf y0.subs y0.i).deadline) then
 if y0.i=y0.i then
 if y0.line=3 then
 if y2=3 then
 (abJ y0 y1 2).bind fun r1 =>
 some ((r1.1.1,()),(r1.2.1,r1.2.2.1,()))
 else
 if 0≤y3∧y3<((y1.recs.length:Nat):Int) then
 (aam ({ y0 with id:=y3 }:(ClientV MV)) (wi (y0.line+1))).bind fun r2 =>
 some ((r2.1.1,()),(r2.2.1,({ y1 with recs:=y1.recs.set y3.toNat (⟨(abf y0.subs y0.i).prog,(-1),0,0,(-1),[],false⟩:RecP) }:EnvP),()))
 else none
 else
 if y0.line=6 then
 if y2≠0 then
 (aam y0 8).bind fun r3 =>
 some ((r3.1.1,()),(r3.2.1,y1,()))
 else
 (aep y1 (⟨1,y0.me,y0.id,y0.i,(abf y0.subs y0.i).level⟩:Ev)).bind fun r4 =>
 (aam ({ y0 with accepted:=true }:(ClientV MV)) (wi (y0.line+1))).bind fun r5 =>
 some ((r5.1.1,()),(r5.2.1,r4.2.1,()))
 else
 if y0.line=8 then
 if (!y0.accepted)=true then
 (ac3 y0).bind fun r6 =>
 some ((r6.1.1,()),(r6.2.1,y1,()))
 else
 (aam y0 (wi (y0.line+1))).bind fun r7 =>
 some ((r7.1.1,()),(r7.2.1,y1,()))
 else
 if y0.line=9 then
 (ac3 y0).bind fun r8 =>
 some ((r8.1.1,()),(r8.2.1,y1,()))
 else
 (aam y0 (wi (y0.line+1))).bind fun r9 =>
 some ((r9.1.1,()),(r9.2.1,y1,()))
 else none
 else none
 else none
 else none
 else none
noncomputable abbrev ag6:Con SR1:=⟨105,[.ref 30,.ref 27,.sh sI_,.sh sI_],[.sh .b],fun x =>aaV x.1 x.2.1 x.2.2.1 x.2.2.2.1⟩
theorem akG:CO Tryz.prog ag6:=aak aaj Tryz.func105 [aes,adP,afn,ahm] ⟨afX,aej,aeD,alj,trivial⟩ [] trivial (fun _ =>[]) [] fun x =>by kernel_rfl
noncomputable def aap (y0:(ClientV MV)) (y1:EnvP):Option ((Bool×Unit)×((ClientV MV)×EnvP×Unit)) :=
 (aau y0).bind fun r1 =>
 if r1.1.1=true then
 some ((true,()),(r1.2.1,y1,()))
 else
 if r1.2.1.fresh=true then
 (ado r1.2.1).bind fun r2 =>
 if (SR1.spl r2.1.1).isNone=true then
 (aa7 ({ r2.2.1 with inside:=r2.1.1,fresh:=false }:(ClientV MV)) y1).bind fun r3 =>
 some ((r3.1.1,()),(r3.2.1,r3.2.2.1,()))
 else
 (adV r2.1.1 y1).bind fun r4 =>
 if (!r4.1.1)=true then
 some ((false,()),(({ r2.2.1 with inside:=r4.2.1,fresh:=false }:(ClientV MV)),r4.2.2.1,()))
 else
 (abu r4.2.1).bind fun r5 =>
 (aaV ({ r2.2.1 with inside:=r5.2.1,fresh:=false }:(ClientV MV)) r4.2.2.1 r5.1.1 r5.1.2.1).bind fun r6 =>
 some ((r6.1.1,()),(r6.2.1,r6.2.2.1,()))
 else
 if (SR1.spl r1.2.1.inside).isNone=true then
 (aa7 r1.2.1 y1).bind fun r7 =>
 some ((r7.1.1,()),(r7.2.1,r7.2.2.1,()))
 else
 (adV r1.2.1.inside y1).bind fun r8 =>
 if (!r8.1.1)=true then
 some ((false,()),(({ r1.2.1 with inside:=r8.2.1 }:(ClientV MV)),r8.2.2.1,()))
 else
 (abu r8.2.1).bind fun r9 =>
 (aaV ({ r1.2.1 with inside:=r9.2.1 }:(ClientV MV)) r8.2.2.1 r9.1.1 r9.1.2.1).bind fun r10 =>
 some ((r10.1.1,()),(r10.2.1,r10.2.2.1,()))
noncomputable abbrev acm:Con SR1:=⟨102,[.ref 30,.ref 27],[.sh .b],fun x =>aap x.1 x.2.1⟩
theorem acT:CO Tryz.prog acm:=aak aaj Tryz.func102 [ad0,afd,ags,arA,amU,ag6] ⟨aeK,aiG,ajP,atn,aps,akG,trivial⟩ [] trivial (fun _ =>[]) [] fun x =>by kernel_rfl
noncomputable def afu (y0:Int):Option ((MV×Unit)×(Unit)) :=
 (afO y0).bind fun r1 =>
 some ((MV.take (⟨⟨false,0,0⟩,y0,false,r1.1.1⟩:(TakeV MV)),()),())
noncomputable abbrev amL:Con SR1:=⟨133,[.sh sI_],[.sh .mach],fun x =>afu x.1⟩
theorem apf:CO Tryz.prog amL:=aak aaj Tryz.func133 [alc] ⟨anV,trivial⟩ [] trivial (fun _ =>[]) [] fun x =>by kernel_rfl
noncomputable def aaf (y0:(WorkerV MV)) (y1:Int) (y2:MV):Option ((Unit)×((WorkerV MV)×Unit)) :=
 some ((()),(({ y0 with line:=y1,inside:=y2 }:(WorkerV MV)),()))
noncomputable abbrev aco:Con SR1:=⟨132,[.ref 31,.sh sI_,.sh .mach],[],fun x =>aaf x.1 x.2.1 x.2.2.1⟩
theorem acD:CO Tryz.prog aco:=aak aaj Tryz.func132 [] trivial [] trivial (fun _ =>[]) [] fun x =>by kernel_rfl
noncomputable def anF (y0:Int) (y1:Int):Option ((MV×Unit)×(Unit)) :=
 some ((MV.sweep (⟨⟨false,0,0⟩,y0,y1,1,0,MV.nil⟩:(SweepV MV)),()),())
noncomputable abbrev an3:Con SR1:=⟨134,[.sh sI_,.sh sI_],[.sh .mach],fun x =>anF x.1 x.2.1⟩
theorem as3:CO Tryz.prog an3:=aak aaj Tryz.func134 [] trivial [] trivial (fun _ =>[]) [] fun x =>by kernel_rfl
noncomputable def aee (y0:(WorkerV MV)) (y1:EnvP):Option ((Unit)×((WorkerV MV)×EnvP×Unit)) :=
 if y1.c.age=0 then
 (afu y0.worker).bind fun r1 =>
 (aaf y0 2 r1.1.1).bind fun r2 =>
 some ((()),(r2.2.1,y1,()))
 else
 (aAL y0.worker y1.c.tasks).bind fun r3 =>
 if y1.c.tasks=y1.c.tasks then
 if y0.cursor=y0.cursor then
 if y0.worker=y0.worker then
 (aAL (wi (r3.1.1+y0.cursor)) y1.c.tasks).bind fun r4 =>
 if y0.worker=y0.worker then
 (anF y0.worker r4.1.1).bind fun r5 =>
 (aaf y0 1 r5.1.1).bind fun r6 =>
 some ((()),(r6.2.1,y1,()))
 else none
 else none
 else none
 else none
noncomputable abbrev agN:Con SR1:=⟨128,[.ref 31,.ref 27],[],fun x =>aee x.1 x.2.1⟩
theorem akt:CO Tryz.prog agN:=aak aaj Tryz.func128 [amL,aco,atS,an3] ⟨apf,acD,arY,as3,trivial⟩ [] trivial (fun _ =>[]) [] fun x =>by kernel_rfl
noncomputable def alK (y0:Int) (y1:Int):Option ((MV×Unit)×(Unit)) :=
 some ((MV.run (⟨⟨false,0,0⟩,y0,[y1],0,MV.nil,0,0,0,0⟩:(RunV MV)),()),())
noncomputable abbrev apo:Con SR1:=⟨144,[.sh sI_,.sh sI_],[.sh .mach],fun x =>alK x.1 x.2.1⟩
theorem atw:CO Tryz.prog apo:=aak aaj Tryz.func144 [] trivial [] trivial (fun _ =>[]) [] fun x =>by kernel_rfl
noncomputable def adp (y0:(WorkerV MV)) (y1:Int):Option ((Unit)×((WorkerV MV)×Unit)) :=
 (alK y0.worker y1).bind fun r1 =>
 (aaf ({ y0 with x:=y1 }:(WorkerV MV)) 7 r1.1.1).bind fun r2 =>
 some ((()),(r2.2.1,()))
noncomputable abbrev afg:Con SR1:=⟨131,[.ref 31,.sh sI_],[],fun x =>adp x.1 x.2.1⟩
theorem ahb:CO Tryz.prog afg:=aak aaj Tryz.func131 [apo,aco] ⟨atw,acD,trivial⟩ [] trivial (fun _ =>[]) [] fun x =>by kernel_rfl
noncomputable def akn (y0:Int):Option ((MV×Unit)×(Unit)) :=
 some ((MV.drain (⟨⟨false,0,0⟩,y0,1,MV.nil,0,false,0,0,0⟩:(DrainV MV)),()),())
noncomputable abbrev anY:Con SR1:=⟨136,[.sh sI_],[.sh .mach],fun x =>akn x.1⟩
theorem asI:CO Tryz.prog anY:=aak aaj Tryz.func136 [] trivial [] trivial (fun _ =>[]) [] fun x =>by kernel_rfl
noncomputable def acE (y0:(WorkerV MV)) (y1:Int):Option ((Unit)×((WorkerV MV)×Unit)) :=
 (acF y0.worker y1).bind fun r1 =>
 (aaf ({ y0 with x:=y1 }:(WorkerV MV)) 6 r1.1.1).bind fun r2 =>
 some ((()),(r2.2.1,()))
noncomputable abbrev aeG:Con SR1:=⟨137,[.ref 31,.sh sI_],[],fun x =>acE x.1 x.2.1⟩
theorem agj:CO Tryz.prog aeG:=aak aaj Tryz.func137 [afK,aco] ⟨agy,acD,trivial⟩ [] trivial (fun _ =>[]) [] fun x =>by kernel_rfl
noncomputable def adM (y0:Int):Option ((MV×Unit)×(Unit)) :=
 some ((MV.sleep (⟨⟨false,0,0⟩,y0,1,0,0,0⟩:SleepV),()),())
noncomputable abbrev ak6:Con SR1:=⟨139,[.sh sI_],[.sh .mach],fun x =>adM x.1⟩
theorem anR:CO Tryz.prog ak6:=aak aaj Tryz.func139 [] trivial [] trivial (fun _ =>[]) [] fun x =>by kernel_rfl
noncomputable def am4 (y0:Int):Option ((MV×Unit)×(Unit)) :=
 some ((MV.probe (⟨⟨false,0,0⟩,y0,false,0,0,⟨0,0,0,0,0,0,0,0,0,0,0,0,0,0,0,0⟩⟩:ProbeV),()),())
noncomputable abbrev anQ:Con SR1:=⟨147,[.sh sI_],[.sh .mach],fun x =>am4 x.1⟩
theorem arR:CO Tryz.prog anQ:=aak aaj Tryz.func147 [] trivial [] trivial (fun _ =>[]) [] fun x =>by kernel_rfl
noncomputable def abc (y0:(WorkerV MV)) (y1:EnvP):Option ((Unit)×((WorkerV MV)×EnvP×Unit)) :=
 if y1.c.workers=1 then
 (adM y0.worker).bind fun r1 =>
 (aaf y0 8 r1.1.1).bind fun r2 =>
 some ((()),(r2.2.1,y1,()))
 else
 (am4 y0.worker).bind fun r3 =>
 (aaf y0 4 r3.1.1).bind fun r4 =>
 some ((()),(r4.2.1,y1,()))
noncomputable abbrev ahc:Con SR1:=⟨138,[.ref 31,.ref 27],[],fun x =>abc x.1 x.2.1⟩
theorem akZ:CO Tryz.prog ahc:=aak aaj Tryz.func138 [ak6,aco,anQ] ⟨anR,acD,arR,trivial⟩ [] trivial (fun _ =>[]) [] fun x =>by kernel_rfl
noncomputable def adQ (y0:QV):Option ((MV×Unit)×(Unit)) :=
 some ((MV.steal (⟨⟨false,0,0⟩,y0,1,0,0⟩:StealV),()),())
noncomputable abbrev anM:Con SR1:=⟨140,[.val 14],[.sh .mach],fun x =>adQ x.1⟩
theorem arx:CO Tryz.prog anM:=aak aaj Tryz.func140 [] trivial [] trivial (fun _ =>[]) [] fun x =>by kernel_rfl
noncomputable def ab1 (y0:(WorkerV MV)) (y1:EnvP) (y2:Int) (y3:Int):Option ((Unit)×((WorkerV MV)×EnvP×Unit)) :=
 if y0.line=1 then
 (afu y0.worker).bind fun r1 =>
 (aaf ({ y0 with cursor:=wi (y0.cursor+1) }:(WorkerV MV)) 2 r1.1.1).bind fun r2 =>
 some ((()),(r2.2.1,y1,()))
 else
 if y0.line=2 then
 if y2=1 then
 (adp y0 y3).bind fun r3 =>
 some ((()),(r3.2.1,y1,()))
 else
 if y0.line=2 then
 (akn y0.worker).bind fun r4 =>
 (aaf y0 3 r4.1.1).bind fun r5 =>
 some ((()),(r5.2.1,y1,()))
 else
 if y0.line=3 then
 if y2=1 then
 (acE y0 y3).bind fun r6 =>
 some ((()),(r6.2.1,y1,()))
 else
 if y0.line=3 then
 if y2=0 then
 (afu y0.worker).bind fun r7 =>
 (aaf y0 2 r7.1.1).bind fun r8 =>
 some ((()),(r8.2.1,y1,()))
 else
 if y0.line=3 then
 (abc y0 y1).bind fun r9 =>
 some ((()),(r9.2.1,r9.2.2.1,()))
 else
 if y2=2 then
 (adM y0.worker).bind fun r10 =>
 (aaf y0 8 r10.1.1).bind fun r11 =>
 some ((()),(r11.2.1,y1,()))
 else
 (agY y1.l (wi (Int.tdiv y3 64)) (Int.tmod y3 64)).bind fun r12 =>
 (adQ r12.1.1).bind fun r13 =>
 (aaf ({ y0 with victim:=wi (Int.tdiv y3 64),level:=(Int.tmod y3 64) }:(WorkerV MV)) 5 r13.1.1).bind fun r14 =>
 some ((()),(r14.2.1,y1,()))
 else
 if y0.line=3 then
 (abc y0 y1).bind fun r15 =>
 some ((()),(r15.2.1,r15.2.2.1,()))
 else
 if y2=2 then
 (adM y0.worker).bind fun r16 =>
 (aaf y0 8 r16.1.1).bind fun r17 =>
 some ((()),(r17.2.1,y1,()))
 else
 (agY y1.l (wi (Int.tdiv y3 64)) (Int.tmod y3 64)).bind fun r18 =>
 (adQ r18.1.1).bind fun r19 =>
 (aaf ({ y0 with victim:=wi (Int.tdiv y3 64),level:=(Int.tmod y3 64) }:(WorkerV MV)) 5 r19.1.1).bind fun r20 =>
 some ((()),(r20.2.1,y1,()))
 else
 if y0.line=3 then
 if y2=0 then
 (afu y0.worker).bind fun r21 =>
 (aaf y0 2 r21.1.1).bind fun r22 =>
 some ((()),(r22.2.1,y1,()))
 else
 if y0.line=3 then
 (abc y0 y1).bind fun r23 =>
 some ((()),(r23.2.1,r23.2.2.1,()))
 else
 if y2=2 then
 (adM y0.worker).bind fun r24 =>
 (aaf y0 8 r24.1.1).bind fun r25 =>
 some ((()),(r25.2.1,y1,()))
 else
 (agY y1.l (wi (Int.tdiv y3 64)) (Int.tmod y3 64)).bind fun r26 =>
 (adQ r26.1.1).bind fun r27 =>
 (aaf ({ y0 with victim:=wi (Int.tdiv y3 64),level:=(Int.tmod y3 64) }:(WorkerV MV)) 5 r27.1.1).bind fun r28 =>
 some ((()),(r28.2.1,y1,()))
 else
 if y0.line=3 then
 (abc y0 y1).bind fun r29 =>
 some ((()),(r29.2.1,r29.2.2.1,()))
 else
 if y2=2 then
 (adM y0.worker).bind fun r30 =>
 (aaf y0 8 r30.1.1).bind fun r31 =>
 some ((()),(r31.2.1,y1,()))
 else
 (agY y1.l (wi (Int.tdiv y3 64)) (Int.tmod y3 64)).bind fun r32 =>
 (adQ r32.1.1).bind fun r33 =>
 (aaf ({ y0 with victim:=wi (Int.tdiv y3 64),level:=(Int.tmod y3 64) }:(WorkerV MV)) 5 r33.1.1).bind fun r34 =>
 some ((()),(r34.2.1,y1,()))
 else
 if y0.line=2 then
 (akn y0.worker).bind fun r35 =>
 (aaf y0 3 r35.1.1).bind fun r36 =>
 some ((()),(r36.2.1,y1,()))
 else
 if y0.line=3 then
 if y2=1 then
 (acE y0 y3).bind fun r37 =>
 some ((()),(r37.2.1,y1,()))
 else
 if y0.line=3 then
 if y2=0 then
 (afu y0.worker).bind fun r38 =>
 (aaf y0 2 r38.1.1).bind fun r39 =>
 some ((()),(r39.2.1,y1,()))
 else
 if y0.line=3 then
 (abc y0 y1).bind fun r40 =>
 some ((()),(r40.2.1,r40.2.2.1,()))
 else
 if y2=2 then
 (adM y0.worker).bind fun r41 =>
 (aaf y0 8 r41.1.1).bind fun r42 =>
 some ((()),(r42.2.1,y1,()))
 else
 (agY y1.l (wi (Int.tdiv y3 64)) (Int.tmod y3 64)).bind fun r43 =>
 (adQ r43.1.1).bind fun r44 =>
 (aaf ({ y0 with victim:=wi (Int.tdiv y3 64),level:=(Int.tmod y3 64) }:(WorkerV MV)) 5 r44.1.1).bind fun r45 =>
 some ((()),(r45.2.1,y1,()))
 else
 if y0.line=3 then
 (abc y0 y1).bind fun r46 =>
 some ((()),(r46.2.1,r46.2.2.1,()))
 else
 if y2=2 then
 (adM y0.worker).bind fun r47 =>
 (aaf y0 8 r47.1.1).bind fun r48 =>
 some ((()),(r48.2.1,y1,()))
 else
 (agY y1.l (wi (Int.tdiv y3 64)) (Int.tmod y3 64)).bind fun r49 =>
 (adQ r49.1.1).bind fun r50 =>
 (aaf ({ y0 with victim:=wi (Int.tdiv y3 64),level:=(Int.tmod y3 64) }:(WorkerV MV)) 5 r50.1.1).bind fun r51 =>
 some ((()),(r51.2.1,y1,()))
 else
 if y0.line=3 then
 if y2=0 then
 (afu y0.worker).bind fun r52 =>
 (aaf y0 2 r52.1.1).bind fun r53 =>
 some ((()),(r53.2.1,y1,()))
 else
 if y0.line=3 then
 (abc y0 y1).bind fun r54 =>
 some ((()),(r54.2.1,r54.2.2.1,()))
 else
 if y2=2 then
 (adM y0.worker).bind fun r55 =>
 (aaf y0 8 r55.1.1).bind fun r56 =>
 some ((()),(r56.2.1,y1,()))
 else
 (agY y1.l (wi (Int.tdiv y3 64)) (Int.tmod y3 64)).bind fun r57 =>
 (adQ r57.1.1).bind fun r58 =>
 (aaf ({ y0 with victim:=wi (Int.tdiv y3 64),level:=(Int.tmod y3 64) }:(WorkerV MV)) 5 r58.1.1).bind fun r59 =>
 some ((()),(r59.2.1,y1,()))
 else
 if y0.line=3 then
 (abc y0 y1).bind fun r60 =>
 some ((()),(r60.2.1,r60.2.2.1,()))
 else
 if y2=2 then
 (adM y0.worker).bind fun r61 =>
 (aaf y0 8 r61.1.1).bind fun r62 =>
 some ((()),(r62.2.1,y1,()))
 else
 (agY y1.l (wi (Int.tdiv y3 64)) (Int.tmod y3 64)).bind fun r63 =>
 (adQ r63.1.1).bind fun r64 =>
 (aaf ({ y0 with victim:=wi (Int.tdiv y3 64),level:=(Int.tmod y3 64) }:(WorkerV MV)) 5 r64.1.1).bind fun r65 =>
 some ((()),(r65.2.1,y1,()))
noncomputable abbrev agP:Con SR1:=⟨129,[.ref 31,.ref 27,.sh sI_,.sh sI_],[],fun x =>ab1 x.1 x.2.1 x.2.2.1 x.2.2.2.1⟩
theorem aku:CO Tryz.prog agP:=aak aaj Tryz.func129 [amL,aco,afg,anY,aeG,ahc,ak6,akb,anM] ⟨apf,acD,ahb,asI,agj,akZ,anR,ajx,arx,trivial⟩ [] trivial (fun _ =>[]) [] fun x =>by kernel_rfl
noncomputable def aaY (y0:(WorkerV MV)):Option ((Unit)×((WorkerV MV)×Unit)) :=
 some ((()),(({ y0 with line:=0,inside:=MV.nil }:(WorkerV MV)),()))
noncomputable abbrev aeS:Con SR1:=⟨127,[.ref 31],[],fun x =>aaY x.1⟩
theorem agO:CO Tryz.prog aeS:=aak aaj Tryz.func127 [] trivial [] trivial (fun _ =>[]) [] fun x =>by kernel_rfl
noncomputable def adU (y0:(WorkerV MV)) (y1:EnvP) (y2:Int) (y3:Int):Option ((Unit)×((WorkerV MV)×EnvP×Unit)) :=
 if y2=1 then
 (aep y1 ({ y0 with kind:=14,task:=y3,other:=y0.victim }:Ev)).bind fun r1 =>
 (acE y0 y3).bind fun r2 =>
 some ((()),(r2.2.1,r1.2.1,()))
 else
 if y2=2 then
 (ahs y1.l y0.victim).bind fun r3 =>
 if y0.level=y0.level then
 if y0.victim=y0.victim then
 if y1.l.workers=y1.l.workers then
 if y1.l.levels=y1.l.levels then
 if y1.l.classes=y1.l.classes then
 if y1.l.tasks=y1.l.tasks then
 if y1.l.deque=y1.l.deque then
 if y1.l.heap=y1.l.heap then
 if y1.l.sleepers=y1.l.sleepers then
 if y1.l.epochs=y1.l.epochs then
 if y1.l.bitmaps=y1.l.bitmaps then
 if y1.l.queues=y1.l.queues then
 if y1.l.table=y1.l.table then
 if y0.level=y0.level then
 (agY y1.l y0.victim y0.level).bind fun r4 =>
 if y0.level=y0.level then
 (ag7 r3.1.1 y0.level r4.1.1).bind fun r5 =>
 (aaf y0 9 r5.1.1).bind fun r6 =>
 some ((()),(r6.2.1,y1,()))
 else none
 else none
 else none
 else none
 else none
 else none
 else none
 else none
 else none
 else none
 else none
 else none
 else none
 else none
 else none
 else
 (aaY y0).bind fun r7 =>
 some ((()),(r7.2.1,y1,()))
noncomputable abbrev agh:Con SR1:=⟨130,[.ref 31,.ref 27,.sh sI_,.sh sI_],[],fun x =>adU x.1 x.2.1 x.2.2.1 x.2.2.2.1⟩
theorem ajg:CO Tryz.prog agh:=aak aaj Tryz.func130 [afn,aeG,agZ,akb,aiL,aco,aeS] ⟨aeD,agj,agJ,ajx,akX,acD,agO,trivial⟩ [] trivial (fun _ =>[]) [] fun x =>by kernel_rfl
noncomputable def aah (y0:(WorkerV MV)) (y1:EnvP):Option ((Bool×Unit)×((WorkerV MV)×EnvP×Unit)) :=
 if y0.line=0 then
 (aee y0 y1).bind fun r1 =>
 (adV r1.2.1.inside r1.2.2.1).bind fun r2 =>
 if (!r2.1.1)=true then
 some ((false,()),(({ r1.2.1 with inside:=r2.2.1 }:(WorkerV MV)),r2.2.2.1,()))
 else
 (abu r2.2.1).bind fun r3 =>
 if r1.2.1.line≤4 then
 (ab1 ({ r1.2.1 with inside:=r3.2.1 }:(WorkerV MV)) r2.2.2.1 r3.1.1 r3.1.2.1).bind fun r4 =>
 some ((false,()),(r4.2.1,r4.2.2.1,()))
 else
 if r1.2.1.line=5 then
 (adU ({ r1.2.1 with inside:=r3.2.1 }:(WorkerV MV)) r2.2.2.1 r3.1.1 r3.1.2.1).bind fun r5 =>
 some ((false,()),(r5.2.1,r5.2.2.1,()))
 else
 if r1.2.1.line=6 then
 if r3.1.1=1 then
 (adp ({ r1.2.1 with inside:=r3.2.1 }:(WorkerV MV)) r1.2.1.x).bind fun r6 =>
 some ((false,()),(r6.2.1,r2.2.2.1,()))
 else
 (aaY ({ r1.2.1 with inside:=r3.2.1 }:(WorkerV MV))).bind fun r7 =>
 some ((false,()),(r7.2.1,r2.2.2.1,()))
 else
 (aaY ({ r1.2.1 with inside:=r3.2.1 }:(WorkerV MV))).bind fun r8 =>
 some ((false,()),(r8.2.1,r2.2.2.1,()))
 else
 (adV y0.inside y1).bind fun r9 =>
 if (!r9.1.1)=true then
 some ((false,()),(({ y0 with inside:=r9.2.1 }:(WorkerV MV)),r9.2.2.1,()))
 else
 (abu r9.2.1).bind fun r10 =>
 if y0.line≤4 then
 (ab1 ({ y0 with inside:=r10.2.1 }:(WorkerV MV)) r9.2.2.1 r10.1.1 r10.1.2.1).bind fun r11 =>
 some ((false,()),(r11.2.1,r11.2.2.1,()))
 else
 if y0.line=5 then
 (adU ({ y0 with inside:=r10.2.1 }:(WorkerV MV)) r9.2.2.1 r10.1.1 r10.1.2.1).bind fun r12 =>
 some ((false,()),(r12.2.1,r12.2.2.1,()))
 else
 if y0.line=6 then
 if r10.1.1=1 then
 (adp ({ y0 with inside:=r10.2.1 }:(WorkerV MV)) y0.x).bind fun r13 =>
 some ((false,()),(r13.2.1,r9.2.2.1,()))
 else
 (aaY ({ y0 with inside:=r10.2.1 }:(WorkerV MV))).bind fun r14 =>
 some ((false,()),(r14.2.1,r9.2.2.1,()))
 else
 (aaY ({ y0 with inside:=r10.2.1 }:(WorkerV MV))).bind fun r15 =>
 some ((false,()),(r15.2.1,r9.2.2.1,()))
noncomputable abbrev acg:Con SR1:=⟨126,[.ref 31,.ref 27],[.sh .b],fun x =>aah x.1 x.2.1⟩
theorem acJ:CO Tryz.prog acg:=aak aaj Tryz.func126 [agN,arA,amU,agP,agh,afg,aeS] ⟨akt,atn,aps,aku,ajg,ahb,agO,trivial⟩ [] trivial (fun _ =>[]) [] fun x =>by kernel_rfl
noncomputable def afp (y0:Cfg):Option ((Cfg×Unit)×(Unit)) :=
 (ah6 y0.progs).bind fun r1 =>
 (lpF (σ:=Int×(Int×Int×Int×Int×Int×Int×Int×Int×Int×List (List Ins)×List Sub×Unit)×Unit) (β:=Int×(Int×Int×Int×Int×Int×Int×Int×Int×Int×List (List Ins)×List Sub×Unit)×Unit) (fun self4 x2 =>
 if x2.1<((r1.1.1.length:Nat):Int) then
 if 0≤x2.1∧x2.1<((x2.2.1.2.2.2.2.2.2.2.2.2.1.length:Nat):Int) then
 (ako (aAr x2.2.1.2.2.2.2.2.2.2.2.2.1 x2.1)).bind fun r5 =>
 if 0≤x2.1∧x2.1<((x2.2.1.2.2.2.2.2.2.2.2.2.1.length:Nat):Int) then
 self4 (wi (x2.1+1),(x2.2.1.1,x2.2.1.2.1,x2.2.1.2.2.1,x2.2.1.2.2.2.1,x2.2.1.2.2.2.2.1,x2.2.1.2.2.2.2.2.1,x2.2.1.2.2.2.2.2.2.1,x2.2.1.2.2.2.2.2.2.2.1,x2.2.1.2.2.2.2.2.2.2.2.1,x2.2.1.2.2.2.2.2.2.2.2.2.1.set x2.1.toNat r5.1.1,x2.2.1.2.2.2.2.2.2.2.2.2.2.1,()),())
 else none
 else none
 else
 some (x2.1,(x2.2.1.1,x2.2.1.2.1,x2.2.1.2.2.1,x2.2.1.2.2.2.1,x2.2.1.2.2.2.2.1,x2.2.1.2.2.2.2.2.1,x2.2.1.2.2.2.2.2.2.1,x2.2.1.2.2.2.2.2.2.2.1,x2.2.1.2.2.2.2.2.2.2.2.1,x2.2.1.2.2.2.2.2.2.2.2.2.1,x2.2.1.2.2.2.2.2.2.2.2.2.2.1,()),())
 ) 18446744073709551616 (0,(y0.workers,y0.levels,y0.classes,y0.tasks,y0.deque,y0.heap,y0.batch,y0.age,y0.patience,r1.1.1,y0.subs,()),())).bind fun z3 =>
 (ah5 z3.2.1.2.2.2.2.2.2.2.2.2.2.1).bind fun r6 =>
 some (((⟨z3.2.1.1,z3.2.1.2.1,z3.2.1.2.2.1,z3.2.1.2.2.2.1,z3.2.1.2.2.2.2.1,z3.2.1.2.2.2.2.2.1,z3.2.1.2.2.2.2.2.2.1,z3.2.1.2.2.2.2.2.2.2.1,z3.2.1.2.2.2.2.2.2.2.2.1,z3.2.1.2.2.2.2.2.2.2.2.2.1,r6.1.1⟩:Cfg),()),())
noncomputable abbrev aiD:Con SR1:=⟨71,[.val 13],[.val 13],fun x =>afp x.1⟩
theorem akW:CO Tryz.prog aiD:=aak aaj Tryz.func71 [aiF,arn,aqn] ⟨auw,avN,auv,trivial⟩ [] trivial (fun _ =>[]) [(3,.loop [.rg 11 sI_,.cs 11 [sI_,sI_,sI_,sI_,sI_,sI_,sI_,sI_,sI_,(.row 18),(.ro 4)]] 18446744073709551616 0)] fun x =>by kernel_rfl
noncomputable def ami (y0:Cfg):Option ((LayV×Int×Unit)×(Unit)) :=
 (aiJ y0).bind fun r1 =>
 if r1.1.1≠0 then
 some (((⟨0,0,0,0,0,0,0,0,0,0,0⟩:LayV),r1.1.1,()),())
 else
 some ((({ y0 with sleepers:=wi (4+y0.heap),epochs:=wi ((wi (4+y0.heap))+y0.classes),bitmaps:=wi ((wi ((wi (4+y0.heap))+y0.classes))+y0.workers),queues:=wi ((wi ((wi ((wi (4+y0.heap))+y0.classes))+y0.workers))+y0.workers),table:=wi ((wi ((wi ((wi ((wi (4+y0.heap))+y0.classes))+y0.workers))+y0.workers))+(wi ((wi (y0.workers*y0.levels))*(wi (2+y0.deque))))) }:LayV),0,()),())
noncomputable abbrev apW:Con SR1:=⟨68,[.val 13],[.val 24,.sh sI_],fun x =>ami x.1⟩
theorem at9:CO Tryz.prog apW:=aak aaj Tryz.func68 [akp] ⟨alm,trivial⟩ [] trivial (fun _ =>[]) [] fun x =>by kernel_rfl
noncomputable def apN (y0:Int):Option ((MemV×Unit)×(Unit)) :=
 if (if 131072<(if y0<0 then 0 else y0) then 131072 else (if y0<0 then 0 else y0))=(if 131072<(if y0<0 then 0 else y0) then 131072 else (if y0<0 then 0 else y0)) then
 if 0≤(if 131072<(if y0<0 then 0 else y0) then 131072 else (if y0<0 then 0 else y0))∧(if 131072<(if y0<0 then 0 else y0) then 131072 else (if y0<0 then 0 else y0))≤1099511627776 then
 some (((⟨List.replicate ((if 131072<(if y0<0 then 0 else y0) then 131072 else (if y0<0 then 0 else y0)):Int).toNat (0:Int),⟨0,0,0,0⟩,0⟩:MemV),()),())
 else none
 else none
noncomputable abbrev apM:Con SR1:=⟨77,[.sh sI_],[.sh (.own 9)],fun x =>apN x.1⟩
theorem at4:CO Tryz.prog apM:=aak aaj Tryz.func77 [] trivial [] trivial (fun _ =>[]) [] fun x =>by kernel_rfl
noncomputable def asS  : Option ((ClkV×Unit)×(Unit)) :=
 some (((⟨0,0⟩:ClkV),()),())
noncomputable abbrev aro:Con SR1:=⟨78,[],[.sh (.own 25)],fun x =>asS ⟩
theorem avO:CO Tryz.prog aro:=aak aaj Tryz.func78 [] trivial [] trivial (fun _ =>[]) [] fun x =>by kernel_rfl
noncomputable def aio (y0:Int):Option ((EnvP×Unit)×(Unit)) :=
 (apN y0).bind fun r1 =>
 (asS).bind fun r2 =>
 some (((⟨⟨0,0,0,0,0,0,0,0,0,[],[]⟩,⟨0,0,0,0,0,0,0,0,0,0,0⟩,r1.1.1,r2.1.1,[],[]⟩:EnvP),()),())
noncomputable abbrev al7:Con SR1:=⟨69,[.sh sI_],[.sh (.own 27)],fun x =>aio x.1⟩
theorem aqK:CO Tryz.prog al7:=aak aaj Tryz.func69 [apM,aro] ⟨at4,avO,trivial⟩ [] trivial (fun _ =>[]) [] fun x =>by kernel_rfl
noncomputable def afW (y0:Cfg):Option (((ClientV MV)×Unit)×(Unit)) :=
 (afp y0).bind fun r1 =>
 if y0.workers=y0.workers then
 some (((⟨r1.1.1.subs,y0.workers,0,1,MV.nil,true,0,false⟩:(ClientV MV)),()),())
 else none
noncomputable abbrev afq:Con SR1:=⟨56,[.val 13],[.sh (.own 30)],fun x =>afW x.1⟩
theorem afV:CO Tryz.prog afq:=aak aaj Tryz.func56 [aiD] ⟨akW,trivial⟩ [] trivial (fun _ =>[]) [] fun x =>by kernel_rfl
noncomputable def adq (y0:Int):Option (((WorkerV MV)×Unit)×(Unit)) :=
 some (((⟨y0,0,0,MV.nil,0,0,0⟩:(WorkerV MV)),()),())
noncomputable abbrev afh:Con SR1:=⟨57,[.sh sI_],[.sh (.own 31)],fun x =>adq x.1⟩
theorem afH:CO Tryz.prog afh:=aak aaj Tryz.func57 [] trivial [] trivial (fun _ =>[]) [] fun x =>by kernel_rfl
noncomputable def ahl (y0:(ClientV MV)):Option ((Int×Unit)×((ClientV MV)×Unit)) :=
 (aau y0).bind fun r1 =>
 if r1.1.1=true then
 some ((4,()),(r1.2.1,()))
 else
 if r1.2.1.line=1 then
 some ((0,()),(r1.2.1,()))
 else
 some ((2,()),(r1.2.1,()))
noncomputable abbrev agq:Con SR1:=⟨44,[.ref 30],[.sh sI_],fun x =>ahl x.1⟩
theorem ajO:CO Tryz.prog agq:=aak aaj Tryz.func44 [ad0] ⟨aeK,trivial⟩ [] trivial (fun _ =>[]) [] fun x =>by kernel_rfl
noncomputable def aha (y0:(WorkerV MV)):Option ((Int×Unit)×((WorkerV MV)×Unit)) :=
 if y0.line=0 then
 some ((0,()),(y0,()))
 else
 if y0.line=7 then
 some ((2,()),(y0,()))
 else
 if y0.line=8 then
 (aq2 y0.inside).bind fun r1 =>
 if r1.1.1=true then
 some ((3,()),(({ y0 with inside:=r1.2.1 }:(WorkerV MV)),()))
 else
 some ((1,()),(({ y0 with inside:=r1.2.1 }:(WorkerV MV)),()))
 else
 some ((1,()),(y0,()))
noncomputable abbrev agi:Con SR1:=⟨43,[.ref 31],[.sh sI_],fun x =>aha x.1⟩
theorem ajh:CO Tryz.prog agi:=aak aaj Tryz.func43 [ajt] ⟨arU,trivial⟩ [] trivial (fun _ =>[]) [] fun x =>by kernel_rfl
noncomputable def abF (r:CodV) (k:Int):Option ((Int×Unit)×(CodV×Unit)) :=
 if r.at_<((r.inn.length:Nat):Int) then
 if 0≤r.at_∧r.at_<((r.inn.length:Nat):Int) then
 if k≠0 then
 some (((Int.tmod (wi (ajd r.inn r.at_)) k),()),(({ r with at_:=wi (r.at_+1) }:CodV),()))
 else none
 else none
 else
 some ((0,()),(({ r with at_:=wi (r.at_+1) }:CodV),()))
noncomputable abbrev aqY:Con SR1:=⟨31,[.ref 19,.sh sI_],[.sh sI_],fun x =>abF x.1 x.2.1⟩
theorem au4:CO Tryz.prog aqY:=aak aaj Tryz.func31 [] trivial [] trivial (fun _ =>[]) [] fun x =>by kernel_rfl
noncomputable def aoG (b:List Int):Option ((Cfg×Unit)×(Unit)) :=
 (abF (⟨b,[],0,false⟩:CodV) 4).bind fun r1 =>
 (abF r1.2.1 4).bind fun r2 =>
 (abF r2.2.1 (if wi (1+r2.1.1)<3 then wi (1+r2.1.1) else 3)).bind fun r3 =>
 (abF r3.2.1 12).bind fun r4 =>
 (abF r4.2.1 4).bind fun r5 =>
 (abF r5.2.1 4).bind fun r6 =>
 (abF r6.2.1 (wi (1+r5.1.1))).bind fun r7 =>
 (abF r7.2.1 6).bind fun r8 =>
 (abF r8.2.1 8).bind fun r9 =>
 (abF r9.2.1 4).bind fun r10 =>
 (lpF (σ:=Int×CodV×Cfg×Unit) (β:=Int×CodV×Cfg×Unit) (fun self13 x11 =>
 if x11.1<(wi (1+r10.1.1)) then
 (abF x11.2.1 6).bind fun r14 =>
 (lpF (σ:=List Ins×Int×CodV×Unit) (β:=List Ins×Int×CodV×Unit) (fun self17 x15 =>
 if 0<x15.2.1 then
 (abF x15.2.2.1 3).bind fun r18 =>
 if r18.1.1=0 then
 (abF r18.2.1 4).bind fun r19 =>
 if (((x15.1.length+([(⟨r18.1.1,wi (1+r19.1.1),0⟩:Ins)]:List Ins).length:Nat)):Int)<1000000000000 then
 self17 (x15.1++([(⟨r18.1.1,wi (1+r19.1.1),0⟩:Ins)]),wi (x15.2.1-1),r19.2.1,())
 else none
 else
 if r18.1.1=1 then
 (abF r18.2.1 (wi (1+r10.1.1))).bind fun r20 =>
 (abF r20.2.1 x11.2.2.1.levels).bind fun r21 =>
 if (((x15.1.length+([(⟨r18.1.1,r20.1.1,r21.1.1⟩:Ins)]:List Ins).length:Nat)):Int)<1000000000000 then
 self17 (x15.1++([(⟨r18.1.1,r20.1.1,r21.1.1⟩:Ins)]),wi (x15.2.1-1),r21.2.1,())
 else none
 else
 (abF r18.2.1 4).bind fun r22 =>
 if (((x15.1.length+([(⟨r18.1.1,r22.1.1,0⟩:Ins)]:List Ins).length:Nat)):Int)<1000000000000 then
 self17 (x15.1++([(⟨r18.1.1,r22.1.1,0⟩:Ins)]),wi (x15.2.1-1),r22.2.1,())
 else none
 else
 some (x15.1,x15.2.1,x15.2.2.1,())
 ) 18446744073709551616 ([],r14.1.1,r14.2.1,())).bind fun z16 =>
 if (((x11.2.2.1.progs.length+([z16.1]:List (List Ins)).length:Nat)):Int)<100000000000 then
 self13 (wi (x11.1+1),z16.2.2.1,({ x11.2.2.1 with progs:=x11.2.2.1.progs++([z16.1]) }:Cfg),())
 else none
 else
 some (x11.1,x11.2.1,x11.2.2.1,())
 ) 18446744073709551616 (0,r10.2.1,(⟨wi (1+r1.1.1),wi (1+r2.1.1),wi (1+r3.1.1),wi (1+r4.1.1),wi (1+r5.1.1),wi (1+r6.1.1),wi (1+r7.1.1),r8.1.1,wi (1+r9.1.1),[],[]⟩:Cfg),())).bind fun z12 =>
 (abF z12.2.1 6).bind fun r23 =>
 (lpF (σ:=Int×CodV×Cfg×Unit) (β:=Int×CodV×Cfg×Unit) (fun self26 x24 =>
 if 0<x24.1 then
 (abF x24.2.1 (wi (1+r10.1.1))).bind fun r27 =>
 (abF r27.2.1 x24.2.2.1.levels).bind fun r28 =>
 (abF r28.2.1 16).bind fun r29 =>
 if (((x24.2.2.1.subs.length+([(⟨r27.1.1,r28.1.1,r29.1.1⟩:Sub)]:List Sub).length:Nat)):Int)<1000000000000 then
 self26 (wi (x24.1-1),r29.2.1,({ x24.2.2.1 with subs:=x24.2.2.1.subs++([(⟨r27.1.1,r28.1.1,r29.1.1⟩:Sub)]) }:Cfg),())
 else none
 else
 some (x24.1,x24.2.1,x24.2.2.1,())
 ) 18446744073709551616 (r23.1.1,r23.2.1,z12.2.2.1,())).bind fun z25 =>
 some ((z25.2.2.1,()),())
noncomputable abbrev aqZ:Con SR1:=⟨16,[.sh (.ro 17)],[.val 13],fun x =>aoG x.1⟩
theorem au5:CO Tryz.prog aqZ:=aak aaj Tryz.func16 [aqY] ⟨au4,trivial⟩ [] trivial (fun _ =>[]) [(12,.loop [.rg 6 sI_,.rg 3 (.own 19),.rg 4 (.own 20)] 18446744073709551616 0),(16,.loop [.rg 7 (.row 3),.rg 8 sI_,.rg 3 (.own 19)] 18446744073709551616 2),(29,.loop [.rg 10 sI_,.rg 3 (.own 19),.rg 4 (.own 20)] 18446744073709551616 5)] fun x =>by kernel_rfl
noncomputable def agc (b:List Int):Option ((Cfg×Unit)×(Unit)) :=
 (aoG b).bind fun r1 =>
 some ((r1.1.1,()),())
noncomputable abbrev ahY:Con SR1:=⟨5,[.sh (.ro 17)],[.val 13],fun x =>agc x.1⟩
theorem ahX:CO Tryz.prog ahY:=aak aaj Tryz.func5 [aqZ] ⟨au5,trivial⟩ [] trivial (fun _ =>[]) [] fun x =>by kernel_rfl
noncomputable def apY (b:List Int) (l:List (List Int)):Option ((Bool×Unit)×(Unit)) :=
 (lpF (σ:=Int×Unit) (β:=(Int×Unit)⊕((Bool×Unit)×(Unit))) (fun self3 x1 =>
 if x1.1<((l.length:Nat):Int) then
 if 0≤x1.1∧x1.1<((l.length:Nat):Int) then
 if 400<(((atL [] l x1.1).length:Nat):Int) then
 Option.map Sum.inr (
 some ((false,()),())
 )
 else
 self3 (wi (x1.1+1),())
 else none
 else
 some (Sum.inl (x1.1,()))
 ) 18446744073709551616 (0,())).bind fun z2 =>match z2 with
 | .inr o4 =>some o4
 | .inl z2 =>
 some ((decide (((b.length:Nat):Int)≤400),()),())
noncomputable abbrev aml:Con SR1:=⟨4,[.sh (.ro 17),.sh (.rr 1)],[.sh .b],fun x =>apY x.1 x.2.1⟩
theorem amk:CO Tryz.prog aml:=aak aaj Tryz.func4 [] trivial [] trivial (fun _ =>[]) [(2,.loopR [.rg 5 sI_] 18446744073709551616 0)] fun x =>by kernel_rfl
noncomputable def aeh (y0:Cfg):Option ((EnvP×Int×Unit)×(Unit)) :=
 (ami y0).bind fun r1 =>
 if r1.1.2.1≠0 then
 none
 else
 (awD r1.1.1).bind fun r2 =>
 (aio r2.1.1).bind fun r3 =>
 (afp y0).bind fun r4 =>
 if r1.1.1.workers=r1.1.1.workers then
 if r1.1.1.levels=r1.1.1.levels then
 if r1.1.1.classes=r1.1.1.classes then
 if r1.1.1.tasks=r1.1.1.tasks then
 if r1.1.1.deque=r1.1.1.deque then
 if r1.1.1.heap=r1.1.1.heap then
 if r1.1.1.sleepers=r1.1.1.sleepers then
 if r1.1.1.epochs=r1.1.1.epochs then
 if r1.1.1.bitmaps=r1.1.1.bitmaps then
 if r1.1.1.queues=r1.1.1.queues then
 if r1.1.1.table=r1.1.1.table then
 if r1.1.1.workers=r1.1.1.workers then
 if r1.1.1.levels=r1.1.1.levels then
 if r1.1.1.classes=r1.1.1.classes then
 if r1.1.1.tasks=r1.1.1.tasks then
 if r1.1.1.deque=r1.1.1.deque then
 if r1.1.1.heap=r1.1.1.heap then
 if r1.1.1.sleepers=r1.1.1.sleepers then
 if r1.1.1.epochs=r1.1.1.epochs then
 if r1.1.1.bitmaps=r1.1.1.bitmaps then
 if r1.1.1.queues=r1.1.1.queues then
 if r1.1.1.table=r1.1.1.table then
 (lpF (σ:=Int×EnvP×Unit) (β:=Int×EnvP×Unit) (fun self7 x5 =>
 if x5.1<y0.tasks then
 if (((x5.2.1.recs.length+([(⟨0,(-1),0,0,(-1),[],false⟩:RecP)]:List RecP).length:Nat)):Int)<100000000000 then
 self7 (wi (x5.1+1),({ x5.2.1 with recs:=x5.2.1.recs++([(⟨0,(-1),0,0,(-1),[],false⟩:RecP)]) }:EnvP),())
 else none
 else
 some (x5.1,x5.2.1,())
 ) 18446744073709551616 (0,({ r3.1.1 with c:=r4.1.1,l:=r1.1.1 }:EnvP),())).bind fun z6 =>
 some ((z6.2.1,0,()),())
 else none
 else none
 else none
 else none
 else none
 else none
 else none
 else none
 else none
 else none
 else none
 else none
 else none
 else none
 else none
 else none
 else none
 else none
 else none
 else none
 else none
 else none
noncomputable abbrev aeO:Con SR1:=⟨55,[.val 13],[.sh (.own 27),.sh sI_],fun x =>aeh x.1⟩
theorem ae1:CO Tryz.prog aeO:=aak aaj Tryz.func55 [apW,awC,al7,aiD] ⟨at9,ayW,aqK,akW,trivial⟩ [] trivial (fun _ =>[]) [(7,.loop [.rg 29 sI_,.rg 6 (.own 27)] 18446744073709551616 0)] fun x =>by kernel_rfl
noncomputable def aeg (y0:MemV):Option ((List Int×Unit)×(MemV×Unit)) :=
 (amw y0.cells).bind fun r1 =>
 some ((r1.1.1,()),(({ y0 with cells:=r1.2.1 }:MemV),()))
noncomputable abbrev acP:Con SR1:=⟨25,[.ref 9],[.sh (.row 0)],fun x =>aeg x.1⟩
theorem adn:CO Tryz.prog acP:=aak aaj Tryz.func25 [arm] ⟨avM,trivial⟩ [] trivial (fun _ =>[]) [] fun x =>by kernel_rfl
noncomputable def aaU (y0:MemV):Option ((Int×Unit)×(MemV×Unit)) :=
 some ((y0.count,()),(y0,()))
noncomputable abbrev ab3:Con SR1:=⟨37,[.ref 9],[.sh sI_],fun x =>aaU x.1⟩
theorem act:CO Tryz.prog ab3:=aak aaj Tryz.func37 [] trivial [] trivial (fun _ =>[]) [] fun x =>by kernel_rfl
noncomputable def acw (y0:EntV) (y1:Int):Option ((Int×Unit)×(Unit)) :=
 if y0.kind≠0 then
 some (((-1),()),())
 else
 if y1<1 then
 some (((-1),()),())
 else
 if y1≠0 then
 if (Int.tmod y0.value y1)<0 then
 some ((wi ((Int.tmod y0.value y1)+y1),()),())
 else
 some (((Int.tmod y0.value y1),()),())
 else none
noncomputable abbrev ads:Con SR1:=⟨38,[.val 5,.sh sI_],[.sh sI_],fun x =>acw x.1 x.2.1⟩
theorem adL:CO Tryz.prog ads:=aak aaj Tryz.func38 [] trivial [] trivial (fun _ =>[]) [] fun x =>by kernel_rfl
noncomputable def adj (y0:ClkV):Option ((Unit)×(ClkV×Unit)) :=
 some ((()),((⟨wi (y0.now+1),y0.draw⟩:ClkV),()))
noncomputable abbrev ac2:Con SR1:=⟨39,[.ref 25],[],fun x =>adj x.1⟩
theorem adx:CO Tryz.prog ac2:=aak aaj Tryz.func39 [] trivial [] trivial (fun _ =>[]) [] fun x =>by kernel_rfl
noncomputable def adI (y0:ClkV) (y1:Int):Option ((Unit)×(ClkV×Unit)) :=
 some ((()),((⟨y0.now,y1⟩:ClkV),()))
noncomputable abbrev ady:Con SR1:=⟨40,[.ref 25,.sh sI_],[],fun x =>adI x.1 x.2.1⟩
theorem adO:CO Tryz.prog ady:=aak aaj Tryz.func40 [] trivial [] trivial (fun _ =>[]) [] fun x =>by kernel_rfl
noncomputable def adN (y0:MemV):Option ((AccV×Unit)×(MemV×Unit)) :=
 some ((y0.last,()),(y0,()))
noncomputable abbrev acl:Con SR1:=⟨41,[.ref 9],[.val 60],fun x =>adN x.1⟩
theorem acO:CO Tryz.prog acl:=aak aaj Tryz.func41 [] trivial [] trivial (fun _ =>[]) [] fun x =>by kernel_rfl
end
section
open Go Go.RowKit
set_option maxRecDepth 100000
end
end Go.Proofs.YtdnimkpfgjcjeaaGreat
