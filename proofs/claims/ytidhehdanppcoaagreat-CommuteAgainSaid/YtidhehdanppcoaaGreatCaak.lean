/- The program's machines in the evaluator's form. The program's machines in the evaluator's form. -/
import Derived.Test.YtidhehdanppcoaaGreatCaaj
set_option linter.all false
namespace Go.Proofs.YtidhehdanppcoaaGreat
section
open Go Go.RowKit
set_option maxRecDepth 100000
variable [Tb]
noncomputable def aaE (y0:(RunV MV)) (y1:EnvP):Option ((Bool×Unit)×((RunV MV)×EnvP×Unit)) :=
 if 0≤(tlI y0.stack)∧(tlI y0.stack)<((y0.stack.length:Nat):Int) then
 if 0≤tpI y0.stack∧tpI y0.stack<((y1.recs.length:Nat):Int) then
 if y0.line=1 then
 if 0≤(tlI y0.stack)∧(tlI y0.stack)<((y0.stack.length:Nat):Int) then
 if y1.l.workers=y1.l.workers then
 if y1.l.levels=y1.l.levels then
 if y1.l.classes=y1.l.classes then
 if y1.l.tasks=y1.l.tasks then
 if y1.l.deque=y1.l.deque then
 if y1.l.heap=y1.l.heap then
 if y1.l.sleepers=y1.l.sleepers then
 if y1.l.epochs=y1.l.epochs then
 if y1.l.bitmaps=y1.l.bitmaps then
 if y1.l.queues=y1.l.queues then
 if y1.l.table=y1.l.table then
 (aji y1.l (tpI y0.stack)).bind fun r1 =>
 (aa2 y1.m r1.1.1 0).bind fun r2 =>
 (aac y0 0 MV.nil).bind fun r3 =>
 some ((r3.1.1,()),(r3.2.1,({ y1 with m:=r2.2.1,recs:=y1.recs.set (tpI y0.stack).toNat ({ aab y1.recs (tpI y0.stack) with waiting:=(-1) }:RecP) }:EnvP),()))
 else none
 else none
 else none
 else none
 else none
 else none
 else none
 else none
 else none
 else none
 else none
 else none
 else
 if y0.line=2 then
 if ((aab y1.recs (tpI y0.stack)).left)=0 then
 if 0≤(tlI y0.stack)∧(tlI y0.stack)<((y0.stack.length:Nat):Int) then
 if 0≤tpI y0.stack∧tpI y0.stack<((y1.recs.length:Nat):Int) then
 if ((aab y1.recs (tpI y0.stack)).prog)<0 then
 if 0≤(tlI y0.stack)∧(tlI y0.stack)<((y0.stack.length:Nat):Int) then
 if 0≤tpI y0.stack∧tpI y0.stack<((y1.recs.length:Nat):Int) then
 none
 else none
 else none
 else
 if ((y1.c.progs.length:Nat):Int)≤((aab y1.recs (tpI y0.stack)).prog) then
 if 0≤(tlI y0.stack)∧(tlI y0.stack)<((y0.stack.length:Nat):Int) then
 if 0≤tpI y0.stack∧tpI y0.stack<((y1.recs.length:Nat):Int) then
 none
 else none
 else none
 else
 if 0≤(aab y1.recs (tpI y0.stack)).prog∧(aab y1.recs (tpI y0.stack)).prog<((y1.c.progs.length:Nat):Int) then
 if 0≤(tlI y0.stack)∧(tlI y0.stack)<((y0.stack.length:Nat):Int) then
 if 0≤tpI y0.stack∧tpI y0.stack<((y1.recs.length:Nat):Int) then
 if 0≤(aab y1.recs (tpI y0.stack)).pc∧(aab y1.recs (tpI y0.stack)).pc<(((atL [] y1.c.progs ((aab y1.recs (tpI y0.stack)).prog)).length:Nat):Int) then
 if ((aab ((y1.recs.set (tpI y0.stack).toNat ({ aab y1.recs (tpI y0.stack) with left:=(abX (atL [] y1.c.progs ((aab y1.recs (tpI y0.stack)).prog)) ((aab y1.recs (tpI y0.stack)).pc)).a }:RecP)).set (tpI y0.stack).toNat ({ aab (y1.recs.set (tpI y0.stack).toNat ({ aab y1.recs (tpI y0.stack) with left:=(abX (atL [] y1.c.progs ((aab y1.recs (tpI y0.stack)).prog)) ((aab y1.recs (tpI y0.stack)).pc)).a }:RecP)) (tpI y0.stack) with left:=wi (((aab (y1.recs.set (tpI y0.stack).toNat ({ aab y1.recs (tpI y0.stack) with left:=(abX (atL [] y1.c.progs ((aab y1.recs (tpI y0.stack)).prog)) ((aab y1.recs (tpI y0.stack)).pc)).a }:RecP)) (tpI y0.stack)).left)-1) }:RecP)) (tpI y0.stack)).left)=0 then
 (aac y0 0 MV.nil).bind fun r4 =>
 some ((r4.1.1,()),(r4.2.1,({ y1 with recs:=((y1.recs.set (tpI y0.stack).toNat ({ aab y1.recs (tpI y0.stack) with left:=(abX (atL [] y1.c.progs ((aab y1.recs (tpI y0.stack)).prog)) ((aab y1.recs (tpI y0.stack)).pc)).a }:RecP)).set (tpI y0.stack).toNat ({ aab (y1.recs.set (tpI y0.stack).toNat ({ aab y1.recs (tpI y0.stack) with left:=(abX (atL [] y1.c.progs ((aab y1.recs (tpI y0.stack)).prog)) ((aab y1.recs (tpI y0.stack)).pc)).a }:RecP)) (tpI y0.stack) with left:=wi (((aab (y1.recs.set (tpI y0.stack).toNat ({ aab y1.recs (tpI y0.stack) with left:=(abX (atL [] y1.c.progs ((aab y1.recs (tpI y0.stack)).prog)) ((aab y1.recs (tpI y0.stack)).pc)).a }:RecP)) (tpI y0.stack)).left)-1) }:RecP)).set (tpI y0.stack).toNat ({ aab ((y1.recs.set (tpI y0.stack).toNat ({ aab y1.recs (tpI y0.stack) with left:=(abX (atL [] y1.c.progs ((aab y1.recs (tpI y0.stack)).prog)) ((aab y1.recs (tpI y0.stack)).pc)).a }:RecP)).set (tpI y0.stack).toNat ({ aab (y1.recs.set (tpI y0.stack).toNat ({ aab y1.recs (tpI y0.stack) with left:=(abX (atL [] y1.c.progs ((aab y1.recs (tpI y0.stack)).prog)) ((aab y1.recs (tpI y0.stack)).pc)).a }:RecP)) (tpI y0.stack) with left:=wi (((aab (y1.recs.set (tpI y0.stack).toNat ({ aab y1.recs (tpI y0.stack) with left:=(abX (atL [] y1.c.progs ((aab y1.recs (tpI y0.stack)).prog)) ((aab y1.recs (tpI y0.stack)).pc)).a }:RecP)) (tpI y0.stack)).left)-1) }:RecP)) (tpI y0.stack) with pc:=wi (((aab ((y1.recs.set (tpI y0.stack).toNat ({ aab y1.recs (tpI y0.stack) with left:=(abX (atL [] y1.c.progs ((aab y1.recs (tpI y0.stack)).prog)) ((aab y1.recs (tpI y0.stack)).pc)).a }:RecP)).set (tpI y0.stack).toNat ({ aab (y1.recs.set (tpI y0.stack).toNat ({ aab y1.recs (tpI y0.stack) with left:=(abX (atL [] y1.c.progs ((aab y1.recs (tpI y0.stack)).prog)) ((aab y1.recs (tpI y0.stack)).pc)).a }:RecP)) (tpI y0.stack) with left:=wi (((aab (y1.recs.set (tpI y0.stack).toNat ({ aab y1.recs (tpI y0.stack) with left:=(abX (atL [] y1.c.progs ((aab y1.recs (tpI y0.stack)).prog)) ((aab y1.recs (tpI y0.stack)).pc)).a }:RecP)) (tpI y0.stack)).left)-1) }:RecP)) (tpI y0.stack)).pc)+1) }:RecP) }:EnvP),()))
 else
 (aac y0 0 MV.nil).bind fun r5 =>
 some ((r5.1.1,()),(r5.2.1,({ y1 with recs:=(y1.recs.set (tpI y0.stack).toNat ({ aab y1.recs (tpI y0.stack) with left:=(abX (atL [] y1.c.progs ((aab y1.recs (tpI y0.stack)).prog)) ((aab y1.recs (tpI y0.stack)).pc)).a }:RecP)).set (tpI y0.stack).toNat ({ aab (y1.recs.set (tpI y0.stack).toNat ({ aab y1.recs (tpI y0.stack) with left:=(abX (atL [] y1.c.progs ((aab y1.recs (tpI y0.stack)).prog)) ((aab y1.recs (tpI y0.stack)).pc)).a }:RecP)) (tpI y0.stack) with left:=wi (((aab (y1.recs.set (tpI y0.stack).toNat ({ aab y1.recs (tpI y0.stack) with left:=(abX (atL [] y1.c.progs ((aab y1.recs (tpI y0.stack)).prog)) ((aab y1.recs (tpI y0.stack)).pc)).a }:RecP)) (tpI y0.stack)).left)-1) }:RecP) }:EnvP),()))
 else none
 else none
 else none
 else none
 else none
 else none
 else
 if ((aab (y1.recs.set (tpI y0.stack).toNat ({ aab y1.recs (tpI y0.stack) with left:=wi (((aab y1.recs (tpI y0.stack)).left)-1) }:RecP)) (tpI y0.stack)).left)=0 then
 (aac y0 0 MV.nil).bind fun r6 =>
 some ((r6.1.1,()),(r6.2.1,({ y1 with recs:=(y1.recs.set (tpI y0.stack).toNat ({ aab y1.recs (tpI y0.stack) with left:=wi (((aab y1.recs (tpI y0.stack)).left)-1) }:RecP)).set (tpI y0.stack).toNat ({ aab (y1.recs.set (tpI y0.stack).toNat ({ aab y1.recs (tpI y0.stack) with left:=wi (((aab y1.recs (tpI y0.stack)).left)-1) }:RecP)) (tpI y0.stack) with pc:=wi (((aab (y1.recs.set (tpI y0.stack).toNat ({ aab y1.recs (tpI y0.stack) with left:=wi (((aab y1.recs (tpI y0.stack)).left)-1) }:RecP)) (tpI y0.stack)).pc)+1) }:RecP) }:EnvP),()))
 else
 (aac y0 0 MV.nil).bind fun r7 =>
 some ((r7.1.1,()),(r7.2.1,({ y1 with recs:=y1.recs.set (tpI y0.stack).toNat ({ aab y1.recs (tpI y0.stack) with left:=wi (((aab y1.recs (tpI y0.stack)).left)-1) }:RecP) }:EnvP),()))
 else
 (aac y0 0 MV.nil).bind fun r8 =>
 some ((r8.1.1,()),(r8.2.1,({ y1 with recs:=y1.recs.set (tpI y0.stack).toNat ({ aab y1.recs (tpI y0.stack) with pc:=wi (((aab y1.recs (tpI y0.stack)).pc)+1) }:RecP) }:EnvP),()))
 else none
 else none
noncomputable abbrev ahI:Con SR1:=⟨160,[.ref 33,.ref 27],[.sh .b],fun x =>aaE x.1 x.2.1⟩
noncomputable def alh:List (Nat×Func):=[(164,Tryz.f164),(158,Tryz.f158),(167,Tryz.f167),(165,Tryz.f165)]
theorem ali:CO Tryz.prog ahI:=agV aak Tryz.func160 [aon,adL,adm] ⟨aph,adb,adC,trivial⟩ alh ⟨Tryz.func164,Tryz.func158,Tryz.func167,Tryz.func165,trivial⟩ (fun _ =>[]) [] fun x =>by kernel_rfl
noncomputable def aaG (y0:(RunV MV)) (y1:EnvP) (y2:Ev):Option ((Unit)×((RunV MV)×EnvP×Unit)) :=
 (aec y1 ({ y2 with worker:=y0.worker }:Ev)).bind fun r1 =>
 some ((()),(y0,r1.2.1,()))
noncomputable abbrev adR:Con SR1:=⟨170,[.ref 33,.ref 27,.val 2],[],fun x =>aaG x.1 x.2.1 x.2.2.1⟩
theorem aeq:CO Tryz.prog adR:=aan aak Tryz.func170 [aff] ⟨aer,trivial⟩
noncomputable def ai6 (y0:Int) (y1:Int):Option ((MV×Unit)×(Unit)) :=
 some ((MV.publish (⟨⟨false,0,0⟩,y0,y1,1⟩:PublishV),()),())
noncomputable abbrev aks:Con SR1:=⟨177,[.sh sI_,.sh sI_],[.sh .mach],fun x =>ai6 x.1 x.2.1⟩
theorem aoT:CO Tryz.prog aks:=aan aak Tryz.func177 [] trivial
noncomputable def acd (y0:(RunV MV)) (y1:EnvP) (y2:Int) (y3:Int):Option ((Bool×Unit)×((RunV MV)×EnvP×Unit)) :=
 if 0≤(tlI y0.stack)∧(tlI y0.stack)<((y0.stack.length:Nat):Int) then
 if 0≤tpI y0.stack∧tpI y0.stack<((y1.recs.length:Nat):Int) then
 if 0≤(tlI y0.stack)∧(tlI y0.stack)<((y0.stack.length:Nat):Int) then
 if 0≤tpI y0.stack∧tpI y0.stack<((y1.recs.length:Nat):Int) then
 if ((aab y1.recs (tpI y0.stack)).prog)<0 then
 if 0≤(tlI y0.stack)∧(tlI y0.stack)<((y0.stack.length:Nat):Int) then
 if 0≤tpI y0.stack∧tpI y0.stack<((y1.recs.length:Nat):Int) then
 none
 else none
 else none
 else
 if ((y1.c.progs.length:Nat):Int)≤((aab y1.recs (tpI y0.stack)).prog) then
 if 0≤(tlI y0.stack)∧(tlI y0.stack)<((y0.stack.length:Nat):Int) then
 if 0≤tpI y0.stack∧tpI y0.stack<((y1.recs.length:Nat):Int) then
 none
 else none
 else none
 else
 if 0≤(aab y1.recs (tpI y0.stack)).prog∧(aab y1.recs (tpI y0.stack)).prog<((y1.c.progs.length:Nat):Int) then
 if 0≤(tlI y0.stack)∧(tlI y0.stack)<((y0.stack.length:Nat):Int) then
 if 0≤tpI y0.stack∧tpI y0.stack<((y1.recs.length:Nat):Int) then
 if 0≤(aab y1.recs (tpI y0.stack)).pc∧(aab y1.recs (tpI y0.stack)).pc<(((atL [] y1.c.progs ((aab y1.recs (tpI y0.stack)).prog)).length:Nat):Int) then
 if y2=3 then
 if (((((aab (y1.recs.set (tpI y0.stack).toNat ({ aab y1.recs (tpI y0.stack) with pc:=wi (((aab y1.recs (tpI y0.stack)).pc)+1) }:RecP)) (tpI y0.stack)).kids).length+([(-1)]:List Int).length:Nat)):Int)<1000000000000 then
 if 0≤(tlI y0.stack)∧(tlI y0.stack)<((y0.stack.length:Nat):Int) then
 (aaG y0 ({ y1 with recs:=(y1.recs.set (tpI y0.stack).toNat ({ aab y1.recs (tpI y0.stack) with pc:=wi (((aab y1.recs (tpI y0.stack)).pc)+1) }:RecP)).set (tpI y0.stack).toNat ({ aab (y1.recs.set (tpI y0.stack).toNat ({ aab y1.recs (tpI y0.stack) with pc:=wi (((aab y1.recs (tpI y0.stack)).pc)+1) }:RecP)) (tpI y0.stack) with kids:=((aab (y1.recs.set (tpI y0.stack).toNat ({ aab y1.recs (tpI y0.stack) with pc:=wi (((aab y1.recs (tpI y0.stack)).pc)+1) }:RecP)) (tpI y0.stack)).kids)++([(-1)]) }:RecP) }:EnvP) (⟨4,0,tpI y0.stack,0,0⟩:Ev)).bind fun r1 =>
 (aac r1.2.1 0 MV.nil).bind fun r2 =>
 some ((r2.1.1,()),(r2.2.1,r1.2.2.1,()))
 else none
 else none
 else
 if (((((aab (y1.recs.set (tpI y0.stack).toNat ({ aab y1.recs (tpI y0.stack) with pc:=wi (((aab y1.recs (tpI y0.stack)).pc)+1) }:RecP)) (tpI y0.stack)).kids).length+([y3]:List Int).length:Nat)):Int)<1000000000000 then
 if 0≤(tlI y0.stack)∧(tlI y0.stack)<((y0.stack.length:Nat):Int) then
 if ((abX (atL [] y1.c.progs ((aab y1.recs (tpI y0.stack)).prog)) ((aab y1.recs (tpI y0.stack)).pc)).a)=((abX (atL [] y1.c.progs ((aab y1.recs (tpI y0.stack)).prog)) ((aab y1.recs (tpI y0.stack)).pc)).a) then
 if 0≤y3∧y3<((((y1.recs.set (tpI y0.stack).toNat ({ aab y1.recs (tpI y0.stack) with pc:=wi (((aab y1.recs (tpI y0.stack)).pc)+1) }:RecP)).set (tpI y0.stack).toNat ({ aab (y1.recs.set (tpI y0.stack).toNat ({ aab y1.recs (tpI y0.stack) with pc:=wi (((aab y1.recs (tpI y0.stack)).pc)+1) }:RecP)) (tpI y0.stack) with kids:=((aab (y1.recs.set (tpI y0.stack).toNat ({ aab y1.recs (tpI y0.stack) with pc:=wi (((aab y1.recs (tpI y0.stack)).pc)+1) }:RecP)) (tpI y0.stack)).kids)++([y3]) }:RecP)).length:Nat):Int) then
 if ((abX (atL [] y1.c.progs ((aab y1.recs (tpI y0.stack)).prog)) ((aab y1.recs (tpI y0.stack)).pc)).b)=((abX (atL [] y1.c.progs ((aab y1.recs (tpI y0.stack)).prog)) ((aab y1.recs (tpI y0.stack)).pc)).b) then
 (ai6 y3 ((abX (atL [] y1.c.progs ((aab y1.recs (tpI y0.stack)).prog)) ((aab y1.recs (tpI y0.stack)).pc)).b)).bind fun r3 =>
 (aac ({ y0 with id:=y3,level:=(abX (atL [] y1.c.progs ((aab y1.recs (tpI y0.stack)).prog)) ((aab y1.recs (tpI y0.stack)).pc)).b }:(RunV MV)) 5 r3.1.1).bind fun r4 =>
 some ((r4.1.1,()),(r4.2.1,({ y1 with recs:=((y1.recs.set (tpI y0.stack).toNat ({ aab y1.recs (tpI y0.stack) with pc:=wi (((aab y1.recs (tpI y0.stack)).pc)+1) }:RecP)).set (tpI y0.stack).toNat ({ aab (y1.recs.set (tpI y0.stack).toNat ({ aab y1.recs (tpI y0.stack) with pc:=wi (((aab y1.recs (tpI y0.stack)).pc)+1) }:RecP)) (tpI y0.stack) with kids:=((aab (y1.recs.set (tpI y0.stack).toNat ({ aab y1.recs (tpI y0.stack) with pc:=wi (((aab y1.recs (tpI y0.stack)).pc)+1) }:RecP)) (tpI y0.stack)).kids)++([y3]) }:RecP)).set y3.toNat (⟨(abX (atL [] y1.c.progs ((aab y1.recs (tpI y0.stack)).prog)) ((aab y1.recs (tpI y0.stack)).pc)).a,tpI y0.stack,0,0,(-1),[],false⟩:RecP) }:EnvP),()))
 else none
 else none
 else none
 else none
 else none
 else none
 else none
 else none
 else none
 else none
 else none
 else none
 else none
noncomputable abbrev af4:Con SR1:=⟨169,[.ref 33,.ref 27,.sh sI_,.sh sI_],[.sh .b],fun x =>acd x.1 x.2.1 x.2.2.1 x.2.2.2.1⟩
noncomputable def ajc:List (Nat×Func):=[(164,Tryz.f164),(158,Tryz.f158),(167,Tryz.f167),(165,Tryz.f165)]
theorem ajd:CO Tryz.prog af4:=agV aak Tryz.func169 [adR,adm,aks] ⟨aeq,adC,aoT,trivial⟩ ajc ⟨Tryz.func164,Tryz.func158,Tryz.func167,Tryz.func165,trivial⟩ (fun _ =>[]) [(8,.close)] fun x =>by kernel_rfl
noncomputable def abk (y0:(RunV MV)) (y1:EnvP):Option ((Bool×Unit)×((RunV MV)×EnvP×Unit)) :=
 (aeM y0.inside y1).bind fun r1 =>
 if (!r1.1.1)=true then
 some ((false,()),(({ y0 with inside:=r1.2.1 }:(RunV MV)),r1.2.2.1,()))
 else
 (ado r1.2.1).bind fun r2 =>
 if y0.line=4 then
 (acd ({ y0 with inside:=r2.2.1 }:(RunV MV)) r1.2.2.1 r2.1.1 r2.1.2.1).bind fun r3 =>
 some ((r3.1.1,()),(r3.2.1,r3.2.2.1,()))
 else
 if y0.line=5 then
 if 0≤(tlI y0.stack)∧(tlI y0.stack)<((y0.stack.length:Nat):Int) then
 if y0.level=y0.level then
 if y0.id=y0.id then
 (aaG ({ y0 with inside:=r2.2.1 }:(RunV MV)) r1.2.2.1 (⟨3,0,y0.id,tpI y0.stack,y0.level⟩:Ev)).bind fun r4 =>
 (acA r4.2.1.worker r4.2.1.level r4.2.1.id).bind fun r5 =>
 (aac r4.2.1 6 r5.1.1).bind fun r6 =>
 some ((r6.1.1,()),(r6.2.1,r4.2.2.1,()))
 else none
 else none
 else none
 else
 if y0.line=6 then
 if r2.1.1=3 then
 (acy y0.worker y0.id).bind fun r7 =>
 (aac ({ y0 with inside:=r2.2.1 }:(RunV MV)) 8 r7.1.1).bind fun r8 =>
 some ((r8.1.1,()),(r8.2.1,r1.2.2.1,()))
 else
 (acV y0.worker y0.level).bind fun r9 =>
 (aac ({ y0 with inside:=r2.2.1 }:(RunV MV)) 7 r9.1.1).bind fun r10 =>
 some ((r10.1.1,()),(r10.2.1,r1.2.2.1,()))
 else
 if y0.line=8 then
 if r2.1.1=1 then
 if (((y0.stack.length+([y0.id]:List Int).length:Nat)):Int)<1000000000000 then
 (aac ({ y0 with stack:=y0.stack++([y0.id]),inside:=r2.2.1 }:(RunV MV)) 0 MV.nil).bind fun r11 =>
 some ((r11.1.1,()),(r11.2.1,r1.2.2.1,()))
 else none
 else
 (aac ({ y0 with inside:=r2.2.1 }:(RunV MV)) 0 MV.nil).bind fun r12 =>
 some ((r12.1.1,()),(r12.2.1,r1.2.2.1,()))
 else
 (aac ({ y0 with inside:=r2.2.1 }:(RunV MV)) 0 MV.nil).bind fun r13 =>
 some ((r13.1.1,()),(r13.2.1,r1.2.2.1,()))
noncomputable abbrev aiK:Con SR1:=⟨161,[.ref 33,.ref 27],[.sh .b],fun x =>abk x.1 x.2.1⟩
noncomputable def amz:List (Nat×Func):=[(158,Tryz.f158)]
theorem amA:CO Tryz.prog aiK:=agV aak Tryz.func161 [aoh,amD,af4,adR,aeF,adm,afA,ahQ] ⟨aoV,ao7,ajd,aeq,aeU,adC,agc,aie,trivial⟩ amz ⟨Tryz.func158,trivial⟩ (fun _ =>[]) [] fun x =>by kernel_rfl
noncomputable def ajH (y0:Int) (y1:Int) (y2:Int):Option ((MV×Unit)×(Unit)) :=
 some ((MV.walk (⟨⟨false,0,0⟩,y0,y1,y2,1,MV.nil⟩:(WalkV MV)),()),())
noncomputable abbrev ap9:Con SR1:=⟨174,[.sh sI_,.sh sI_,.sh sI_],[.sh .mach],fun x =>ajH x.1 x.2.1 x.2.2.1⟩
theorem aul:CO Tryz.prog ap9:=aan aak Tryz.func174 [] trivial
noncomputable def aam (y0:(RunV MV)):Option ((Bool×Unit)×((RunV MV)×Unit)) :=
 if 0≤(tlI y0.stack)∧(tlI y0.stack)≤((y0.stack.length:Nat):Int) then
 if (((y0.stack.take ((tlI y0.stack):Int).toNat).length:Nat):Int)=0 then
 (abg y0.o 0 0).bind fun r1 =>
 some ((r1.1.1,()),(({ y0 with o:=r1.2.1,stack:=y0.stack.take ((tlI y0.stack):Int).toNat }:(RunV MV)),()))
 else
 (aac ({ y0 with stack:=y0.stack.take ((tlI y0.stack):Int).toNat }:(RunV MV)) 0 MV.nil).bind fun r2 =>
 some ((r2.1.1,()),(r2.2.1,()))
 else none
noncomputable abbrev afV:Con SR1:=⟨175,[.ref 33],[.sh .b],fun x =>aam x.1⟩
theorem ahJ:CO Tryz.prog afV:=aan aak Tryz.func175 [acD,adm] ⟨abC,adC,trivial⟩
noncomputable def agF (y0:(RunV MV)) (y1:EnvP):Option ((Bool×Unit)×((RunV MV)×EnvP×Unit)) :=
 agr (
 if 0≤(tlI y0.stack)∧(tlI y0.stack)<((y0.stack.length:Nat):Int) then
 if y1.l.workers=y1.l.workers then
 if y1.l.levels=y1.l.levels then
 if y1.l.classes=y1.l.classes then
 if y1.l.tasks=y1.l.tasks then
 if y1.l.deque=y1.l.deque then
 if y1.l.heap=y1.l.heap then
 if y1.l.sleepers=y1.l.sleepers then
 if y1.l.epochs=y1.l.epochs then
 if y1.l.bitmaps=y1.l.bitmaps then
 if y1.l.queues=y1.l.queues then
 if y1.l.table=y1.l.table then
 if y1.l.workers=y1.l.workers then
 if y1.l.levels=y1.l.levels then
 if y1.l.classes=y1.l.classes then
 if y1.l.tasks=y1.l.tasks then
 if y1.l.deque=y1.l.deque then
 if y1.l.heap=y1.l.heap then
 if y1.l.sleepers=y1.l.sleepers then
 if y1.l.epochs=y1.l.epochs then
 if y1.l.bitmaps=y1.l.bitmaps then
 if y1.l.queues=y1.l.queues then
 if y1.l.table=y1.l.table then
 if y0.line=9 then
 if 0≤(tlI y0.stack)∧(tlI y0.stack)<((y0.stack.length:Nat):Int) then
 if 0≤tpI y0.stack∧tpI y0.stack<((y1.recs.length:Nat):Int) then
 if 0≤(tlI y0.stack)∧(tlI y0.stack)<((y0.stack.length:Nat):Int) then
 if 0≤tpI y0.stack∧tpI y0.stack<((y1.recs.length:Nat):Int) then
 if (tpI y0.stack)=(tpI y0.stack) then
 if ((aab y1.recs (tpI y0.stack)).prog)<0 then
 if 0≤(tlI y0.stack)∧(tlI y0.stack)<((y0.stack.length:Nat):Int) then
 if 0≤tpI y0.stack∧tpI y0.stack<((y1.recs.length:Nat):Int) then
 if (tpI y0.stack)=(tpI y0.stack) then
 none
 else none
 else none
 else none
 else
 if ((y1.c.progs.length:Nat):Int)≤((aab y1.recs (tpI y0.stack)).prog) then
 if 0≤(tlI y0.stack)∧(tlI y0.stack)<((y0.stack.length:Nat):Int) then
 if 0≤tpI y0.stack∧tpI y0.stack<((y1.recs.length:Nat):Int) then
 if (tpI y0.stack)=(tpI y0.stack) then
 none
 else none
 else none
 else none
 else
 if 0≤(aab y1.recs (tpI y0.stack)).prog∧(aab y1.recs (tpI y0.stack)).prog<((y1.c.progs.length:Nat):Int) then
 if 0≤(tlI y0.stack)∧(tlI y0.stack)<((y0.stack.length:Nat):Int) then
 if 0≤tpI y0.stack∧tpI y0.stack<((y1.recs.length:Nat):Int) then
 if (tpI y0.stack)=(tpI y0.stack) then
 if 0≤(aab y1.recs (tpI y0.stack)).pc∧(aab y1.recs (tpI y0.stack)).pc<(((atL [] y1.c.progs ((aab y1.recs (tpI y0.stack)).prog)).length:Nat):Int) then
 if 0≤(abX (atL [] y1.c.progs ((aab y1.recs (tpI y0.stack)).prog)) ((aab y1.recs (tpI y0.stack)).pc)).a∧(abX (atL [] y1.c.progs ((aab y1.recs (tpI y0.stack)).prog)) ((aab y1.recs (tpI y0.stack)).pc)).a<((((aab y1.recs (tpI y0.stack)).kids).length:Nat):Int) then
 (aji y1.l (tpI y0.stack)).bind fun r26 =>
 if (abn ((aab y1.recs (tpI y0.stack)).kids) ((abX (atL [] y1.c.progs ((aab y1.recs (tpI y0.stack)).prog)) ((aab y1.recs (tpI y0.stack)).pc)).a))=(abn ((aab y1.recs (tpI y0.stack)).kids) ((abX (atL [] y1.c.progs ((aab y1.recs (tpI y0.stack)).prog)) ((aab y1.recs (tpI y0.stack)).pc)).a)) then
 (aa2 y1.m r26.1.1 (wu (wi ((abn ((aab y1.recs (tpI y0.stack)).kids) ((abX (atL [] y1.c.progs ((aab y1.recs (tpI y0.stack)).prog)) ((aab y1.recs (tpI y0.stack)).pc)).a))+1)))).bind fun r27 =>
 (aac ({ y0 with child:=abn ((aab y1.recs (tpI y0.stack)).kids) ((abX (atL [] y1.c.progs ((aab y1.recs (tpI y0.stack)).prog)) ((aab y1.recs (tpI y0.stack)).pc)).a) }:(RunV MV)) (wi (y0.line+1)) MV.nil).bind fun r28 =>
 some ((r28.1.1,()),(r28.2.1,({ y1 with m:=r27.2.1,recs:=((y1.recs.set (tpI y0.stack).toNat (aab y1.recs (tpI y0.stack))).set (tpI y0.stack).toNat ({ aab (y1.recs.set (tpI y0.stack).toNat (aab y1.recs (tpI y0.stack))) (tpI y0.stack) with pc:=wi (((aab (y1.recs.set (tpI y0.stack).toNat (aab y1.recs (tpI y0.stack))) (tpI y0.stack)).pc)+1) }:RecP)).set (tpI y0.stack).toNat ({ aab ((y1.recs.set (tpI y0.stack).toNat (aab y1.recs (tpI y0.stack))).set (tpI y0.stack).toNat ({ aab (y1.recs.set (tpI y0.stack).toNat (aab y1.recs (tpI y0.stack))) (tpI y0.stack) with pc:=wi (((aab (y1.recs.set (tpI y0.stack).toNat (aab y1.recs (tpI y0.stack))) (tpI y0.stack)).pc)+1) }:RecP)) (tpI y0.stack) with waiting:=abn ((aab y1.recs (tpI y0.stack)).kids) ((abX (atL [] y1.c.progs ((aab y1.recs (tpI y0.stack)).prog)) ((aab y1.recs (tpI y0.stack)).pc)).a) }:RecP) }:EnvP),()))
 else none
 else none
 else none
 else none
 else none
 else none
 else none
 else none
 else none
 else none
 else none
 else none
 else
 if y0.line=10 then
 (aeC y1.l (tpI y0.stack)).bind fun r29 =>
 (aa2 y1.m r29.1.1 3).bind fun r30 =>
 (aac y0 (wi (y0.line+1)) MV.nil).bind fun r31 =>
 some ((r31.1.1,()),(r31.2.1,({ y1 with m:=r30.2.1 }:EnvP),()))
 else
 if y0.line=11 then
 (an2 y1.l y0.child).bind fun r32 =>
 (asW y1.m r32.1.1 0 (wu (wi ((tpI y0.stack)+1)))).bind fun r33 =>
 if (!r33.1.1)=true then
 (aac y0 14 MV.nil).bind fun r34 =>
 some ((r34.1.1,()),(r34.2.1,({ y1 with m:=r33.2.1 }:EnvP),()))
 else
 (aaG y0 ({ y1 with m:=r33.2.1 }:EnvP) (⟨6,0,tpI y0.stack,y0.child,0⟩:Ev)).bind fun r35 =>
 (aac r35.2.1 (wi (r35.2.1.line+1)) MV.nil).bind fun r36 =>
 some ((r36.1.1,()),(r36.2.1,r35.2.2.1,()))
 else
 if y0.line=12 then
 (ae6 y1.l (tpI y0.stack)).bind fun r37 =>
 (acz y1.m r37.1.1).bind fun r38 =>
 (ajH y0.worker y0.child (wi (r38.1.1))).bind fun r39 =>
 (aac ({ y0 with level:=wi (r38.1.1) }:(RunV MV)) 13 r39.1.1).bind fun r40 =>
 some ((r40.1.1,()),(r40.2.1,({ y1 with m:=r38.2.1 }:EnvP),()))
 else
 if y0.line=13 then
 (aeM y0.inside y1).bind fun r41 =>
 if (!r41.1.1)=true then
 some ((false,()),(({ y0 with inside:=r41.2.1 }:(RunV MV)),r41.2.2.1,()))
 else
 (aaG ({ y0 with inside:=r41.2.1 }:(RunV MV)) r41.2.2.1 (⟨7,0,tpI y0.stack,0,y0.level⟩:Ev)).bind fun r42 =>
 (aam r42.2.1).bind fun r43 =>
 some ((r43.1.1,()),(r43.2.1,r42.2.2.1,()))
 else
 if y0.line=14 then
 (aeC y1.l (tpI y0.stack)).bind fun r44 =>
 (aa2 y1.m r44.1.1 2).bind fun r45 =>
 (aac y0 (wi (y0.line+1)) MV.nil).bind fun r46 =>
 some ((r46.1.1,()),(r46.2.1,({ y1 with m:=r45.2.1 }:EnvP),()))
 else
 (aji y1.l (tpI y0.stack)).bind fun r47 =>
 (aa2 y1.m r47.1.1 0).bind fun r48 =>
 if 0≤(tlI y0.stack)∧(tlI y0.stack)<((y0.stack.length:Nat):Int) then
 if 0≤tpI y0.stack∧tpI y0.stack<((y1.recs.length:Nat):Int) then
 (aaG y0 ({ y1 with m:=r48.2.1,recs:=y1.recs.set (tpI y0.stack).toNat ({ aab y1.recs (tpI y0.stack) with waiting:=(-1) }:RecP) }:EnvP) (⟨8,0,tpI y0.stack,y0.child,0⟩:Ev)).bind fun r49 =>
 (aac r49.2.1 0 MV.nil).bind fun r50 =>
 some ((r50.1.1,()),(r50.2.1,r49.2.2.1,()))
 else none
 else none
 else none
 else none
 else none
 else none
 else none
 else none
 else none
 else none
 else none
 else none
 else none
 else none
 else none
 else none
 else none
 else none
 else none
 else none
 else none
 else none
 else none
 else none
 else none
 ) (
 if y1.l.workers=y1.l.workers then
 if y1.l.levels=y1.l.levels then
 if y1.l.classes=y1.l.classes then
 if y1.l.tasks=y1.l.tasks then
 if y1.l.deque=y1.l.deque then
 if y1.l.heap=y1.l.heap then
 if y1.l.sleepers=y1.l.sleepers then
 if y1.l.epochs=y1.l.epochs then
 if y1.l.bitmaps=y1.l.bitmaps then
 if y1.l.queues=y1.l.queues then
 if y1.l.table=y1.l.table then
 if 0≤(tlI y0.stack)∧(tlI y0.stack)<((y0.stack.length:Nat):Int) then
 if y1.l.workers=y1.l.workers then
 if y1.l.levels=y1.l.levels then
 if y1.l.classes=y1.l.classes then
 if y1.l.tasks=y1.l.tasks then
 if y1.l.deque=y1.l.deque then
 if y1.l.heap=y1.l.heap then
 if y1.l.sleepers=y1.l.sleepers then
 if y1.l.epochs=y1.l.epochs then
 if y1.l.bitmaps=y1.l.bitmaps then
 if y1.l.queues=y1.l.queues then
 if y1.l.table=y1.l.table then
 if y0.line=9 then
 if 0≤(tlI y0.stack)∧(tlI y0.stack)<((y0.stack.length:Nat):Int) then
 if 0≤tpI y0.stack∧tpI y0.stack<((y1.recs.length:Nat):Int) then
 if 0≤(tlI y0.stack)∧(tlI y0.stack)<((y0.stack.length:Nat):Int) then
 if 0≤tpI y0.stack∧tpI y0.stack<((y1.recs.length:Nat):Int) then
 if (tpI y0.stack)=(tpI y0.stack) then
 if ((aab y1.recs (tpI y0.stack)).prog)<0 then
 if 0≤(tlI y0.stack)∧(tlI y0.stack)<((y0.stack.length:Nat):Int) then
 if 0≤tpI y0.stack∧tpI y0.stack<((y1.recs.length:Nat):Int) then
 if (tpI y0.stack)=(tpI y0.stack) then
 none
 else none
 else none
 else none
 else
 if ((y1.c.progs.length:Nat):Int)≤((aab y1.recs (tpI y0.stack)).prog) then
 if 0≤(tlI y0.stack)∧(tlI y0.stack)<((y0.stack.length:Nat):Int) then
 if 0≤tpI y0.stack∧tpI y0.stack<((y1.recs.length:Nat):Int) then
 if (tpI y0.stack)=(tpI y0.stack) then
 none
 else none
 else none
 else none
 else
 if 0≤(aab y1.recs (tpI y0.stack)).prog∧(aab y1.recs (tpI y0.stack)).prog<((y1.c.progs.length:Nat):Int) then
 if 0≤(tlI y0.stack)∧(tlI y0.stack)<((y0.stack.length:Nat):Int) then
 if 0≤tpI y0.stack∧tpI y0.stack<((y1.recs.length:Nat):Int) then
 if (tpI y0.stack)=(tpI y0.stack) then
 if 0≤(aab y1.recs (tpI y0.stack)).pc∧(aab y1.recs (tpI y0.stack)).pc<(((atL [] y1.c.progs ((aab y1.recs (tpI y0.stack)).prog)).length:Nat):Int) then
 if 0≤(abX (atL [] y1.c.progs ((aab y1.recs (tpI y0.stack)).prog)) ((aab y1.recs (tpI y0.stack)).pc)).a∧(abX (atL [] y1.c.progs ((aab y1.recs (tpI y0.stack)).prog)) ((aab y1.recs (tpI y0.stack)).pc)).a<((((aab y1.recs (tpI y0.stack)).kids).length:Nat):Int) then
 (aji y1.l (tpI y0.stack)).bind fun r1 =>
 if (abn ((aab y1.recs (tpI y0.stack)).kids) ((abX (atL [] y1.c.progs ((aab y1.recs (tpI y0.stack)).prog)) ((aab y1.recs (tpI y0.stack)).pc)).a))=(abn ((aab y1.recs (tpI y0.stack)).kids) ((abX (atL [] y1.c.progs ((aab y1.recs (tpI y0.stack)).prog)) ((aab y1.recs (tpI y0.stack)).pc)).a)) then
 (aa2 y1.m r1.1.1 (wu (wi ((abn ((aab y1.recs (tpI y0.stack)).kids) ((abX (atL [] y1.c.progs ((aab y1.recs (tpI y0.stack)).prog)) ((aab y1.recs (tpI y0.stack)).pc)).a))+1)))).bind fun r2 =>
 (aac ({ y0 with child:=abn ((aab y1.recs (tpI y0.stack)).kids) ((abX (atL [] y1.c.progs ((aab y1.recs (tpI y0.stack)).prog)) ((aab y1.recs (tpI y0.stack)).pc)).a) }:(RunV MV)) (wi (y0.line+1)) MV.nil).bind fun r3 =>
 some ((r3.1.1,()),(r3.2.1,({ y1 with m:=r2.2.1,recs:=((y1.recs.set (tpI y0.stack).toNat (aab y1.recs (tpI y0.stack))).set (tpI y0.stack).toNat ({ aab (y1.recs.set (tpI y0.stack).toNat (aab y1.recs (tpI y0.stack))) (tpI y0.stack) with pc:=wi (((aab (y1.recs.set (tpI y0.stack).toNat (aab y1.recs (tpI y0.stack))) (tpI y0.stack)).pc)+1) }:RecP)).set (tpI y0.stack).toNat ({ aab ((y1.recs.set (tpI y0.stack).toNat (aab y1.recs (tpI y0.stack))).set (tpI y0.stack).toNat ({ aab (y1.recs.set (tpI y0.stack).toNat (aab y1.recs (tpI y0.stack))) (tpI y0.stack) with pc:=wi (((aab (y1.recs.set (tpI y0.stack).toNat (aab y1.recs (tpI y0.stack))) (tpI y0.stack)).pc)+1) }:RecP)) (tpI y0.stack) with waiting:=abn ((aab y1.recs (tpI y0.stack)).kids) ((abX (atL [] y1.c.progs ((aab y1.recs (tpI y0.stack)).prog)) ((aab y1.recs (tpI y0.stack)).pc)).a) }:RecP) }:EnvP),()))
 else none
 else none
 else none
 else none
 else none
 else none
 else none
 else none
 else none
 else none
 else none
 else none
 else
 if y0.line=10 then
 (aeC y1.l (tpI y0.stack)).bind fun r4 =>
 (aa2 y1.m r4.1.1 3).bind fun r5 =>
 (aac y0 (wi (y0.line+1)) MV.nil).bind fun r6 =>
 some ((r6.1.1,()),(r6.2.1,({ y1 with m:=r5.2.1 }:EnvP),()))
 else
 if y0.line=11 then
 (an2 y1.l y0.child).bind fun r7 =>
 (asW y1.m r7.1.1 0 (wu (wi ((tpI y0.stack)+1)))).bind fun r8 =>
 if (!r8.1.1)=true then
 (aac y0 14 MV.nil).bind fun r9 =>
 some ((r9.1.1,()),(r9.2.1,({ y1 with m:=r8.2.1 }:EnvP),()))
 else
 (aaG y0 ({ y1 with m:=r8.2.1 }:EnvP) (⟨6,0,tpI y0.stack,y0.child,0⟩:Ev)).bind fun r10 =>
 (aac r10.2.1 (wi (r10.2.1.line+1)) MV.nil).bind fun r11 =>
 some ((r11.1.1,()),(r11.2.1,r10.2.2.1,()))
 else
 if y0.line=12 then
 (ae6 y1.l (tpI y0.stack)).bind fun r12 =>
 (acz y1.m r12.1.1).bind fun r13 =>
 (ajH y0.worker y0.child (wi (r13.1.1))).bind fun r14 =>
 (aac ({ y0 with level:=wi (r13.1.1) }:(RunV MV)) 13 r14.1.1).bind fun r15 =>
 some ((r15.1.1,()),(r15.2.1,({ y1 with m:=r13.2.1 }:EnvP),()))
 else
 if y0.line=13 then
 (aeM y0.inside y1).bind fun r16 =>
 if (!r16.1.1)=true then
 some ((false,()),(({ y0 with inside:=r16.2.1 }:(RunV MV)),r16.2.2.1,()))
 else
 (aaG ({ y0 with inside:=r16.2.1 }:(RunV MV)) r16.2.2.1 (⟨7,0,tpI y0.stack,0,y0.level⟩:Ev)).bind fun r17 =>
 (aam r17.2.1).bind fun r18 =>
 some ((r18.1.1,()),(r18.2.1,r17.2.2.1,()))
 else
 if y0.line=14 then
 (aeC y1.l (tpI y0.stack)).bind fun r19 =>
 (aa2 y1.m r19.1.1 2).bind fun r20 =>
 (aac y0 (wi (y0.line+1)) MV.nil).bind fun r21 =>
 some ((r21.1.1,()),(r21.2.1,({ y1 with m:=r20.2.1 }:EnvP),()))
 else
 (aji y1.l (tpI y0.stack)).bind fun r22 =>
 (aa2 y1.m r22.1.1 0).bind fun r23 =>
 if 0≤(tlI y0.stack)∧(tlI y0.stack)<((y0.stack.length:Nat):Int) then
 if 0≤tpI y0.stack∧tpI y0.stack<((y1.recs.length:Nat):Int) then
 (aaG y0 ({ y1 with m:=r23.2.1,recs:=y1.recs.set (tpI y0.stack).toNat ({ aab y1.recs (tpI y0.stack) with waiting:=(-1) }:RecP) }:EnvP) (⟨8,0,tpI y0.stack,y0.child,0⟩:Ev)).bind fun r24 =>
 (aac r24.2.1 0 MV.nil).bind fun r25 =>
 some ((r25.1.1,()),(r25.2.1,r24.2.2.1,()))
 else none
 else none
 else none
 else none
 else none
 else none
 else none
 else none
 else none
 else none
 else none
 else none
 else none
 else none
 else none
 else none
 else none
 else none
 else none
 else none
 else none
 else none
 else none
 else none
 else none
 )
noncomputable abbrev ahK:Con SR1:=⟨162,[.ref 33,.ref 27],[.sh .b],fun x =>agF x.1 x.2.1⟩
noncomputable def alj:List (Nat×Func):=[(158,Tryz.f158),(164,Tryz.f164),(167,Tryz.f167),(165,Tryz.f165)]
theorem alk:CO Tryz.prog ahK:=agV aak Tryz.func162 [aon,adL,adm,agh,ava,alD,adR,agi,acC,ap9,aoh,afV] ⟨aph,adb,adC,afB,awG,ajo,aeq,afC,abT,aul,aoV,ahJ,trivial⟩ alj ⟨Tryz.func158,Tryz.func164,Tryz.func167,Tryz.func165,trivial⟩ (fun _ =>[]) [] fun x =>by kernel_rfl
noncomputable def aaJ (y0:(RunV MV)) (y1:EnvP):Option ((Bool×Unit)×((RunV MV)×EnvP×Unit)) :=
 if 0≤(tlI y0.stack)∧(tlI y0.stack)<((y0.stack.length:Nat):Int) then
 if y0.line=9 then
 if 0≤(tlI y0.stack)∧(tlI y0.stack)<((y0.stack.length:Nat):Int) then
 if 0≤tpI y0.stack∧tpI y0.stack<((y1.recs.length:Nat):Int) then
 if 0≤(tlI y0.stack)∧(tlI y0.stack)<((y0.stack.length:Nat):Int) then
 if 0≤tpI y0.stack∧tpI y0.stack<((y1.recs.length:Nat):Int) then
 if ((aab y1.recs (tpI y0.stack)).prog)<0 then
 if 0≤(tlI y0.stack)∧(tlI y0.stack)<((y0.stack.length:Nat):Int) then
 if 0≤tpI y0.stack∧tpI y0.stack<((y1.recs.length:Nat):Int) then
 none
 else none
 else none
 else
 if ((y1.c.progs.length:Nat):Int)≤((aab y1.recs (tpI y0.stack)).prog) then
 if 0≤(tlI y0.stack)∧(tlI y0.stack)<((y0.stack.length:Nat):Int) then
 if 0≤tpI y0.stack∧tpI y0.stack<((y1.recs.length:Nat):Int) then
 none
 else none
 else none
 else
 if 0≤(aab y1.recs (tpI y0.stack)).prog∧(aab y1.recs (tpI y0.stack)).prog<((y1.c.progs.length:Nat):Int) then
 if 0≤(tlI y0.stack)∧(tlI y0.stack)<((y0.stack.length:Nat):Int) then
 if 0≤tpI y0.stack∧tpI y0.stack<((y1.recs.length:Nat):Int) then
 if 0≤(aab y1.recs (tpI y0.stack)).pc∧(aab y1.recs (tpI y0.stack)).pc<(((atL [] y1.c.progs ((aab y1.recs (tpI y0.stack)).prog)).length:Nat):Int) then
 if 0≤(abX (atL [] y1.c.progs ((aab y1.recs (tpI y0.stack)).prog)) ((aab y1.recs (tpI y0.stack)).pc)).a∧(abX (atL [] y1.c.progs ((aab y1.recs (tpI y0.stack)).prog)) ((aab y1.recs (tpI y0.stack)).pc)).a<((((aab y1.recs (tpI y0.stack)).kids).length:Nat):Int) then
 (aji y1.l (tpI y0.stack)).bind fun r1 =>
 (aa2 y1.m r1.1.1 (wu (wi ((abn ((aab y1.recs (tpI y0.stack)).kids) ((abX (atL [] y1.c.progs ((aab y1.recs (tpI y0.stack)).prog)) ((aab y1.recs (tpI y0.stack)).pc)).a))+1)))).bind fun r2 =>
 (aac ({ y0 with child:=abn ((aab y1.recs (tpI y0.stack)).kids) ((abX (atL [] y1.c.progs ((aab y1.recs (tpI y0.stack)).prog)) ((aab y1.recs (tpI y0.stack)).pc)).a) }:(RunV MV)) (wi (y0.line+1)) MV.nil).bind fun r3 =>
 some ((r3.1.1,()),(r3.2.1,({ y1 with m:=r2.2.1,recs:=((y1.recs.set (tpI y0.stack).toNat (aab y1.recs (tpI y0.stack))).set (tpI y0.stack).toNat ({ aab (y1.recs.set (tpI y0.stack).toNat (aab y1.recs (tpI y0.stack))) (tpI y0.stack) with pc:=wi (((aab (y1.recs.set (tpI y0.stack).toNat (aab y1.recs (tpI y0.stack))) (tpI y0.stack)).pc)+1) }:RecP)).set (tpI y0.stack).toNat ({ aab ((y1.recs.set (tpI y0.stack).toNat (aab y1.recs (tpI y0.stack))).set (tpI y0.stack).toNat ({ aab (y1.recs.set (tpI y0.stack).toNat (aab y1.recs (tpI y0.stack))) (tpI y0.stack) with pc:=wi (((aab (y1.recs.set (tpI y0.stack).toNat (aab y1.recs (tpI y0.stack))) (tpI y0.stack)).pc)+1) }:RecP)) (tpI y0.stack) with waiting:=abn ((aab y1.recs (tpI y0.stack)).kids) ((abX (atL [] y1.c.progs ((aab y1.recs (tpI y0.stack)).prog)) ((aab y1.recs (tpI y0.stack)).pc)).a) }:RecP) }:EnvP),()))
 else none
 else none
 else none
 else none
 else none
 else none
 else none
 else none
 else none
 else
 if y0.line=10 then
 (aeC y1.l (tpI y0.stack)).bind fun r4 =>
 (aa2 y1.m r4.1.1 3).bind fun r5 =>
 (aac y0 (wi (y0.line+1)) MV.nil).bind fun r6 =>
 some ((r6.1.1,()),(r6.2.1,({ y1 with m:=r5.2.1 }:EnvP),()))
 else
 if y0.line=11 then
 (an2 y1.l y0.child).bind fun r7 =>
 (asW y1.m r7.1.1 0 (wu (wi ((tpI y0.stack)+1)))).bind fun r8 =>
 if (!r8.1.1)=true then
 (aac y0 14 MV.nil).bind fun r9 =>
 some ((r9.1.1,()),(r9.2.1,({ y1 with m:=r8.2.1 }:EnvP),()))
 else
 (aaG y0 ({ y1 with m:=r8.2.1 }:EnvP) (⟨6,0,tpI y0.stack,y0.child,0⟩:Ev)).bind fun r10 =>
 (aac r10.2.1 (wi (r10.2.1.line+1)) MV.nil).bind fun r11 =>
 some ((r11.1.1,()),(r11.2.1,r10.2.2.1,()))
 else
 if y0.line=12 then
 (ae6 y1.l (tpI y0.stack)).bind fun r12 =>
 (acz y1.m r12.1.1).bind fun r13 =>
 (ajH y0.worker y0.child (wi (r13.1.1))).bind fun r14 =>
 (aac ({ y0 with level:=wi (r13.1.1) }:(RunV MV)) 13 r14.1.1).bind fun r15 =>
 some ((r15.1.1,()),(r15.2.1,({ y1 with m:=r13.2.1 }:EnvP),()))
 else
 if y0.line=13 then
 (aeM y0.inside y1).bind fun r16 =>
 if (!r16.1.1)=true then
 some ((false,()),(({ y0 with inside:=r16.2.1 }:(RunV MV)),r16.2.2.1,()))
 else
 (aaG ({ y0 with inside:=r16.2.1 }:(RunV MV)) r16.2.2.1 (⟨7,0,tpI y0.stack,0,y0.level⟩:Ev)).bind fun r17 =>
 (aam r17.2.1).bind fun r18 =>
 some ((r18.1.1,()),(r18.2.1,r17.2.2.1,()))
 else
 if y0.line=14 then
 (aeC y1.l (tpI y0.stack)).bind fun r19 =>
 (aa2 y1.m r19.1.1 2).bind fun r20 =>
 (aac y0 (wi (y0.line+1)) MV.nil).bind fun r21 =>
 some ((r21.1.1,()),(r21.2.1,({ y1 with m:=r20.2.1 }:EnvP),()))
 else
 (aji y1.l (tpI y0.stack)).bind fun r22 =>
 (aa2 y1.m r22.1.1 0).bind fun r23 =>
 if 0≤(tlI y0.stack)∧(tlI y0.stack)<((y0.stack.length:Nat):Int) then
 if 0≤tpI y0.stack∧tpI y0.stack<((y1.recs.length:Nat):Int) then
 (aaG y0 ({ y1 with m:=r23.2.1,recs:=y1.recs.set (tpI y0.stack).toNat ({ aab y1.recs (tpI y0.stack) with waiting:=(-1) }:RecP) }:EnvP) (⟨8,0,tpI y0.stack,y0.child,0⟩:Ev)).bind fun r24 =>
 (aac r24.2.1 0 MV.nil).bind fun r25 =>
 some ((r25.1.1,()),(r25.2.1,r24.2.2.1,()))
 else none
 else none
 else none
noncomputable abbrev ajb:Con SR1:=⟨162,[.ref 33,.ref 27],[.sh .b],fun x =>aaJ x.1 x.2.1⟩
theorem anU (y0:(RunV MV)) (y1:EnvP):agF y0 y1=aaJ y0 y1:=by
 unfold agF aaJ
 simp only [if_true,asJ,anf]
theorem anT:CO Tryz.prog ajb:=aC8 alk fun x out hx =>(show ahK.spec x=some out from (anU x.1 x.2.1).trans hx)
noncomputable def ahB (y0:Int) (y1:Int):Option ((MV×Unit)×(Unit)) :=
 some ((MV.enter (⟨⟨false,0,0⟩,y0,y1,0,1,MV.nil⟩:(EnterV MV)),()),())
noncomputable abbrev ans:Con SR1:=⟨176,[.sh sI_,.sh sI_],[.sh .mach],fun x =>ahB x.1 x.2.1⟩
theorem arc:CO Tryz.prog ans:=aan aak Tryz.func176 [] trivial
noncomputable def afc (y0:(RunV MV)) (y1:EnvP):Option ((Bool×Unit)×((RunV MV)×EnvP×Unit)) :=
 agr (
 if 0≤(tlI y0.stack)∧(tlI y0.stack)<((y0.stack.length:Nat):Int) then
 if y1.l.workers=y1.l.workers then
 if y1.l.levels=y1.l.levels then
 if y1.l.classes=y1.l.classes then
 if y1.l.tasks=y1.l.tasks then
 if y1.l.deque=y1.l.deque then
 if y1.l.heap=y1.l.heap then
 if y1.l.sleepers=y1.l.sleepers then
 if y1.l.epochs=y1.l.epochs then
 if y1.l.bitmaps=y1.l.bitmaps then
 if y1.l.queues=y1.l.queues then
 if y1.l.table=y1.l.table then
 if y1.l.workers=y1.l.workers then
 if y1.l.levels=y1.l.levels then
 if y1.l.classes=y1.l.classes then
 if y1.l.tasks=y1.l.tasks then
 if y1.l.deque=y1.l.deque then
 if y1.l.heap=y1.l.heap then
 if y1.l.sleepers=y1.l.sleepers then
 if y1.l.epochs=y1.l.epochs then
 if y1.l.bitmaps=y1.l.bitmaps then
 if y1.l.queues=y1.l.queues then
 if y1.l.table=y1.l.table then
 if y0.line=16 then
 (aeC y1.l (tpI y0.stack)).bind fun r29 =>
 (aa2 y1.m r29.1.1 4).bind fun r30 =>
 (aac y0 17 MV.nil).bind fun r31 =>
 some ((r31.1.1,()),(r31.2.1,({ y1 with m:=r30.2.1 }:EnvP),()))
 else
 if y0.line=17 then
 (an2 y1.l (tpI y0.stack)).bind fun r32 =>
 (asW y1.m r32.1.1 0 4294967296).bind fun r33 =>
 (aaG y0 ({ y1 with m:=r33.2.1 }:EnvP) (⟨10,0,tpI y0.stack,0,0⟩:Ev)).bind fun r34 =>
 if r33.1.1=true then
 (aam r34.2.1).bind fun r35 =>
 some ((r35.1.1,()),(r35.2.1,r34.2.2.1,()))
 else
 (aac r34.2.1 18 MV.nil).bind fun r36 =>
 some ((r36.1.1,()),(r36.2.1,r34.2.2.1,()))
 else
 if y0.line=18 then
 (an2 y1.l (tpI y0.stack)).bind fun r37 =>
 (acz y1.m r37.1.1).bind fun r38 =>
 if (wi ((wi (r38.1.1))-1))<0 then
 (aam ({ y0 with waiter:=wi ((wi (r38.1.1))-1) }:(RunV MV))).bind fun r39 =>
 some ((r39.1.1,()),(r39.2.1,({ y1 with m:=r38.2.1 }:EnvP),()))
 else
 if y1.c.tasks≤(wi ((wi (r38.1.1))-1)) then
 (aam ({ y0 with waiter:=wi ((wi (r38.1.1))-1) }:(RunV MV))).bind fun r40 =>
 some ((r40.1.1,()),(r40.2.1,({ y1 with m:=r38.2.1 }:EnvP),()))
 else
 (ahB y0.worker (wi ((wi (r38.1.1))-1))).bind fun r41 =>
 (aac ({ y0 with waiter:=wi ((wi (r38.1.1))-1) }:(RunV MV)) 19 r41.1.1).bind fun r42 =>
 some ((r42.1.1,()),(r42.2.1,({ y1 with m:=r38.2.1 }:EnvP),()))
 else
 (aeM y0.inside y1).bind fun r43 =>
 if (!r43.1.1)=true then
 some ((false,()),(({ y0 with inside:=r43.2.1 }:(RunV MV)),r43.2.2.1,()))
 else
 (ado r43.2.1).bind fun r44 =>
 if y0.line=19 then
 if r44.1.1=3 then
 (acy y0.worker y0.waiter).bind fun r45 =>
 (aac ({ y0 with inside:=r44.2.1 }:(RunV MV)) 21 r45.1.1).bind fun r46 =>
 some ((r46.1.1,()),(r46.2.1,r43.2.2.1,()))
 else
 if y0.line=19 then
 (acV y0.worker r44.1.2.1).bind fun r47 =>
 (aac ({ y0 with inside:=r44.2.1 }:(RunV MV)) 20 r47.1.1).bind fun r48 =>
 some ((r48.1.1,()),(r48.2.1,r43.2.2.1,()))
 else
 if y0.line=21 then
 if r44.1.1=1 then
 if 0≤(tlI y0.stack)∧(tlI y0.stack)<((y0.stack.length:Nat):Int) then
 (aac ({ y0 with stack:=y0.stack.set (tlI y0.stack).toNat y0.waiter,inside:=r44.2.1 }:(RunV MV)) 0 MV.nil).bind fun r49 =>
 some ((r49.1.1,()),(r49.2.1,r43.2.2.1,()))
 else none
 else
 (aam ({ y0 with inside:=r44.2.1 }:(RunV MV))).bind fun r50 =>
 some ((r50.1.1,()),(r50.2.1,r43.2.2.1,()))
 else
 (aam ({ y0 with inside:=r44.2.1 }:(RunV MV))).bind fun r51 =>
 some ((r51.1.1,()),(r51.2.1,r43.2.2.1,()))
 else
 if y0.line=19 then
 (acV y0.worker r44.1.2.1).bind fun r52 =>
 (aac ({ y0 with inside:=r44.2.1 }:(RunV MV)) 20 r52.1.1).bind fun r53 =>
 some ((r53.1.1,()),(r53.2.1,r43.2.2.1,()))
 else
 if y0.line=21 then
 if r44.1.1=1 then
 if 0≤(tlI y0.stack)∧(tlI y0.stack)<((y0.stack.length:Nat):Int) then
 (aac ({ y0 with stack:=y0.stack.set (tlI y0.stack).toNat y0.waiter,inside:=r44.2.1 }:(RunV MV)) 0 MV.nil).bind fun r54 =>
 some ((r54.1.1,()),(r54.2.1,r43.2.2.1,()))
 else none
 else
 (aam ({ y0 with inside:=r44.2.1 }:(RunV MV))).bind fun r55 =>
 some ((r55.1.1,()),(r55.2.1,r43.2.2.1,()))
 else
 (aam ({ y0 with inside:=r44.2.1 }:(RunV MV))).bind fun r56 =>
 some ((r56.1.1,()),(r56.2.1,r43.2.2.1,()))
 else none
 else none
 else none
 else none
 else none
 else none
 else none
 else none
 else none
 else none
 else none
 else none
 else none
 else none
 else none
 else none
 else none
 else none
 else none
 else none
 else none
 else none
 else none
 ) (
 if y1.l.workers=y1.l.workers then
 if y1.l.levels=y1.l.levels then
 if y1.l.classes=y1.l.classes then
 if y1.l.tasks=y1.l.tasks then
 if y1.l.deque=y1.l.deque then
 if y1.l.heap=y1.l.heap then
 if y1.l.sleepers=y1.l.sleepers then
 if y1.l.epochs=y1.l.epochs then
 if y1.l.bitmaps=y1.l.bitmaps then
 if y1.l.queues=y1.l.queues then
 if y1.l.table=y1.l.table then
 if 0≤(tlI y0.stack)∧(tlI y0.stack)<((y0.stack.length:Nat):Int) then
 if y1.l.workers=y1.l.workers then
 if y1.l.levels=y1.l.levels then
 if y1.l.classes=y1.l.classes then
 if y1.l.tasks=y1.l.tasks then
 if y1.l.deque=y1.l.deque then
 if y1.l.heap=y1.l.heap then
 if y1.l.sleepers=y1.l.sleepers then
 if y1.l.epochs=y1.l.epochs then
 if y1.l.bitmaps=y1.l.bitmaps then
 if y1.l.queues=y1.l.queues then
 if y1.l.table=y1.l.table then
 if y0.line=16 then
 (aeC y1.l (tpI y0.stack)).bind fun r1 =>
 (aa2 y1.m r1.1.1 4).bind fun r2 =>
 (aac y0 17 MV.nil).bind fun r3 =>
 some ((r3.1.1,()),(r3.2.1,({ y1 with m:=r2.2.1 }:EnvP),()))
 else
 if y0.line=17 then
 (an2 y1.l (tpI y0.stack)).bind fun r4 =>
 (asW y1.m r4.1.1 0 4294967296).bind fun r5 =>
 (aaG y0 ({ y1 with m:=r5.2.1 }:EnvP) (⟨10,0,tpI y0.stack,0,0⟩:Ev)).bind fun r6 =>
 if r5.1.1=true then
 (aam r6.2.1).bind fun r7 =>
 some ((r7.1.1,()),(r7.2.1,r6.2.2.1,()))
 else
 (aac r6.2.1 18 MV.nil).bind fun r8 =>
 some ((r8.1.1,()),(r8.2.1,r6.2.2.1,()))
 else
 if y0.line=18 then
 (an2 y1.l (tpI y0.stack)).bind fun r9 =>
 (acz y1.m r9.1.1).bind fun r10 =>
 if (wi ((wi (r10.1.1))-1))<0 then
 (aam ({ y0 with waiter:=wi ((wi (r10.1.1))-1) }:(RunV MV))).bind fun r11 =>
 some ((r11.1.1,()),(r11.2.1,({ y1 with m:=r10.2.1 }:EnvP),()))
 else
 if y1.c.tasks≤(wi ((wi (r10.1.1))-1)) then
 (aam ({ y0 with waiter:=wi ((wi (r10.1.1))-1) }:(RunV MV))).bind fun r12 =>
 some ((r12.1.1,()),(r12.2.1,({ y1 with m:=r10.2.1 }:EnvP),()))
 else
 (ahB y0.worker (wi ((wi (r10.1.1))-1))).bind fun r13 =>
 (aac ({ y0 with waiter:=wi ((wi (r10.1.1))-1) }:(RunV MV)) 19 r13.1.1).bind fun r14 =>
 some ((r14.1.1,()),(r14.2.1,({ y1 with m:=r10.2.1 }:EnvP),()))
 else
 (aeM y0.inside y1).bind fun r15 =>
 if (!r15.1.1)=true then
 some ((false,()),(({ y0 with inside:=r15.2.1 }:(RunV MV)),r15.2.2.1,()))
 else
 (ado r15.2.1).bind fun r16 =>
 if y0.line=19 then
 if r16.1.1=3 then
 (acy y0.worker y0.waiter).bind fun r17 =>
 (aac ({ y0 with inside:=r16.2.1 }:(RunV MV)) 21 r17.1.1).bind fun r18 =>
 some ((r18.1.1,()),(r18.2.1,r15.2.2.1,()))
 else
 if y0.line=19 then
 (acV y0.worker r16.1.2.1).bind fun r19 =>
 (aac ({ y0 with inside:=r16.2.1 }:(RunV MV)) 20 r19.1.1).bind fun r20 =>
 some ((r20.1.1,()),(r20.2.1,r15.2.2.1,()))
 else
 if y0.line=21 then
 if r16.1.1=1 then
 if 0≤(tlI y0.stack)∧(tlI y0.stack)<((y0.stack.length:Nat):Int) then
 (aac ({ y0 with stack:=y0.stack.set (tlI y0.stack).toNat y0.waiter,inside:=r16.2.1 }:(RunV MV)) 0 MV.nil).bind fun r21 =>
 some ((r21.1.1,()),(r21.2.1,r15.2.2.1,()))
 else none
 else
 (aam ({ y0 with inside:=r16.2.1 }:(RunV MV))).bind fun r22 =>
 some ((r22.1.1,()),(r22.2.1,r15.2.2.1,()))
 else
 (aam ({ y0 with inside:=r16.2.1 }:(RunV MV))).bind fun r23 =>
 some ((r23.1.1,()),(r23.2.1,r15.2.2.1,()))
 else
 if y0.line=19 then
 (acV y0.worker r16.1.2.1).bind fun r24 =>
 (aac ({ y0 with inside:=r16.2.1 }:(RunV MV)) 20 r24.1.1).bind fun r25 =>
 some ((r25.1.1,()),(r25.2.1,r15.2.2.1,()))
 else
 if y0.line=21 then
 if r16.1.1=1 then
 if 0≤(tlI y0.stack)∧(tlI y0.stack)<((y0.stack.length:Nat):Int) then
 (aac ({ y0 with stack:=y0.stack.set (tlI y0.stack).toNat y0.waiter,inside:=r16.2.1 }:(RunV MV)) 0 MV.nil).bind fun r26 =>
 some ((r26.1.1,()),(r26.2.1,r15.2.2.1,()))
 else none
 else
 (aam ({ y0 with inside:=r16.2.1 }:(RunV MV))).bind fun r27 =>
 some ((r27.1.1,()),(r27.2.1,r15.2.2.1,()))
 else
 (aam ({ y0 with inside:=r16.2.1 }:(RunV MV))).bind fun r28 =>
 some ((r28.1.1,()),(r28.2.1,r15.2.2.1,()))
 else none
 else none
 else none
 else none
 else none
 else none
 else none
 else none
 else none
 else none
 else none
 else none
 else none
 else none
 else none
 else none
 else none
 else none
 else none
 else none
 else none
 else none
 else none
 )
noncomputable abbrev agG:Con SR1:=⟨163,[.ref 33,.ref 27],[.sh .b],fun x =>afc x.1 x.2.1⟩
noncomputable def akg:List (Nat×Func):=[(158,Tryz.f158)]
theorem akh:CO Tryz.prog agG:=agV aak Tryz.func163 [agh,adL,adm,ava,alD,adR,afV,acC,ans,aoh,amD,afA,ahQ] ⟨afB,adb,adC,awG,ajo,aeq,ahJ,abT,arc,aoV,ao7,agc,aie,trivial⟩ akg ⟨Tryz.func158,trivial⟩ (fun _ =>[]) [] fun x =>by kernel_rfl
noncomputable def aaq (y0:(RunV MV)) (y1:EnvP):Option ((Bool×Unit)×((RunV MV)×EnvP×Unit)) :=
 if 0≤(tlI y0.stack)∧(tlI y0.stack)<((y0.stack.length:Nat):Int) then
 if y0.line=16 then
 (aeC y1.l (tpI y0.stack)).bind fun r1 =>
 (aa2 y1.m r1.1.1 4).bind fun r2 =>
 (aac y0 17 MV.nil).bind fun r3 =>
 some ((r3.1.1,()),(r3.2.1,({ y1 with m:=r2.2.1 }:EnvP),()))
 else
 if y0.line=17 then
 (an2 y1.l (tpI y0.stack)).bind fun r4 =>
 (asW y1.m r4.1.1 0 4294967296).bind fun r5 =>
 (aaG y0 ({ y1 with m:=r5.2.1 }:EnvP) (⟨10,0,tpI y0.stack,0,0⟩:Ev)).bind fun r6 =>
 if r5.1.1=true then
 (aam r6.2.1).bind fun r7 =>
 some ((r7.1.1,()),(r7.2.1,r6.2.2.1,()))
 else
 (aac r6.2.1 18 MV.nil).bind fun r8 =>
 some ((r8.1.1,()),(r8.2.1,r6.2.2.1,()))
 else
 if y0.line=18 then
 (an2 y1.l (tpI y0.stack)).bind fun r9 =>
 (acz y1.m r9.1.1).bind fun r10 =>
 if (wi ((wi (r10.1.1))-1))<0 then
 (aam ({ y0 with waiter:=wi ((wi (r10.1.1))-1) }:(RunV MV))).bind fun r11 =>
 some ((r11.1.1,()),(r11.2.1,({ y1 with m:=r10.2.1 }:EnvP),()))
 else
 if y1.c.tasks≤(wi ((wi (r10.1.1))-1)) then
 (aam ({ y0 with waiter:=wi ((wi (r10.1.1))-1) }:(RunV MV))).bind fun r12 =>
 some ((r12.1.1,()),(r12.2.1,({ y1 with m:=r10.2.1 }:EnvP),()))
 else
 (ahB y0.worker (wi ((wi (r10.1.1))-1))).bind fun r13 =>
 (aac ({ y0 with waiter:=wi ((wi (r10.1.1))-1) }:(RunV MV)) 19 r13.1.1).bind fun r14 =>
 some ((r14.1.1,()),(r14.2.1,({ y1 with m:=r10.2.1 }:EnvP),()))
 else
 (aeM y0.inside y1).bind fun r15 =>
 if (!r15.1.1)=true then
 some ((false,()),(({ y0 with inside:=r15.2.1 }:(RunV MV)),r15.2.2.1,()))
 else
 (ado r15.2.1).bind fun r16 =>
 if y0.line=19 then
 if r16.1.1=3 then
 (acy y0.worker y0.waiter).bind fun r17 =>
 (aac ({ y0 with inside:=r16.2.1 }:(RunV MV)) 21 r17.1.1).bind fun r18 =>
 some ((r18.1.1,()),(r18.2.1,r15.2.2.1,()))
 else
 if y0.line=19 then
 (acV y0.worker r16.1.2.1).bind fun r19 =>
 (aac ({ y0 with inside:=r16.2.1 }:(RunV MV)) 20 r19.1.1).bind fun r20 =>
 some ((r20.1.1,()),(r20.2.1,r15.2.2.1,()))
 else
 if y0.line=21 then
 if r16.1.1=1 then
 if 0≤(tlI y0.stack)∧(tlI y0.stack)<((y0.stack.length:Nat):Int) then
 (aac ({ y0 with stack:=y0.stack.set (tlI y0.stack).toNat y0.waiter,inside:=r16.2.1 }:(RunV MV)) 0 MV.nil).bind fun r21 =>
 some ((r21.1.1,()),(r21.2.1,r15.2.2.1,()))
 else none
 else
 (aam ({ y0 with inside:=r16.2.1 }:(RunV MV))).bind fun r22 =>
 some ((r22.1.1,()),(r22.2.1,r15.2.2.1,()))
 else
 (aam ({ y0 with inside:=r16.2.1 }:(RunV MV))).bind fun r23 =>
 some ((r23.1.1,()),(r23.2.1,r15.2.2.1,()))
 else
 if y0.line=19 then
 (acV y0.worker r16.1.2.1).bind fun r24 =>
 (aac ({ y0 with inside:=r16.2.1 }:(RunV MV)) 20 r24.1.1).bind fun r25 =>
 some ((r25.1.1,()),(r25.2.1,r15.2.2.1,()))
 else
 if y0.line=21 then
 if r16.1.1=1 then
 if 0≤(tlI y0.stack)∧(tlI y0.stack)<((y0.stack.length:Nat):Int) then
 (aac ({ y0 with stack:=y0.stack.set (tlI y0.stack).toNat y0.waiter,inside:=r16.2.1 }:(RunV MV)) 0 MV.nil).bind fun r26 =>
 some ((r26.1.1,()),(r26.2.1,r15.2.2.1,()))
 else none
 else
 (aam ({ y0 with inside:=r16.2.1 }:(RunV MV))).bind fun r27 =>
 some ((r27.1.1,()),(r27.2.1,r15.2.2.1,()))
 else
 (aam ({ y0 with inside:=r16.2.1 }:(RunV MV))).bind fun r28 =>
 some ((r28.1.1,()),(r28.2.1,r15.2.2.1,()))
 else none
noncomputable abbrev ahL:Con SR1:=⟨163,[.ref 33,.ref 27],[.sh .b],fun x =>aaq x.1 x.2.1⟩
theorem aln (y0:(RunV MV)) (y1:EnvP):afc y0 y1=aaq y0 y1:=by
 unfold afc aaq
 simp only [if_true,asJ,anf]
theorem alm:CO Tryz.prog ahL:=aC8 akh fun x out hx =>(show agG.spec x=some out from (aln x.1 x.2.1).trans hx)
noncomputable def abo (y0:(RunV MV)) (y1:EnvP):Option ((Bool×Unit)×((RunV MV)×EnvP×Unit)) :=
 (aaw y0.o).bind fun r1 =>
 if r1.1.1=true then
 some ((true,()),(({ y0 with o:=r1.2.1 }:(RunV MV)),y1,()))
 else
 if 0≤(tlI y0.stack)∧(tlI y0.stack)<((y0.stack.length:Nat):Int) then
 if (tpI y0.stack)<0 then
 (abg r1.2.1 4 0).bind fun r2 =>
 some ((r2.1.1,()),(({ y0 with o:=r2.2.1 }:(RunV MV)),y1,()))
 else
 if y1.c.tasks≤(tpI y0.stack) then
 (abg r1.2.1 4 0).bind fun r3 =>
 some ((r3.1.1,()),(({ y0 with o:=r3.2.1 }:(RunV MV)),y1,()))
 else
 if ((y1.recs.length:Nat):Int)≤(tpI y0.stack) then
 (abg r1.2.1 4 0).bind fun r4 =>
 some ((r4.1.1,()),(({ y0 with o:=r4.2.1 }:(RunV MV)),y1,()))
 else
 if y0.line=0 then
 (aeO ({ y0 with o:=r1.2.1 }:(RunV MV)) y1).bind fun r5 =>
 if r5.1.1=4 then
 (aeL).bind fun r6 =>
 if r5.1.1=1 then
 (aaE ({ r5.2.1 with line:=r5.1.1,inside:=r6.1.1 }:(RunV MV)) r5.2.2.1).bind fun r7 =>
 some ((r7.1.1,()),(r7.2.1,r7.2.2.1,()))
 else
 if r5.1.1=2 then
 (aaE ({ r5.2.1 with line:=r5.1.1,inside:=r6.1.1 }:(RunV MV)) r5.2.2.1).bind fun r8 =>
 some ((r8.1.1,()),(r8.2.1,r8.2.2.1,()))
 else
 if r5.1.1=3 then
 (aaE ({ r5.2.1 with line:=r5.1.1,inside:=r6.1.1 }:(RunV MV)) r5.2.2.1).bind fun r9 =>
 some ((r9.1.1,()),(r9.2.1,r9.2.2.1,()))
 else
 if 4≤r5.1.1 then
 if r5.1.1≤8 then
 (abk ({ r5.2.1 with line:=r5.1.1,inside:=r6.1.1 }:(RunV MV)) r5.2.2.1).bind fun r10 =>
 some ((r10.1.1,()),(r10.2.1,r10.2.2.1,()))
 else
 if 9≤r5.1.1 then
 if r5.1.1≤15 then
 (aaJ ({ r5.2.1 with line:=r5.1.1,inside:=r6.1.1 }:(RunV MV)) r5.2.2.1).bind fun r11 =>
 some ((r11.1.1,()),(r11.2.1,r11.2.2.1,()))
 else
 (aaq ({ r5.2.1 with line:=r5.1.1,inside:=r6.1.1 }:(RunV MV)) r5.2.2.1).bind fun r12 =>
 some ((r12.1.1,()),(r12.2.1,r12.2.2.1,()))
 else
 (aaq ({ r5.2.1 with line:=r5.1.1,inside:=r6.1.1 }:(RunV MV)) r5.2.2.1).bind fun r13 =>
 some ((r13.1.1,()),(r13.2.1,r13.2.2.1,()))
 else
 if 9≤r5.1.1 then
 if r5.1.1≤15 then
 (aaJ ({ r5.2.1 with line:=r5.1.1,inside:=r6.1.1 }:(RunV MV)) r5.2.2.1).bind fun r14 =>
 some ((r14.1.1,()),(r14.2.1,r14.2.2.1,()))
 else
 (aaq ({ r5.2.1 with line:=r5.1.1,inside:=r6.1.1 }:(RunV MV)) r5.2.2.1).bind fun r15 =>
 some ((r15.1.1,()),(r15.2.1,r15.2.2.1,()))
 else
 (aaq ({ r5.2.1 with line:=r5.1.1,inside:=r6.1.1 }:(RunV MV)) r5.2.2.1).bind fun r16 =>
 some ((r16.1.1,()),(r16.2.1,r16.2.2.1,()))
 else
 if r5.1.1=1 then
 (aaE ({ r5.2.1 with line:=r5.1.1 }:(RunV MV)) r5.2.2.1).bind fun r17 =>
 some ((r17.1.1,()),(r17.2.1,r17.2.2.1,()))
 else
 if r5.1.1=2 then
 (aaE ({ r5.2.1 with line:=r5.1.1 }:(RunV MV)) r5.2.2.1).bind fun r18 =>
 some ((r18.1.1,()),(r18.2.1,r18.2.2.1,()))
 else
 if r5.1.1=3 then
 (aaE ({ r5.2.1 with line:=r5.1.1 }:(RunV MV)) r5.2.2.1).bind fun r19 =>
 some ((r19.1.1,()),(r19.2.1,r19.2.2.1,()))
 else
 if 4≤r5.1.1 then
 if r5.1.1≤8 then
 (abk ({ r5.2.1 with line:=r5.1.1 }:(RunV MV)) r5.2.2.1).bind fun r20 =>
 some ((r20.1.1,()),(r20.2.1,r20.2.2.1,()))
 else
 if 9≤r5.1.1 then
 if r5.1.1≤15 then
 (aaJ ({ r5.2.1 with line:=r5.1.1 }:(RunV MV)) r5.2.2.1).bind fun r21 =>
 some ((r21.1.1,()),(r21.2.1,r21.2.2.1,()))
 else
 (aaq ({ r5.2.1 with line:=r5.1.1 }:(RunV MV)) r5.2.2.1).bind fun r22 =>
 some ((r22.1.1,()),(r22.2.1,r22.2.2.1,()))
 else
 (aaq ({ r5.2.1 with line:=r5.1.1 }:(RunV MV)) r5.2.2.1).bind fun r23 =>
 some ((r23.1.1,()),(r23.2.1,r23.2.2.1,()))
 else
 if 9≤r5.1.1 then
 if r5.1.1≤15 then
 (aaJ ({ r5.2.1 with line:=r5.1.1 }:(RunV MV)) r5.2.2.1).bind fun r24 =>
 some ((r24.1.1,()),(r24.2.1,r24.2.2.1,()))
 else
 (aaq ({ r5.2.1 with line:=r5.1.1 }:(RunV MV)) r5.2.2.1).bind fun r25 =>
 some ((r25.1.1,()),(r25.2.1,r25.2.2.1,()))
 else
 (aaq ({ r5.2.1 with line:=r5.1.1 }:(RunV MV)) r5.2.2.1).bind fun r26 =>
 some ((r26.1.1,()),(r26.2.1,r26.2.2.1,()))
 else
 if y0.line=1 then
 (aaE ({ y0 with o:=r1.2.1 }:(RunV MV)) y1).bind fun r27 =>
 some ((r27.1.1,()),(r27.2.1,r27.2.2.1,()))
 else
 if y0.line=2 then
 (aaE ({ y0 with o:=r1.2.1 }:(RunV MV)) y1).bind fun r28 =>
 some ((r28.1.1,()),(r28.2.1,r28.2.2.1,()))
 else
 if y0.line=3 then
 (aaE ({ y0 with o:=r1.2.1 }:(RunV MV)) y1).bind fun r29 =>
 some ((r29.1.1,()),(r29.2.1,r29.2.2.1,()))
 else
 if 4≤y0.line then
 if y0.line≤8 then
 (abk ({ y0 with o:=r1.2.1 }:(RunV MV)) y1).bind fun r30 =>
 some ((r30.1.1,()),(r30.2.1,r30.2.2.1,()))
 else
 if 9≤y0.line then
 if y0.line≤15 then
 (aaJ ({ y0 with o:=r1.2.1 }:(RunV MV)) y1).bind fun r31 =>
 some ((r31.1.1,()),(r31.2.1,r31.2.2.1,()))
 else
 (aaq ({ y0 with o:=r1.2.1 }:(RunV MV)) y1).bind fun r32 =>
 some ((r32.1.1,()),(r32.2.1,r32.2.2.1,()))
 else
 (aaq ({ y0 with o:=r1.2.1 }:(RunV MV)) y1).bind fun r33 =>
 some ((r33.1.1,()),(r33.2.1,r33.2.2.1,()))
 else
 if 9≤y0.line then
 if y0.line≤15 then
 (aaJ ({ y0 with o:=r1.2.1 }:(RunV MV)) y1).bind fun r34 =>
 some ((r34.1.1,()),(r34.2.1,r34.2.2.1,()))
 else
 (aaq ({ y0 with o:=r1.2.1 }:(RunV MV)) y1).bind fun r35 =>
 some ((r35.1.1,()),(r35.2.1,r35.2.2.1,()))
 else
 (aaq ({ y0 with o:=r1.2.1 }:(RunV MV)) y1).bind fun r36 =>
 some ((r36.1.1,()),(r36.2.1,r36.2.2.1,()))
 else none
noncomputable abbrev ao1:Con SR1:=⟨157,[.ref 33,.ref 27],[.sh .b],fun x =>abo x.1 x.2.1⟩
noncomputable def anR:List (Nat×Func):=[(158,Tryz.f158)]
theorem anS:CO Tryz.prog ao1:=agV aak Tryz.func157 [abp,acD,ahM,agA,ahI,aiK,ajb,ahL] ⟨aa6,abC,alp,aiJ,ali,amA,anT,alm,trivial⟩ anR ⟨Tryz.func158,trivial⟩ (fun _ =>[]) [] fun x =>by kernel_rfl
noncomputable def adI (m:MV) (e:EnvP):Option ((Bool×Unit)×(MV×EnvP×Unit)) :=
 match m with
 | .alloc x =>(ab1 x e).bind fun o =>some (o.1,(MV.alloc o.2.1,o.2.2))
 | .publish x =>(abR x e).bind fun o =>some (o.1,(MV.publish o.2.1,o.2.2))
 | .claim x =>(ac2 x e).bind fun o =>some (o.1,(MV.claim o.2.1,o.2.2))
 | .attempt x =>(acG x e).bind fun o =>some (o.1,(MV.attempt o.2.1,o.2.2))
 | .release x =>(acF x e).bind fun o =>some (o.1,(MV.release o.2.1,o.2.2))
 | .opush x =>(adq x e).bind fun o =>some (o.1,(MV.opush o.2.1,o.2.2))
 | .opop x =>(adS x e).bind fun o =>some (o.1,(MV.opop o.2.1,o.2.2))
 | .steal x =>(ac1 x e).bind fun o =>some (o.1,(MV.steal o.2.1,o.2.2))
 | .set x =>(adu x e).bind fun o =>some (o.1,(MV.set o.2.1,o.2.2))
 | .reset x =>(acI x e).bind fun o =>some (o.1,(MV.reset o.2.1,o.2.2))
 | .insert x =>(abL x e).bind fun o =>some (o.1,(MV.insert o.2.1,o.2.2))
 | .remove x =>(abK x e).bind fun o =>some (o.1,(MV.remove o.2.1,o.2.2))
 | .sleep x =>(acW x e).bind fun o =>some (o.1,(MV.sleep o.2.1,o.2.2))
 | .wake x =>(adj x e).bind fun o =>some (o.1,(MV.wake o.2.1,o.2.2))
 | .raise x =>(acv x e).bind fun o =>some (o.1,(MV.raise o.2.1,o.2.2))
 | .probe x =>(abl x e).bind fun o =>some (o.1,(MV.probe o.2.1,o.2.2))
 | .lpush x =>(acu x e).bind fun o =>some (o.1,(MV.lpush o.2.1,o.2.2))
 | .lpop x =>(acY x e).bind fun o =>some (o.1,(MV.lpop o.2.1,o.2.2))
 | .walk x =>(ab4 x e).bind fun o =>some (o.1,(MV.walk o.2.1,o.2.2))
 | .take x =>(aeA x e).bind fun o =>some (o.1,(MV.take o.2.1,o.2.2))
 | .sweep x =>(aaC x e).bind fun o =>some (o.1,(MV.sweep o.2.1,o.2.2))
 | .enter x =>(ab2 x e).bind fun o =>some (o.1,(MV.enter o.2.1,o.2.2))
 | .drain x =>(abm x e).bind fun o =>some (o.1,(MV.drain o.2.1,o.2.2))
 | .run x =>(abo x e).bind fun o =>some (o.1,(MV.run o.2.1,o.2.2))
 | _ =>none
noncomputable abbrev ard:Con SR1:=⟨1000000000,[.mch,.ref 27],[.sh .b],fun x =>adI x.1 x.2.1⟩
theorem aBE (m:MV) (xs:akZ SR1 [.ref 27]) (out:ak3 SR1 [.sh .b]×(MV×ajO SR1 [.ref 27])) (h:adI m xs.1=some out):aqv SR1 Tryz.prog 0 [.ref 27] [.sh .b] m xs out:=by
 cases m with
 | alloc x =>exact aaz (.alloc x) xs out h
 | publish x =>exact aaz (.publish x) xs out h
 | claim x =>exact aaz (.claim x) xs out h
 | attempt x =>exact aaz (.attempt x) xs out h
 | release x =>exact aaz (.release x) xs out h
 | opush x =>exact aaz (.opush x) xs out h
 | opop x =>exact aaz (.opop x) xs out h
 | steal x =>exact aaz (.steal x) xs out h
 | set x =>exact aaz (.set x) xs out h
 | reset x =>exact aaz (.reset x) xs out h
 | insert x =>exact aaz (.insert x) xs out h
 | remove x =>exact aaz (.remove x) xs out h
 | sleep x =>exact aaz (.sleep x) xs out h
 | wake x =>exact aaz (.wake x) xs out h
 | raise x =>exact aaz (.raise x) xs out h
 | probe x =>exact aaz (.probe x) xs out h
 | lpush x =>exact alb (.lpush x) xs out h
 | lpop x =>exact alb (.lpop x) xs out h
 | walk x =>exact ajQ (.walk x) xs out h
 | take x =>exact ajQ (.take x) xs out h
 | sweep x =>exact ajQ (.sweep x) xs out h
 | enter x =>exact ajQ (.enter x) xs out h
 | drain x =>exact ajQ (.drain x) xs out h
 | run x =>exact aa9 (S:=SR1) (ps:=[.ref 27]) (rs:=[.sh .b]) (c:=33) (mk:=MV.run) (fun _ =>rfl) rfl (fun _ _ _ _ =>by kernel_rfl) anS h
 | _ =>cases h
theorem as6:CO Tryz.prog ard:=ajB (S:=SR1) (i:=0) (ps:=[.ref 27]) (rs:=[.sh .b]) (spec:=fun m xs =>adI m xs.1) aBE
noncomputable def aby (m:MV):Option ((Int×Int×Unit)×(MV×Unit)) :=
 match m with
 | .alloc x =>some ((x.o.code,x.o.value,()),(MV.alloc x,()))
 | .publish x =>some ((x.o.code,x.o.value,()),(MV.publish x,()))
 | .claim x =>some ((x.o.code,x.o.value,()),(MV.claim x,()))
 | .attempt x =>some ((x.o.code,x.o.value,()),(MV.attempt x,()))
 | .release x =>some ((x.o.code,x.o.value,()),(MV.release x,()))
 | .opush x =>some ((x.o.code,x.o.value,()),(MV.opush x,()))
 | .opop x =>some ((x.o.code,x.o.value,()),(MV.opop x,()))
 | .steal x =>some ((x.o.code,x.o.value,()),(MV.steal x,()))
 | .set x =>some ((x.o.code,x.o.value,()),(MV.set x,()))
 | .reset x =>some ((x.o.code,x.o.value,()),(MV.reset x,()))
 | .insert x =>some ((x.o.code,x.o.value,()),(MV.insert x,()))
 | .remove x =>some ((x.o.code,x.o.value,()),(MV.remove x,()))
 | .sleep x =>some ((x.o.code,x.o.value,()),(MV.sleep x,()))
 | .wake x =>some ((x.o.code,x.o.value,()),(MV.wake x,()))
 | .raise x =>some ((x.o.code,x.o.value,()),(MV.raise x,()))
 | .probe x =>some ((x.o.code,x.o.value,()),(MV.probe x,()))
 | .lpush x =>some ((x.o.code,x.o.value,()),(MV.lpush x,()))
 | .lpop x =>some ((x.o.code,x.o.value,()),(MV.lpop x,()))
 | .walk x =>some ((x.o.code,x.o.value,()),(MV.walk x,()))
 | .take x =>some ((x.o.code,x.o.value,()),(MV.take x,()))
 | .sweep x =>some ((x.o.code,x.o.value,()),(MV.sweep x,()))
 | .enter x =>some ((x.o.code,x.o.value,()),(MV.enter x,()))
 | .drain x =>some ((x.o.code,x.o.value,()),(MV.drain x,()))
 | .run x =>some ((x.o.code,x.o.value,()),(MV.run x,()))
 | _ =>none
noncomputable abbrev amC:Con SR1:=⟨1000000001,[.mch],[.sh sI_,.sh sI_],fun x =>aby x.1⟩
theorem axM (m:MV) (xs:akZ SR1 []) (out:ak3 SR1 [.sh sI_,.sh sI_]×(MV×ajO SR1 [])) (h:aby m=some out):aqv SR1 Tryz.prog 1 [] [.sh sI_,.sh sI_] m xs out:=by
 cases m with
 | alloc x =>exact aaj (.alloc x) xs out h
 | publish x =>exact aaj (.publish x) xs out h
 | claim x =>exact aaj (.claim x) xs out h
 | attempt x =>exact aaj (.attempt x) xs out h
 | release x =>exact aaj (.release x) xs out h
 | opush x =>exact aaj (.opush x) xs out h
 | opop x =>exact aaj (.opop x) xs out h
 | steal x =>exact aaj (.steal x) xs out h
 | set x =>exact aaj (.set x) xs out h
 | reset x =>exact aaj (.reset x) xs out h
 | insert x =>exact aaj (.insert x) xs out h
 | remove x =>exact aaj (.remove x) xs out h
 | sleep x =>exact aaj (.sleep x) xs out h
 | wake x =>exact aaj (.wake x) xs out h
 | raise x =>exact aaj (.raise x) xs out h
 | probe x =>exact aaj (.probe x) xs out h
 | lpush x =>exact ahO (.lpush x) xs out h
 | lpop x =>exact ahO (.lpop x) xs out h
 | walk x =>exact agp (.walk x) xs out h
 | take x =>exact agp (.take x) xs out h
 | sweep x =>exact agp (.sweep x) xs out h
 | enter x =>exact agp (.enter x) xs out h
 | drain x =>exact agp (.drain x) xs out h
 | run x =>exact aa9 (S:=SR1) (ps:=[]) (rs:=[.sh sI_,.sh sI_]) (c:=33) (mk:=MV.run) (f:=143) (sp:=fun x =>some ((x.1.o.code,x.1.o.value,()),(x.1,()))) (fun _ =>rfl) rfl (fun _ _ _ _ =>by kernel_rfl) (acr [aaX] ⟨aaP,trivial⟩ fun x =>by kernel_rfl) h
 | _ =>cases h
theorem ao6:CO Tryz.prog amC:=ajB (S:=SR1) (i:=1) (ps:=[]) (rs:=[.sh sI_,.sh sI_]) (spec:=fun m _ =>aby m) axM
noncomputable def aax (y0:(ClientV MV)):Option ((Bool×Unit)×((ClientV MV)×Unit)) :=
 some ((decide (((y0.subs.length:Nat):Int)≤y0.i),()),(y0,()))
noncomputable abbrev aeY:Con SR1:=⟨60,[.ref 30],[.sh .b],fun x =>aax x.1⟩
theorem agR:CO Tryz.prog aeY:=aan aak Tryz.func60 [] trivial
noncomputable def akN (y0:Int):Option ((MV×Unit)×(Unit)) :=
 some ((MV.attempt (⟨⟨false,0,0⟩,y0,false⟩:AttemptV),()),())
noncomputable abbrev alO:Con SR1:=⟨97,[.sh sI_],[.sh .mach],fun x =>akN x.1⟩
theorem aqr:CO Tryz.prog alO:=aan aak Tryz.func97 [] trivial
noncomputable def ahn (y0:Int) (y1:Int):Option ((MV×Unit)×(Unit)) :=
 some ((MV.insert (⟨⟨false,0,0⟩,y0,y1,1,0,0,0,0⟩:InsertV),()),())
noncomputable abbrev aiQ:Con SR1:=⟨99,[.sh sI_,.sh sI_],[.sh .mach],fun x =>ahn x.1 x.2.1⟩
theorem am3:CO Tryz.prog aiQ:=aan aak Tryz.func99 [] trivial
noncomputable def ac9 (y0:(ClientV MV)):Option ((MV×Unit)×((ClientV MV)×Unit)) :=
 if 0≤y0.i∧y0.i<((y0.subs.length:Nat):Int) then
 if ((abZ y0.subs y0.i).prog)=((abZ y0.subs y0.i).prog) then
 if ((abZ y0.subs y0.i).level)=((abZ y0.subs y0.i).level) then
 if ((abZ y0.subs y0.i).deadline)=((abZ y0.subs y0.i).deadline) then
 if y0.i=y0.i then
 (akN y0.me).bind fun r1 =>
 if y0.line=y0.line then
 if ((abZ y0.subs y0.i).level)=((abZ y0.subs y0.i).level) then
 if y0.me=y0.me then
 if y0.id=y0.id then
 if ((abZ y0.subs y0.i).deadline)=((abZ y0.subs y0.i).deadline) then
 (aeL).bind fun r2 =>
 if y0.line=y0.line then
 if ((abZ y0.subs y0.i).level)=((abZ y0.subs y0.i).level) then
 if y0.me=y0.me then
 if y0.id=y0.id then
 if ((abZ y0.subs y0.i).deadline)=((abZ y0.subs y0.i).deadline) then
 (ahn ((abZ y0.subs y0.i).deadline) y0.id).bind fun r3 =>
 if y0.line=y0.line then
 if ((abZ y0.subs y0.i).level)=((abZ y0.subs y0.i).level) then
 if y0.me=y0.me then
 (afg).bind fun r4 =>
 if y0.line=y0.line then
 if ((abZ y0.subs y0.i).level)=((abZ y0.subs y0.i).level) then
 if y0.me=y0.me then
 (acV y0.me ((abZ y0.subs y0.i).level)).bind fun r5 =>
 if y0.line=y0.line then
 if y0.line=y0.line then
 if 0≤wi (y0.line-1)∧wi (y0.line-1)<((([r1.1.1,MV.nil,r2.1.1,MV.nil,MV.nil,r3.1.1,MV.nil,r4.1.1,r5.1.1]:List MV).length:Nat):Int) then
 some ((aKw ([r1.1.1,MV.nil,r2.1.1,MV.nil,MV.nil,r3.1.1,MV.nil,r4.1.1,r5.1.1]) (wi (y0.line-1)),()),(y0,()))
 else none
 else none
 else none
 else none
 else none
 else none
 else none
 else none
 else none
 else none
 else none
 else none
 else none
 else none
 else none
 else none
 else none
 else none
 else none
 else none
 else none
 else none
 else none
 else none
noncomputable abbrev ae7:Con SR1:=⟨94,[.ref 30],[.sh .mach],fun x =>ac9 x.1⟩
theorem aiz:CO Tryz.prog ae7:=aan aak Tryz.func94 [alO,agA,aiQ,aik,ahQ] ⟨aqr,aiJ,am3,akx,aie,trivial⟩
noncomputable def aai (y0:(ClientV MV)) (y1:Int):Option ((Bool×Unit)×((ClientV MV)×Unit)) :=
 some ((false,()),(({ y0 with line:=y1,inside:=MV.nil,fresh:=true }:(ClientV MV)),()))
noncomputable abbrev adz:Con SR1:=⟨110,[.ref 30,.sh sI_],[.sh .b],fun x =>aai x.1 x.2.1⟩
theorem ad8:CO Tryz.prog adz:=aan aak Tryz.func110 [] trivial
noncomputable def abM (y0:(ClientV MV)) (y1:EnvP) (y2:Int):Option ((Bool×Unit)×((ClientV MV)×EnvP×Unit)) :=
 (aec y1 (⟨2,y0.me,0,y0.i,y2⟩:Ev)).bind fun r1 =>
 (aai y0 8).bind fun r2 =>
 some ((r2.1.1,()),(r2.2.1,r1.2.1,()))
noncomputable abbrev aef:Con SR1:=⟨104,[.ref 30,.ref 27,.sh sI_],[.sh .b],fun x =>abM x.1 x.2.1 x.2.2.1⟩
theorem afN:CO Tryz.prog aef:=aan aak Tryz.func104 [aff,adz] ⟨aer,ad8,trivial⟩
end
end Go.Proofs.YtidhehdanppcoaaGreat
