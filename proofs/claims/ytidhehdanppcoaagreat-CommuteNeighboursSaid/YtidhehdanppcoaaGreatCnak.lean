/- The program's machines in the evaluator's form. The program's machines in the evaluator's form. The program's machines in the evaluator's form. The program's machines in the evaluator's form: all. -/
import Derived.Test.YtidhehdanppcoaaGreatCnaj
set_option linter.all false
namespace Go.Proofs.YtidhehdanppcoaaGreat
section
open Go Go.RowKit
set_option maxRecDepth 100000
variable [Tb]
noncomputable def aaH (y0:(RunV MV)) (y1:EnvP):Option ((Bool×Unit)×((RunV MV)×EnvP×Unit)) :=
 if 0≤(tlI y0.stack)∧(tlI y0.stack)<((y0.stack.length:Nat):Int) then
 if 0≤tpI y0.stack∧tpI y0.stack<((y1.recs.length:Nat):Int) then
 if y0.line=1 then
 if 0≤(tlI y0.stack)∧(tlI y0.stack)<((y0.stack.length:Nat):Int) then
 if y1.l.workers=y1.l.workers then
 if y1.l.levels=y1.l.levels then
 if y1.l.classes=y1.l.classes then
 if y1.l.tasks=y1.l.tasks then
 if y1.l.deque=y1.l.deque then
 if y1.l.heap=y1.l.heap then
 if y1.l.sleepers=y1.l.sleepers then
 if y1.l.epochs=y1.l.epochs then
 if y1.l.bitmaps=y1.l.bitmaps then
 if y1.l.queues=y1.l.queues then
 if y1.l.table=y1.l.table then
 (amV y1.l (tpI y0.stack)).bind fun r1 =>
 (abH y1.m r1.1.1 0).bind fun r2 =>
 (aac y0 0 MV.nil).bind fun r3 =>
 some ((r3.1.1,()),(r3.2.1,({ y1 with m:=r2.2.1,recs:=y1.recs.set (tpI y0.stack).toNat ({ aab y1.recs (tpI y0.stack) with waiting:=(-1) }:RecP) }:EnvP),()))
 else none
 else none
 else none
 else none
 else none
 else none
 else none
 else none
 else none
 else none
 else none
 else none
 else
 if y0.line=2 then
 if ((aab y1.recs (tpI y0.stack)).left)=0 then
 if 0≤(tlI y0.stack)∧(tlI y0.stack)<((y0.stack.length:Nat):Int) then
 if 0≤tpI y0.stack∧tpI y0.stack<((y1.recs.length:Nat):Int) then
 if ((aab y1.recs (tpI y0.stack)).prog)<0 then
 if 0≤(tlI y0.stack)∧(tlI y0.stack)<((y0.stack.length:Nat):Int) then
 if 0≤tpI y0.stack∧tpI y0.stack<((y1.recs.length:Nat):Int) then
 none
 else none
 else none
 else
 if ((y1.c.progs.length:Nat):Int)≤((aab y1.recs (tpI y0.stack)).prog) then
 if 0≤(tlI y0.stack)∧(tlI y0.stack)<((y0.stack.length:Nat):Int) then
 if 0≤tpI y0.stack∧tpI y0.stack<((y1.recs.length:Nat):Int) then
 none
 else none
 else none
 else
 if 0≤(aab y1.recs (tpI y0.stack)).prog∧(aab y1.recs (tpI y0.stack)).prog<((y1.c.progs.length:Nat):Int) then
 if 0≤(tlI y0.stack)∧(tlI y0.stack)<((y0.stack.length:Nat):Int) then
 if 0≤tpI y0.stack∧tpI y0.stack<((y1.recs.length:Nat):Int) then
 if 0≤(aab y1.recs (tpI y0.stack)).pc∧(aab y1.recs (tpI y0.stack)).pc<(((atL [] y1.c.progs ((aab y1.recs (tpI y0.stack)).prog)).length:Nat):Int) then
 if ((aab ((y1.recs.set (tpI y0.stack).toNat ({ aab y1.recs (tpI y0.stack) with left:=(acB (atL [] y1.c.progs ((aab y1.recs (tpI y0.stack)).prog)) ((aab y1.recs (tpI y0.stack)).pc)).a }:RecP)).set (tpI y0.stack).toNat ({ aab (y1.recs.set (tpI y0.stack).toNat ({ aab y1.recs (tpI y0.stack) with left:=(acB (atL [] y1.c.progs ((aab y1.recs (tpI y0.stack)).prog)) ((aab y1.recs (tpI y0.stack)).pc)).a }:RecP)) (tpI y0.stack) with left:=wi (((aab (y1.recs.set (tpI y0.stack).toNat ({ aab y1.recs (tpI y0.stack) with left:=(acB (atL [] y1.c.progs ((aab y1.recs (tpI y0.stack)).prog)) ((aab y1.recs (tpI y0.stack)).pc)).a }:RecP)) (tpI y0.stack)).left)-1) }:RecP)) (tpI y0.stack)).left)=0 then
 (aac y0 0 MV.nil).bind fun r4 =>
 some ((r4.1.1,()),(r4.2.1,({ y1 with recs:=((y1.recs.set (tpI y0.stack).toNat ({ aab y1.recs (tpI y0.stack) with left:=(acB (atL [] y1.c.progs ((aab y1.recs (tpI y0.stack)).prog)) ((aab y1.recs (tpI y0.stack)).pc)).a }:RecP)).set (tpI y0.stack).toNat ({ aab (y1.recs.set (tpI y0.stack).toNat ({ aab y1.recs (tpI y0.stack) with left:=(acB (atL [] y1.c.progs ((aab y1.recs (tpI y0.stack)).prog)) ((aab y1.recs (tpI y0.stack)).pc)).a }:RecP)) (tpI y0.stack) with left:=wi (((aab (y1.recs.set (tpI y0.stack).toNat ({ aab y1.recs (tpI y0.stack) with left:=(acB (atL [] y1.c.progs ((aab y1.recs (tpI y0.stack)).prog)) ((aab y1.recs (tpI y0.stack)).pc)).a }:RecP)) (tpI y0.stack)).left)-1) }:RecP)).set (tpI y0.stack).toNat ({ aab ((y1.recs.set (tpI y0.stack).toNat ({ aab y1.recs (tpI y0.stack) with left:=(acB (atL [] y1.c.progs ((aab y1.recs (tpI y0.stack)).prog)) ((aab y1.recs (tpI y0.stack)).pc)).a }:RecP)).set (tpI y0.stack).toNat ({ aab (y1.recs.set (tpI y0.stack).toNat ({ aab y1.recs (tpI y0.stack) with left:=(acB (atL [] y1.c.progs ((aab y1.recs (tpI y0.stack)).prog)) ((aab y1.recs (tpI y0.stack)).pc)).a }:RecP)) (tpI y0.stack) with left:=wi (((aab (y1.recs.set (tpI y0.stack).toNat ({ aab y1.recs (tpI y0.stack) with left:=(acB (atL [] y1.c.progs ((aab y1.recs (tpI y0.stack)).prog)) ((aab y1.recs (tpI y0.stack)).pc)).a }:RecP)) (tpI y0.stack)).left)-1) }:RecP)) (tpI y0.stack) with pc:=wi (((aab ((y1.recs.set (tpI y0.stack).toNat ({ aab y1.recs (tpI y0.stack) with left:=(acB (atL [] y1.c.progs ((aab y1.recs (tpI y0.stack)).prog)) ((aab y1.recs (tpI y0.stack)).pc)).a }:RecP)).set (tpI y0.stack).toNat ({ aab (y1.recs.set (tpI y0.stack).toNat ({ aab y1.recs (tpI y0.stack) with left:=(acB (atL [] y1.c.progs ((aab y1.recs (tpI y0.stack)).prog)) ((aab y1.recs (tpI y0.stack)).pc)).a }:RecP)) (tpI y0.stack) with left:=wi (((aab (y1.recs.set (tpI y0.stack).toNat ({ aab y1.recs (tpI y0.stack) with left:=(acB (atL [] y1.c.progs ((aab y1.recs (tpI y0.stack)).prog)) ((aab y1.recs (tpI y0.stack)).pc)).a }:RecP)) (tpI y0.stack)).left)-1) }:RecP)) (tpI y0.stack)).pc)+1) }:RecP) }:EnvP),()))
 else
 (aac y0 0 MV.nil).bind fun r5 =>
 some ((r5.1.1,()),(r5.2.1,({ y1 with recs:=(y1.recs.set (tpI y0.stack).toNat ({ aab y1.recs (tpI y0.stack) with left:=(acB (atL [] y1.c.progs ((aab y1.recs (tpI y0.stack)).prog)) ((aab y1.recs (tpI y0.stack)).pc)).a }:RecP)).set (tpI y0.stack).toNat ({ aab (y1.recs.set (tpI y0.stack).toNat ({ aab y1.recs (tpI y0.stack) with left:=(acB (atL [] y1.c.progs ((aab y1.recs (tpI y0.stack)).prog)) ((aab y1.recs (tpI y0.stack)).pc)).a }:RecP)) (tpI y0.stack) with left:=wi (((aab (y1.recs.set (tpI y0.stack).toNat ({ aab y1.recs (tpI y0.stack) with left:=(acB (atL [] y1.c.progs ((aab y1.recs (tpI y0.stack)).prog)) ((aab y1.recs (tpI y0.stack)).pc)).a }:RecP)) (tpI y0.stack)).left)-1) }:RecP) }:EnvP),()))
 else none
 else none
 else none
 else none
 else none
 else none
 else
 if ((aab (y1.recs.set (tpI y0.stack).toNat ({ aab y1.recs (tpI y0.stack) with left:=wi (((aab y1.recs (tpI y0.stack)).left)-1) }:RecP)) (tpI y0.stack)).left)=0 then
 (aac y0 0 MV.nil).bind fun r6 =>
 some ((r6.1.1,()),(r6.2.1,({ y1 with recs:=(y1.recs.set (tpI y0.stack).toNat ({ aab y1.recs (tpI y0.stack) with left:=wi (((aab y1.recs (tpI y0.stack)).left)-1) }:RecP)).set (tpI y0.stack).toNat ({ aab (y1.recs.set (tpI y0.stack).toNat ({ aab y1.recs (tpI y0.stack) with left:=wi (((aab y1.recs (tpI y0.stack)).left)-1) }:RecP)) (tpI y0.stack) with pc:=wi (((aab (y1.recs.set (tpI y0.stack).toNat ({ aab y1.recs (tpI y0.stack) with left:=wi (((aab y1.recs (tpI y0.stack)).left)-1) }:RecP)) (tpI y0.stack)).pc)+1) }:RecP) }:EnvP),()))
 else
 (aac y0 0 MV.nil).bind fun r7 =>
 some ((r7.1.1,()),(r7.2.1,({ y1 with recs:=y1.recs.set (tpI y0.stack).toNat ({ aab y1.recs (tpI y0.stack) with left:=wi (((aab y1.recs (tpI y0.stack)).left)-1) }:RecP) }:EnvP),()))
 else
 (aac y0 0 MV.nil).bind fun r8 =>
 some ((r8.1.1,()),(r8.2.1,({ y1 with recs:=y1.recs.set (tpI y0.stack).toNat ({ aab y1.recs (tpI y0.stack) with pc:=wi (((aab y1.recs (tpI y0.stack)).pc)+1) }:RecP) }:EnvP),()))
 else none
 else none
noncomputable abbrev aiK:Con SR1:=⟨160,[.ref 33,.ref 27],[.sh .b],fun x =>aaH x.1 x.2.1⟩
noncomputable def amE:List (Nat×Func):=[(164,Tryz.f164),(158,Tryz.f158),(167,Tryz.f167),(165,Tryz.f165)]
theorem amF:CO Tryz.prog aiK:=agL aai Tryz.func160 [apU,aev,aeb] ⟨aqH,adT,aen,trivial⟩ amE ⟨Tryz.func164,Tryz.func158,Tryz.func167,Tryz.func165,trivial⟩ (fun _ =>[]) [] fun x =>by kernel_rfl
noncomputable def aaT (y0:(RunV MV)) (y1:EnvP) (y2:Ev):Option ((Unit)×((RunV MV)×EnvP×Unit)) :=
 (aeV y1 ({ y2 with worker:=y0.worker }:Ev)).bind fun r1 =>
 some ((()),(y0,r1.2.1,()))
noncomputable abbrev aeC:Con SR1:=⟨170,[.ref 33,.ref 27,.val 2],[],fun x =>aaT x.1 x.2.1 x.2.2.1⟩
theorem ae8:CO Tryz.prog aeC:=aal aai Tryz.func170 [agb] ⟨afa,trivial⟩
noncomputable def akh (y0:Int) (y1:Int):Option ((MV×Unit)×(Unit)) :=
 some ((MV.publish (⟨⟨false,0,0⟩,y0,y1,1⟩:PublishV),()),())
noncomputable abbrev alE:Con SR1:=⟨177,[.sh sI_,.sh sI_],[.sh .mach],fun x =>akh x.1 x.2.1⟩
theorem aql:CO Tryz.prog alE:=aal aai Tryz.func177 [] trivial
noncomputable def acD (y0:(RunV MV)) (y1:EnvP) (y2:Int) (y3:Int):Option ((Bool×Unit)×((RunV MV)×EnvP×Unit)) :=
 if 0≤(tlI y0.stack)∧(tlI y0.stack)<((y0.stack.length:Nat):Int) then
 if 0≤tpI y0.stack∧tpI y0.stack<((y1.recs.length:Nat):Int) then
 if 0≤(tlI y0.stack)∧(tlI y0.stack)<((y0.stack.length:Nat):Int) then
 if 0≤tpI y0.stack∧tpI y0.stack<((y1.recs.length:Nat):Int) then
 if ((aab y1.recs (tpI y0.stack)).prog)<0 then
 if 0≤(tlI y0.stack)∧(tlI y0.stack)<((y0.stack.length:Nat):Int) then
 if 0≤tpI y0.stack∧tpI y0.stack<((y1.recs.length:Nat):Int) then
 none
 else none
 else none
 else
 if ((y1.c.progs.length:Nat):Int)≤((aab y1.recs (tpI y0.stack)).prog) then
 if 0≤(tlI y0.stack)∧(tlI y0.stack)<((y0.stack.length:Nat):Int) then
 if 0≤tpI y0.stack∧tpI y0.stack<((y1.recs.length:Nat):Int) then
 none
 else none
 else none
 else
 if 0≤(aab y1.recs (tpI y0.stack)).prog∧(aab y1.recs (tpI y0.stack)).prog<((y1.c.progs.length:Nat):Int) then
 if 0≤(tlI y0.stack)∧(tlI y0.stack)<((y0.stack.length:Nat):Int) then
 if 0≤tpI y0.stack∧tpI y0.stack<((y1.recs.length:Nat):Int) then
 if 0≤(aab y1.recs (tpI y0.stack)).pc∧(aab y1.recs (tpI y0.stack)).pc<(((atL [] y1.c.progs ((aab y1.recs (tpI y0.stack)).prog)).length:Nat):Int) then
 if y2=3 then
 if (((((aab (y1.recs.set (tpI y0.stack).toNat ({ aab y1.recs (tpI y0.stack) with pc:=wi (((aab y1.recs (tpI y0.stack)).pc)+1) }:RecP)) (tpI y0.stack)).kids).length+([(-1)]:List Int).length:Nat)):Int)<1000000000000 then
 if 0≤(tlI y0.stack)∧(tlI y0.stack)<((y0.stack.length:Nat):Int) then
 (aaT y0 ({ y1 with recs:=(y1.recs.set (tpI y0.stack).toNat ({ aab y1.recs (tpI y0.stack) with pc:=wi (((aab y1.recs (tpI y0.stack)).pc)+1) }:RecP)).set (tpI y0.stack).toNat ({ aab (y1.recs.set (tpI y0.stack).toNat ({ aab y1.recs (tpI y0.stack) with pc:=wi (((aab y1.recs (tpI y0.stack)).pc)+1) }:RecP)) (tpI y0.stack) with kids:=((aab (y1.recs.set (tpI y0.stack).toNat ({ aab y1.recs (tpI y0.stack) with pc:=wi (((aab y1.recs (tpI y0.stack)).pc)+1) }:RecP)) (tpI y0.stack)).kids)++([(-1)]) }:RecP) }:EnvP) (⟨4,0,tpI y0.stack,0,0⟩:Ev)).bind fun r1 =>
 (aac r1.2.1 0 MV.nil).bind fun r2 =>
 some ((r2.1.1,()),(r2.2.1,r1.2.2.1,()))
 else none
 else none
 else
 if (((((aab (y1.recs.set (tpI y0.stack).toNat ({ aab y1.recs (tpI y0.stack) with pc:=wi (((aab y1.recs (tpI y0.stack)).pc)+1) }:RecP)) (tpI y0.stack)).kids).length+([y3]:List Int).length:Nat)):Int)<1000000000000 then
 if 0≤(tlI y0.stack)∧(tlI y0.stack)<((y0.stack.length:Nat):Int) then
 if ((acB (atL [] y1.c.progs ((aab y1.recs (tpI y0.stack)).prog)) ((aab y1.recs (tpI y0.stack)).pc)).a)=((acB (atL [] y1.c.progs ((aab y1.recs (tpI y0.stack)).prog)) ((aab y1.recs (tpI y0.stack)).pc)).a) then
 if 0≤y3∧y3<((((y1.recs.set (tpI y0.stack).toNat ({ aab y1.recs (tpI y0.stack) with pc:=wi (((aab y1.recs (tpI y0.stack)).pc)+1) }:RecP)).set (tpI y0.stack).toNat ({ aab (y1.recs.set (tpI y0.stack).toNat ({ aab y1.recs (tpI y0.stack) with pc:=wi (((aab y1.recs (tpI y0.stack)).pc)+1) }:RecP)) (tpI y0.stack) with kids:=((aab (y1.recs.set (tpI y0.stack).toNat ({ aab y1.recs (tpI y0.stack) with pc:=wi (((aab y1.recs (tpI y0.stack)).pc)+1) }:RecP)) (tpI y0.stack)).kids)++([y3]) }:RecP)).length:Nat):Int) then
 if ((acB (atL [] y1.c.progs ((aab y1.recs (tpI y0.stack)).prog)) ((aab y1.recs (tpI y0.stack)).pc)).b)=((acB (atL [] y1.c.progs ((aab y1.recs (tpI y0.stack)).prog)) ((aab y1.recs (tpI y0.stack)).pc)).b) then
 (akh y3 ((acB (atL [] y1.c.progs ((aab y1.recs (tpI y0.stack)).prog)) ((aab y1.recs (tpI y0.stack)).pc)).b)).bind fun r3 =>
 (aac ({ y0 with id:=y3,level:=(acB (atL [] y1.c.progs ((aab y1.recs (tpI y0.stack)).prog)) ((aab y1.recs (tpI y0.stack)).pc)).b }:(RunV MV)) 5 r3.1.1).bind fun r4 =>
 some ((r4.1.1,()),(r4.2.1,({ y1 with recs:=((y1.recs.set (tpI y0.stack).toNat ({ aab y1.recs (tpI y0.stack) with pc:=wi (((aab y1.recs (tpI y0.stack)).pc)+1) }:RecP)).set (tpI y0.stack).toNat ({ aab (y1.recs.set (tpI y0.stack).toNat ({ aab y1.recs (tpI y0.stack) with pc:=wi (((aab y1.recs (tpI y0.stack)).pc)+1) }:RecP)) (tpI y0.stack) with kids:=((aab (y1.recs.set (tpI y0.stack).toNat ({ aab y1.recs (tpI y0.stack) with pc:=wi (((aab y1.recs (tpI y0.stack)).pc)+1) }:RecP)) (tpI y0.stack)).kids)++([y3]) }:RecP)).set y3.toNat (⟨(acB (atL [] y1.c.progs ((aab y1.recs (tpI y0.stack)).prog)) ((aab y1.recs (tpI y0.stack)).pc)).a,tpI y0.stack,0,0,(-1),[],false⟩:RecP) }:EnvP),()))
 else none
 else none
 else none
 else none
 else none
 else none
 else none
 else none
 else none
 else none
 else none
 else none
 else none
noncomputable abbrev ag7:Con SR1:=⟨169,[.ref 33,.ref 27,.sh sI_,.sh sI_],[.sh .b],fun x =>acD x.1 x.2.1 x.2.2.1 x.2.2.2.1⟩
noncomputable def akn:List (Nat×Func):=[(164,Tryz.f164),(158,Tryz.f158),(167,Tryz.f167),(165,Tryz.f165)]
theorem ako:CO Tryz.prog ag7:=agL aai Tryz.func169 [aeC,aeb,alE] ⟨ae8,aen,aql,trivial⟩ akn ⟨Tryz.func164,Tryz.func158,Tryz.func167,Tryz.func165,trivial⟩ (fun _ =>[]) [(8,.close)] fun x =>by kernel_rfl
noncomputable def abA (y0:(RunV MV)) (y1:EnvP):Option ((Bool×Unit)×((RunV MV)×EnvP×Unit)) :=
 (agz y0.inside y1).bind fun r1 =>
 if (!r1.1.1)=true then
 some ((false,()),(({ y0 with inside:=r1.2.1 }:(RunV MV)),r1.2.2.1,()))
 else
 (aet r1.2.1).bind fun r2 =>
 if y0.line=4 then
 (acD ({ y0 with inside:=r2.2.1 }:(RunV MV)) r1.2.2.1 r2.1.1 r2.1.2.1).bind fun r3 =>
 some ((r3.1.1,()),(r3.2.1,r3.2.2.1,()))
 else
 if y0.line=5 then
 if 0≤(tlI y0.stack)∧(tlI y0.stack)<((y0.stack.length:Nat):Int) then
 if y0.level=y0.level then
 if y0.id=y0.id then
 (aaT ({ y0 with inside:=r2.2.1 }:(RunV MV)) r1.2.2.1 (⟨3,0,y0.id,tpI y0.stack,y0.level⟩:Ev)).bind fun r4 =>
 (ac3 r4.2.1.worker r4.2.1.level r4.2.1.id).bind fun r5 =>
 (aac r4.2.1 6 r5.1.1).bind fun r6 =>
 some ((r6.1.1,()),(r6.2.1,r4.2.2.1,()))
 else none
 else none
 else none
 else
 if y0.line=6 then
 if r2.1.1=3 then
 (ado y0.worker y0.id).bind fun r7 =>
 (aac ({ y0 with inside:=r2.2.1 }:(RunV MV)) 8 r7.1.1).bind fun r8 =>
 some ((r8.1.1,()),(r8.2.1,r1.2.2.1,()))
 else
 (aed y0.worker y0.level).bind fun r9 =>
 (aac ({ y0 with inside:=r2.2.1 }:(RunV MV)) 7 r9.1.1).bind fun r10 =>
 some ((r10.1.1,()),(r10.2.1,r1.2.2.1,()))
 else
 if y0.line=8 then
 if r2.1.1=1 then
 if (((y0.stack.length+([y0.id]:List Int).length:Nat)):Int)<1000000000000 then
 (aac ({ y0 with stack:=y0.stack++([y0.id]),inside:=r2.2.1 }:(RunV MV)) 0 MV.nil).bind fun r11 =>
 some ((r11.1.1,()),(r11.2.1,r1.2.2.1,()))
 else none
 else
 (aac ({ y0 with inside:=r2.2.1 }:(RunV MV)) 0 MV.nil).bind fun r12 =>
 some ((r12.1.1,()),(r12.2.1,r1.2.2.1,()))
 else
 (aac ({ y0 with inside:=r2.2.1 }:(RunV MV)) 0 MV.nil).bind fun r13 =>
 some ((r13.1.1,()),(r13.2.1,r1.2.2.1,()))
noncomputable abbrev ajQ:Con SR1:=⟨161,[.ref 33,.ref 27],[.sh .b],fun x =>abA x.1 x.2.1⟩
noncomputable def anU:List (Nat×Func):=[(158,Tryz.f158)]
theorem anV:CO Tryz.prog ajQ:=agL aai Tryz.func161 [apO,anY,ag7,aeC,afy,aeb,agy,aiS] ⟨aqn,aqy,ako,ae8,afT,aen,ahf,ajn,trivial⟩ anU ⟨Tryz.func158,trivial⟩ (fun _ =>[]) [] fun x =>by kernel_rfl
noncomputable def anE (y0:Int) (y1:Int) (y2:Int):Option ((MV×Unit)×(Unit)) :=
 some ((MV.walk (⟨⟨false,0,0⟩,y0,y1,y2,1,MV.nil⟩:(WalkV MV)),()),())
noncomputable abbrev arB:Con SR1:=⟨174,[.sh sI_,.sh sI_,.sh sI_],[.sh .mach],fun x =>anE x.1 x.2.1 x.2.2.1⟩
theorem avZ:CO Tryz.prog arB:=aal aai Tryz.func174 [] trivial
noncomputable def aaE (y0:(RunV MV)):Option ((Bool×Unit)×((RunV MV)×Unit)) :=
 if 0≤(tlI y0.stack)∧(tlI y0.stack)≤((y0.stack.length:Nat):Int) then
 if (((y0.stack.take ((tlI y0.stack):Int).toNat).length:Nat):Int)=0 then
 (abx y0.o 0 0).bind fun r1 =>
 some ((r1.1.1,()),(({ y0 with o:=r1.2.1,stack:=y0.stack.take ((tlI y0.stack):Int).toNat }:(RunV MV)),()))
 else
 (aac ({ y0 with stack:=y0.stack.take ((tlI y0.stack):Int).toNat }:(RunV MV)) 0 MV.nil).bind fun r2 =>
 some ((r2.1.1,()),(r2.2.1,()))
 else none
noncomputable abbrev agS:Con SR1:=⟨175,[.ref 33],[.sh .b],fun x =>aaE x.1⟩
theorem aiL:CO Tryz.prog agS:=aal aai Tryz.func175 [ada,aeb] ⟨abV,aen,trivial⟩
noncomputable def ahI (y0:(RunV MV)) (y1:EnvP):Option ((Bool×Unit)×((RunV MV)×EnvP×Unit)) :=
 gL y1.l (
 if y0.line=9 then
 if 0≤(tlI y0.stack)∧(tlI y0.stack)<((y0.stack.length:Nat):Int) then
 if 0≤tpI y0.stack∧tpI y0.stack<((y1.recs.length:Nat):Int) then
 if 0≤(tlI y0.stack)∧(tlI y0.stack)<((y0.stack.length:Nat):Int) then
 if 0≤tpI y0.stack∧tpI y0.stack<((y1.recs.length:Nat):Int) then
 if (tpI y0.stack)=(tpI y0.stack) then
 if ((aab y1.recs (tpI y0.stack)).prog)<0 then
 if 0≤(tlI y0.stack)∧(tlI y0.stack)<((y0.stack.length:Nat):Int) then
 if 0≤tpI y0.stack∧tpI y0.stack<((y1.recs.length:Nat):Int) then
 if (tpI y0.stack)=(tpI y0.stack) then
 none
 else none
 else none
 else none
 else
 if ((y1.c.progs.length:Nat):Int)≤((aab y1.recs (tpI y0.stack)).prog) then
 if 0≤(tlI y0.stack)∧(tlI y0.stack)<((y0.stack.length:Nat):Int) then
 if 0≤tpI y0.stack∧tpI y0.stack<((y1.recs.length:Nat):Int) then
 if (tpI y0.stack)=(tpI y0.stack) then
 none
 else none
 else none
 else none
 else
 if 0≤(aab y1.recs (tpI y0.stack)).prog∧(aab y1.recs (tpI y0.stack)).prog<((y1.c.progs.length:Nat):Int) then
 if 0≤(tlI y0.stack)∧(tlI y0.stack)<((y0.stack.length:Nat):Int) then
 if 0≤tpI y0.stack∧tpI y0.stack<((y1.recs.length:Nat):Int) then
 if (tpI y0.stack)=(tpI y0.stack) then
 if 0≤(aab y1.recs (tpI y0.stack)).pc∧(aab y1.recs (tpI y0.stack)).pc<(((atL [] y1.c.progs ((aab y1.recs (tpI y0.stack)).prog)).length:Nat):Int) then
 if 0≤(acB (atL [] y1.c.progs ((aab y1.recs (tpI y0.stack)).prog)) ((aab y1.recs (tpI y0.stack)).pc)).a∧(acB (atL [] y1.c.progs ((aab y1.recs (tpI y0.stack)).prog)) ((aab y1.recs (tpI y0.stack)).pc)).a<((((aab y1.recs (tpI y0.stack)).kids).length:Nat):Int) then
 (amV y1.l (tpI y0.stack)).bind fun r26 =>
 if (acg ((aab y1.recs (tpI y0.stack)).kids) ((acB (atL [] y1.c.progs ((aab y1.recs (tpI y0.stack)).prog)) ((aab y1.recs (tpI y0.stack)).pc)).a))=(acg ((aab y1.recs (tpI y0.stack)).kids) ((acB (atL [] y1.c.progs ((aab y1.recs (tpI y0.stack)).prog)) ((aab y1.recs (tpI y0.stack)).pc)).a)) then
 (abH y1.m r26.1.1 (wu (wi ((acg ((aab y1.recs (tpI y0.stack)).kids) ((acB (atL [] y1.c.progs ((aab y1.recs (tpI y0.stack)).prog)) ((aab y1.recs (tpI y0.stack)).pc)).a))+1)))).bind fun r27 =>
 (aac ({ y0 with child:=acg ((aab y1.recs (tpI y0.stack)).kids) ((acB (atL [] y1.c.progs ((aab y1.recs (tpI y0.stack)).prog)) ((aab y1.recs (tpI y0.stack)).pc)).a) }:(RunV MV)) (wi (y0.line+1)) MV.nil).bind fun r28 =>
 some ((r28.1.1,()),(r28.2.1,({ y1 with m:=r27.2.1,recs:=((y1.recs.set (tpI y0.stack).toNat (aab y1.recs (tpI y0.stack))).set (tpI y0.stack).toNat ({ aab (y1.recs.set (tpI y0.stack).toNat (aab y1.recs (tpI y0.stack))) (tpI y0.stack) with pc:=wi (((aab (y1.recs.set (tpI y0.stack).toNat (aab y1.recs (tpI y0.stack))) (tpI y0.stack)).pc)+1) }:RecP)).set (tpI y0.stack).toNat ({ aab ((y1.recs.set (tpI y0.stack).toNat (aab y1.recs (tpI y0.stack))).set (tpI y0.stack).toNat ({ aab (y1.recs.set (tpI y0.stack).toNat (aab y1.recs (tpI y0.stack))) (tpI y0.stack) with pc:=wi (((aab (y1.recs.set (tpI y0.stack).toNat (aab y1.recs (tpI y0.stack))) (tpI y0.stack)).pc)+1) }:RecP)) (tpI y0.stack) with waiting:=acg ((aab y1.recs (tpI y0.stack)).kids) ((acB (atL [] y1.c.progs ((aab y1.recs (tpI y0.stack)).prog)) ((aab y1.recs (tpI y0.stack)).pc)).a) }:RecP) }:EnvP),()))
 else none
 else none
 else none
 else none
 else none
 else none
 else none
 else none
 else none
 else none
 else none
 else none
 else
 if y0.line=10 then
 (ag9 y1.l (tpI y0.stack)).bind fun r29 =>
 (abH y1.m r29.1.1 3).bind fun r30 =>
 (aac y0 (wi (y0.line+1)) MV.nil).bind fun r31 =>
 some ((r31.1.1,()),(r31.2.1,({ y1 with m:=r30.2.1 }:EnvP),()))
 else
 if y0.line=11 then
 (atc y1.l y0.child).bind fun r32 =>
 (awc y1.m r32.1.1 0 (wu (wi ((tpI y0.stack)+1)))).bind fun r33 =>
 if (!r33.1.1)=true then
 (aac y0 14 MV.nil).bind fun r34 =>
 some ((r34.1.1,()),(r34.2.1,({ y1 with m:=r33.2.1 }:EnvP),()))
 else
 (aaT y0 ({ y1 with m:=r33.2.1 }:EnvP) (⟨6,0,tpI y0.stack,y0.child,0⟩:Ev)).bind fun r35 =>
 (aac r35.2.1 (wi (r35.2.1.line+1)) MV.nil).bind fun r36 =>
 some ((r36.1.1,()),(r36.2.1,r35.2.2.1,()))
 else
 if y0.line=12 then
 (aha y1.l (tpI y0.stack)).bind fun r37 =>
 (adm y1.m r37.1.1).bind fun r38 =>
 (anE y0.worker y0.child (wi (r38.1.1))).bind fun r39 =>
 (aac ({ y0 with level:=wi (r38.1.1) }:(RunV MV)) 13 r39.1.1).bind fun r40 =>
 some ((r40.1.1,()),(r40.2.1,({ y1 with m:=r38.2.1 }:EnvP),()))
 else
 if y0.line=13 then
 (agz y0.inside y1).bind fun r41 =>
 if (!r41.1.1)=true then
 some ((false,()),(({ y0 with inside:=r41.2.1 }:(RunV MV)),r41.2.2.1,()))
 else
 (aaT ({ y0 with inside:=r41.2.1 }:(RunV MV)) r41.2.2.1 (⟨7,0,tpI y0.stack,0,y0.level⟩:Ev)).bind fun r42 =>
 (aaE r42.2.1).bind fun r43 =>
 some ((r43.1.1,()),(r43.2.1,r42.2.2.1,()))
 else
 if y0.line=14 then
 (ag9 y1.l (tpI y0.stack)).bind fun r44 =>
 (abH y1.m r44.1.1 2).bind fun r45 =>
 (aac y0 (wi (y0.line+1)) MV.nil).bind fun r46 =>
 some ((r46.1.1,()),(r46.2.1,({ y1 with m:=r45.2.1 }:EnvP),()))
 else
 (amV y1.l (tpI y0.stack)).bind fun r47 =>
 (abH y1.m r47.1.1 0).bind fun r48 =>
 if 0≤(tlI y0.stack)∧(tlI y0.stack)<((y0.stack.length:Nat):Int) then
 if 0≤tpI y0.stack∧tpI y0.stack<((y1.recs.length:Nat):Int) then
 (aaT y0 ({ y1 with m:=r48.2.1,recs:=y1.recs.set (tpI y0.stack).toNat ({ aab y1.recs (tpI y0.stack) with waiting:=(-1) }:RecP) }:EnvP) (⟨8,0,tpI y0.stack,y0.child,0⟩:Ev)).bind fun r49 =>
 (aac r49.2.1 0 MV.nil).bind fun r50 =>
 some ((r50.1.1,()),(r50.2.1,r49.2.2.1,()))
 else none
 else none
 )
noncomputable def ahJ (y0:(RunV MV)) (y1:EnvP):Option ((Bool×Unit)×((RunV MV)×EnvP×Unit)) :=
 agr (
 if 0≤(tlI y0.stack)∧(tlI y0.stack)<((y0.stack.length:Nat):Int) then
 gL y1.l (
 ahI y0 y1
 )
 else none
 ) (
 gL y1.l (
 if 0≤(tlI y0.stack)∧(tlI y0.stack)<((y0.stack.length:Nat):Int) then
 ahI y0 y1
 else none
 )
 )
noncomputable abbrev aiM:Con SR1:=⟨162,[.ref 33,.ref 27],[.sh .b],fun x =>ahJ x.1 x.2.1⟩
noncomputable def amG:List (Nat×Func):=[(158,Tryz.f158),(164,Tryz.f164),(167,Tryz.f167),(165,Tryz.f165)]
theorem amH:CO Tryz.prog aiM:=agL aai Tryz.func162 [apU,aev,aeb,ahj,awL,am0,aeC,ahk,ac9,arB,apO,agS] ⟨aqH,adT,aen,agA,aym,akz,ae8,agB,ach,avZ,aqn,aiL,trivial⟩ amG ⟨Tryz.func158,Tryz.func164,Tryz.func167,Tryz.func165,trivial⟩ (fun _ =>[]) [] fun x =>by kernel_rfl
noncomputable def aaL (y0:(RunV MV)) (y1:EnvP):Option ((Bool×Unit)×((RunV MV)×EnvP×Unit)) :=
 if 0≤(tlI y0.stack)∧(tlI y0.stack)<((y0.stack.length:Nat):Int) then
 if y0.line=9 then
 if 0≤(tlI y0.stack)∧(tlI y0.stack)<((y0.stack.length:Nat):Int) then
 if 0≤tpI y0.stack∧tpI y0.stack<((y1.recs.length:Nat):Int) then
 if 0≤(tlI y0.stack)∧(tlI y0.stack)<((y0.stack.length:Nat):Int) then
 if 0≤tpI y0.stack∧tpI y0.stack<((y1.recs.length:Nat):Int) then
 if ((aab y1.recs (tpI y0.stack)).prog)<0 then
 if 0≤(tlI y0.stack)∧(tlI y0.stack)<((y0.stack.length:Nat):Int) then
 if 0≤tpI y0.stack∧tpI y0.stack<((y1.recs.length:Nat):Int) then
 none
 else none
 else none
 else
 if ((y1.c.progs.length:Nat):Int)≤((aab y1.recs (tpI y0.stack)).prog) then
 if 0≤(tlI y0.stack)∧(tlI y0.stack)<((y0.stack.length:Nat):Int) then
 if 0≤tpI y0.stack∧tpI y0.stack<((y1.recs.length:Nat):Int) then
 none
 else none
 else none
 else
 if 0≤(aab y1.recs (tpI y0.stack)).prog∧(aab y1.recs (tpI y0.stack)).prog<((y1.c.progs.length:Nat):Int) then
 if 0≤(tlI y0.stack)∧(tlI y0.stack)<((y0.stack.length:Nat):Int) then
 if 0≤tpI y0.stack∧tpI y0.stack<((y1.recs.length:Nat):Int) then
 if 0≤(aab y1.recs (tpI y0.stack)).pc∧(aab y1.recs (tpI y0.stack)).pc<(((atL [] y1.c.progs ((aab y1.recs (tpI y0.stack)).prog)).length:Nat):Int) then
 if 0≤(acB (atL [] y1.c.progs ((aab y1.recs (tpI y0.stack)).prog)) ((aab y1.recs (tpI y0.stack)).pc)).a∧(acB (atL [] y1.c.progs ((aab y1.recs (tpI y0.stack)).prog)) ((aab y1.recs (tpI y0.stack)).pc)).a<((((aab y1.recs (tpI y0.stack)).kids).length:Nat):Int) then
 (amV y1.l (tpI y0.stack)).bind fun r1 =>
 (abH y1.m r1.1.1 (wu (wi ((acg ((aab y1.recs (tpI y0.stack)).kids) ((acB (atL [] y1.c.progs ((aab y1.recs (tpI y0.stack)).prog)) ((aab y1.recs (tpI y0.stack)).pc)).a))+1)))).bind fun r2 =>
 (aac ({ y0 with child:=acg ((aab y1.recs (tpI y0.stack)).kids) ((acB (atL [] y1.c.progs ((aab y1.recs (tpI y0.stack)).prog)) ((aab y1.recs (tpI y0.stack)).pc)).a) }:(RunV MV)) (wi (y0.line+1)) MV.nil).bind fun r3 =>
 some ((r3.1.1,()),(r3.2.1,({ y1 with m:=r2.2.1,recs:=((y1.recs.set (tpI y0.stack).toNat (aab y1.recs (tpI y0.stack))).set (tpI y0.stack).toNat ({ aab (y1.recs.set (tpI y0.stack).toNat (aab y1.recs (tpI y0.stack))) (tpI y0.stack) with pc:=wi (((aab (y1.recs.set (tpI y0.stack).toNat (aab y1.recs (tpI y0.stack))) (tpI y0.stack)).pc)+1) }:RecP)).set (tpI y0.stack).toNat ({ aab ((y1.recs.set (tpI y0.stack).toNat (aab y1.recs (tpI y0.stack))).set (tpI y0.stack).toNat ({ aab (y1.recs.set (tpI y0.stack).toNat (aab y1.recs (tpI y0.stack))) (tpI y0.stack) with pc:=wi (((aab (y1.recs.set (tpI y0.stack).toNat (aab y1.recs (tpI y0.stack))) (tpI y0.stack)).pc)+1) }:RecP)) (tpI y0.stack) with waiting:=acg ((aab y1.recs (tpI y0.stack)).kids) ((acB (atL [] y1.c.progs ((aab y1.recs (tpI y0.stack)).prog)) ((aab y1.recs (tpI y0.stack)).pc)).a) }:RecP) }:EnvP),()))
 else none
 else none
 else none
 else none
 else none
 else none
 else none
 else none
 else none
 else
 if y0.line=10 then
 (ag9 y1.l (tpI y0.stack)).bind fun r4 =>
 (abH y1.m r4.1.1 3).bind fun r5 =>
 (aac y0 (wi (y0.line+1)) MV.nil).bind fun r6 =>
 some ((r6.1.1,()),(r6.2.1,({ y1 with m:=r5.2.1 }:EnvP),()))
 else
 if y0.line=11 then
 (atc y1.l y0.child).bind fun r7 =>
 (awc y1.m r7.1.1 0 (wu (wi ((tpI y0.stack)+1)))).bind fun r8 =>
 if (!r8.1.1)=true then
 (aac y0 14 MV.nil).bind fun r9 =>
 some ((r9.1.1,()),(r9.2.1,({ y1 with m:=r8.2.1 }:EnvP),()))
 else
 (aaT y0 ({ y1 with m:=r8.2.1 }:EnvP) (⟨6,0,tpI y0.stack,y0.child,0⟩:Ev)).bind fun r10 =>
 (aac r10.2.1 (wi (r10.2.1.line+1)) MV.nil).bind fun r11 =>
 some ((r11.1.1,()),(r11.2.1,r10.2.2.1,()))
 else
 if y0.line=12 then
 (aha y1.l (tpI y0.stack)).bind fun r12 =>
 (adm y1.m r12.1.1).bind fun r13 =>
 (anE y0.worker y0.child (wi (r13.1.1))).bind fun r14 =>
 (aac ({ y0 with level:=wi (r13.1.1) }:(RunV MV)) 13 r14.1.1).bind fun r15 =>
 some ((r15.1.1,()),(r15.2.1,({ y1 with m:=r13.2.1 }:EnvP),()))
 else
 if y0.line=13 then
 (agz y0.inside y1).bind fun r16 =>
 if (!r16.1.1)=true then
 some ((false,()),(({ y0 with inside:=r16.2.1 }:(RunV MV)),r16.2.2.1,()))
 else
 (aaT ({ y0 with inside:=r16.2.1 }:(RunV MV)) r16.2.2.1 (⟨7,0,tpI y0.stack,0,y0.level⟩:Ev)).bind fun r17 =>
 (aaE r17.2.1).bind fun r18 =>
 some ((r18.1.1,()),(r18.2.1,r17.2.2.1,()))
 else
 if y0.line=14 then
 (ag9 y1.l (tpI y0.stack)).bind fun r19 =>
 (abH y1.m r19.1.1 2).bind fun r20 =>
 (aac y0 (wi (y0.line+1)) MV.nil).bind fun r21 =>
 some ((r21.1.1,()),(r21.2.1,({ y1 with m:=r20.2.1 }:EnvP),()))
 else
 (amV y1.l (tpI y0.stack)).bind fun r22 =>
 (abH y1.m r22.1.1 0).bind fun r23 =>
 if 0≤(tlI y0.stack)∧(tlI y0.stack)<((y0.stack.length:Nat):Int) then
 if 0≤tpI y0.stack∧tpI y0.stack<((y1.recs.length:Nat):Int) then
 (aaT y0 ({ y1 with m:=r23.2.1,recs:=y1.recs.set (tpI y0.stack).toNat ({ aab y1.recs (tpI y0.stack) with waiting:=(-1) }:RecP) }:EnvP) (⟨8,0,tpI y0.stack,y0.child,0⟩:Ev)).bind fun r24 =>
 (aac r24.2.1 0 MV.nil).bind fun r25 =>
 some ((r25.1.1,()),(r25.2.1,r24.2.2.1,()))
 else none
 else none
 else none
noncomputable abbrev akm:Con SR1:=⟨162,[.ref 33,.ref 27],[.sh .b],fun x =>aaL x.1 x.2.1⟩
theorem apo (y0:(RunV MV)) (y1:EnvP):ahJ y0 y1=aaL y0 y1:=by
 unfold ahJ ahI aaL
 simp only [arS,if_true,aqa,aoB]
theorem apn:CO Tryz.prog akm:=aE2 amH fun x out hx =>(show aiM.spec x=some out from (apo x.1 x.2.1).trans hx)
noncomputable def ak0 (y0:Int) (y1:Int):Option ((MV×Unit)×(Unit)) :=
 some ((MV.enter (⟨⟨false,0,0⟩,y0,y1,0,1,MV.nil⟩:(EnterV MV)),()),())
noncomputable abbrev aoQ:Con SR1:=⟨176,[.sh sI_,.sh sI_],[.sh .mach],fun x =>ak0 x.1 x.2.1⟩
theorem asN:CO Tryz.prog aoQ:=aal aai Tryz.func176 [] trivial
noncomputable def af7 (y0:(RunV MV)) (y1:EnvP):Option ((Bool×Unit)×((RunV MV)×EnvP×Unit)) :=
 gL y1.l (
 if y0.line=16 then
 (ag9 y1.l (tpI y0.stack)).bind fun r29 =>
 (abH y1.m r29.1.1 4).bind fun r30 =>
 (aac y0 17 MV.nil).bind fun r31 =>
 some ((r31.1.1,()),(r31.2.1,({ y1 with m:=r30.2.1 }:EnvP),()))
 else
 if y0.line=17 then
 (atc y1.l (tpI y0.stack)).bind fun r32 =>
 (awc y1.m r32.1.1 0 4294967296).bind fun r33 =>
 (aaT y0 ({ y1 with m:=r33.2.1 }:EnvP) (⟨10,0,tpI y0.stack,0,0⟩:Ev)).bind fun r34 =>
 if r33.1.1=true then
 (aaE r34.2.1).bind fun r35 =>
 some ((r35.1.1,()),(r35.2.1,r34.2.2.1,()))
 else
 (aac r34.2.1 18 MV.nil).bind fun r36 =>
 some ((r36.1.1,()),(r36.2.1,r34.2.2.1,()))
 else
 if y0.line=18 then
 (atc y1.l (tpI y0.stack)).bind fun r37 =>
 (adm y1.m r37.1.1).bind fun r38 =>
 if (wi ((wi (r38.1.1))-1))<0 then
 (aaE ({ y0 with waiter:=wi ((wi (r38.1.1))-1) }:(RunV MV))).bind fun r39 =>
 some ((r39.1.1,()),(r39.2.1,({ y1 with m:=r38.2.1 }:EnvP),()))
 else
 if y1.c.tasks≤(wi ((wi (r38.1.1))-1)) then
 (aaE ({ y0 with waiter:=wi ((wi (r38.1.1))-1) }:(RunV MV))).bind fun r40 =>
 some ((r40.1.1,()),(r40.2.1,({ y1 with m:=r38.2.1 }:EnvP),()))
 else
 (ak0 y0.worker (wi ((wi (r38.1.1))-1))).bind fun r41 =>
 (aac ({ y0 with waiter:=wi ((wi (r38.1.1))-1) }:(RunV MV)) 19 r41.1.1).bind fun r42 =>
 some ((r42.1.1,()),(r42.2.1,({ y1 with m:=r38.2.1 }:EnvP),()))
 else
 (agz y0.inside y1).bind fun r43 =>
 if (!r43.1.1)=true then
 some ((false,()),(({ y0 with inside:=r43.2.1 }:(RunV MV)),r43.2.2.1,()))
 else
 (aet r43.2.1).bind fun r44 =>
 if y0.line=19 then
 if r44.1.1=3 then
 (ado y0.worker y0.waiter).bind fun r45 =>
 (aac ({ y0 with inside:=r44.2.1 }:(RunV MV)) 21 r45.1.1).bind fun r46 =>
 some ((r46.1.1,()),(r46.2.1,r43.2.2.1,()))
 else
 if y0.line=19 then
 (aed y0.worker r44.1.2.1).bind fun r47 =>
 (aac ({ y0 with inside:=r44.2.1 }:(RunV MV)) 20 r47.1.1).bind fun r48 =>
 some ((r48.1.1,()),(r48.2.1,r43.2.2.1,()))
 else
 if y0.line=21 then
 if r44.1.1=1 then
 if 0≤(tlI y0.stack)∧(tlI y0.stack)<((y0.stack.length:Nat):Int) then
 (aac ({ y0 with stack:=y0.stack.set (tlI y0.stack).toNat y0.waiter,inside:=r44.2.1 }:(RunV MV)) 0 MV.nil).bind fun r49 =>
 some ((r49.1.1,()),(r49.2.1,r43.2.2.1,()))
 else none
 else
 (aaE ({ y0 with inside:=r44.2.1 }:(RunV MV))).bind fun r50 =>
 some ((r50.1.1,()),(r50.2.1,r43.2.2.1,()))
 else
 (aaE ({ y0 with inside:=r44.2.1 }:(RunV MV))).bind fun r51 =>
 some ((r51.1.1,()),(r51.2.1,r43.2.2.1,()))
 else
 if y0.line=19 then
 (aed y0.worker r44.1.2.1).bind fun r52 =>
 (aac ({ y0 with inside:=r44.2.1 }:(RunV MV)) 20 r52.1.1).bind fun r53 =>
 some ((r53.1.1,()),(r53.2.1,r43.2.2.1,()))
 else
 if y0.line=21 then
 if r44.1.1=1 then
 if 0≤(tlI y0.stack)∧(tlI y0.stack)<((y0.stack.length:Nat):Int) then
 (aac ({ y0 with stack:=y0.stack.set (tlI y0.stack).toNat y0.waiter,inside:=r44.2.1 }:(RunV MV)) 0 MV.nil).bind fun r54 =>
 some ((r54.1.1,()),(r54.2.1,r43.2.2.1,()))
 else none
 else
 (aaE ({ y0 with inside:=r44.2.1 }:(RunV MV))).bind fun r55 =>
 some ((r55.1.1,()),(r55.2.1,r43.2.2.1,()))
 else
 (aaE ({ y0 with inside:=r44.2.1 }:(RunV MV))).bind fun r56 =>
 some ((r56.1.1,()),(r56.2.1,r43.2.2.1,()))
 )
noncomputable def af8 (y0:(RunV MV)) (y1:EnvP):Option ((Bool×Unit)×((RunV MV)×EnvP×Unit)) :=
 agr (
 if 0≤(tlI y0.stack)∧(tlI y0.stack)<((y0.stack.length:Nat):Int) then
 gL y1.l (
 af7 y0 y1
 )
 else none
 ) (
 gL y1.l (
 if 0≤(tlI y0.stack)∧(tlI y0.stack)<((y0.stack.length:Nat):Int) then
 af7 y0 y1
 else none
 )
 )
noncomputable abbrev ahK:Con SR1:=⟨163,[.ref 33,.ref 27],[.sh .b],fun x =>af8 x.1 x.2.1⟩
noncomputable def als:List (Nat×Func):=[(158,Tryz.f158)]
theorem alt:CO Tryz.prog ahK:=agL aai Tryz.func163 [ahj,aev,aeb,awL,am0,aeC,agS,ac9,aoQ,apO,anY,agy,aiS] ⟨agA,adT,aen,aym,akz,ae8,aiL,ach,asN,aqn,aqy,ahf,ajn,trivial⟩ als ⟨Tryz.func158,trivial⟩ (fun _ =>[]) [] fun x =>by kernel_rfl
noncomputable def aar (y0:(RunV MV)) (y1:EnvP):Option ((Bool×Unit)×((RunV MV)×EnvP×Unit)) :=
 if 0≤(tlI y0.stack)∧(tlI y0.stack)<((y0.stack.length:Nat):Int) then
 if y0.line=16 then
 (ag9 y1.l (tpI y0.stack)).bind fun r1 =>
 (abH y1.m r1.1.1 4).bind fun r2 =>
 (aac y0 17 MV.nil).bind fun r3 =>
 some ((r3.1.1,()),(r3.2.1,({ y1 with m:=r2.2.1 }:EnvP),()))
 else
 if y0.line=17 then
 (atc y1.l (tpI y0.stack)).bind fun r4 =>
 (awc y1.m r4.1.1 0 4294967296).bind fun r5 =>
 (aaT y0 ({ y1 with m:=r5.2.1 }:EnvP) (⟨10,0,tpI y0.stack,0,0⟩:Ev)).bind fun r6 =>
 if r5.1.1=true then
 (aaE r6.2.1).bind fun r7 =>
 some ((r7.1.1,()),(r7.2.1,r6.2.2.1,()))
 else
 (aac r6.2.1 18 MV.nil).bind fun r8 =>
 some ((r8.1.1,()),(r8.2.1,r6.2.2.1,()))
 else
 if y0.line=18 then
 (atc y1.l (tpI y0.stack)).bind fun r9 =>
 (adm y1.m r9.1.1).bind fun r10 =>
 if (wi ((wi (r10.1.1))-1))<0 then
 (aaE ({ y0 with waiter:=wi ((wi (r10.1.1))-1) }:(RunV MV))).bind fun r11 =>
 some ((r11.1.1,()),(r11.2.1,({ y1 with m:=r10.2.1 }:EnvP),()))
 else
 if y1.c.tasks≤(wi ((wi (r10.1.1))-1)) then
 (aaE ({ y0 with waiter:=wi ((wi (r10.1.1))-1) }:(RunV MV))).bind fun r12 =>
 some ((r12.1.1,()),(r12.2.1,({ y1 with m:=r10.2.1 }:EnvP),()))
 else
 (ak0 y0.worker (wi ((wi (r10.1.1))-1))).bind fun r13 =>
 (aac ({ y0 with waiter:=wi ((wi (r10.1.1))-1) }:(RunV MV)) 19 r13.1.1).bind fun r14 =>
 some ((r14.1.1,()),(r14.2.1,({ y1 with m:=r10.2.1 }:EnvP),()))
 else
 (agz y0.inside y1).bind fun r15 =>
 if (!r15.1.1)=true then
 some ((false,()),(({ y0 with inside:=r15.2.1 }:(RunV MV)),r15.2.2.1,()))
 else
 (aet r15.2.1).bind fun r16 =>
 if y0.line=19 then
 if r16.1.1=3 then
 (ado y0.worker y0.waiter).bind fun r17 =>
 (aac ({ y0 with inside:=r16.2.1 }:(RunV MV)) 21 r17.1.1).bind fun r18 =>
 some ((r18.1.1,()),(r18.2.1,r15.2.2.1,()))
 else
 if y0.line=19 then
 (aed y0.worker r16.1.2.1).bind fun r19 =>
 (aac ({ y0 with inside:=r16.2.1 }:(RunV MV)) 20 r19.1.1).bind fun r20 =>
 some ((r20.1.1,()),(r20.2.1,r15.2.2.1,()))
 else
 if y0.line=21 then
 if r16.1.1=1 then
 if 0≤(tlI y0.stack)∧(tlI y0.stack)<((y0.stack.length:Nat):Int) then
 (aac ({ y0 with stack:=y0.stack.set (tlI y0.stack).toNat y0.waiter,inside:=r16.2.1 }:(RunV MV)) 0 MV.nil).bind fun r21 =>
 some ((r21.1.1,()),(r21.2.1,r15.2.2.1,()))
 else none
 else
 (aaE ({ y0 with inside:=r16.2.1 }:(RunV MV))).bind fun r22 =>
 some ((r22.1.1,()),(r22.2.1,r15.2.2.1,()))
 else
 (aaE ({ y0 with inside:=r16.2.1 }:(RunV MV))).bind fun r23 =>
 some ((r23.1.1,()),(r23.2.1,r15.2.2.1,()))
 else
 if y0.line=19 then
 (aed y0.worker r16.1.2.1).bind fun r24 =>
 (aac ({ y0 with inside:=r16.2.1 }:(RunV MV)) 20 r24.1.1).bind fun r25 =>
 some ((r25.1.1,()),(r25.2.1,r15.2.2.1,()))
 else
 if y0.line=21 then
 if r16.1.1=1 then
 if 0≤(tlI y0.stack)∧(tlI y0.stack)<((y0.stack.length:Nat):Int) then
 (aac ({ y0 with stack:=y0.stack.set (tlI y0.stack).toNat y0.waiter,inside:=r16.2.1 }:(RunV MV)) 0 MV.nil).bind fun r26 =>
 some ((r26.1.1,()),(r26.2.1,r15.2.2.1,()))
 else none
 else
 (aaE ({ y0 with inside:=r16.2.1 }:(RunV MV))).bind fun r27 =>
 some ((r27.1.1,()),(r27.2.1,r15.2.2.1,()))
 else
 (aaE ({ y0 with inside:=r16.2.1 }:(RunV MV))).bind fun r28 =>
 some ((r28.1.1,()),(r28.2.1,r15.2.2.1,()))
 else none
noncomputable abbrev aiN:Con SR1:=⟨163,[.ref 33,.ref 27],[.sh .b],fun x =>aar x.1 x.2.1⟩
theorem amJ (y0:(RunV MV)) (y1:EnvP):af8 y0 y1=aar y0 y1:=by
 unfold af8 af7 aar
 simp only [arS,if_true,aqa,aoB]
theorem amI:CO Tryz.prog aiN:=aE2 alt fun x out hx =>(show ahK.spec x=some out from (amJ x.1 x.2.1).trans hx)
noncomputable def abD (y0:(RunV MV)) (y1:EnvP):Option ((Bool×Unit)×((RunV MV)×EnvP×Unit)) :=
 (aaw y0.o).bind fun r1 =>
 if r1.1.1=true then
 some ((true,()),(({ y0 with o:=r1.2.1 }:(RunV MV)),y1,()))
 else
 if 0≤(tlI y0.stack)∧(tlI y0.stack)<((y0.stack.length:Nat):Int) then
 if (tpI y0.stack)<0 then
 (abx r1.2.1 4 0).bind fun r2 =>
 some ((r2.1.1,()),(({ y0 with o:=r2.2.1 }:(RunV MV)),y1,()))
 else
 if y1.c.tasks≤(tpI y0.stack) then
 (abx r1.2.1 4 0).bind fun r3 =>
 some ((r3.1.1,()),(({ y0 with o:=r3.2.1 }:(RunV MV)),y1,()))
 else
 if ((y1.recs.length:Nat):Int)≤(tpI y0.stack) then
 (abx r1.2.1 4 0).bind fun r4 =>
 some ((r4.1.1,()),(({ y0 with o:=r4.2.1 }:(RunV MV)),y1,()))
 else
 if y0.line=0 then
 (afN ({ y0 with o:=r1.2.1 }:(RunV MV)) y1).bind fun r5 =>
 if r5.1.1=4 then
 (afK).bind fun r6 =>
 if r5.1.1=1 then
 (aaH ({ r5.2.1 with line:=r5.1.1,inside:=r6.1.1 }:(RunV MV)) r5.2.2.1).bind fun r7 =>
 some ((r7.1.1,()),(r7.2.1,r7.2.2.1,()))
 else
 if r5.1.1=2 then
 (aaH ({ r5.2.1 with line:=r5.1.1,inside:=r6.1.1 }:(RunV MV)) r5.2.2.1).bind fun r8 =>
 some ((r8.1.1,()),(r8.2.1,r8.2.2.1,()))
 else
 if r5.1.1=3 then
 (aaH ({ r5.2.1 with line:=r5.1.1,inside:=r6.1.1 }:(RunV MV)) r5.2.2.1).bind fun r9 =>
 some ((r9.1.1,()),(r9.2.1,r9.2.2.1,()))
 else
 if 4≤r5.1.1 then
 if r5.1.1≤8 then
 (abA ({ r5.2.1 with line:=r5.1.1,inside:=r6.1.1 }:(RunV MV)) r5.2.2.1).bind fun r10 =>
 some ((r10.1.1,()),(r10.2.1,r10.2.2.1,()))
 else
 if 9≤r5.1.1 then
 if r5.1.1≤15 then
 (aaL ({ r5.2.1 with line:=r5.1.1,inside:=r6.1.1 }:(RunV MV)) r5.2.2.1).bind fun r11 =>
 some ((r11.1.1,()),(r11.2.1,r11.2.2.1,()))
 else
 (aar ({ r5.2.1 with line:=r5.1.1,inside:=r6.1.1 }:(RunV MV)) r5.2.2.1).bind fun r12 =>
 some ((r12.1.1,()),(r12.2.1,r12.2.2.1,()))
 else
 (aar ({ r5.2.1 with line:=r5.1.1,inside:=r6.1.1 }:(RunV MV)) r5.2.2.1).bind fun r13 =>
 some ((r13.1.1,()),(r13.2.1,r13.2.2.1,()))
 else
 if 9≤r5.1.1 then
 if r5.1.1≤15 then
 (aaL ({ r5.2.1 with line:=r5.1.1,inside:=r6.1.1 }:(RunV MV)) r5.2.2.1).bind fun r14 =>
 some ((r14.1.1,()),(r14.2.1,r14.2.2.1,()))
 else
 (aar ({ r5.2.1 with line:=r5.1.1,inside:=r6.1.1 }:(RunV MV)) r5.2.2.1).bind fun r15 =>
 some ((r15.1.1,()),(r15.2.1,r15.2.2.1,()))
 else
 (aar ({ r5.2.1 with line:=r5.1.1,inside:=r6.1.1 }:(RunV MV)) r5.2.2.1).bind fun r16 =>
 some ((r16.1.1,()),(r16.2.1,r16.2.2.1,()))
 else
 if r5.1.1=1 then
 (aaH ({ r5.2.1 with line:=r5.1.1 }:(RunV MV)) r5.2.2.1).bind fun r17 =>
 some ((r17.1.1,()),(r17.2.1,r17.2.2.1,()))
 else
 if r5.1.1=2 then
 (aaH ({ r5.2.1 with line:=r5.1.1 }:(RunV MV)) r5.2.2.1).bind fun r18 =>
 some ((r18.1.1,()),(r18.2.1,r18.2.2.1,()))
 else
 if r5.1.1=3 then
 (aaH ({ r5.2.1 with line:=r5.1.1 }:(RunV MV)) r5.2.2.1).bind fun r19 =>
 some ((r19.1.1,()),(r19.2.1,r19.2.2.1,()))
 else
 if 4≤r5.1.1 then
 if r5.1.1≤8 then
 (abA ({ r5.2.1 with line:=r5.1.1 }:(RunV MV)) r5.2.2.1).bind fun r20 =>
 some ((r20.1.1,()),(r20.2.1,r20.2.2.1,()))
 else
 if 9≤r5.1.1 then
 if r5.1.1≤15 then
 (aaL ({ r5.2.1 with line:=r5.1.1 }:(RunV MV)) r5.2.2.1).bind fun r21 =>
 some ((r21.1.1,()),(r21.2.1,r21.2.2.1,()))
 else
 (aar ({ r5.2.1 with line:=r5.1.1 }:(RunV MV)) r5.2.2.1).bind fun r22 =>
 some ((r22.1.1,()),(r22.2.1,r22.2.2.1,()))
 else
 (aar ({ r5.2.1 with line:=r5.1.1 }:(RunV MV)) r5.2.2.1).bind fun r23 =>
 some ((r23.1.1,()),(r23.2.1,r23.2.2.1,()))
 else
 if 9≤r5.1.1 then
 if r5.1.1≤15 then
 (aaL ({ r5.2.1 with line:=r5.1.1 }:(RunV MV)) r5.2.2.1).bind fun r24 =>
 some ((r24.1.1,()),(r24.2.1,r24.2.2.1,()))
 else
 (aar ({ r5.2.1 with line:=r5.1.1 }:(RunV MV)) r5.2.2.1).bind fun r25 =>
 some ((r25.1.1,()),(r25.2.1,r25.2.2.1,()))
 else
 (aar ({ r5.2.1 with line:=r5.1.1 }:(RunV MV)) r5.2.2.1).bind fun r26 =>
 some ((r26.1.1,()),(r26.2.1,r26.2.2.1,()))
 else
 if y0.line=1 then
 (aaH ({ y0 with o:=r1.2.1 }:(RunV MV)) y1).bind fun r27 =>
 some ((r27.1.1,()),(r27.2.1,r27.2.2.1,()))
 else
 if y0.line=2 then
 (aaH ({ y0 with o:=r1.2.1 }:(RunV MV)) y1).bind fun r28 =>
 some ((r28.1.1,()),(r28.2.1,r28.2.2.1,()))
 else
 if y0.line=3 then
 (aaH ({ y0 with o:=r1.2.1 }:(RunV MV)) y1).bind fun r29 =>
 some ((r29.1.1,()),(r29.2.1,r29.2.2.1,()))
 else
 if 4≤y0.line then
 if y0.line≤8 then
 (abA ({ y0 with o:=r1.2.1 }:(RunV MV)) y1).bind fun r30 =>
 some ((r30.1.1,()),(r30.2.1,r30.2.2.1,()))
 else
 if 9≤y0.line then
 if y0.line≤15 then
 (aaL ({ y0 with o:=r1.2.1 }:(RunV MV)) y1).bind fun r31 =>
 some ((r31.1.1,()),(r31.2.1,r31.2.2.1,()))
 else
 (aar ({ y0 with o:=r1.2.1 }:(RunV MV)) y1).bind fun r32 =>
 some ((r32.1.1,()),(r32.2.1,r32.2.2.1,()))
 else
 (aar ({ y0 with o:=r1.2.1 }:(RunV MV)) y1).bind fun r33 =>
 some ((r33.1.1,()),(r33.2.1,r33.2.2.1,()))
 else
 if 9≤y0.line then
 if y0.line≤15 then
 (aaL ({ y0 with o:=r1.2.1 }:(RunV MV)) y1).bind fun r34 =>
 some ((r34.1.1,()),(r34.2.1,r34.2.2.1,()))
 else
 (aar ({ y0 with o:=r1.2.1 }:(RunV MV)) y1).bind fun r35 =>
 some ((r35.1.1,()),(r35.2.1,r35.2.2.1,()))
 else
 (aar ({ y0 with o:=r1.2.1 }:(RunV MV)) y1).bind fun r36 =>
 some ((r36.1.1,()),(r36.2.1,r36.2.2.1,()))
 else none
noncomputable abbrev aqs:Con SR1:=⟨157,[.ref 33,.ref 27],[.sh .b],fun x =>abD x.1 x.2.1⟩
noncomputable def apl:List (Nat×Func):=[(158,Tryz.f158)]
theorem apm:CO Tryz.prog aqs:=agL aai Tryz.func157 [abE,ada,aiO,ahC,aiK,ajQ,akm,aiN] ⟨abb,abV,amL,ajP,amF,anV,apn,amI,trivial⟩ apl ⟨Tryz.func158,trivial⟩ (fun _ =>[]) [] fun x =>by kernel_rfl
noncomputable def aer (m:MV) (e:EnvP):Option ((Bool×Unit)×(MV×EnvP×Unit)) :=
 match m with
 | .alloc x =>(ack x e).bind fun o =>some (o.1,(MV.alloc o.2.1,o.2.2))
 | .publish x =>(acb x e).bind fun o =>some (o.1,(MV.publish o.2.1,o.2.2))
 | .claim x =>(adJ x e).bind fun o =>some (o.1,(MV.claim o.2.1,o.2.2))
 | .attempt x =>(adc x e).bind fun o =>some (o.1,(MV.attempt o.2.1,o.2.2))
 | .release x =>(adb x e).bind fun o =>some (o.1,(MV.release o.2.1,o.2.2))
 | .opush x =>(aee x e).bind fun o =>some (o.1,(MV.opush o.2.1,o.2.2))
 | .opop x =>(aeD x e).bind fun o =>some (o.1,(MV.opop o.2.1,o.2.2))
 | .steal x =>(adI x e).bind fun o =>some (o.1,(MV.steal o.2.1,o.2.2))
 | .set x =>(aeh x e).bind fun o =>some (o.1,(MV.set o.2.1,o.2.2))
 | .reset x =>(adf x e).bind fun o =>some (o.1,(MV.reset o.2.1,o.2.2))
 | .insert x =>(ab4 x e).bind fun o =>some (o.1,(MV.insert o.2.1,o.2.2))
 | .remove x =>(ab3 x e).bind fun o =>some (o.1,(MV.remove o.2.1,o.2.2))
 | .sleep x =>(ady x e).bind fun o =>some (o.1,(MV.sleep o.2.1,o.2.2))
 | .wake x =>(ad5 x e).bind fun o =>some (o.1,(MV.wake o.2.1,o.2.2))
 | .raise x =>(acZ x e).bind fun o =>some (o.1,(MV.raise o.2.1,o.2.2))
 | .probe x =>(abB x e).bind fun o =>some (o.1,(MV.probe o.2.1,o.2.2))
 | .lpush x =>(acY x e).bind fun o =>some (o.1,(MV.lpush o.2.1,o.2.2))
 | .lpop x =>(adB x e).bind fun o =>some (o.1,(MV.lpop o.2.1,o.2.2))
 | .walk x =>(acp x e).bind fun o =>some (o.1,(MV.walk o.2.1,o.2.2))
 | .take x =>(afv x e).bind fun o =>some (o.1,(MV.take o.2.1,o.2.2))
 | .sweep x =>(aaF x e).bind fun o =>some (o.1,(MV.sweep o.2.1,o.2.2))
 | .enter x =>(acm x e).bind fun o =>some (o.1,(MV.enter o.2.1,o.2.2))
 | .drain x =>(abC x e).bind fun o =>some (o.1,(MV.drain o.2.1,o.2.2))
 | .run x =>(abD x e).bind fun o =>some (o.1,(MV.run o.2.1,o.2.2))
 | _ =>none
noncomputable abbrev asP:Con SR1:=⟨1000000000,[.mch,.ref 27],[.sh .b],fun x =>aer x.1 x.2.1⟩
theorem aDs (m:MV) (xs:ami SR1 [.ref 27]) (out:aml SR1 [.sh .b]×(MV×akc SR1 [.ref 27])) (h:aer m xs.1=some out):arU SR1 Tryz.prog 0 [.ref 27] [.sh .b] m xs out:=by
 cases m with
 | alloc x =>exact aaz (.alloc x) xs out h
 | publish x =>exact aaz (.publish x) xs out h
 | claim x =>exact aaz (.claim x) xs out h
 | attempt x =>exact aaz (.attempt x) xs out h
 | release x =>exact aaz (.release x) xs out h
 | opush x =>exact aaz (.opush x) xs out h
 | opop x =>exact aaz (.opop x) xs out h
 | steal x =>exact aaz (.steal x) xs out h
 | set x =>exact aaz (.set x) xs out h
 | reset x =>exact aaz (.reset x) xs out h
 | insert x =>exact aaz (.insert x) xs out h
 | remove x =>exact aaz (.remove x) xs out h
 | sleep x =>exact aaz (.sleep x) xs out h
 | wake x =>exact aaz (.wake x) xs out h
 | raise x =>exact aaz (.raise x) xs out h
 | probe x =>exact aaz (.probe x) xs out h
 | lpush x =>exact amw (.lpush x) xs out h
 | lpop x =>exact amw (.lpop x) xs out h
 | walk x =>exact ak1 (.walk x) xs out h
 | take x =>exact ak1 (.take x) xs out h
 | sweep x =>exact ak1 (.sweep x) xs out h
 | enter x =>exact ak1 (.enter x) xs out h
 | drain x =>exact ak1 (.drain x) xs out h
 | run x =>exact abg (S:=SR1) (ps:=[.ref 27]) (rs:=[.sh .b]) (c:=33) (mk:=MV.run) (fun _ =>rfl) rfl (fun _ _ _ _ =>by kernel_rfl) apm h
 | _ =>cases h
theorem auH:CO Tryz.prog asP:=akL (S:=SR1) (i:=0) (ps:=[.ref 27]) (rs:=[.sh .b]) (spec:=fun m xs =>aer m xs.1) aDs
noncomputable def abR (m:MV):Option ((Int×Int×Unit)×(MV×Unit)) :=
 match m with
 | .alloc x =>some ((x.o.code,x.o.value,()),(MV.alloc x,()))
 | .publish x =>some ((x.o.code,x.o.value,()),(MV.publish x,()))
 | .claim x =>some ((x.o.code,x.o.value,()),(MV.claim x,()))
 | .attempt x =>some ((x.o.code,x.o.value,()),(MV.attempt x,()))
 | .release x =>some ((x.o.code,x.o.value,()),(MV.release x,()))
 | .opush x =>some ((x.o.code,x.o.value,()),(MV.opush x,()))
 | .opop x =>some ((x.o.code,x.o.value,()),(MV.opop x,()))
 | .steal x =>some ((x.o.code,x.o.value,()),(MV.steal x,()))
 | .set x =>some ((x.o.code,x.o.value,()),(MV.set x,()))
 | .reset x =>some ((x.o.code,x.o.value,()),(MV.reset x,()))
 | .insert x =>some ((x.o.code,x.o.value,()),(MV.insert x,()))
 | .remove x =>some ((x.o.code,x.o.value,()),(MV.remove x,()))
 | .sleep x =>some ((x.o.code,x.o.value,()),(MV.sleep x,()))
 | .wake x =>some ((x.o.code,x.o.value,()),(MV.wake x,()))
 | .raise x =>some ((x.o.code,x.o.value,()),(MV.raise x,()))
 | .probe x =>some ((x.o.code,x.o.value,()),(MV.probe x,()))
 | .lpush x =>some ((x.o.code,x.o.value,()),(MV.lpush x,()))
 | .lpop x =>some ((x.o.code,x.o.value,()),(MV.lpop x,()))
 | .walk x =>some ((x.o.code,x.o.value,()),(MV.walk x,()))
 | .take x =>some ((x.o.code,x.o.value,()),(MV.take x,()))
 | .sweep x =>some ((x.o.code,x.o.value,()),(MV.sweep x,()))
 | .enter x =>some ((x.o.code,x.o.value,()),(MV.enter x,()))
 | .drain x =>some ((x.o.code,x.o.value,()),(MV.drain x,()))
 | .run x =>some ((x.o.code,x.o.value,()),(MV.run x,()))
 | _ =>none
noncomputable abbrev anX:Con SR1:=⟨1000000001,[.mch],[.sh sI_,.sh sI_],fun x =>abR x.1⟩
theorem azu (m:MV) (xs:ami SR1 []) (out:aml SR1 [.sh sI_,.sh sI_]×(MV×akc SR1 [])) (h:abR m=some out):arU SR1 Tryz.prog 1 [] [.sh sI_,.sh sI_] m xs out:=by
 cases m with
 | alloc x =>exact aak (.alloc x) xs out h
 | publish x =>exact aak (.publish x) xs out h
 | claim x =>exact aak (.claim x) xs out h
 | attempt x =>exact aak (.attempt x) xs out h
 | release x =>exact aak (.release x) xs out h
 | opush x =>exact aak (.opush x) xs out h
 | opop x =>exact aak (.opop x) xs out h
 | steal x =>exact aak (.steal x) xs out h
 | set x =>exact aak (.set x) xs out h
 | reset x =>exact aak (.reset x) xs out h
 | insert x =>exact aak (.insert x) xs out h
 | remove x =>exact aak (.remove x) xs out h
 | sleep x =>exact aak (.sleep x) xs out h
 | wake x =>exact aak (.wake x) xs out h
 | raise x =>exact aak (.raise x) xs out h
 | probe x =>exact aak (.probe x) xs out h
 | lpush x =>exact aiQ (.lpush x) xs out h
 | lpop x =>exact aiQ (.lpop x) xs out h
 | walk x =>exact ahr (.walk x) xs out h
 | take x =>exact ahr (.take x) xs out h
 | sweep x =>exact ahr (.sweep x) xs out h
 | enter x =>exact ahr (.enter x) xs out h
 | drain x =>exact ahr (.drain x) xs out h
 | run x =>exact abg (S:=SR1) (ps:=[]) (rs:=[.sh sI_,.sh sI_]) (c:=33) (mk:=MV.run) (f:=143) (sp:=fun x =>some ((x.1.o.code,x.1.o.value,()),(x.1,()))) (fun _ =>rfl) rfl (fun _ _ _ _ =>by kernel_rfl) (acX [aa1] ⟨aaQ,trivial⟩ fun x =>by kernel_rfl) h
 | _ =>cases h
theorem aqx:CO Tryz.prog anX:=akL (S:=SR1) (i:=1) (ps:=[]) (rs:=[.sh sI_,.sh sI_]) (spec:=fun m _ =>abR m) azu
noncomputable def aas (y0:(ClientV MV)):Option ((Bool×Unit)×((ClientV MV)×Unit)) :=
 some ((decide (((y0.subs.length:Nat):Int)≤y0.i),()),(y0,()))
noncomputable abbrev aex:Con SR1:=⟨60,[.ref 30],[.sh .b],fun x =>aas x.1⟩
theorem afs:CO Tryz.prog aex:=aal aai Tryz.func60 [] trivial
noncomputable def al3 (y0:Int):Option ((MV×Unit)×(Unit)) :=
 some ((MV.attempt (⟨⟨false,0,0⟩,y0,false⟩:AttemptV),()),())
noncomputable abbrev anb:Con SR1:=⟨97,[.sh sI_],[.sh .mach],fun x =>al3 x.1⟩
theorem arQ:CO Tryz.prog anb:=aal aai Tryz.func97 [] trivial
noncomputable def aiw (y0:Int) (y1:Int):Option ((MV×Unit)×(Unit)) :=
 some ((MV.insert (⟨⟨false,0,0⟩,y0,y1,1,0,0,0,0⟩:InsertV),()),())
noncomputable abbrev ajW:Con SR1:=⟨99,[.sh sI_,.sh sI_],[.sh .mach],fun x =>aiw x.1 x.2.1⟩
theorem aoq:CO Tryz.prog ajW:=aal aai Tryz.func99 [] trivial
noncomputable def adQ (y0:(ClientV MV)):Option ((MV×Unit)×((ClientV MV)×Unit)) :=
 if 0≤y0.i∧y0.i<((y0.subs.length:Nat):Int) then
 if ((ac5 y0.subs y0.i).prog)=((ac5 y0.subs y0.i).prog) then
 if ((ac5 y0.subs y0.i).level)=((ac5 y0.subs y0.i).level) then
 if ((ac5 y0.subs y0.i).deadline)=((ac5 y0.subs y0.i).deadline) then
 if y0.i=y0.i then
 (al3 y0.me).bind fun r1 =>
 if y0.line=y0.line then
 if ((ac5 y0.subs y0.i).level)=((ac5 y0.subs y0.i).level) then
 if y0.me=y0.me then
 if y0.id=y0.id then
 if ((ac5 y0.subs y0.i).deadline)=((ac5 y0.subs y0.i).deadline) then
 (afK).bind fun r2 =>
 if y0.line=y0.line then
 if ((ac5 y0.subs y0.i).level)=((ac5 y0.subs y0.i).level) then
 if y0.me=y0.me then
 if y0.id=y0.id then
 if ((ac5 y0.subs y0.i).deadline)=((ac5 y0.subs y0.i).deadline) then
 (aiw ((ac5 y0.subs y0.i).deadline) y0.id).bind fun r3 =>
 if y0.line=y0.line then
 if ((ac5 y0.subs y0.i).level)=((ac5 y0.subs y0.i).level) then
 if y0.me=y0.me then
 (agc).bind fun r4 =>
 if y0.line=y0.line then
 if ((ac5 y0.subs y0.i).level)=((ac5 y0.subs y0.i).level) then
 if y0.me=y0.me then
 (aed y0.me ((ac5 y0.subs y0.i).level)).bind fun r5 =>
 if y0.line=y0.line then
 if y0.line=y0.line then
 if 0≤wi (y0.line-1)∧wi (y0.line-1)<((([r1.1.1,MV.nil,r2.1.1,MV.nil,MV.nil,r3.1.1,MV.nil,r4.1.1,r5.1.1]:List MV).length:Nat):Int) then
 some ((aMn ([r1.1.1,MV.nil,r2.1.1,MV.nil,MV.nil,r3.1.1,MV.nil,r4.1.1,r5.1.1]) (wi (y0.line-1)),()),(y0,()))
 else none
 else none
 else none
 else none
 else none
 else none
 else none
 else none
 else none
 else none
 else none
 else none
 else none
 else none
 else none
 else none
 else none
 else none
 else none
 else none
 else none
 else none
 else none
 else none
noncomputable abbrev af3:Con SR1:=⟨94,[.ref 30],[.sh .mach],fun x =>adQ x.1⟩
theorem ajH:CO Tryz.prog af3:=aal aai Tryz.func94 [anb,ahC,ajW,ajs,aiS] ⟨arQ,ajP,aoq,alL,ajn,trivial⟩
noncomputable def aam (y0:(ClientV MV)) (y1:Int):Option ((Bool×Unit)×((ClientV MV)×Unit)) :=
 some ((false,()),(({ y0 with line:=y1,inside:=MV.nil,fresh:=true }:(ClientV MV)),()))
noncomputable abbrev aek:Con SR1:=⟨110,[.ref 30,.sh sI_],[.sh .b],fun x =>aam x.1 x.2.1⟩
theorem aeR:CO Tryz.prog aek:=aal aai Tryz.func110 [] trivial
noncomputable def acJ (y0:(ClientV MV)) (y1:EnvP) (y2:Int):Option ((Bool×Unit)×((ClientV MV)×EnvP×Unit)) :=
 (aeV y1 (⟨2,y0.me,0,y0.i,y2⟩:Ev)).bind fun r1 =>
 (aam y0 8).bind fun r2 =>
 some ((r2.1.1,()),(r2.2.1,r1.2.1,()))
noncomputable abbrev aeZ:Con SR1:=⟨104,[.ref 30,.ref 27,.sh sI_],[.sh .b],fun x =>acJ x.1 x.2.1 x.2.2.1⟩
theorem agN:CO Tryz.prog aeZ:=aal aai Tryz.func104 [agb,aek] ⟨afa,aeR,trivial⟩
noncomputable def ae0 (y0:(ClientV MV)) (y1:EnvP):Option ((Bool×Unit)×((ClientV MV)×EnvP×Unit)) :=
 gL y1.l (
 if ((ac5 y0.subs y0.i).prog)=((ac5 y0.subs y0.i).prog) then
 if ((ac5 y0.subs y0.i).level)=((ac5 y0.subs y0.i).level) then
 if ((ac5 y0.subs y0.i).deadline)=((ac5 y0.subs y0.i).deadline) then
 if y0.i=y0.i then
 gL y1.l (
 if ((ac5 y0.subs y0.i).prog)=((ac5 y0.subs y0.i).prog) then
 if ((ac5 y0.subs y0.i).level)=((ac5 y0.subs y0.i).level) then
 if ((ac5 y0.subs y0.i).deadline)=((ac5 y0.subs y0.i).deadline) then
 if y0.i=y0.i then
 gL y1.l (
 if y0.line=2 then
 (ahQ y1.l).bind fun r15 =>
 if y1.c.heap=y1.c.heap then
 (adm y1.m r15.1.1).bind fun r16 =>
 if y1.c.heap=y1.c.heap then
 if y1.c.heap≤(wi (r16.1.1)) then
 (acJ y0 ({ y1 with m:=r16.2.1 }:EnvP) 1).bind fun r17 =>
 some ((r17.1.1,()),(r17.2.1,r17.2.2.1,()))
 else
 (aam y0 (wi (y0.line+1))).bind fun r18 =>
 some ((r18.1.1,()),(r18.2.1,({ y1 with m:=r16.2.1 }:EnvP),()))
 else none
 else none
 else
 if y0.line=4 then
 (aha y1.l y0.id).bind fun r19 =>
 if ((ac5 y0.subs y0.i).level)=((ac5 y0.subs y0.i).level) then
 (abH y1.m r19.1.1 (wu ((ac5 y0.subs y0.i).level))).bind fun r20 =>
 (aam y0 (wi (y0.line+1))).bind fun r21 =>
 some ((r21.1.1,()),(r21.2.1,({ y1 with m:=r20.2.1 }:EnvP),()))
 else none
 else
 if y0.line=5 then
 (akv y1.l y0.id).bind fun r22 =>
 (aux y1.k).bind fun r23 =>
 (abH y1.m r22.1.1 (wu (r23.1.1))).bind fun r24 =>
 (aam y0 (wi (y0.line+1))).bind fun r25 =>
 some ((r25.1.1,()),(r25.2.1,({ y1 with m:=r24.2.1,k:=r23.2.1 }:EnvP),()))
 else
 (ag9 y1.l y0.id).bind fun r26 =>
 (abH y1.m r26.1.1 1).bind fun r27 =>
 (aam y0 (wi (y0.line+1))).bind fun r28 =>
 some ((r28.1.1,()),(r28.2.1,({ y1 with m:=r27.2.1 }:EnvP),()))
 )
 else none
 else none
 else none
 else none
 )
 else none
 else none
 else none
 else none
 )
noncomputable def ae1 (y0:(ClientV MV)) (y1:EnvP):Option ((Bool×Unit)×((ClientV MV)×EnvP×Unit)) :=
 if 0≤y0.i∧y0.i<((y0.subs.length:Nat):Int) then
 agr (
 ae0 y0 y1
 ) (
 ae0 y0 y1
 )
 else none
noncomputable abbrev af4:Con SR1:=⟨95,[.ref 30,.ref 27],[.sh .b],fun x =>ae1 x.1 x.2.1⟩
theorem ajI:CO Tryz.prog af4:=aal aai Tryz.func95 [ala,ac9,aeZ,aek,ahk,aev,ak8,aoW,ahj] ⟨aky,ach,agN,aeR,agB,adT,akt,alZ,agA,trivial⟩
noncomputable def abe (y0:(ClientV MV)) (y1:EnvP):Option ((Bool×Unit)×((ClientV MV)×EnvP×Unit)) :=
 if 0≤y0.i∧y0.i<((y0.subs.length:Nat):Int) then
 if y0.line=2 then
 (ahQ y1.l).bind fun r1 =>
 (adm y1.m r1.1.1).bind fun r2 =>
 if y1.c.heap≤(wi (r2.1.1)) then
 (acJ y0 ({ y1 with m:=r2.2.1 }:EnvP) 1).bind fun r3 =>
 some ((r3.1.1,()),(r3.2.1,r3.2.2.1,()))
 else
 (aam y0 (wi (y0.line+1))).bind fun r4 =>
 some ((r4.1.1,()),(r4.2.1,({ y1 with m:=r2.2.1 }:EnvP),()))
 else
 if y0.line=4 then
 (aha y1.l y0.id).bind fun r5 =>
 (abH y1.m r5.1.1 (wu ((ac5 y0.subs y0.i).level))).bind fun r6 =>
 (aam y0 (wi (y0.line+1))).bind fun r7 =>
 some ((r7.1.1,()),(r7.2.1,({ y1 with m:=r6.2.1 }:EnvP),()))
 else
 if y0.line=5 then
 (akv y1.l y0.id).bind fun r8 =>
 (aux y1.k).bind fun r9 =>
 (abH y1.m r8.1.1 (wu (r9.1.1))).bind fun r10 =>
 (aam y0 (wi (y0.line+1))).bind fun r11 =>
 some ((r11.1.1,()),(r11.2.1,({ y1 with m:=r10.2.1,k:=r9.2.1 }:EnvP),()))
 else
 (ag9 y1.l y0.id).bind fun r12 =>
 (abH y1.m r12.1.1 1).bind fun r13 =>
 (aam y0 (wi (y0.line+1))).bind fun r14 =>
 some ((r14.1.1,()),(r14.2.1,({ y1 with m:=r13.2.1 }:EnvP),()))
 else none
noncomputable abbrev ahd:Con SR1:=⟨95,[.ref 30,.ref 27],[.sh .b],fun x =>abe x.1 x.2.1⟩
theorem akO (y0:(ClientV MV)) (y1:EnvP):ae1 y0 y1=abe y0 y1:=by
 unfold ae1 ae0 abe
 simp only [arS,if_true,aqa,aoB]
theorem akN:CO Tryz.prog ahd:=aE2 ajI fun x out hx =>(show af4.spec x=some out from (akO x.1 x.2.1).trans hx)
noncomputable def adr (y0:(ClientV MV)):Option ((Bool×Unit)×((ClientV MV)×Unit)) :=
 (aam ({ y0 with i:=wi (y0.i+1),accepted:=false }:(ClientV MV)) 1).bind fun r1 =>
 (aas r1.2.1).bind fun r2 =>
 some ((r2.1.1,()),(r2.2.1,()))
noncomputable abbrev ail:Con SR1:=⟨112,[.ref 30],[.sh .b],fun x =>adr x.1⟩
theorem amd:CO Tryz.prog ail:=aal aai Tryz.func112 [aek,aex] ⟨aeR,afs,trivial⟩
noncomputable def aaW (y0:(ClientV MV)) (y1:EnvP) (y2:Int) (y3:Int):Option ((Bool×Unit)×((ClientV MV)×EnvP×Unit)) :=
 if 0≤y0.i∧y0.i<((y0.subs.length:Nat):Int) then
 if ((ac5 y0.subs y0.i).prog)=((ac5 y0.subs y0.i).prog) then
 if ((ac5 y0.subs y0.i).level)=((ac5 y0.subs y0.i).level) then
 if ((ac5 y0.subs y0.i).deadline)=((ac5 y0.subs y0.i).deadline) then
 if y0.i=y0.i then
 if y0.line=3 then
 if y2=3 then
 (acJ y0 y1 2).bind fun r1 =>
 some ((r1.1.1,()),(r1.2.1,r1.2.2.1,()))
 else
 if 0≤y3∧y3<((y1.recs.length:Nat):Int) then
 (aam ({ y0 with id:=y3 }:(ClientV MV)) (wi (y0.line+1))).bind fun r2 =>
 some ((r2.1.1,()),(r2.2.1,({ y1 with recs:=y1.recs.set y3.toNat (⟨(ac5 y0.subs y0.i).prog,(-1),0,0,(-1),[],false⟩:RecP) }:EnvP),()))
 else none
 else
 if y0.line=6 then
 if y2≠0 then
 (aam y0 8).bind fun r3 =>
 some ((r3.1.1,()),(r3.2.1,y1,()))
 else
 (aeV y1 (⟨1,y0.me,y0.id,y0.i,(ac5 y0.subs y0.i).level⟩:Ev)).bind fun r4 =>
 (aam ({ y0 with accepted:=true }:(ClientV MV)) (wi (y0.line+1))).bind fun r5 =>
 some ((r5.1.1,()),(r5.2.1,r4.2.1,()))
 else
 if y0.line=8 then
 if (!y0.accepted)=true then
 (adr y0).bind fun r6 =>
 some ((r6.1.1,()),(r6.2.1,y1,()))
 else
 (aam y0 (wi (y0.line+1))).bind fun r7 =>
 some ((r7.1.1,()),(r7.2.1,y1,()))
 else
 if y0.line=9 then
 (adr y0).bind fun r8 =>
 some ((r8.1.1,()),(r8.2.1,y1,()))
 else
 (aam y0 (wi (y0.line+1))).bind fun r9 =>
 some ((r9.1.1,()),(r9.2.1,y1,()))
 else none
 else none
 else none
 else none
 else none
noncomputable abbrev ahX:Con SR1:=⟨96,[.ref 30,.ref 27,.sh sI_,.sh sI_],[.sh .b],fun x =>aaW x.1 x.2.1 x.2.2.1 x.2.2.2.1⟩
theorem alC:CO Tryz.prog ahX:=aal aai Tryz.func96 [aeZ,aek,agb,ail] ⟨agN,aeR,afa,amd,trivial⟩
noncomputable def aaq (y0:(ClientV MV)) (y1:EnvP):Option ((Bool×Unit)×((ClientV MV)×EnvP×Unit)) :=
 (aas y0).bind fun r1 =>
 if r1.1.1=true then
 some ((true,()),(r1.2.1,y1,()))
 else
 if r1.2.1.fresh=true then
 (adQ r1.2.1).bind fun r2 =>
 if (SR1.spl r2.1.1).isNone=true then
 (abe ({ r2.2.1 with inside:=r2.1.1,fresh:=false }:(ClientV MV)) y1).bind fun r3 =>
 some ((r3.1.1,()),(r3.2.1,r3.2.2.1,()))
 else
 (aer r2.1.1 y1).bind fun r4 =>
 if (!r4.1.1)=true then
 some ((false,()),(({ r2.2.1 with inside:=r4.2.1,fresh:=false }:(ClientV MV)),r4.2.2.1,()))
 else
 (abR r4.2.1).bind fun r5 =>
 (aaW ({ r2.2.1 with inside:=r5.2.1,fresh:=false }:(ClientV MV)) r4.2.2.1 r5.1.1 r5.1.2.1).bind fun r6 =>
 some ((r6.1.1,()),(r6.2.1,r6.2.2.1,()))
 else
 if (SR1.spl r1.2.1.inside).isNone=true then
 (abe r1.2.1 y1).bind fun r7 =>
 some ((r7.1.1,()),(r7.2.1,r7.2.2.1,()))
 else
 (aer r1.2.1.inside y1).bind fun r8 =>
 if (!r8.1.1)=true then
 some ((false,()),(({ r1.2.1 with inside:=r8.2.1 }:(ClientV MV)),r8.2.2.1,()))
 else
 (abR r8.2.1).bind fun r9 =>
 (aaW ({ r1.2.1 with inside:=r9.2.1 }:(ClientV MV)) r8.2.2.1 r9.1.1 r9.1.2.1).bind fun r10 =>
 some ((r10.1.1,()),(r10.2.1,r10.2.2.1,()))
noncomputable abbrev abd:Con SR1:=⟨93,[.ref 30,.ref 27],[.sh .b],fun x =>aaq x.1 x.2.1⟩
theorem abr:CO Tryz.prog abd:=aal aai Tryz.func93 [aex,af3,ahd,asP,anX,ahX] ⟨afs,ajH,akN,auH,aqx,alC,trivial⟩
noncomputable def agn (y0:Int):Option ((MV×Unit)×(Unit)) :=
 (agE y0).bind fun r1 =>
 some ((MV.take (⟨⟨false,0,0⟩,y0,false,r1.1.1⟩:(TakeV MV)),()),())
noncomputable abbrev anO:Con SR1:=⟨127,[.sh sI_],[.sh .mach],fun x =>agn x.1⟩
theorem aqj:CO Tryz.prog anO:=aal aai Tryz.func127 [al4] ⟨ao0,trivial⟩
noncomputable def aaf (y0:(WorkerV MV)) (y1:Int) (y2:MV):Option ((Unit)×((WorkerV MV)×Unit)) :=
 some ((()),(({ y0 with line:=y1,inside:=y2 }:(WorkerV MV)),()))
noncomputable abbrev acN:Con SR1:=⟨126,[.ref 31,.sh sI_,.sh .mach],[],fun x =>aaf x.1 x.2.1 x.2.2.1⟩
theorem ac0:CO Tryz.prog acN:=aal aai Tryz.func126 [] trivial
noncomputable def aoJ (y0:Int) (y1:Int):Option ((MV×Unit)×(Unit)) :=
 some ((MV.sweep (⟨⟨false,0,0⟩,y0,y1,1,0,MV.nil⟩:(SweepV MV)),()),())
noncomputable abbrev ape:Con SR1:=⟨128,[.sh sI_,.sh sI_],[.sh .mach],fun x =>aoJ x.1 x.2.1⟩
theorem aum:CO Tryz.prog ape:=aal aai Tryz.func128 [] trivial
noncomputable def aeK (y0:(WorkerV MV)) (y1:EnvP):Option ((Unit)×((WorkerV MV)×EnvP×Unit)) :=
 if y1.c.age=0 then
 (agn y0.worker).bind fun r1 =>
 (aaf y0 2 r1.1.1).bind fun r2 =>
 some ((()),(r2.2.1,y1,()))
 else
 (avc y0.worker y1.c.tasks).bind fun r3 =>
 if y1.c.tasks=y1.c.tasks then
 if y0.cursor=y0.cursor then
 if y0.worker=y0.worker then
 (avc (wi (r3.1.1+y0.cursor)) y1.c.tasks).bind fun r4 =>
 if y0.worker=y0.worker then
 (aoJ y0.worker r4.1.1).bind fun r5 =>
 (aaf y0 1 r5.1.1).bind fun r6 =>
 some ((()),(r6.2.1,y1,()))
 else none
 else none
 else none
 else none
noncomputable abbrev ahv:Con SR1:=⟨122,[.ref 31,.ref 27],[],fun x =>aeK x.1 x.2.1⟩
theorem alo:CO Tryz.prog ahv:=aal aai Tryz.func122 [anO,acN,aiT,ape] ⟨aqj,ac0,agU,aum,trivial⟩
noncomputable def amM (y0:Int) (y1:Int):Option ((MV×Unit)×(Unit)) :=
 some ((MV.run (⟨⟨false,0,0⟩,y0,[y1],0,MV.nil,0,0,0,0⟩:(RunV MV)),()),())
noncomputable abbrev aqr:Con SR1:=⟨137,[.sh sI_,.sh sI_],[.sh .mach],fun x =>amM x.1 x.2.1⟩
theorem auR:CO Tryz.prog aqr:=aal aai Tryz.func137 [] trivial
noncomputable def adS (y0:(WorkerV MV)) (y1:Int):Option ((Unit)×((WorkerV MV)×Unit)) :=
 (amM y0.worker y1).bind fun r1 =>
 (aaf ({ y0 with x:=y1 }:(WorkerV MV)) 7 r1.1.1).bind fun r2 =>
 some ((()),(r2.2.1,()))
noncomputable abbrev af5:Con SR1:=⟨125,[.ref 31,.sh sI_],[],fun x =>adS x.1 x.2.1⟩
theorem ah3:CO Tryz.prog af5:=aal aai Tryz.func125 [aqr,acN] ⟨auR,ac0,trivial⟩
noncomputable def alj (y0:Int):Option ((MV×Unit)×(Unit)) :=
 some ((MV.drain (⟨⟨false,0,0⟩,y0,1,MV.nil,0,false,0,0,0⟩:(DrainV MV)),()),())
noncomputable abbrev ao5:Con SR1:=⟨129,[.sh sI_],[.sh .mach],fun x =>alj x.1⟩
theorem atV:CO Tryz.prog ao5:=aal aai Tryz.func129 [] trivial
noncomputable def ac1 (y0:(WorkerV MV)) (y1:Int):Option ((Unit)×((WorkerV MV)×Unit)) :=
 (ado y0.worker y1).bind fun r1 =>
 (aaf ({ y0 with x:=y1 }:(WorkerV MV)) 6 r1.1.1).bind fun r2 =>
 some ((()),(r2.2.1,()))
noncomputable abbrev afn:Con SR1:=⟨130,[.ref 31,.sh sI_],[],fun x =>ac1 x.1 x.2.1⟩
theorem ag5:CO Tryz.prog afn:=aal aai Tryz.func130 [agy,acN] ⟨ahf,ac0,trivial⟩
noncomputable def aej (y0:Int):Option ((MV×Unit)×(Unit)) :=
 some ((MV.sleep (⟨⟨false,0,0⟩,y0,1,0,0,0⟩:SleepV),()),())
noncomputable abbrev alX:Con SR1:=⟨132,[.sh sI_],[.sh .mach],fun x =>aej x.1⟩
theorem aoU:CO Tryz.prog alX:=aal aai Tryz.func132 [] trivial
noncomputable def an8 (y0:Int):Option ((MV×Unit)×(Unit)) :=
 some ((MV.probe (⟨⟨false,0,0⟩,y0,false,0,0,⟨0,0,0,0,0,0,0,0,0,0,0,0,0,0,0,0⟩⟩:ProbeV),()),())
noncomputable abbrev aoT:Con SR1:=⟨140,[.sh sI_],[.sh .mach],fun x =>an8 x.1⟩
theorem as5:CO Tryz.prog aoT:=aal aai Tryz.func140 [] trivial
noncomputable def abt (y0:(WorkerV MV)) (y1:EnvP):Option ((Unit)×((WorkerV MV)×EnvP×Unit)) :=
 if y1.c.workers=1 then
 (aej y0.worker).bind fun r1 =>
 (aaf y0 8 r1.1.1).bind fun r2 =>
 some ((()),(r2.2.1,y1,()))
 else
 (an8 y0.worker).bind fun r3 =>
 (aaf y0 4 r3.1.1).bind fun r4 =>
 some ((()),(r4.2.1,y1,()))
noncomputable abbrev ah4:Con SR1:=⟨131,[.ref 31,.ref 27],[],fun x =>abt x.1 x.2.1⟩
theorem alS:CO Tryz.prog ah4:=aal aai Tryz.func131 [alX,acN,aoT] ⟨aoU,ac0,as5,trivial⟩
noncomputable def aem (y0:QV):Option ((MV×Unit)×(Unit)) :=
 some ((MV.steal (⟨⟨false,0,0⟩,y0,1,0,0⟩:StealV),()),())
noncomputable abbrev aoP:Con SR1:=⟨133,[.val 14],[.sh .mach],fun x =>aem x.1⟩
theorem asL:CO Tryz.prog aoP:=aal aai Tryz.func133 [] trivial
noncomputable def acj (y0:(WorkerV MV)) (y1:EnvP) (y2:Int) (y3:Int):Option ((Unit)×((WorkerV MV)×EnvP×Unit)) :=
 if y0.line=1 then
 (agn y0.worker).bind fun r1 =>
 (aaf ({ y0 with cursor:=wi (y0.cursor+1) }:(WorkerV MV)) 2 r1.1.1).bind fun r2 =>
 some ((()),(r2.2.1,y1,()))
 else
 if y0.line=2 then
 if y2=1 then
 (adS y0 y3).bind fun r3 =>
 some ((()),(r3.2.1,y1,()))
 else
 if y0.line=2 then
 (alj y0.worker).bind fun r4 =>
 (aaf y0 3 r4.1.1).bind fun r5 =>
 some ((()),(r5.2.1,y1,()))
 else
 if y0.line=3 then
 if y2=1 then
 (ac1 y0 y3).bind fun r6 =>
 some ((()),(r6.2.1,y1,()))
 else
 if y0.line=3 then
 if y2=0 then
 (agn y0.worker).bind fun r7 =>
 (aaf y0 2 r7.1.1).bind fun r8 =>
 some ((()),(r8.2.1,y1,()))
 else
 if y0.line=3 then
 (abt y0 y1).bind fun r9 =>
 some ((()),(r9.2.1,r9.2.2.1,()))
 else
 if y2=2 then
 (aej y0.worker).bind fun r10 =>
 (aaf y0 8 r10.1.1).bind fun r11 =>
 some ((()),(r11.2.1,y1,()))
 else
 (ahP y1.l (wi (Int.tdiv y3 64)) (Int.tmod y3 64)).bind fun r12 =>
 (aem r12.1.1).bind fun r13 =>
 (aaf ({ y0 with victim:=wi (Int.tdiv y3 64),level:=(Int.tmod y3 64) }:(WorkerV MV)) 5 r13.1.1).bind fun r14 =>
 some ((()),(r14.2.1,y1,()))
 else
 if y0.line=3 then
 (abt y0 y1).bind fun r15 =>
 some ((()),(r15.2.1,r15.2.2.1,()))
 else
 if y2=2 then
 (aej y0.worker).bind fun r16 =>
 (aaf y0 8 r16.1.1).bind fun r17 =>
 some ((()),(r17.2.1,y1,()))
 else
 (ahP y1.l (wi (Int.tdiv y3 64)) (Int.tmod y3 64)).bind fun r18 =>
 (aem r18.1.1).bind fun r19 =>
 (aaf ({ y0 with victim:=wi (Int.tdiv y3 64),level:=(Int.tmod y3 64) }:(WorkerV MV)) 5 r19.1.1).bind fun r20 =>
 some ((()),(r20.2.1,y1,()))
 else
 if y0.line=3 then
 if y2=0 then
 (agn y0.worker).bind fun r21 =>
 (aaf y0 2 r21.1.1).bind fun r22 =>
 some ((()),(r22.2.1,y1,()))
 else
 if y0.line=3 then
 (abt y0 y1).bind fun r23 =>
 some ((()),(r23.2.1,r23.2.2.1,()))
 else
 if y2=2 then
 (aej y0.worker).bind fun r24 =>
 (aaf y0 8 r24.1.1).bind fun r25 =>
 some ((()),(r25.2.1,y1,()))
 else
 (ahP y1.l (wi (Int.tdiv y3 64)) (Int.tmod y3 64)).bind fun r26 =>
 (aem r26.1.1).bind fun r27 =>
 (aaf ({ y0 with victim:=wi (Int.tdiv y3 64),level:=(Int.tmod y3 64) }:(WorkerV MV)) 5 r27.1.1).bind fun r28 =>
 some ((()),(r28.2.1,y1,()))
 else
 if y0.line=3 then
 (abt y0 y1).bind fun r29 =>
 some ((()),(r29.2.1,r29.2.2.1,()))
 else
 if y2=2 then
 (aej y0.worker).bind fun r30 =>
 (aaf y0 8 r30.1.1).bind fun r31 =>
 some ((()),(r31.2.1,y1,()))
 else
 (ahP y1.l (wi (Int.tdiv y3 64)) (Int.tmod y3 64)).bind fun r32 =>
 (aem r32.1.1).bind fun r33 =>
 (aaf ({ y0 with victim:=wi (Int.tdiv y3 64),level:=(Int.tmod y3 64) }:(WorkerV MV)) 5 r33.1.1).bind fun r34 =>
 some ((()),(r34.2.1,y1,()))
 else
 if y0.line=2 then
 (alj y0.worker).bind fun r35 =>
 (aaf y0 3 r35.1.1).bind fun r36 =>
 some ((()),(r36.2.1,y1,()))
 else
 if y0.line=3 then
 if y2=1 then
 (ac1 y0 y3).bind fun r37 =>
 some ((()),(r37.2.1,y1,()))
 else
 if y0.line=3 then
 if y2=0 then
 (agn y0.worker).bind fun r38 =>
 (aaf y0 2 r38.1.1).bind fun r39 =>
 some ((()),(r39.2.1,y1,()))
 else
 if y0.line=3 then
 (abt y0 y1).bind fun r40 =>
 some ((()),(r40.2.1,r40.2.2.1,()))
 else
 if y2=2 then
 (aej y0.worker).bind fun r41 =>
 (aaf y0 8 r41.1.1).bind fun r42 =>
 some ((()),(r42.2.1,y1,()))
 else
 (ahP y1.l (wi (Int.tdiv y3 64)) (Int.tmod y3 64)).bind fun r43 =>
 (aem r43.1.1).bind fun r44 =>
 (aaf ({ y0 with victim:=wi (Int.tdiv y3 64),level:=(Int.tmod y3 64) }:(WorkerV MV)) 5 r44.1.1).bind fun r45 =>
 some ((()),(r45.2.1,y1,()))
 else
 if y0.line=3 then
 (abt y0 y1).bind fun r46 =>
 some ((()),(r46.2.1,r46.2.2.1,()))
 else
 if y2=2 then
 (aej y0.worker).bind fun r47 =>
 (aaf y0 8 r47.1.1).bind fun r48 =>
 some ((()),(r48.2.1,y1,()))
 else
 (ahP y1.l (wi (Int.tdiv y3 64)) (Int.tmod y3 64)).bind fun r49 =>
 (aem r49.1.1).bind fun r50 =>
 (aaf ({ y0 with victim:=wi (Int.tdiv y3 64),level:=(Int.tmod y3 64) }:(WorkerV MV)) 5 r50.1.1).bind fun r51 =>
 some ((()),(r51.2.1,y1,()))
 else
 if y0.line=3 then
 if y2=0 then
 (agn y0.worker).bind fun r52 =>
 (aaf y0 2 r52.1.1).bind fun r53 =>
 some ((()),(r53.2.1,y1,()))
 else
 if y0.line=3 then
 (abt y0 y1).bind fun r54 =>
 some ((()),(r54.2.1,r54.2.2.1,()))
 else
 if y2=2 then
 (aej y0.worker).bind fun r55 =>
 (aaf y0 8 r55.1.1).bind fun r56 =>
 some ((()),(r56.2.1,y1,()))
 else
 (ahP y1.l (wi (Int.tdiv y3 64)) (Int.tmod y3 64)).bind fun r57 =>
 (aem r57.1.1).bind fun r58 =>
 (aaf ({ y0 with victim:=wi (Int.tdiv y3 64),level:=(Int.tmod y3 64) }:(WorkerV MV)) 5 r58.1.1).bind fun r59 =>
 some ((()),(r59.2.1,y1,()))
 else
 if y0.line=3 then
 (abt y0 y1).bind fun r60 =>
 some ((()),(r60.2.1,r60.2.2.1,()))
 else
 if y2=2 then
 (aej y0.worker).bind fun r61 =>
 (aaf y0 8 r61.1.1).bind fun r62 =>
 some ((()),(r62.2.1,y1,()))
 else
 (ahP y1.l (wi (Int.tdiv y3 64)) (Int.tmod y3 64)).bind fun r63 =>
 (aem r63.1.1).bind fun r64 =>
 (aaf ({ y0 with victim:=wi (Int.tdiv y3 64),level:=(Int.tmod y3 64) }:(WorkerV MV)) 5 r64.1.1).bind fun r65 =>
 some ((()),(r65.2.1,y1,()))
noncomputable abbrev ahx:Con SR1:=⟨123,[.ref 31,.ref 27,.sh sI_,.sh sI_],[],fun x =>acj x.1 x.2.1 x.2.2.1 x.2.2.2.1⟩
theorem alp:CO Tryz.prog ahx:=aal aai Tryz.func123 [anO,acN,af5,ao5,afn,ah4,alX,ak9,aoP] ⟨aqj,ac0,ah3,atV,ag5,alS,aoU,akw,asL,trivial⟩
noncomputable def aa0 (y0:(WorkerV MV)):Option ((Unit)×((WorkerV MV)×Unit)) :=
 some ((()),(({ y0 with line:=0,inside:=MV.nil }:(WorkerV MV)),()))
noncomputable abbrev afI:Con SR1:=⟨121,[.ref 31],[],fun x =>aa0 x.1⟩
theorem ahw:CO Tryz.prog afI:=aal aai Tryz.func121 [] trivial
noncomputable def aep (y0:(WorkerV MV)) (y1:EnvP) (y2:Int) (y3:Int):Option ((Unit)×((WorkerV MV)×EnvP×Unit)) :=
 if y2=1 then
 (aeV y1 ({ y0 with kind:=14,task:=y3,other:=y0.victim }:Ev)).bind fun r1 =>
 (ac1 y0 y3).bind fun r2 =>
 some ((()),(r2.2.1,r1.2.1,()))
 else
 if y2=2 then
 (ais y1.l y0.victim).bind fun r3 =>
 if y0.level=y0.level then
 if y0.victim=y0.victim then
 if y1.l.workers=y1.l.workers then
 if y1.l.levels=y1.l.levels then
 if y1.l.classes=y1.l.classes then
 if y1.l.tasks=y1.l.tasks then
 if y1.l.deque=y1.l.deque then
 if y1.l.heap=y1.l.heap then
 if y1.l.sleepers=y1.l.sleepers then
 if y1.l.epochs=y1.l.epochs then
 if y1.l.bitmaps=y1.l.bitmaps then
 if y1.l.queues=y1.l.queues then
 if y1.l.table=y1.l.table then
 if y0.level=y0.level then
 (ahP y1.l y0.victim y0.level).bind fun r4 =>
 if y0.level=y0.level then
 (ahY r3.1.1 y0.level r4.1.1).bind fun r5 =>
 (aaf y0 9 r5.1.1).bind fun r6 =>
 some ((()),(r6.2.1,y1,()))
 else none
 else none
 else none
 else none
 else none
 else none
 else none
 else none
 else none
 else none
 else none
 else none
 else none
 else none
 else none
 else
 (aa0 y0).bind fun r7 =>
 some ((()),(r7.2.1,y1,()))
noncomputable abbrev ag4:Con SR1:=⟨124,[.ref 31,.ref 27,.sh sI_,.sh sI_],[],fun x =>aep x.1 x.2.1 x.2.2.1 x.2.2.2.1⟩
theorem ake:CO Tryz.prog ag4:=aal aai Tryz.func124 [agb,afn,ahR,ak9,ajL,acN,afI] ⟨afa,ag5,ahs,akw,alP,ac0,ahw,trivial⟩
noncomputable def aag (y0:(WorkerV MV)) (y1:EnvP):Option ((Bool×Unit)×((WorkerV MV)×EnvP×Unit)) :=
 if y0.line=0 then
 (aeK y0 y1).bind fun r1 =>
 (aer r1.2.1.inside r1.2.2.1).bind fun r2 =>
 if (!r2.1.1)=true then
 some ((false,()),(({ r1.2.1 with inside:=r2.2.1 }:(WorkerV MV)),r2.2.2.1,()))
 else
 (abR r2.2.1).bind fun r3 =>
 if r1.2.1.line≤4 then
 (acj ({ r1.2.1 with inside:=r3.2.1 }:(WorkerV MV)) r2.2.2.1 r3.1.1 r3.1.2.1).bind fun r4 =>
 some ((false,()),(r4.2.1,r4.2.2.1,()))
 else
 if r1.2.1.line=5 then
 (aep ({ r1.2.1 with inside:=r3.2.1 }:(WorkerV MV)) r2.2.2.1 r3.1.1 r3.1.2.1).bind fun r5 =>
 some ((false,()),(r5.2.1,r5.2.2.1,()))
 else
 if r1.2.1.line=6 then
 if r3.1.1=1 then
 (adS ({ r1.2.1 with inside:=r3.2.1 }:(WorkerV MV)) r1.2.1.x).bind fun r6 =>
 some ((false,()),(r6.2.1,r2.2.2.1,()))
 else
 (aa0 ({ r1.2.1 with inside:=r3.2.1 }:(WorkerV MV))).bind fun r7 =>
 some ((false,()),(r7.2.1,r2.2.2.1,()))
 else
 (aa0 ({ r1.2.1 with inside:=r3.2.1 }:(WorkerV MV))).bind fun r8 =>
 some ((false,()),(r8.2.1,r2.2.2.1,()))
 else
 (aer y0.inside y1).bind fun r9 =>
 if (!r9.1.1)=true then
 some ((false,()),(({ y0 with inside:=r9.2.1 }:(WorkerV MV)),r9.2.2.1,()))
 else
 (abR r9.2.1).bind fun r10 =>
 if y0.line≤4 then
 (acj ({ y0 with inside:=r10.2.1 }:(WorkerV MV)) r9.2.2.1 r10.1.1 r10.1.2.1).bind fun r11 =>
 some ((false,()),(r11.2.1,r11.2.2.1,()))
 else
 if y0.line=5 then
 (aep ({ y0 with inside:=r10.2.1 }:(WorkerV MV)) r9.2.2.1 r10.1.1 r10.1.2.1).bind fun r12 =>
 some ((false,()),(r12.2.1,r12.2.2.1,()))
 else
 if y0.line=6 then
 if r10.1.1=1 then
 (adS ({ y0 with inside:=r10.2.1 }:(WorkerV MV)) y0.x).bind fun r13 =>
 some ((false,()),(r13.2.1,r9.2.2.1,()))
 else
 (aa0 ({ y0 with inside:=r10.2.1 }:(WorkerV MV))).bind fun r14 =>
 some ((false,()),(r14.2.1,r9.2.2.1,()))
 else
 (aa0 ({ y0 with inside:=r10.2.1 }:(WorkerV MV))).bind fun r15 =>
 some ((false,()),(r15.2.1,r9.2.2.1,()))
noncomputable abbrev aba:Con SR1:=⟨120,[.ref 31,.ref 27],[.sh .b],fun x =>aag x.1 x.2.1⟩
theorem abn:CO Tryz.prog aba:=aal aai Tryz.func120 [ahv,asP,anX,ahx,ag4,af5,afI] ⟨alo,auH,aqx,alp,ake,ah3,ahw,trivial⟩
noncomputable def afq (y0:Cfg):Option ((Cfg×Unit)×(Unit)) :=
 (ai7 y0.progs).bind fun r1 =>
 (lpF (σ:=Int×(Int×Int×Int×Int×Int×Int×Int×Int×Int×List (List Ins)×List Sub×Unit)×Unit) (β:=Int×(Int×Int×Int×Int×Int×Int×Int×Int×Int×List (List Ins)×List Sub×Unit)×Unit) (fun self4 x2 =>
 if x2.1<((r1.1.1.length:Nat):Int) then
 if 0≤x2.1∧x2.1<((x2.2.1.2.2.2.2.2.2.2.2.2.1.length:Nat):Int) then
 (alk (aCI x2.2.1.2.2.2.2.2.2.2.2.2.1 x2.1)).bind fun r5 =>
 if 0≤x2.1∧x2.1<((x2.2.1.2.2.2.2.2.2.2.2.2.1.length:Nat):Int) then
 self4 (wi (x2.1+1),(x2.2.1.1,x2.2.1.2.1,x2.2.1.2.2.1,x2.2.1.2.2.2.1,x2.2.1.2.2.2.2.1,x2.2.1.2.2.2.2.2.1,x2.2.1.2.2.2.2.2.2.1,x2.2.1.2.2.2.2.2.2.2.1,x2.2.1.2.2.2.2.2.2.2.2.1,x2.2.1.2.2.2.2.2.2.2.2.2.1.set x2.1.toNat r5.1.1,x2.2.1.2.2.2.2.2.2.2.2.2.2.1,()),())
 else none
 else none
 else
 some (x2.1,(x2.2.1.1,x2.2.1.2.1,x2.2.1.2.2.1,x2.2.1.2.2.2.1,x2.2.1.2.2.2.2.1,x2.2.1.2.2.2.2.2.1,x2.2.1.2.2.2.2.2.2.1,x2.2.1.2.2.2.2.2.2.2.1,x2.2.1.2.2.2.2.2.2.2.2.1,x2.2.1.2.2.2.2.2.2.2.2.2.1,x2.2.1.2.2.2.2.2.2.2.2.2.2.1,()),())
 ) 18446744073709551616 (0,(y0.workers,y0.levels,y0.classes,y0.tasks,y0.deque,y0.heap,y0.batch,y0.age,y0.patience,r1.1.1,y0.subs,()),())).bind fun z3 =>
 (ai6 z3.2.1.2.2.2.2.2.2.2.2.2.2.1).bind fun r6 =>
 some (((⟨z3.2.1.1,z3.2.1.2.1,z3.2.1.2.2.1,z3.2.1.2.2.2.1,z3.2.1.2.2.2.2.1,z3.2.1.2.2.2.2.2.1,z3.2.1.2.2.2.2.2.2.1,z3.2.1.2.2.2.2.2.2.2.1,z3.2.1.2.2.2.2.2.2.2.2.1,z3.2.1.2.2.2.2.2.2.2.2.2.1,r6.1.1⟩:Cfg),()),())
noncomputable abbrev aho:Con SR1:=⟨54,[.val 13],[.val 13],fun x =>afq x.1⟩
theorem aiy:CO Tryz.prog aho:=aal aai Tryz.func54 [ajG,asv,aru] ⟨avR,axn,avQ,trivial⟩ [(3,.loop [.rg 11 sI_,.cs 11 [sI_,sI_,sI_,sI_,sI_,sI_,sI_,sI_,sI_,(.row 18),(.ro 4)]] 18446744073709551616 0)]
noncomputable def ang (y0:Cfg):Option ((LayV×Int×Unit)×(Unit)) :=
 (at9 y0).bind fun r1 =>
 if r1.1.1≠0 then
 some (((⟨0,0,0,0,0,0,0,0,0,0,0⟩:LayV),r1.1.1,()),())
 else
 some ((({ y0 with sleepers:=wi (4+y0.heap),epochs:=wi ((wi (4+y0.heap))+y0.classes),bitmaps:=wi ((wi ((wi (4+y0.heap))+y0.classes))+y0.workers),queues:=wi ((wi ((wi ((wi (4+y0.heap))+y0.classes))+y0.workers))+y0.workers),table:=wi ((wi ((wi ((wi ((wi (4+y0.heap))+y0.classes))+y0.workers))+y0.workers))+(wi ((wi (y0.workers*y0.levels))*(wi (2+y0.deque))))) }:LayV),0,()),())
noncomputable abbrev aq4:Con SR1:=⟨63,[.val 13],[.val 24,.sh sI_],fun x =>ang x.1⟩
theorem avz:CO Tryz.prog aq4:=aal aai Tryz.func63 [asy] ⟨axs,trivial⟩
noncomputable def aqV (y0:Int):Option ((MemV×Unit)×(Unit)) :=
 if (if 131072<(if y0<0 then 0 else y0) then 131072 else (if y0<0 then 0 else y0))=(if 131072<(if y0<0 then 0 else y0) then 131072 else (if y0<0 then 0 else y0)) then
 if 0≤(if 131072<(if y0<0 then 0 else y0) then 131072 else (if y0<0 then 0 else y0))∧(if 131072<(if y0<0 then 0 else y0) then 131072 else (if y0<0 then 0 else y0))≤1099511627776 then
 some (((⟨List.replicate ((if 131072<(if y0<0 then 0 else y0) then 131072 else (if y0<0 then 0 else y0)):Int).toNat (0:Int),⟨0,0,0,0⟩,0⟩:MemV),()),())
 else none
 else none
noncomputable abbrev aqU:Con SR1:=⟨70,[.sh sI_],[.sh (.own 9)],fun x =>aqV x.1⟩
theorem avt:CO Tryz.prog aqU:=aal aai Tryz.func70 [] trivial
noncomputable def at7  : Option ((ClkV×Unit)×(Unit)) :=
 some (((⟨0,0⟩:ClkV),()),())
noncomputable abbrev asx:Con SR1:=⟨71,[],[.sh (.own 25)],fun x =>at7 ⟩
theorem axp:CO Tryz.prog asx:=aal aai Tryz.func71 [] trivial
noncomputable def ajq (y0:Int):Option ((EnvP×Unit)×(Unit)) :=
 (aqV y0).bind fun r1 =>
 (at7).bind fun r2 =>
 some (((⟨⟨0,0,0,0,0,0,0,0,0,[],[]⟩,⟨0,0,0,0,0,0,0,0,0,0,0⟩,r1.1.1,r2.1.1,[],[]⟩:EnvP),()),())
noncomputable abbrev am5:Con SR1:=⟨64,[.sh sI_],[.sh (.own 27)],fun x =>ajq x.1⟩
theorem arN:CO Tryz.prog am5:=aal aai Tryz.func64 [aqU,asx] ⟨avt,axp,trivial⟩
noncomputable def aeJ (y0:Cfg):Option (((ClientV MV)×Unit)×(Unit)) :=
 (afq y0).bind fun r1 =>
 if y0.workers=y0.workers then
 some (((⟨r1.1.1.subs,y0.workers,0,1,MV.nil,true,0,false⟩:(ClientV MV)),()),())
 else none
noncomputable abbrev aeg:Con SR1:=⟨50,[.val 13],[.sh (.own 30)],fun x =>aeJ x.1⟩
theorem ad6:CO Tryz.prog aeg:=aal aai Tryz.func50 [aho] ⟨aiy,trivial⟩
noncomputable def abv (y0:Int):Option (((WorkerV MV)×Unit)×(Unit)) :=
 some (((⟨y0,0,0,MV.nil,0,0,0⟩:(WorkerV MV)),()),())
noncomputable abbrev ad9:Con SR1:=⟨51,[.sh sI_],[.sh (.own 31)],fun x =>abv x.1⟩
theorem ad4:CO Tryz.prog ad9:=aal aai Tryz.func51 [] trivial
noncomputable def adF (y0:(ClientV MV)):Option ((Int×Unit)×((ClientV MV)×Unit)) :=
 (aas y0).bind fun r1 =>
 if r1.1.1=true then
 some ((4,()),(r1.2.1,()))
 else
 if r1.2.1.line=1 then
 some ((0,()),(r1.2.1,()))
 else
 some ((2,()),(r1.2.1,()))
noncomputable abbrev acU:Con SR1:=⟨46,[.ref 30],[.sh sI_],fun x =>adF x.1⟩
theorem adE:CO Tryz.prog acU:=aal aai Tryz.func46 [aex] ⟨afs,trivial⟩
noncomputable def adw (y0:(WorkerV MV)):Option ((Int×Unit)×((WorkerV MV)×Unit)) :=
 if y0.line=0 then
 some ((0,()),(y0,()))
 else
 if y0.line=7 then
 some ((2,()),(y0,()))
 else
 if y0.line=8 then
 (aoa y0.inside).bind fun r1 =>
 if r1.1.1=true then
 some ((3,()),(({ y0 with inside:=r1.2.1 }:(WorkerV MV)),()))
 else
 some ((1,()),(({ y0 with inside:=r1.2.1 }:(WorkerV MV)),()))
 else
 some ((1,()),(y0,()))
noncomputable abbrev acS:Con SR1:=⟨47,[.ref 31],[.sh sI_],fun x =>adw x.1⟩
theorem adv:CO Tryz.prog acS:=aal aai Tryz.func47 [aks] ⟨as8,trivial⟩
noncomputable def ab1 (r:CodV) (k:Int):Option ((Int×Unit)×(CodV×Unit)) :=
 if r.at_<((r.inn.length:Nat):Int) then
 if 0≤r.at_∧r.at_<((r.inn.length:Nat):Int) then
 if k≠0 then
 some (((Int.tmod (wi (aj8 r.inn r.at_)) k),()),(({ r with at_:=wi (r.at_+1) }:CodV),()))
 else none
 else none
 else
 some ((0,()),(({ r with at_:=wi (r.at_+1) }:CodV),()))
noncomputable abbrev ar3:Con SR1:=⟨40,[.ref 19,.sh sI_],[.sh sI_],fun x =>ab1 x.1 x.2.1⟩
theorem aww:CO Tryz.prog ar3:=aal aai Tryz.func40 [] trivial
noncomputable def apR (b:List Int):Option ((Cfg×Unit)×(Unit)) :=
 (ab1 (⟨b,[],0,false⟩:CodV) 4).bind fun r1 =>
 (ab1 r1.2.1 4).bind fun r2 =>
 (ab1 r2.2.1 (if wi (1+r2.1.1)<3 then wi (1+r2.1.1) else 3)).bind fun r3 =>
 (ab1 r3.2.1 12).bind fun r4 =>
 (ab1 r4.2.1 4).bind fun r5 =>
 (ab1 r5.2.1 4).bind fun r6 =>
 (ab1 r6.2.1 (wi (1+r5.1.1))).bind fun r7 =>
 (ab1 r7.2.1 6).bind fun r8 =>
 (ab1 r8.2.1 8).bind fun r9 =>
 (ab1 r9.2.1 4).bind fun r10 =>
 (lpF (σ:=Int×CodV×Cfg×Unit) (β:=Int×CodV×Cfg×Unit) (fun self13 x11 =>
 if x11.1<(wi (1+r10.1.1)) then
 (ab1 x11.2.1 6).bind fun r14 =>
 (lpF (σ:=List Ins×Int×CodV×Unit) (β:=List Ins×Int×CodV×Unit) (fun self17 x15 =>
 if 0<x15.2.1 then
 (ab1 x15.2.2.1 3).bind fun r18 =>
 if r18.1.1=0 then
 (ab1 r18.2.1 4).bind fun r19 =>
 if (((x15.1.length+([(⟨r18.1.1,wi (1+r19.1.1),0⟩:Ins)]:List Ins).length:Nat)):Int)<1000000000000 then
 self17 (x15.1++([(⟨r18.1.1,wi (1+r19.1.1),0⟩:Ins)]),wi (x15.2.1-1),r19.2.1,())
 else none
 else
 if r18.1.1=1 then
 (ab1 r18.2.1 (wi (1+r10.1.1))).bind fun r20 =>
 (ab1 r20.2.1 x11.2.2.1.levels).bind fun r21 =>
 if (((x15.1.length+([(⟨r18.1.1,r20.1.1,r21.1.1⟩:Ins)]:List Ins).length:Nat)):Int)<1000000000000 then
 self17 (x15.1++([(⟨r18.1.1,r20.1.1,r21.1.1⟩:Ins)]),wi (x15.2.1-1),r21.2.1,())
 else none
 else
 (ab1 r18.2.1 4).bind fun r22 =>
 if (((x15.1.length+([(⟨r18.1.1,r22.1.1,0⟩:Ins)]:List Ins).length:Nat)):Int)<1000000000000 then
 self17 (x15.1++([(⟨r18.1.1,r22.1.1,0⟩:Ins)]),wi (x15.2.1-1),r22.2.1,())
 else none
 else
 some (x15.1,x15.2.1,x15.2.2.1,())
 ) 18446744073709551616 ([],r14.1.1,r14.2.1,())).bind fun z16 =>
 if (((x11.2.2.1.progs.length+([z16.1]:List (List Ins)).length:Nat)):Int)<100000000000 then
 self13 (wi (x11.1+1),z16.2.2.1,({ x11.2.2.1 with progs:=x11.2.2.1.progs++([z16.1]) }:Cfg),())
 else none
 else
 some (x11.1,x11.2.1,x11.2.2.1,())
 ) 18446744073709551616 (0,r10.2.1,(⟨wi (1+r1.1.1),wi (1+r2.1.1),wi (1+r3.1.1),wi (1+r4.1.1),wi (1+r5.1.1),wi (1+r6.1.1),wi (1+r7.1.1),r8.1.1,wi (1+r9.1.1),[],[]⟩:Cfg),())).bind fun z12 =>
 (ab1 z12.2.1 6).bind fun r23 =>
 (lpF (σ:=Int×CodV×Cfg×Unit) (β:=Int×CodV×Cfg×Unit) (fun self26 x24 =>
 if 0<x24.1 then
 (ab1 x24.2.1 (wi (1+r10.1.1))).bind fun r27 =>
 (ab1 r27.2.1 x24.2.2.1.levels).bind fun r28 =>
 (ab1 r28.2.1 16).bind fun r29 =>
 if (((x24.2.2.1.subs.length+([(⟨r27.1.1,r28.1.1,r29.1.1⟩:Sub)]:List Sub).length:Nat)):Int)<1000000000000 then
 self26 (wi (x24.1-1),r29.2.1,({ x24.2.2.1 with subs:=x24.2.2.1.subs++([(⟨r27.1.1,r28.1.1,r29.1.1⟩:Sub)]) }:Cfg),())
 else none
 else
 some (x24.1,x24.2.1,x24.2.2.1,())
 ) 18446744073709551616 (r23.1.1,r23.2.1,z12.2.2.1,())).bind fun z25 =>
 some ((z25.2.2.1,()),())
noncomputable abbrev ar4:Con SR1:=⟨21,[.sh (.ro 17)],[.val 13],fun x =>apR x.1⟩
theorem awx:CO Tryz.prog ar4:=aal aai Tryz.func21 [ar3] ⟨aww,trivial⟩ [(12,.loop [.rg 6 sI_,.rg 3 (.own 19),.rg 4 (.own 20)] 18446744073709551616 0),(16,.loop [.rg 7 (.row 3),.rg 8 sI_,.rg 3 (.own 19)] 18446744073709551616 2),(29,.loop [.rg 10 sI_,.rg 3 (.own 19),.rg 4 (.own 20)] 18446744073709551616 5)]
noncomputable def agX (b:List Int):Option ((Cfg×Unit)×(Unit)) :=
 (apR b).bind fun r1 =>
 some ((r1.1.1,()),())
noncomputable abbrev ai0:Con SR1:=⟨7,[.sh (.ro 17)],[.val 13],fun x =>agX x.1⟩
theorem aiZ:CO Tryz.prog ai0:=aal aai Tryz.func7 [ar4] ⟨awx,trivial⟩
noncomputable def aq5 (b:List Int) (l:List (List Int)):Option ((Bool×Unit)×(Unit)) :=
 (lpF (σ:=Int×Unit) (β:=(Int×Unit)⊕((Bool×Unit)×(Unit))) (fun self3 x1 =>
 if x1.1<((l.length:Nat):Int) then
 if 0≤x1.1∧x1.1<((l.length:Nat):Int) then
 if 400<(((atL [] l x1.1).length:Nat):Int) then
 Option.map Sum.inr (
 some ((false,()),())
 )
 else
 self3 (wi (x1.1+1),())
 else none
 else
 some (Sum.inl (x1.1,()))
 ) 18446744073709551616 (0,())).bind fun z2 =>match z2 with
 | .inr o4 =>some o4
 | .inl z2 =>
 some ((decide (((b.length:Nat):Int)≤400),()),())
noncomputable abbrev anj:Con SR1:=⟨6,[.sh (.ro 17),.sh (.rr 1)],[.sh .b],fun x =>aq5 x.1 x.2.1⟩
theorem ani:CO Tryz.prog anj:=aal aai Tryz.func6 [] trivial [(2,.loopR [.rg 5 sI_] 18446744073709551616 0)]
noncomputable def ac2 (y0:MemV):Option ((List Int×Unit)×(MemV×Unit)) :=
 (anx y0.cells).bind fun r1 =>
 some ((r1.1.1,()),(({ y0 with cells:=r1.2.1 }:MemV),()))
noncomputable abbrev acl:Con SR1:=⟨44,[.ref 9],[.sh (.row 0)],fun x =>ac2 x.1⟩
theorem acT:CO Tryz.prog acl:=aal aai Tryz.func44 [asu] ⟨axm,trivial⟩
noncomputable def adp (y0:Cfg):Option ((EnvP×Int×Unit)×(Unit)) :=
 (ang y0).bind fun r1 =>
 if r1.1.2.1≠0 then
 none
 else
 (ayr r1.1.1).bind fun r2 =>
 (ajq r2.1.1).bind fun r3 =>
 (afq y0).bind fun r4 =>
 if r1.1.1.workers=r1.1.1.workers then
 if r1.1.1.levels=r1.1.1.levels then
 if r1.1.1.classes=r1.1.1.classes then
 if r1.1.1.tasks=r1.1.1.tasks then
 if r1.1.1.deque=r1.1.1.deque then
 if r1.1.1.heap=r1.1.1.heap then
 if r1.1.1.sleepers=r1.1.1.sleepers then
 if r1.1.1.epochs=r1.1.1.epochs then
 if r1.1.1.bitmaps=r1.1.1.bitmaps then
 if r1.1.1.queues=r1.1.1.queues then
 if r1.1.1.table=r1.1.1.table then
 if r1.1.1.workers=r1.1.1.workers then
 if r1.1.1.levels=r1.1.1.levels then
 if r1.1.1.classes=r1.1.1.classes then
 if r1.1.1.tasks=r1.1.1.tasks then
 if r1.1.1.deque=r1.1.1.deque then
 if r1.1.1.heap=r1.1.1.heap then
 if r1.1.1.sleepers=r1.1.1.sleepers then
 if r1.1.1.epochs=r1.1.1.epochs then
 if r1.1.1.bitmaps=r1.1.1.bitmaps then
 if r1.1.1.queues=r1.1.1.queues then
 if r1.1.1.table=r1.1.1.table then
 (lpF (σ:=Int×EnvP×Unit) (β:=Int×EnvP×Unit) (fun self7 x5 =>
 if x5.1<y0.tasks then
 if (((x5.2.1.recs.length+([(⟨0,(-1),0,0,(-1),[],false⟩:RecP)]:List RecP).length:Nat)):Int)<100000000000 then
 self7 (wi (x5.1+1),({ x5.2.1 with recs:=x5.2.1.recs++([(⟨0,(-1),0,0,(-1),[],false⟩:RecP)]) }:EnvP),())
 else none
 else
 some (x5.1,x5.2.1,())
 ) 18446744073709551616 (0,({ r3.1.1 with c:=r4.1.1,l:=r1.1.1 }:EnvP),())).bind fun z6 =>
 some ((z6.2.1,0,()),())
 else none
 else none
 else none
 else none
 else none
 else none
 else none
 else none
 else none
 else none
 else none
 else none
 else none
 else none
 else none
 else none
 else none
 else none
 else none
 else none
 else none
 else none
noncomputable abbrev adA:Con SR1:=⟨49,[.val 13],[.sh (.own 27),.sh sI_],fun x =>adp x.1⟩
theorem adz:CO Tryz.prog adA:=aal aai Tryz.func49 [aq4,ayq,am5,aho] ⟨avz,aBh,arN,aiy,trivial⟩ [(7,.loop [.rg 29 sI_,.rg 6 (.own 27)] 18446744073709551616 0)]
noncomputable def aaD (y0:MemV):Option ((Int×Unit)×(MemV×Unit)) :=
 some ((y0.count,()),(y0,()))
noncomputable abbrev aaZ:Con SR1:=⟨35,[.ref 9],[.sh sI_],fun x =>aaD x.1⟩
theorem aa7:CO Tryz.prog aaZ:=aal aai Tryz.func35 [] trivial
noncomputable def acV (y0:EntV) (y1:Int):Option ((Int×Unit)×(Unit)) :=
 if y0.kind≠0 then
 some (((-1),()),())
 else
 if y1<1 then
 some (((-1),()),())
 else
 if y1≠0 then
 if (Int.tmod y0.value y1)<0 then
 some ((wi ((Int.tmod y0.value y1)+y1),()),())
 else
 some (((Int.tmod y0.value y1),()),())
 else none
noncomputable abbrev ab0:Con SR1:=⟨36,[.val 5,.sh sI_],[.sh sI_],fun x =>acV x.1 x.2.1⟩
theorem acd:CO Tryz.prog ab0:=aal aai Tryz.func36 [] trivial
noncomputable def ae6 (y0:ClkV):Option ((Unit)×(ClkV×Unit)) :=
 some ((()),((⟨wi (y0.now+1),y0.draw⟩:ClkV),()))
noncomputable abbrev abG:Con SR1:=⟨37,[.ref 25],[],fun x =>ae6 x.1⟩
theorem abP:CO Tryz.prog abG:=aal aai Tryz.func37 [] trivial
noncomputable def afZ (y0:ClkV) (y1:Int):Option ((Unit)×(ClkV×Unit)) :=
 some ((()),((⟨y0.now,y1⟩:ClkV),()))
noncomputable abbrev ab5:Con SR1:=⟨38,[.ref 25,.sh sI_],[],fun x =>afZ x.1 x.2.1⟩
theorem ace:CO Tryz.prog ab5:=aal aai Tryz.func38 [] trivial
noncomputable def agV (y0:MemV):Option ((AccV×Unit)×(MemV×Unit)) :=
 some ((y0.last,()),(y0,()))
noncomputable abbrev abc:Con SR1:=⟨39,[.ref 9],[.val 60],fun x =>agV x.1⟩
theorem abq:CO Tryz.prog abc:=aal aai Tryz.func39 [] trivial
end
section
open Go Go.RowKit
set_option maxRecDepth 100000
end
end Go.Proofs.YtidhehdanppcoaaGreat
