/- The program's machines in the evaluator's form. The program's machines in the evaluator's form. -/
import Derived.Test.YteapeojalliebaaGreatIzaj
set_option linter.all false
namespace Go.Proofs.YteapeojalliebaaGreat
section
open Go Go.RowKit
set_option maxRecDepth 100000
variable [Tb]
noncomputable def aaG (y0:(RunV MV)) (y1:EnvP):Option ((Bool×Unit)×((RunV MV)×EnvP×Unit)) :=
 if 0≤(tlI y0.stack)∧(tlI y0.stack)<((y0.stack.length:Nat):Int) then
 if 0≤tpI y0.stack∧tpI y0.stack<((y1.recs.length:Nat):Int) then
 if y0.line=1 then
 if 0≤(tlI y0.stack)∧(tlI y0.stack)<((y0.stack.length:Nat):Int) then
 if y1.l.workers=y1.l.workers then
 if y1.l.levels=y1.l.levels then
 if y1.l.classes=y1.l.classes then
 if y1.l.tasks=y1.l.tasks then
 if y1.l.deque=y1.l.deque then
 if y1.l.heap=y1.l.heap then
 if y1.l.sleepers=y1.l.sleepers then
 if y1.l.epochs=y1.l.epochs then
 if y1.l.bitmaps=y1.l.bitmaps then
 if y1.l.queues=y1.l.queues then
 if y1.l.table=y1.l.table then
 (aks y1.l (tpI y0.stack)).bind fun r1 =>
 (aa5 y1.m r1.1.1 0).bind fun r2 =>
 (aac y0 0 MV.nil).bind fun r3 =>
 some ((r3.1.1,()),(r3.2.1,({ y1 with m:=r2.2.1,recs:=y1.recs.set (tpI y0.stack).toNat ({ aab y1.recs (tpI y0.stack) with waiting:=(-1) }:RecP) }:EnvP),()))
 else none
 else none
 else none
 else none
 else none
 else none
 else none
 else none
 else none
 else none
 else none
 else none
 else
 if y0.line=2 then
 if ((aab y1.recs (tpI y0.stack)).left)=0 then
 if 0≤(tlI y0.stack)∧(tlI y0.stack)<((y0.stack.length:Nat):Int) then
 if 0≤tpI y0.stack∧tpI y0.stack<((y1.recs.length:Nat):Int) then
 if ((aab y1.recs (tpI y0.stack)).prog)<0 then
 if 0≤(tlI y0.stack)∧(tlI y0.stack)<((y0.stack.length:Nat):Int) then
 if 0≤tpI y0.stack∧tpI y0.stack<((y1.recs.length:Nat):Int) then
 none
 else none
 else none
 else
 if ((y1.c.progs.length:Nat):Int)≤((aab y1.recs (tpI y0.stack)).prog) then
 if 0≤(tlI y0.stack)∧(tlI y0.stack)<((y0.stack.length:Nat):Int) then
 if 0≤tpI y0.stack∧tpI y0.stack<((y1.recs.length:Nat):Int) then
 none
 else none
 else none
 else
 if 0≤(aab y1.recs (tpI y0.stack)).prog∧(aab y1.recs (tpI y0.stack)).prog<((y1.c.progs.length:Nat):Int) then
 if 0≤(tlI y0.stack)∧(tlI y0.stack)<((y0.stack.length:Nat):Int) then
 if 0≤tpI y0.stack∧tpI y0.stack<((y1.recs.length:Nat):Int) then
 if 0≤(aab y1.recs (tpI y0.stack)).pc∧(aab y1.recs (tpI y0.stack)).pc<(((atL [] y1.c.progs ((aab y1.recs (tpI y0.stack)).prog)).length:Nat):Int) then
 if ((aab ((y1.recs.set (tpI y0.stack).toNat ({ aab y1.recs (tpI y0.stack) with left:=(acl (atL [] y1.c.progs ((aab y1.recs (tpI y0.stack)).prog)) ((aab y1.recs (tpI y0.stack)).pc)).a }:RecP)).set (tpI y0.stack).toNat ({ aab (y1.recs.set (tpI y0.stack).toNat ({ aab y1.recs (tpI y0.stack) with left:=(acl (atL [] y1.c.progs ((aab y1.recs (tpI y0.stack)).prog)) ((aab y1.recs (tpI y0.stack)).pc)).a }:RecP)) (tpI y0.stack) with left:=wi (((aab (y1.recs.set (tpI y0.stack).toNat ({ aab y1.recs (tpI y0.stack) with left:=(acl (atL [] y1.c.progs ((aab y1.recs (tpI y0.stack)).prog)) ((aab y1.recs (tpI y0.stack)).pc)).a }:RecP)) (tpI y0.stack)).left)-1) }:RecP)) (tpI y0.stack)).left)=0 then
 (aac y0 0 MV.nil).bind fun r4 =>
 some ((r4.1.1,()),(r4.2.1,({ y1 with recs:=((y1.recs.set (tpI y0.stack).toNat ({ aab y1.recs (tpI y0.stack) with left:=(acl (atL [] y1.c.progs ((aab y1.recs (tpI y0.stack)).prog)) ((aab y1.recs (tpI y0.stack)).pc)).a }:RecP)).set (tpI y0.stack).toNat ({ aab (y1.recs.set (tpI y0.stack).toNat ({ aab y1.recs (tpI y0.stack) with left:=(acl (atL [] y1.c.progs ((aab y1.recs (tpI y0.stack)).prog)) ((aab y1.recs (tpI y0.stack)).pc)).a }:RecP)) (tpI y0.stack) with left:=wi (((aab (y1.recs.set (tpI y0.stack).toNat ({ aab y1.recs (tpI y0.stack) with left:=(acl (atL [] y1.c.progs ((aab y1.recs (tpI y0.stack)).prog)) ((aab y1.recs (tpI y0.stack)).pc)).a }:RecP)) (tpI y0.stack)).left)-1) }:RecP)).set (tpI y0.stack).toNat ({ aab ((y1.recs.set (tpI y0.stack).toNat ({ aab y1.recs (tpI y0.stack) with left:=(acl (atL [] y1.c.progs ((aab y1.recs (tpI y0.stack)).prog)) ((aab y1.recs (tpI y0.stack)).pc)).a }:RecP)).set (tpI y0.stack).toNat ({ aab (y1.recs.set (tpI y0.stack).toNat ({ aab y1.recs (tpI y0.stack) with left:=(acl (atL [] y1.c.progs ((aab y1.recs (tpI y0.stack)).prog)) ((aab y1.recs (tpI y0.stack)).pc)).a }:RecP)) (tpI y0.stack) with left:=wi (((aab (y1.recs.set (tpI y0.stack).toNat ({ aab y1.recs (tpI y0.stack) with left:=(acl (atL [] y1.c.progs ((aab y1.recs (tpI y0.stack)).prog)) ((aab y1.recs (tpI y0.stack)).pc)).a }:RecP)) (tpI y0.stack)).left)-1) }:RecP)) (tpI y0.stack) with pc:=wi (((aab ((y1.recs.set (tpI y0.stack).toNat ({ aab y1.recs (tpI y0.stack) with left:=(acl (atL [] y1.c.progs ((aab y1.recs (tpI y0.stack)).prog)) ((aab y1.recs (tpI y0.stack)).pc)).a }:RecP)).set (tpI y0.stack).toNat ({ aab (y1.recs.set (tpI y0.stack).toNat ({ aab y1.recs (tpI y0.stack) with left:=(acl (atL [] y1.c.progs ((aab y1.recs (tpI y0.stack)).prog)) ((aab y1.recs (tpI y0.stack)).pc)).a }:RecP)) (tpI y0.stack) with left:=wi (((aab (y1.recs.set (tpI y0.stack).toNat ({ aab y1.recs (tpI y0.stack) with left:=(acl (atL [] y1.c.progs ((aab y1.recs (tpI y0.stack)).prog)) ((aab y1.recs (tpI y0.stack)).pc)).a }:RecP)) (tpI y0.stack)).left)-1) }:RecP)) (tpI y0.stack)).pc)+1) }:RecP) }:EnvP),()))
 else
 (aac y0 0 MV.nil).bind fun r5 =>
 some ((r5.1.1,()),(r5.2.1,({ y1 with recs:=(y1.recs.set (tpI y0.stack).toNat ({ aab y1.recs (tpI y0.stack) with left:=(acl (atL [] y1.c.progs ((aab y1.recs (tpI y0.stack)).prog)) ((aab y1.recs (tpI y0.stack)).pc)).a }:RecP)).set (tpI y0.stack).toNat ({ aab (y1.recs.set (tpI y0.stack).toNat ({ aab y1.recs (tpI y0.stack) with left:=(acl (atL [] y1.c.progs ((aab y1.recs (tpI y0.stack)).prog)) ((aab y1.recs (tpI y0.stack)).pc)).a }:RecP)) (tpI y0.stack) with left:=wi (((aab (y1.recs.set (tpI y0.stack).toNat ({ aab y1.recs (tpI y0.stack) with left:=(acl (atL [] y1.c.progs ((aab y1.recs (tpI y0.stack)).prog)) ((aab y1.recs (tpI y0.stack)).pc)).a }:RecP)) (tpI y0.stack)).left)-1) }:RecP) }:EnvP),()))
 else none
 else none
 else none
 else none
 else none
 else none
 else
 if ((aab (y1.recs.set (tpI y0.stack).toNat ({ aab y1.recs (tpI y0.stack) with left:=wi (((aab y1.recs (tpI y0.stack)).left)-1) }:RecP)) (tpI y0.stack)).left)=0 then
 (aac y0 0 MV.nil).bind fun r6 =>
 some ((r6.1.1,()),(r6.2.1,({ y1 with recs:=(y1.recs.set (tpI y0.stack).toNat ({ aab y1.recs (tpI y0.stack) with left:=wi (((aab y1.recs (tpI y0.stack)).left)-1) }:RecP)).set (tpI y0.stack).toNat ({ aab (y1.recs.set (tpI y0.stack).toNat ({ aab y1.recs (tpI y0.stack) with left:=wi (((aab y1.recs (tpI y0.stack)).left)-1) }:RecP)) (tpI y0.stack) with pc:=wi (((aab (y1.recs.set (tpI y0.stack).toNat ({ aab y1.recs (tpI y0.stack) with left:=wi (((aab y1.recs (tpI y0.stack)).left)-1) }:RecP)) (tpI y0.stack)).pc)+1) }:RecP) }:EnvP),()))
 else
 (aac y0 0 MV.nil).bind fun r7 =>
 some ((r7.1.1,()),(r7.2.1,({ y1 with recs:=y1.recs.set (tpI y0.stack).toNat ({ aab y1.recs (tpI y0.stack) with left:=wi (((aab y1.recs (tpI y0.stack)).left)-1) }:RecP) }:EnvP),()))
 else
 (aac y0 0 MV.nil).bind fun r8 =>
 some ((r8.1.1,()),(r8.2.1,({ y1 with recs:=y1.recs.set (tpI y0.stack).toNat ({ aab y1.recs (tpI y0.stack) with pc:=wi (((aab y1.recs (tpI y0.stack)).pc)+1) }:RecP) }:EnvP),()))
 else none
 else none
noncomputable abbrev aiH:Con SR1:=⟨225,[.ref 33,.ref 27],[.sh .b],fun x =>aaG x.1 x.2.1⟩
noncomputable def amD:List (Nat×Func):=[(229,Tryz.f229),(223,Tryz.f223),(232,Tryz.f232),(230,Tryz.f230)]
theorem amE:CO Tryz.prog aiH:=ahZ aah Tryz.func225 [apM,aeh,adP] ⟨aqQ,adC,ad6,trivial⟩ amD ⟨Tryz.func229,Tryz.func223,Tryz.func232,Tryz.func230,trivial⟩ (fun _ =>[]) [] fun x =>by kernel_rfl
noncomputable def aaH (y0:(RunV MV)) (y1:EnvP) (y2:Ev):Option ((Unit)×((RunV MV)×EnvP×Unit)) :=
 (aeJ y1 ({ y2 with worker:=y0.worker }:Ev)).bind fun r1 =>
 some ((()),(y0,r1.2.1,()))
noncomputable abbrev aer:Con SR1:=⟨235,[.ref 33,.ref 27,.val 2],[],fun x =>aaH x.1 x.2.1 x.2.2.1⟩
theorem ae1:CO Tryz.prog aer:=aam aah Tryz.func235 [aga] ⟨ae2,trivial⟩
noncomputable def akd (y0:Int) (y1:Int):Option ((MV×Unit)×(Unit)) :=
 some ((MV.publish (⟨⟨false,0,0⟩,y0,y1,1⟩:PublishV),()),())
noncomputable abbrev alM:Con SR1:=⟨240,[.sh sI_,.sh sI_],[.sh .mach],fun x =>akd x.1 x.2.1⟩
theorem aqt:CO Tryz.prog alM:=aam aah Tryz.func240 [] trivial
noncomputable def acn (y0:(RunV MV)) (y1:EnvP) (y2:Int) (y3:Int):Option ((Bool×Unit)×((RunV MV)×EnvP×Unit)) :=
 if 0≤(tlI y0.stack)∧(tlI y0.stack)<((y0.stack.length:Nat):Int) then
 if 0≤tpI y0.stack∧tpI y0.stack<((y1.recs.length:Nat):Int) then
 if 0≤(tlI y0.stack)∧(tlI y0.stack)<((y0.stack.length:Nat):Int) then
 if 0≤tpI y0.stack∧tpI y0.stack<((y1.recs.length:Nat):Int) then
 if ((aab y1.recs (tpI y0.stack)).prog)<0 then
 if 0≤(tlI y0.stack)∧(tlI y0.stack)<((y0.stack.length:Nat):Int) then
 if 0≤tpI y0.stack∧tpI y0.stack<((y1.recs.length:Nat):Int) then
 none
 else none
 else none
 else
 if ((y1.c.progs.length:Nat):Int)≤((aab y1.recs (tpI y0.stack)).prog) then
 if 0≤(tlI y0.stack)∧(tlI y0.stack)<((y0.stack.length:Nat):Int) then
 if 0≤tpI y0.stack∧tpI y0.stack<((y1.recs.length:Nat):Int) then
 none
 else none
 else none
 else
 if 0≤(aab y1.recs (tpI y0.stack)).prog∧(aab y1.recs (tpI y0.stack)).prog<((y1.c.progs.length:Nat):Int) then
 if 0≤(tlI y0.stack)∧(tlI y0.stack)<((y0.stack.length:Nat):Int) then
 if 0≤tpI y0.stack∧tpI y0.stack<((y1.recs.length:Nat):Int) then
 if 0≤(aab y1.recs (tpI y0.stack)).pc∧(aab y1.recs (tpI y0.stack)).pc<(((atL [] y1.c.progs ((aab y1.recs (tpI y0.stack)).prog)).length:Nat):Int) then
 if y2=3 then
 if (((((aab (y1.recs.set (tpI y0.stack).toNat ({ aab y1.recs (tpI y0.stack) with pc:=wi (((aab y1.recs (tpI y0.stack)).pc)+1) }:RecP)) (tpI y0.stack)).kids).length+([(-1)]:List Int).length:Nat)):Int)<1000000000000 then
 if 0≤(tlI y0.stack)∧(tlI y0.stack)<((y0.stack.length:Nat):Int) then
 (aaH y0 ({ y1 with recs:=(y1.recs.set (tpI y0.stack).toNat ({ aab y1.recs (tpI y0.stack) with pc:=wi (((aab y1.recs (tpI y0.stack)).pc)+1) }:RecP)).set (tpI y0.stack).toNat ({ aab (y1.recs.set (tpI y0.stack).toNat ({ aab y1.recs (tpI y0.stack) with pc:=wi (((aab y1.recs (tpI y0.stack)).pc)+1) }:RecP)) (tpI y0.stack) with kids:=((aab (y1.recs.set (tpI y0.stack).toNat ({ aab y1.recs (tpI y0.stack) with pc:=wi (((aab y1.recs (tpI y0.stack)).pc)+1) }:RecP)) (tpI y0.stack)).kids)++([(-1)]) }:RecP) }:EnvP) (⟨4,0,tpI y0.stack,0,0⟩:Ev)).bind fun r1 =>
 (aac r1.2.1 0 MV.nil).bind fun r2 =>
 some ((r2.1.1,()),(r2.2.1,r1.2.2.1,()))
 else none
 else none
 else
 if (((((aab (y1.recs.set (tpI y0.stack).toNat ({ aab y1.recs (tpI y0.stack) with pc:=wi (((aab y1.recs (tpI y0.stack)).pc)+1) }:RecP)) (tpI y0.stack)).kids).length+([y3]:List Int).length:Nat)):Int)<1000000000000 then
 if 0≤(tlI y0.stack)∧(tlI y0.stack)<((y0.stack.length:Nat):Int) then
 if ((acl (atL [] y1.c.progs ((aab y1.recs (tpI y0.stack)).prog)) ((aab y1.recs (tpI y0.stack)).pc)).a)=((acl (atL [] y1.c.progs ((aab y1.recs (tpI y0.stack)).prog)) ((aab y1.recs (tpI y0.stack)).pc)).a) then
 if 0≤y3∧y3<((((y1.recs.set (tpI y0.stack).toNat ({ aab y1.recs (tpI y0.stack) with pc:=wi (((aab y1.recs (tpI y0.stack)).pc)+1) }:RecP)).set (tpI y0.stack).toNat ({ aab (y1.recs.set (tpI y0.stack).toNat ({ aab y1.recs (tpI y0.stack) with pc:=wi (((aab y1.recs (tpI y0.stack)).pc)+1) }:RecP)) (tpI y0.stack) with kids:=((aab (y1.recs.set (tpI y0.stack).toNat ({ aab y1.recs (tpI y0.stack) with pc:=wi (((aab y1.recs (tpI y0.stack)).pc)+1) }:RecP)) (tpI y0.stack)).kids)++([y3]) }:RecP)).length:Nat):Int) then
 if ((acl (atL [] y1.c.progs ((aab y1.recs (tpI y0.stack)).prog)) ((aab y1.recs (tpI y0.stack)).pc)).b)=((acl (atL [] y1.c.progs ((aab y1.recs (tpI y0.stack)).prog)) ((aab y1.recs (tpI y0.stack)).pc)).b) then
 (akd y3 ((acl (atL [] y1.c.progs ((aab y1.recs (tpI y0.stack)).prog)) ((aab y1.recs (tpI y0.stack)).pc)).b)).bind fun r3 =>
 (aac ({ y0 with id:=y3,level:=(acl (atL [] y1.c.progs ((aab y1.recs (tpI y0.stack)).prog)) ((aab y1.recs (tpI y0.stack)).pc)).b }:(RunV MV)) 5 r3.1.1).bind fun r4 =>
 some ((r4.1.1,()),(r4.2.1,({ y1 with recs:=((y1.recs.set (tpI y0.stack).toNat ({ aab y1.recs (tpI y0.stack) with pc:=wi (((aab y1.recs (tpI y0.stack)).pc)+1) }:RecP)).set (tpI y0.stack).toNat ({ aab (y1.recs.set (tpI y0.stack).toNat ({ aab y1.recs (tpI y0.stack) with pc:=wi (((aab y1.recs (tpI y0.stack)).pc)+1) }:RecP)) (tpI y0.stack) with kids:=((aab (y1.recs.set (tpI y0.stack).toNat ({ aab y1.recs (tpI y0.stack) with pc:=wi (((aab y1.recs (tpI y0.stack)).pc)+1) }:RecP)) (tpI y0.stack)).kids)++([y3]) }:RecP)).set y3.toNat (⟨(acl (atL [] y1.c.progs ((aab y1.recs (tpI y0.stack)).prog)) ((aab y1.recs (tpI y0.stack)).pc)).a,tpI y0.stack,0,0,(-1),[],false⟩:RecP) }:EnvP),()))
 else none
 else none
 else none
 else none
 else none
 else none
 else none
 else none
 else none
 else none
 else none
 else none
 else none
noncomputable abbrev ag8:Con SR1:=⟨234,[.ref 33,.ref 27,.sh sI_,.sh sI_],[.sh .b],fun x =>acn x.1 x.2.1 x.2.2.1 x.2.2.2.1⟩
noncomputable def akj:List (Nat×Func):=[(229,Tryz.f229),(223,Tryz.f223),(232,Tryz.f232),(230,Tryz.f230)]
theorem akk:CO Tryz.prog ag8:=ahZ aah Tryz.func234 [aer,adP,alM] ⟨ae1,ad6,aqt,trivial⟩ akj ⟨Tryz.func229,Tryz.func223,Tryz.func232,Tryz.func230,trivial⟩ (fun _ =>[]) [(8,.close)] fun x =>by kernel_rfl
noncomputable def abo (y0:(RunV MV)) (y1:EnvP):Option ((Bool×Unit)×((RunV MV)×EnvP×Unit)) :=
 (afw y0.inside y1).bind fun r1 =>
 if (!r1.1.1)=true then
 some ((false,()),(({ y0 with inside:=r1.2.1 }:(RunV MV)),r1.2.2.1,()))
 else
 (adQ r1.2.1).bind fun r2 =>
 if y0.line=4 then
 (acn ({ y0 with inside:=r2.2.1 }:(RunV MV)) r1.2.2.1 r2.1.1 r2.1.2.1).bind fun r3 =>
 some ((r3.1.1,()),(r3.2.1,r3.2.2.1,()))
 else
 if y0.line=5 then
 if 0≤(tlI y0.stack)∧(tlI y0.stack)<((y0.stack.length:Nat):Int) then
 if y0.level=y0.level then
 if y0.id=y0.id then
 (aaH ({ y0 with inside:=r2.2.1 }:(RunV MV)) r1.2.2.1 (⟨3,0,y0.id,tpI y0.stack,y0.level⟩:Ev)).bind fun r4 =>
 (acK r4.2.1.worker r4.2.1.level r4.2.1.id).bind fun r5 =>
 (aac r4.2.1 6 r5.1.1).bind fun r6 =>
 some ((r6.1.1,()),(r6.2.1,r4.2.2.1,()))
 else none
 else none
 else none
 else
 if y0.line=6 then
 if r2.1.1=3 then
 (acI y0.worker y0.id).bind fun r7 =>
 (aac ({ y0 with inside:=r2.2.1 }:(RunV MV)) 8 r7.1.1).bind fun r8 =>
 some ((r8.1.1,()),(r8.2.1,r1.2.2.1,()))
 else
 (adc y0.worker y0.level).bind fun r9 =>
 (aac ({ y0 with inside:=r2.2.1 }:(RunV MV)) 7 r9.1.1).bind fun r10 =>
 some ((r10.1.1,()),(r10.2.1,r1.2.2.1,()))
 else
 if y0.line=8 then
 if r2.1.1=1 then
 if (((y0.stack.length+([y0.id]:List Int).length:Nat)):Int)<1000000000000 then
 (aac ({ y0 with stack:=y0.stack++([y0.id]),inside:=r2.2.1 }:(RunV MV)) 0 MV.nil).bind fun r11 =>
 some ((r11.1.1,()),(r11.2.1,r1.2.2.1,()))
 else none
 else
 (aac ({ y0 with inside:=r2.2.1 }:(RunV MV)) 0 MV.nil).bind fun r12 =>
 some ((r12.1.1,()),(r12.2.1,r1.2.2.1,()))
 else
 (aac ({ y0 with inside:=r2.2.1 }:(RunV MV)) 0 MV.nil).bind fun r13 =>
 some ((r13.1.1,()),(r13.2.1,r1.2.2.1,()))
noncomputable abbrev ajK:Con SR1:=⟨226,[.ref 33,.ref 27],[.sh .b],fun x =>abo x.1 x.2.1⟩
noncomputable def anU:List (Nat×Func):=[(223,Tryz.f223)]
theorem anV:CO Tryz.prog ajK:=ahZ aah Tryz.func226 [apG,anY,ag8,aer,afk,adP,agC,aiQ] ⟨aqu,aqE,akk,ae1,afC,ad6,ahh,ajc,trivial⟩ anU ⟨Tryz.func223,trivial⟩ (fun _ =>[]) [] fun x =>by kernel_rfl
noncomputable def ak0 (y0:Int) (y1:Int) (y2:Int):Option ((MV×Unit)×(Unit)) :=
 some ((MV.walk (⟨⟨false,0,0⟩,y0,y1,y2,1,MV.nil⟩:(WalkV MV)),()),())
noncomputable abbrev arH:Con SR1:=⟨237,[.sh sI_,.sh sI_,.sh sI_],[.sh .mach],fun x =>ak0 x.1 x.2.1 x.2.2.1⟩
theorem avN:CO Tryz.prog arH:=aam aah Tryz.func237 [] trivial
noncomputable def aao (y0:(RunV MV)):Option ((Bool×Unit)×((RunV MV)×Unit)) :=
 if 0≤(tlI y0.stack)∧(tlI y0.stack)≤((y0.stack.length:Nat):Int) then
 if (((y0.stack.take ((tlI y0.stack):Int).toNat).length:Nat):Int)=0 then
 (abi y0.o 0 0).bind fun r1 =>
 some ((r1.1.1,()),(({ y0 with o:=r1.2.1,stack:=y0.stack.take ((tlI y0.stack):Int).toNat }:(RunV MV)),()))
 else
 (aac ({ y0 with stack:=y0.stack.take ((tlI y0.stack):Int).toNat }:(RunV MV)) 0 MV.nil).bind fun r2 =>
 some ((r2.1.1,()),(r2.2.1,()))
 else none
noncomputable abbrev agV:Con SR1:=⟨238,[.ref 33],[.sh .b],fun x =>aao x.1⟩
theorem aiI:CO Tryz.prog agV:=aam aah Tryz.func238 [acM,adP] ⟨abI,ad6,trivial⟩
noncomputable def ahI (y0:(RunV MV)) (y1:EnvP):Option ((Bool×Unit)×((RunV MV)×EnvP×Unit)) :=
 agr (
 if 0≤(tlI y0.stack)∧(tlI y0.stack)<((y0.stack.length:Nat):Int) then
 if y1.l.workers=y1.l.workers then
 if y1.l.levels=y1.l.levels then
 if y1.l.classes=y1.l.classes then
 if y1.l.tasks=y1.l.tasks then
 if y1.l.deque=y1.l.deque then
 if y1.l.heap=y1.l.heap then
 if y1.l.sleepers=y1.l.sleepers then
 if y1.l.epochs=y1.l.epochs then
 if y1.l.bitmaps=y1.l.bitmaps then
 if y1.l.queues=y1.l.queues then
 if y1.l.table=y1.l.table then
 if y1.l.workers=y1.l.workers then
 if y1.l.levels=y1.l.levels then
 if y1.l.classes=y1.l.classes then
 if y1.l.tasks=y1.l.tasks then
 if y1.l.deque=y1.l.deque then
 if y1.l.heap=y1.l.heap then
 if y1.l.sleepers=y1.l.sleepers then
 if y1.l.epochs=y1.l.epochs then
 if y1.l.bitmaps=y1.l.bitmaps then
 if y1.l.queues=y1.l.queues then
 if y1.l.table=y1.l.table then
 if y0.line=9 then
 if 0≤(tlI y0.stack)∧(tlI y0.stack)<((y0.stack.length:Nat):Int) then
 if 0≤tpI y0.stack∧tpI y0.stack<((y1.recs.length:Nat):Int) then
 if 0≤(tlI y0.stack)∧(tlI y0.stack)<((y0.stack.length:Nat):Int) then
 if 0≤tpI y0.stack∧tpI y0.stack<((y1.recs.length:Nat):Int) then
 if (tpI y0.stack)=(tpI y0.stack) then
 if ((aab y1.recs (tpI y0.stack)).prog)<0 then
 if 0≤(tlI y0.stack)∧(tlI y0.stack)<((y0.stack.length:Nat):Int) then
 if 0≤tpI y0.stack∧tpI y0.stack<((y1.recs.length:Nat):Int) then
 if (tpI y0.stack)=(tpI y0.stack) then
 none
 else none
 else none
 else none
 else
 if ((y1.c.progs.length:Nat):Int)≤((aab y1.recs (tpI y0.stack)).prog) then
 if 0≤(tlI y0.stack)∧(tlI y0.stack)<((y0.stack.length:Nat):Int) then
 if 0≤tpI y0.stack∧tpI y0.stack<((y1.recs.length:Nat):Int) then
 if (tpI y0.stack)=(tpI y0.stack) then
 none
 else none
 else none
 else none
 else
 if 0≤(aab y1.recs (tpI y0.stack)).prog∧(aab y1.recs (tpI y0.stack)).prog<((y1.c.progs.length:Nat):Int) then
 if 0≤(tlI y0.stack)∧(tlI y0.stack)<((y0.stack.length:Nat):Int) then
 if 0≤tpI y0.stack∧tpI y0.stack<((y1.recs.length:Nat):Int) then
 if (tpI y0.stack)=(tpI y0.stack) then
 if 0≤(aab y1.recs (tpI y0.stack)).pc∧(aab y1.recs (tpI y0.stack)).pc<(((atL [] y1.c.progs ((aab y1.recs (tpI y0.stack)).prog)).length:Nat):Int) then
 if 0≤(acl (atL [] y1.c.progs ((aab y1.recs (tpI y0.stack)).prog)) ((aab y1.recs (tpI y0.stack)).pc)).a∧(acl (atL [] y1.c.progs ((aab y1.recs (tpI y0.stack)).prog)) ((aab y1.recs (tpI y0.stack)).pc)).a<((((aab y1.recs (tpI y0.stack)).kids).length:Nat):Int) then
 (aks y1.l (tpI y0.stack)).bind fun r26 =>
 if (ady ((aab y1.recs (tpI y0.stack)).kids) ((acl (atL [] y1.c.progs ((aab y1.recs (tpI y0.stack)).prog)) ((aab y1.recs (tpI y0.stack)).pc)).a))=(ady ((aab y1.recs (tpI y0.stack)).kids) ((acl (atL [] y1.c.progs ((aab y1.recs (tpI y0.stack)).prog)) ((aab y1.recs (tpI y0.stack)).pc)).a)) then
 (aa5 y1.m r26.1.1 (wu (wi ((ady ((aab y1.recs (tpI y0.stack)).kids) ((acl (atL [] y1.c.progs ((aab y1.recs (tpI y0.stack)).prog)) ((aab y1.recs (tpI y0.stack)).pc)).a))+1)))).bind fun r27 =>
 (aac ({ y0 with child:=ady ((aab y1.recs (tpI y0.stack)).kids) ((acl (atL [] y1.c.progs ((aab y1.recs (tpI y0.stack)).prog)) ((aab y1.recs (tpI y0.stack)).pc)).a) }:(RunV MV)) (wi (y0.line+1)) MV.nil).bind fun r28 =>
 some ((r28.1.1,()),(r28.2.1,({ y1 with m:=r27.2.1,recs:=((y1.recs.set (tpI y0.stack).toNat (aab y1.recs (tpI y0.stack))).set (tpI y0.stack).toNat ({ aab (y1.recs.set (tpI y0.stack).toNat (aab y1.recs (tpI y0.stack))) (tpI y0.stack) with pc:=wi (((aab (y1.recs.set (tpI y0.stack).toNat (aab y1.recs (tpI y0.stack))) (tpI y0.stack)).pc)+1) }:RecP)).set (tpI y0.stack).toNat ({ aab ((y1.recs.set (tpI y0.stack).toNat (aab y1.recs (tpI y0.stack))).set (tpI y0.stack).toNat ({ aab (y1.recs.set (tpI y0.stack).toNat (aab y1.recs (tpI y0.stack))) (tpI y0.stack) with pc:=wi (((aab (y1.recs.set (tpI y0.stack).toNat (aab y1.recs (tpI y0.stack))) (tpI y0.stack)).pc)+1) }:RecP)) (tpI y0.stack) with waiting:=ady ((aab y1.recs (tpI y0.stack)).kids) ((acl (atL [] y1.c.progs ((aab y1.recs (tpI y0.stack)).prog)) ((aab y1.recs (tpI y0.stack)).pc)).a) }:RecP) }:EnvP),()))
 else none
 else none
 else none
 else none
 else none
 else none
 else none
 else none
 else none
 else none
 else none
 else none
 else
 if y0.line=10 then
 (afh y1.l (tpI y0.stack)).bind fun r29 =>
 (aa5 y1.m r29.1.1 3).bind fun r30 =>
 (aac y0 (wi (y0.line+1)) MV.nil).bind fun r31 =>
 some ((r31.1.1,()),(r31.2.1,({ y1 with m:=r30.2.1 }:EnvP),()))
 else
 if y0.line=11 then
 (app y1.l y0.child).bind fun r32 =>
 (auj y1.m r32.1.1 0 (wu (wi ((tpI y0.stack)+1)))).bind fun r33 =>
 if (!r33.1.1)=true then
 (aac y0 14 MV.nil).bind fun r34 =>
 some ((r34.1.1,()),(r34.2.1,({ y1 with m:=r33.2.1 }:EnvP),()))
 else
 (aaH y0 ({ y1 with m:=r33.2.1 }:EnvP) (⟨6,0,tpI y0.stack,y0.child,0⟩:Ev)).bind fun r35 =>
 (aac r35.2.1 (wi (r35.2.1.line+1)) MV.nil).bind fun r36 =>
 some ((r36.1.1,()),(r36.2.1,r35.2.2.1,()))
 else
 if y0.line=12 then
 (afR y1.l (tpI y0.stack)).bind fun r37 =>
 (acJ y1.m r37.1.1).bind fun r38 =>
 (ak0 y0.worker y0.child (wi (r38.1.1))).bind fun r39 =>
 (aac ({ y0 with level:=wi (r38.1.1) }:(RunV MV)) 13 r39.1.1).bind fun r40 =>
 some ((r40.1.1,()),(r40.2.1,({ y1 with m:=r38.2.1 }:EnvP),()))
 else
 if y0.line=13 then
 (afw y0.inside y1).bind fun r41 =>
 if (!r41.1.1)=true then
 some ((false,()),(({ y0 with inside:=r41.2.1 }:(RunV MV)),r41.2.2.1,()))
 else
 (aaH ({ y0 with inside:=r41.2.1 }:(RunV MV)) r41.2.2.1 (⟨7,0,tpI y0.stack,0,y0.level⟩:Ev)).bind fun r42 =>
 (aao r42.2.1).bind fun r43 =>
 some ((r43.1.1,()),(r43.2.1,r42.2.2.1,()))
 else
 if y0.line=14 then
 (afh y1.l (tpI y0.stack)).bind fun r44 =>
 (aa5 y1.m r44.1.1 2).bind fun r45 =>
 (aac y0 (wi (y0.line+1)) MV.nil).bind fun r46 =>
 some ((r46.1.1,()),(r46.2.1,({ y1 with m:=r45.2.1 }:EnvP),()))
 else
 (aks y1.l (tpI y0.stack)).bind fun r47 =>
 (aa5 y1.m r47.1.1 0).bind fun r48 =>
 if 0≤(tlI y0.stack)∧(tlI y0.stack)<((y0.stack.length:Nat):Int) then
 if 0≤tpI y0.stack∧tpI y0.stack<((y1.recs.length:Nat):Int) then
 (aaH y0 ({ y1 with m:=r48.2.1,recs:=y1.recs.set (tpI y0.stack).toNat ({ aab y1.recs (tpI y0.stack) with waiting:=(-1) }:RecP) }:EnvP) (⟨8,0,tpI y0.stack,y0.child,0⟩:Ev)).bind fun r49 =>
 (aac r49.2.1 0 MV.nil).bind fun r50 =>
 some ((r50.1.1,()),(r50.2.1,r49.2.2.1,()))
 else none
 else none
 else none
 else none
 else none
 else none
 else none
 else none
 else none
 else none
 else none
 else none
 else none
 else none
 else none
 else none
 else none
 else none
 else none
 else none
 else none
 else none
 else none
 else none
 else none
 ) (
 if y1.l.workers=y1.l.workers then
 if y1.l.levels=y1.l.levels then
 if y1.l.classes=y1.l.classes then
 if y1.l.tasks=y1.l.tasks then
 if y1.l.deque=y1.l.deque then
 if y1.l.heap=y1.l.heap then
 if y1.l.sleepers=y1.l.sleepers then
 if y1.l.epochs=y1.l.epochs then
 if y1.l.bitmaps=y1.l.bitmaps then
 if y1.l.queues=y1.l.queues then
 if y1.l.table=y1.l.table then
 if 0≤(tlI y0.stack)∧(tlI y0.stack)<((y0.stack.length:Nat):Int) then
 if y1.l.workers=y1.l.workers then
 if y1.l.levels=y1.l.levels then
 if y1.l.classes=y1.l.classes then
 if y1.l.tasks=y1.l.tasks then
 if y1.l.deque=y1.l.deque then
 if y1.l.heap=y1.l.heap then
 if y1.l.sleepers=y1.l.sleepers then
 if y1.l.epochs=y1.l.epochs then
 if y1.l.bitmaps=y1.l.bitmaps then
 if y1.l.queues=y1.l.queues then
 if y1.l.table=y1.l.table then
 if y0.line=9 then
 if 0≤(tlI y0.stack)∧(tlI y0.stack)<((y0.stack.length:Nat):Int) then
 if 0≤tpI y0.stack∧tpI y0.stack<((y1.recs.length:Nat):Int) then
 if 0≤(tlI y0.stack)∧(tlI y0.stack)<((y0.stack.length:Nat):Int) then
 if 0≤tpI y0.stack∧tpI y0.stack<((y1.recs.length:Nat):Int) then
 if (tpI y0.stack)=(tpI y0.stack) then
 if ((aab y1.recs (tpI y0.stack)).prog)<0 then
 if 0≤(tlI y0.stack)∧(tlI y0.stack)<((y0.stack.length:Nat):Int) then
 if 0≤tpI y0.stack∧tpI y0.stack<((y1.recs.length:Nat):Int) then
 if (tpI y0.stack)=(tpI y0.stack) then
 none
 else none
 else none
 else none
 else
 if ((y1.c.progs.length:Nat):Int)≤((aab y1.recs (tpI y0.stack)).prog) then
 if 0≤(tlI y0.stack)∧(tlI y0.stack)<((y0.stack.length:Nat):Int) then
 if 0≤tpI y0.stack∧tpI y0.stack<((y1.recs.length:Nat):Int) then
 if (tpI y0.stack)=(tpI y0.stack) then
 none
 else none
 else none
 else none
 else
 if 0≤(aab y1.recs (tpI y0.stack)).prog∧(aab y1.recs (tpI y0.stack)).prog<((y1.c.progs.length:Nat):Int) then
 if 0≤(tlI y0.stack)∧(tlI y0.stack)<((y0.stack.length:Nat):Int) then
 if 0≤tpI y0.stack∧tpI y0.stack<((y1.recs.length:Nat):Int) then
 if (tpI y0.stack)=(tpI y0.stack) then
 if 0≤(aab y1.recs (tpI y0.stack)).pc∧(aab y1.recs (tpI y0.stack)).pc<(((atL [] y1.c.progs ((aab y1.recs (tpI y0.stack)).prog)).length:Nat):Int) then
 if 0≤(acl (atL [] y1.c.progs ((aab y1.recs (tpI y0.stack)).prog)) ((aab y1.recs (tpI y0.stack)).pc)).a∧(acl (atL [] y1.c.progs ((aab y1.recs (tpI y0.stack)).prog)) ((aab y1.recs (tpI y0.stack)).pc)).a<((((aab y1.recs (tpI y0.stack)).kids).length:Nat):Int) then
 (aks y1.l (tpI y0.stack)).bind fun r1 =>
 if (ady ((aab y1.recs (tpI y0.stack)).kids) ((acl (atL [] y1.c.progs ((aab y1.recs (tpI y0.stack)).prog)) ((aab y1.recs (tpI y0.stack)).pc)).a))=(ady ((aab y1.recs (tpI y0.stack)).kids) ((acl (atL [] y1.c.progs ((aab y1.recs (tpI y0.stack)).prog)) ((aab y1.recs (tpI y0.stack)).pc)).a)) then
 (aa5 y1.m r1.1.1 (wu (wi ((ady ((aab y1.recs (tpI y0.stack)).kids) ((acl (atL [] y1.c.progs ((aab y1.recs (tpI y0.stack)).prog)) ((aab y1.recs (tpI y0.stack)).pc)).a))+1)))).bind fun r2 =>
 (aac ({ y0 with child:=ady ((aab y1.recs (tpI y0.stack)).kids) ((acl (atL [] y1.c.progs ((aab y1.recs (tpI y0.stack)).prog)) ((aab y1.recs (tpI y0.stack)).pc)).a) }:(RunV MV)) (wi (y0.line+1)) MV.nil).bind fun r3 =>
 some ((r3.1.1,()),(r3.2.1,({ y1 with m:=r2.2.1,recs:=((y1.recs.set (tpI y0.stack).toNat (aab y1.recs (tpI y0.stack))).set (tpI y0.stack).toNat ({ aab (y1.recs.set (tpI y0.stack).toNat (aab y1.recs (tpI y0.stack))) (tpI y0.stack) with pc:=wi (((aab (y1.recs.set (tpI y0.stack).toNat (aab y1.recs (tpI y0.stack))) (tpI y0.stack)).pc)+1) }:RecP)).set (tpI y0.stack).toNat ({ aab ((y1.recs.set (tpI y0.stack).toNat (aab y1.recs (tpI y0.stack))).set (tpI y0.stack).toNat ({ aab (y1.recs.set (tpI y0.stack).toNat (aab y1.recs (tpI y0.stack))) (tpI y0.stack) with pc:=wi (((aab (y1.recs.set (tpI y0.stack).toNat (aab y1.recs (tpI y0.stack))) (tpI y0.stack)).pc)+1) }:RecP)) (tpI y0.stack) with waiting:=ady ((aab y1.recs (tpI y0.stack)).kids) ((acl (atL [] y1.c.progs ((aab y1.recs (tpI y0.stack)).prog)) ((aab y1.recs (tpI y0.stack)).pc)).a) }:RecP) }:EnvP),()))
 else none
 else none
 else none
 else none
 else none
 else none
 else none
 else none
 else none
 else none
 else none
 else none
 else
 if y0.line=10 then
 (afh y1.l (tpI y0.stack)).bind fun r4 =>
 (aa5 y1.m r4.1.1 3).bind fun r5 =>
 (aac y0 (wi (y0.line+1)) MV.nil).bind fun r6 =>
 some ((r6.1.1,()),(r6.2.1,({ y1 with m:=r5.2.1 }:EnvP),()))
 else
 if y0.line=11 then
 (app y1.l y0.child).bind fun r7 =>
 (auj y1.m r7.1.1 0 (wu (wi ((tpI y0.stack)+1)))).bind fun r8 =>
 if (!r8.1.1)=true then
 (aac y0 14 MV.nil).bind fun r9 =>
 some ((r9.1.1,()),(r9.2.1,({ y1 with m:=r8.2.1 }:EnvP),()))
 else
 (aaH y0 ({ y1 with m:=r8.2.1 }:EnvP) (⟨6,0,tpI y0.stack,y0.child,0⟩:Ev)).bind fun r10 =>
 (aac r10.2.1 (wi (r10.2.1.line+1)) MV.nil).bind fun r11 =>
 some ((r11.1.1,()),(r11.2.1,r10.2.2.1,()))
 else
 if y0.line=12 then
 (afR y1.l (tpI y0.stack)).bind fun r12 =>
 (acJ y1.m r12.1.1).bind fun r13 =>
 (ak0 y0.worker y0.child (wi (r13.1.1))).bind fun r14 =>
 (aac ({ y0 with level:=wi (r13.1.1) }:(RunV MV)) 13 r14.1.1).bind fun r15 =>
 some ((r15.1.1,()),(r15.2.1,({ y1 with m:=r13.2.1 }:EnvP),()))
 else
 if y0.line=13 then
 (afw y0.inside y1).bind fun r16 =>
 if (!r16.1.1)=true then
 some ((false,()),(({ y0 with inside:=r16.2.1 }:(RunV MV)),r16.2.2.1,()))
 else
 (aaH ({ y0 with inside:=r16.2.1 }:(RunV MV)) r16.2.2.1 (⟨7,0,tpI y0.stack,0,y0.level⟩:Ev)).bind fun r17 =>
 (aao r17.2.1).bind fun r18 =>
 some ((r18.1.1,()),(r18.2.1,r17.2.2.1,()))
 else
 if y0.line=14 then
 (afh y1.l (tpI y0.stack)).bind fun r19 =>
 (aa5 y1.m r19.1.1 2).bind fun r20 =>
 (aac y0 (wi (y0.line+1)) MV.nil).bind fun r21 =>
 some ((r21.1.1,()),(r21.2.1,({ y1 with m:=r20.2.1 }:EnvP),()))
 else
 (aks y1.l (tpI y0.stack)).bind fun r22 =>
 (aa5 y1.m r22.1.1 0).bind fun r23 =>
 if 0≤(tlI y0.stack)∧(tlI y0.stack)<((y0.stack.length:Nat):Int) then
 if 0≤tpI y0.stack∧tpI y0.stack<((y1.recs.length:Nat):Int) then
 (aaH y0 ({ y1 with m:=r23.2.1,recs:=y1.recs.set (tpI y0.stack).toNat ({ aab y1.recs (tpI y0.stack) with waiting:=(-1) }:RecP) }:EnvP) (⟨8,0,tpI y0.stack,y0.child,0⟩:Ev)).bind fun r24 =>
 (aac r24.2.1 0 MV.nil).bind fun r25 =>
 some ((r25.1.1,()),(r25.2.1,r24.2.2.1,()))
 else none
 else none
 else none
 else none
 else none
 else none
 else none
 else none
 else none
 else none
 else none
 else none
 else none
 else none
 else none
 else none
 else none
 else none
 else none
 else none
 else none
 else none
 else none
 else none
 else none
 )
noncomputable abbrev aiJ:Con SR1:=⟨227,[.ref 33,.ref 27],[.sh .b],fun x =>ahI x.1 x.2.1⟩
noncomputable def amF:List (Nat×Func):=[(223,Tryz.f223),(229,Tryz.f229),(232,Tryz.f232),(230,Tryz.f230)]
theorem amG:CO Tryz.prog aiJ:=ahZ aah Tryz.func227 [apM,aeh,adP,ahk,aww,amZ,aer,ahl,acL,arH,apG,agV] ⟨aqQ,adC,ad6,agG,axW,aky,ae1,agH,abW,avN,aqu,aiI,trivial⟩ amF ⟨Tryz.func223,Tryz.func229,Tryz.func232,Tryz.func230,trivial⟩ (fun _ =>[]) [] fun x =>by kernel_rfl
noncomputable def aaM (y0:(RunV MV)) (y1:EnvP):Option ((Bool×Unit)×((RunV MV)×EnvP×Unit)) :=
 if 0≤(tlI y0.stack)∧(tlI y0.stack)<((y0.stack.length:Nat):Int) then
 if y0.line=9 then
 if 0≤(tlI y0.stack)∧(tlI y0.stack)<((y0.stack.length:Nat):Int) then
 if 0≤tpI y0.stack∧tpI y0.stack<((y1.recs.length:Nat):Int) then
 if 0≤(tlI y0.stack)∧(tlI y0.stack)<((y0.stack.length:Nat):Int) then
 if 0≤tpI y0.stack∧tpI y0.stack<((y1.recs.length:Nat):Int) then
 if ((aab y1.recs (tpI y0.stack)).prog)<0 then
 if 0≤(tlI y0.stack)∧(tlI y0.stack)<((y0.stack.length:Nat):Int) then
 if 0≤tpI y0.stack∧tpI y0.stack<((y1.recs.length:Nat):Int) then
 none
 else none
 else none
 else
 if ((y1.c.progs.length:Nat):Int)≤((aab y1.recs (tpI y0.stack)).prog) then
 if 0≤(tlI y0.stack)∧(tlI y0.stack)<((y0.stack.length:Nat):Int) then
 if 0≤tpI y0.stack∧tpI y0.stack<((y1.recs.length:Nat):Int) then
 none
 else none
 else none
 else
 if 0≤(aab y1.recs (tpI y0.stack)).prog∧(aab y1.recs (tpI y0.stack)).prog<((y1.c.progs.length:Nat):Int) then
 if 0≤(tlI y0.stack)∧(tlI y0.stack)<((y0.stack.length:Nat):Int) then
 if 0≤tpI y0.stack∧tpI y0.stack<((y1.recs.length:Nat):Int) then
 if 0≤(aab y1.recs (tpI y0.stack)).pc∧(aab y1.recs (tpI y0.stack)).pc<(((atL [] y1.c.progs ((aab y1.recs (tpI y0.stack)).prog)).length:Nat):Int) then
 if 0≤(acl (atL [] y1.c.progs ((aab y1.recs (tpI y0.stack)).prog)) ((aab y1.recs (tpI y0.stack)).pc)).a∧(acl (atL [] y1.c.progs ((aab y1.recs (tpI y0.stack)).prog)) ((aab y1.recs (tpI y0.stack)).pc)).a<((((aab y1.recs (tpI y0.stack)).kids).length:Nat):Int) then
 (aks y1.l (tpI y0.stack)).bind fun r1 =>
 (aa5 y1.m r1.1.1 (wu (wi ((ady ((aab y1.recs (tpI y0.stack)).kids) ((acl (atL [] y1.c.progs ((aab y1.recs (tpI y0.stack)).prog)) ((aab y1.recs (tpI y0.stack)).pc)).a))+1)))).bind fun r2 =>
 (aac ({ y0 with child:=ady ((aab y1.recs (tpI y0.stack)).kids) ((acl (atL [] y1.c.progs ((aab y1.recs (tpI y0.stack)).prog)) ((aab y1.recs (tpI y0.stack)).pc)).a) }:(RunV MV)) (wi (y0.line+1)) MV.nil).bind fun r3 =>
 some ((r3.1.1,()),(r3.2.1,({ y1 with m:=r2.2.1,recs:=((y1.recs.set (tpI y0.stack).toNat (aab y1.recs (tpI y0.stack))).set (tpI y0.stack).toNat ({ aab (y1.recs.set (tpI y0.stack).toNat (aab y1.recs (tpI y0.stack))) (tpI y0.stack) with pc:=wi (((aab (y1.recs.set (tpI y0.stack).toNat (aab y1.recs (tpI y0.stack))) (tpI y0.stack)).pc)+1) }:RecP)).set (tpI y0.stack).toNat ({ aab ((y1.recs.set (tpI y0.stack).toNat (aab y1.recs (tpI y0.stack))).set (tpI y0.stack).toNat ({ aab (y1.recs.set (tpI y0.stack).toNat (aab y1.recs (tpI y0.stack))) (tpI y0.stack) with pc:=wi (((aab (y1.recs.set (tpI y0.stack).toNat (aab y1.recs (tpI y0.stack))) (tpI y0.stack)).pc)+1) }:RecP)) (tpI y0.stack) with waiting:=ady ((aab y1.recs (tpI y0.stack)).kids) ((acl (atL [] y1.c.progs ((aab y1.recs (tpI y0.stack)).prog)) ((aab y1.recs (tpI y0.stack)).pc)).a) }:RecP) }:EnvP),()))
 else none
 else none
 else none
 else none
 else none
 else none
 else none
 else none
 else none
 else
 if y0.line=10 then
 (afh y1.l (tpI y0.stack)).bind fun r4 =>
 (aa5 y1.m r4.1.1 3).bind fun r5 =>
 (aac y0 (wi (y0.line+1)) MV.nil).bind fun r6 =>
 some ((r6.1.1,()),(r6.2.1,({ y1 with m:=r5.2.1 }:EnvP),()))
 else
 if y0.line=11 then
 (app y1.l y0.child).bind fun r7 =>
 (auj y1.m r7.1.1 0 (wu (wi ((tpI y0.stack)+1)))).bind fun r8 =>
 if (!r8.1.1)=true then
 (aac y0 14 MV.nil).bind fun r9 =>
 some ((r9.1.1,()),(r9.2.1,({ y1 with m:=r8.2.1 }:EnvP),()))
 else
 (aaH y0 ({ y1 with m:=r8.2.1 }:EnvP) (⟨6,0,tpI y0.stack,y0.child,0⟩:Ev)).bind fun r10 =>
 (aac r10.2.1 (wi (r10.2.1.line+1)) MV.nil).bind fun r11 =>
 some ((r11.1.1,()),(r11.2.1,r10.2.2.1,()))
 else
 if y0.line=12 then
 (afR y1.l (tpI y0.stack)).bind fun r12 =>
 (acJ y1.m r12.1.1).bind fun r13 =>
 (ak0 y0.worker y0.child (wi (r13.1.1))).bind fun r14 =>
 (aac ({ y0 with level:=wi (r13.1.1) }:(RunV MV)) 13 r14.1.1).bind fun r15 =>
 some ((r15.1.1,()),(r15.2.1,({ y1 with m:=r13.2.1 }:EnvP),()))
 else
 if y0.line=13 then
 (afw y0.inside y1).bind fun r16 =>
 if (!r16.1.1)=true then
 some ((false,()),(({ y0 with inside:=r16.2.1 }:(RunV MV)),r16.2.2.1,()))
 else
 (aaH ({ y0 with inside:=r16.2.1 }:(RunV MV)) r16.2.2.1 (⟨7,0,tpI y0.stack,0,y0.level⟩:Ev)).bind fun r17 =>
 (aao r17.2.1).bind fun r18 =>
 some ((r18.1.1,()),(r18.2.1,r17.2.2.1,()))
 else
 if y0.line=14 then
 (afh y1.l (tpI y0.stack)).bind fun r19 =>
 (aa5 y1.m r19.1.1 2).bind fun r20 =>
 (aac y0 (wi (y0.line+1)) MV.nil).bind fun r21 =>
 some ((r21.1.1,()),(r21.2.1,({ y1 with m:=r20.2.1 }:EnvP),()))
 else
 (aks y1.l (tpI y0.stack)).bind fun r22 =>
 (aa5 y1.m r22.1.1 0).bind fun r23 =>
 if 0≤(tlI y0.stack)∧(tlI y0.stack)<((y0.stack.length:Nat):Int) then
 if 0≤tpI y0.stack∧tpI y0.stack<((y1.recs.length:Nat):Int) then
 (aaH y0 ({ y1 with m:=r23.2.1,recs:=y1.recs.set (tpI y0.stack).toNat ({ aab y1.recs (tpI y0.stack) with waiting:=(-1) }:RecP) }:EnvP) (⟨8,0,tpI y0.stack,y0.child,0⟩:Ev)).bind fun r24 =>
 (aac r24.2.1 0 MV.nil).bind fun r25 =>
 some ((r25.1.1,()),(r25.2.1,r24.2.2.1,()))
 else none
 else none
 else none
noncomputable abbrev aki:Con SR1:=⟨227,[.ref 33,.ref 27],[.sh .b],fun x =>aaM x.1 x.2.1⟩
theorem apg (y0:(RunV MV)) (y1:EnvP):ahI y0 y1=aaM y0 y1:=by
 unfold ahI aaM
 simp only [if_true,ajG,aoB]
theorem apf:CO Tryz.prog aki:=aw2 amG fun x out hx =>(show aiJ.spec x=some out from (apg x.1 x.2.1).trans hx)
noncomputable def aix (y0:Int) (y1:Int):Option ((MV×Unit)×(Unit)) :=
 some ((MV.enter (⟨⟨false,0,0⟩,y0,y1,0,1,MV.nil⟩:(EnterV MV)),()),())
noncomputable abbrev aoO:Con SR1:=⟨239,[.sh sI_,.sh sI_],[.sh .mach],fun x =>aix x.1 x.2.1⟩
theorem asL:CO Tryz.prog aoO:=aam aah Tryz.func239 [] trivial
noncomputable def af6 (y0:(RunV MV)) (y1:EnvP):Option ((Bool×Unit)×((RunV MV)×EnvP×Unit)) :=
 agr (
 if 0≤(tlI y0.stack)∧(tlI y0.stack)<((y0.stack.length:Nat):Int) then
 if y1.l.workers=y1.l.workers then
 if y1.l.levels=y1.l.levels then
 if y1.l.classes=y1.l.classes then
 if y1.l.tasks=y1.l.tasks then
 if y1.l.deque=y1.l.deque then
 if y1.l.heap=y1.l.heap then
 if y1.l.sleepers=y1.l.sleepers then
 if y1.l.epochs=y1.l.epochs then
 if y1.l.bitmaps=y1.l.bitmaps then
 if y1.l.queues=y1.l.queues then
 if y1.l.table=y1.l.table then
 if y1.l.workers=y1.l.workers then
 if y1.l.levels=y1.l.levels then
 if y1.l.classes=y1.l.classes then
 if y1.l.tasks=y1.l.tasks then
 if y1.l.deque=y1.l.deque then
 if y1.l.heap=y1.l.heap then
 if y1.l.sleepers=y1.l.sleepers then
 if y1.l.epochs=y1.l.epochs then
 if y1.l.bitmaps=y1.l.bitmaps then
 if y1.l.queues=y1.l.queues then
 if y1.l.table=y1.l.table then
 if y0.line=16 then
 (afh y1.l (tpI y0.stack)).bind fun r29 =>
 (aa5 y1.m r29.1.1 4).bind fun r30 =>
 (aac y0 17 MV.nil).bind fun r31 =>
 some ((r31.1.1,()),(r31.2.1,({ y1 with m:=r30.2.1 }:EnvP),()))
 else
 if y0.line=17 then
 (app y1.l (tpI y0.stack)).bind fun r32 =>
 (auj y1.m r32.1.1 0 4294967296).bind fun r33 =>
 (aaH y0 ({ y1 with m:=r33.2.1 }:EnvP) (⟨10,0,tpI y0.stack,0,0⟩:Ev)).bind fun r34 =>
 if r33.1.1=true then
 (aao r34.2.1).bind fun r35 =>
 some ((r35.1.1,()),(r35.2.1,r34.2.2.1,()))
 else
 (aac r34.2.1 18 MV.nil).bind fun r36 =>
 some ((r36.1.1,()),(r36.2.1,r34.2.2.1,()))
 else
 if y0.line=18 then
 (app y1.l (tpI y0.stack)).bind fun r37 =>
 (acJ y1.m r37.1.1).bind fun r38 =>
 if (wi ((wi (r38.1.1))-1))<0 then
 (aao ({ y0 with waiter:=wi ((wi (r38.1.1))-1) }:(RunV MV))).bind fun r39 =>
 some ((r39.1.1,()),(r39.2.1,({ y1 with m:=r38.2.1 }:EnvP),()))
 else
 if y1.c.tasks≤(wi ((wi (r38.1.1))-1)) then
 (aao ({ y0 with waiter:=wi ((wi (r38.1.1))-1) }:(RunV MV))).bind fun r40 =>
 some ((r40.1.1,()),(r40.2.1,({ y1 with m:=r38.2.1 }:EnvP),()))
 else
 (aix y0.worker (wi ((wi (r38.1.1))-1))).bind fun r41 =>
 (aac ({ y0 with waiter:=wi ((wi (r38.1.1))-1) }:(RunV MV)) 19 r41.1.1).bind fun r42 =>
 some ((r42.1.1,()),(r42.2.1,({ y1 with m:=r38.2.1 }:EnvP),()))
 else
 (afw y0.inside y1).bind fun r43 =>
 if (!r43.1.1)=true then
 some ((false,()),(({ y0 with inside:=r43.2.1 }:(RunV MV)),r43.2.2.1,()))
 else
 (adQ r43.2.1).bind fun r44 =>
 if y0.line=19 then
 if r44.1.1=3 then
 (acI y0.worker y0.waiter).bind fun r45 =>
 (aac ({ y0 with inside:=r44.2.1 }:(RunV MV)) 21 r45.1.1).bind fun r46 =>
 some ((r46.1.1,()),(r46.2.1,r43.2.2.1,()))
 else
 if y0.line=19 then
 (adc y0.worker r44.1.2.1).bind fun r47 =>
 (aac ({ y0 with inside:=r44.2.1 }:(RunV MV)) 20 r47.1.1).bind fun r48 =>
 some ((r48.1.1,()),(r48.2.1,r43.2.2.1,()))
 else
 if y0.line=21 then
 if r44.1.1=1 then
 if 0≤(tlI y0.stack)∧(tlI y0.stack)<((y0.stack.length:Nat):Int) then
 (aac ({ y0 with stack:=y0.stack.set (tlI y0.stack).toNat y0.waiter,inside:=r44.2.1 }:(RunV MV)) 0 MV.nil).bind fun r49 =>
 some ((r49.1.1,()),(r49.2.1,r43.2.2.1,()))
 else none
 else
 (aao ({ y0 with inside:=r44.2.1 }:(RunV MV))).bind fun r50 =>
 some ((r50.1.1,()),(r50.2.1,r43.2.2.1,()))
 else
 (aao ({ y0 with inside:=r44.2.1 }:(RunV MV))).bind fun r51 =>
 some ((r51.1.1,()),(r51.2.1,r43.2.2.1,()))
 else
 if y0.line=19 then
 (adc y0.worker r44.1.2.1).bind fun r52 =>
 (aac ({ y0 with inside:=r44.2.1 }:(RunV MV)) 20 r52.1.1).bind fun r53 =>
 some ((r53.1.1,()),(r53.2.1,r43.2.2.1,()))
 else
 if y0.line=21 then
 if r44.1.1=1 then
 if 0≤(tlI y0.stack)∧(tlI y0.stack)<((y0.stack.length:Nat):Int) then
 (aac ({ y0 with stack:=y0.stack.set (tlI y0.stack).toNat y0.waiter,inside:=r44.2.1 }:(RunV MV)) 0 MV.nil).bind fun r54 =>
 some ((r54.1.1,()),(r54.2.1,r43.2.2.1,()))
 else none
 else
 (aao ({ y0 with inside:=r44.2.1 }:(RunV MV))).bind fun r55 =>
 some ((r55.1.1,()),(r55.2.1,r43.2.2.1,()))
 else
 (aao ({ y0 with inside:=r44.2.1 }:(RunV MV))).bind fun r56 =>
 some ((r56.1.1,()),(r56.2.1,r43.2.2.1,()))
 else none
 else none
 else none
 else none
 else none
 else none
 else none
 else none
 else none
 else none
 else none
 else none
 else none
 else none
 else none
 else none
 else none
 else none
 else none
 else none
 else none
 else none
 else none
 ) (
 if y1.l.workers=y1.l.workers then
 if y1.l.levels=y1.l.levels then
 if y1.l.classes=y1.l.classes then
 if y1.l.tasks=y1.l.tasks then
 if y1.l.deque=y1.l.deque then
 if y1.l.heap=y1.l.heap then
 if y1.l.sleepers=y1.l.sleepers then
 if y1.l.epochs=y1.l.epochs then
 if y1.l.bitmaps=y1.l.bitmaps then
 if y1.l.queues=y1.l.queues then
 if y1.l.table=y1.l.table then
 if 0≤(tlI y0.stack)∧(tlI y0.stack)<((y0.stack.length:Nat):Int) then
 if y1.l.workers=y1.l.workers then
 if y1.l.levels=y1.l.levels then
 if y1.l.classes=y1.l.classes then
 if y1.l.tasks=y1.l.tasks then
 if y1.l.deque=y1.l.deque then
 if y1.l.heap=y1.l.heap then
 if y1.l.sleepers=y1.l.sleepers then
 if y1.l.epochs=y1.l.epochs then
 if y1.l.bitmaps=y1.l.bitmaps then
 if y1.l.queues=y1.l.queues then
 if y1.l.table=y1.l.table then
 if y0.line=16 then
 (afh y1.l (tpI y0.stack)).bind fun r1 =>
 (aa5 y1.m r1.1.1 4).bind fun r2 =>
 (aac y0 17 MV.nil).bind fun r3 =>
 some ((r3.1.1,()),(r3.2.1,({ y1 with m:=r2.2.1 }:EnvP),()))
 else
 if y0.line=17 then
 (app y1.l (tpI y0.stack)).bind fun r4 =>
 (auj y1.m r4.1.1 0 4294967296).bind fun r5 =>
 (aaH y0 ({ y1 with m:=r5.2.1 }:EnvP) (⟨10,0,tpI y0.stack,0,0⟩:Ev)).bind fun r6 =>
 if r5.1.1=true then
 (aao r6.2.1).bind fun r7 =>
 some ((r7.1.1,()),(r7.2.1,r6.2.2.1,()))
 else
 (aac r6.2.1 18 MV.nil).bind fun r8 =>
 some ((r8.1.1,()),(r8.2.1,r6.2.2.1,()))
 else
 if y0.line=18 then
 (app y1.l (tpI y0.stack)).bind fun r9 =>
 (acJ y1.m r9.1.1).bind fun r10 =>
 if (wi ((wi (r10.1.1))-1))<0 then
 (aao ({ y0 with waiter:=wi ((wi (r10.1.1))-1) }:(RunV MV))).bind fun r11 =>
 some ((r11.1.1,()),(r11.2.1,({ y1 with m:=r10.2.1 }:EnvP),()))
 else
 if y1.c.tasks≤(wi ((wi (r10.1.1))-1)) then
 (aao ({ y0 with waiter:=wi ((wi (r10.1.1))-1) }:(RunV MV))).bind fun r12 =>
 some ((r12.1.1,()),(r12.2.1,({ y1 with m:=r10.2.1 }:EnvP),()))
 else
 (aix y0.worker (wi ((wi (r10.1.1))-1))).bind fun r13 =>
 (aac ({ y0 with waiter:=wi ((wi (r10.1.1))-1) }:(RunV MV)) 19 r13.1.1).bind fun r14 =>
 some ((r14.1.1,()),(r14.2.1,({ y1 with m:=r10.2.1 }:EnvP),()))
 else
 (afw y0.inside y1).bind fun r15 =>
 if (!r15.1.1)=true then
 some ((false,()),(({ y0 with inside:=r15.2.1 }:(RunV MV)),r15.2.2.1,()))
 else
 (adQ r15.2.1).bind fun r16 =>
 if y0.line=19 then
 if r16.1.1=3 then
 (acI y0.worker y0.waiter).bind fun r17 =>
 (aac ({ y0 with inside:=r16.2.1 }:(RunV MV)) 21 r17.1.1).bind fun r18 =>
 some ((r18.1.1,()),(r18.2.1,r15.2.2.1,()))
 else
 if y0.line=19 then
 (adc y0.worker r16.1.2.1).bind fun r19 =>
 (aac ({ y0 with inside:=r16.2.1 }:(RunV MV)) 20 r19.1.1).bind fun r20 =>
 some ((r20.1.1,()),(r20.2.1,r15.2.2.1,()))
 else
 if y0.line=21 then
 if r16.1.1=1 then
 if 0≤(tlI y0.stack)∧(tlI y0.stack)<((y0.stack.length:Nat):Int) then
 (aac ({ y0 with stack:=y0.stack.set (tlI y0.stack).toNat y0.waiter,inside:=r16.2.1 }:(RunV MV)) 0 MV.nil).bind fun r21 =>
 some ((r21.1.1,()),(r21.2.1,r15.2.2.1,()))
 else none
 else
 (aao ({ y0 with inside:=r16.2.1 }:(RunV MV))).bind fun r22 =>
 some ((r22.1.1,()),(r22.2.1,r15.2.2.1,()))
 else
 (aao ({ y0 with inside:=r16.2.1 }:(RunV MV))).bind fun r23 =>
 some ((r23.1.1,()),(r23.2.1,r15.2.2.1,()))
 else
 if y0.line=19 then
 (adc y0.worker r16.1.2.1).bind fun r24 =>
 (aac ({ y0 with inside:=r16.2.1 }:(RunV MV)) 20 r24.1.1).bind fun r25 =>
 some ((r25.1.1,()),(r25.2.1,r15.2.2.1,()))
 else
 if y0.line=21 then
 if r16.1.1=1 then
 if 0≤(tlI y0.stack)∧(tlI y0.stack)<((y0.stack.length:Nat):Int) then
 (aac ({ y0 with stack:=y0.stack.set (tlI y0.stack).toNat y0.waiter,inside:=r16.2.1 }:(RunV MV)) 0 MV.nil).bind fun r26 =>
 some ((r26.1.1,()),(r26.2.1,r15.2.2.1,()))
 else none
 else
 (aao ({ y0 with inside:=r16.2.1 }:(RunV MV))).bind fun r27 =>
 some ((r27.1.1,()),(r27.2.1,r15.2.2.1,()))
 else
 (aao ({ y0 with inside:=r16.2.1 }:(RunV MV))).bind fun r28 =>
 some ((r28.1.1,()),(r28.2.1,r15.2.2.1,()))
 else none
 else none
 else none
 else none
 else none
 else none
 else none
 else none
 else none
 else none
 else none
 else none
 else none
 else none
 else none
 else none
 else none
 else none
 else none
 else none
 else none
 else none
 else none
 )
noncomputable abbrev ahJ:Con SR1:=⟨228,[.ref 33,.ref 27],[.sh .b],fun x =>af6 x.1 x.2.1⟩
noncomputable def alC:List (Nat×Func):=[(223,Tryz.f223)]
theorem alD:CO Tryz.prog ahJ:=ahZ aah Tryz.func228 [ahk,aeh,adP,aww,amZ,aer,agV,acL,aoO,apG,anY,agC,aiQ] ⟨agG,adC,ad6,axW,aky,ae1,aiI,abW,asL,aqu,aqE,ahh,ajc,trivial⟩ alC ⟨Tryz.func223,trivial⟩ (fun _ =>[]) [] fun x =>by kernel_rfl
noncomputable def aar (y0:(RunV MV)) (y1:EnvP):Option ((Bool×Unit)×((RunV MV)×EnvP×Unit)) :=
 if 0≤(tlI y0.stack)∧(tlI y0.stack)<((y0.stack.length:Nat):Int) then
 if y0.line=16 then
 (afh y1.l (tpI y0.stack)).bind fun r1 =>
 (aa5 y1.m r1.1.1 4).bind fun r2 =>
 (aac y0 17 MV.nil).bind fun r3 =>
 some ((r3.1.1,()),(r3.2.1,({ y1 with m:=r2.2.1 }:EnvP),()))
 else
 if y0.line=17 then
 (app y1.l (tpI y0.stack)).bind fun r4 =>
 (auj y1.m r4.1.1 0 4294967296).bind fun r5 =>
 (aaH y0 ({ y1 with m:=r5.2.1 }:EnvP) (⟨10,0,tpI y0.stack,0,0⟩:Ev)).bind fun r6 =>
 if r5.1.1=true then
 (aao r6.2.1).bind fun r7 =>
 some ((r7.1.1,()),(r7.2.1,r6.2.2.1,()))
 else
 (aac r6.2.1 18 MV.nil).bind fun r8 =>
 some ((r8.1.1,()),(r8.2.1,r6.2.2.1,()))
 else
 if y0.line=18 then
 (app y1.l (tpI y0.stack)).bind fun r9 =>
 (acJ y1.m r9.1.1).bind fun r10 =>
 if (wi ((wi (r10.1.1))-1))<0 then
 (aao ({ y0 with waiter:=wi ((wi (r10.1.1))-1) }:(RunV MV))).bind fun r11 =>
 some ((r11.1.1,()),(r11.2.1,({ y1 with m:=r10.2.1 }:EnvP),()))
 else
 if y1.c.tasks≤(wi ((wi (r10.1.1))-1)) then
 (aao ({ y0 with waiter:=wi ((wi (r10.1.1))-1) }:(RunV MV))).bind fun r12 =>
 some ((r12.1.1,()),(r12.2.1,({ y1 with m:=r10.2.1 }:EnvP),()))
 else
 (aix y0.worker (wi ((wi (r10.1.1))-1))).bind fun r13 =>
 (aac ({ y0 with waiter:=wi ((wi (r10.1.1))-1) }:(RunV MV)) 19 r13.1.1).bind fun r14 =>
 some ((r14.1.1,()),(r14.2.1,({ y1 with m:=r10.2.1 }:EnvP),()))
 else
 (afw y0.inside y1).bind fun r15 =>
 if (!r15.1.1)=true then
 some ((false,()),(({ y0 with inside:=r15.2.1 }:(RunV MV)),r15.2.2.1,()))
 else
 (adQ r15.2.1).bind fun r16 =>
 if y0.line=19 then
 if r16.1.1=3 then
 (acI y0.worker y0.waiter).bind fun r17 =>
 (aac ({ y0 with inside:=r16.2.1 }:(RunV MV)) 21 r17.1.1).bind fun r18 =>
 some ((r18.1.1,()),(r18.2.1,r15.2.2.1,()))
 else
 if y0.line=19 then
 (adc y0.worker r16.1.2.1).bind fun r19 =>
 (aac ({ y0 with inside:=r16.2.1 }:(RunV MV)) 20 r19.1.1).bind fun r20 =>
 some ((r20.1.1,()),(r20.2.1,r15.2.2.1,()))
 else
 if y0.line=21 then
 if r16.1.1=1 then
 if 0≤(tlI y0.stack)∧(tlI y0.stack)<((y0.stack.length:Nat):Int) then
 (aac ({ y0 with stack:=y0.stack.set (tlI y0.stack).toNat y0.waiter,inside:=r16.2.1 }:(RunV MV)) 0 MV.nil).bind fun r21 =>
 some ((r21.1.1,()),(r21.2.1,r15.2.2.1,()))
 else none
 else
 (aao ({ y0 with inside:=r16.2.1 }:(RunV MV))).bind fun r22 =>
 some ((r22.1.1,()),(r22.2.1,r15.2.2.1,()))
 else
 (aao ({ y0 with inside:=r16.2.1 }:(RunV MV))).bind fun r23 =>
 some ((r23.1.1,()),(r23.2.1,r15.2.2.1,()))
 else
 if y0.line=19 then
 (adc y0.worker r16.1.2.1).bind fun r24 =>
 (aac ({ y0 with inside:=r16.2.1 }:(RunV MV)) 20 r24.1.1).bind fun r25 =>
 some ((r25.1.1,()),(r25.2.1,r15.2.2.1,()))
 else
 if y0.line=21 then
 if r16.1.1=1 then
 if 0≤(tlI y0.stack)∧(tlI y0.stack)<((y0.stack.length:Nat):Int) then
 (aac ({ y0 with stack:=y0.stack.set (tlI y0.stack).toNat y0.waiter,inside:=r16.2.1 }:(RunV MV)) 0 MV.nil).bind fun r26 =>
 some ((r26.1.1,()),(r26.2.1,r15.2.2.1,()))
 else none
 else
 (aao ({ y0 with inside:=r16.2.1 }:(RunV MV))).bind fun r27 =>
 some ((r27.1.1,()),(r27.2.1,r15.2.2.1,()))
 else
 (aao ({ y0 with inside:=r16.2.1 }:(RunV MV))).bind fun r28 =>
 some ((r28.1.1,()),(r28.2.1,r15.2.2.1,()))
 else none
noncomputable abbrev aiK:Con SR1:=⟨228,[.ref 33,.ref 27],[.sh .b],fun x =>aar x.1 x.2.1⟩
theorem amI (y0:(RunV MV)) (y1:EnvP):af6 y0 y1=aar y0 y1:=by
 unfold af6 aar
 simp only [if_true,ajG,aoB]
theorem amH:CO Tryz.prog aiK:=aw2 alD fun x out hx =>(show ahJ.spec x=some out from (amI x.1 x.2.1).trans hx)
noncomputable def abt (y0:(RunV MV)) (y1:EnvP):Option ((Bool×Unit)×((RunV MV)×EnvP×Unit)) :=
 (aaw y0.o).bind fun r1 =>
 if r1.1.1=true then
 some ((true,()),(({ y0 with o:=r1.2.1 }:(RunV MV)),y1,()))
 else
 if 0≤(tlI y0.stack)∧(tlI y0.stack)<((y0.stack.length:Nat):Int) then
 if (tpI y0.stack)<0 then
 (abi r1.2.1 4 0).bind fun r2 =>
 some ((r2.1.1,()),(({ y0 with o:=r2.2.1 }:(RunV MV)),y1,()))
 else
 if y1.c.tasks≤(tpI y0.stack) then
 (abi r1.2.1 4 0).bind fun r3 =>
 some ((r3.1.1,()),(({ y0 with o:=r3.2.1 }:(RunV MV)),y1,()))
 else
 if ((y1.recs.length:Nat):Int)≤(tpI y0.stack) then
 (abi r1.2.1 4 0).bind fun r4 =>
 some ((r4.1.1,()),(({ y0 with o:=r4.2.1 }:(RunV MV)),y1,()))
 else
 if y0.line=0 then
 (afy ({ y0 with o:=r1.2.1 }:(RunV MV)) y1).bind fun r5 =>
 if r5.1.1=4 then
 (afv).bind fun r6 =>
 if r5.1.1=1 then
 (aaG ({ r5.2.1 with line:=r5.1.1,inside:=r6.1.1 }:(RunV MV)) r5.2.2.1).bind fun r7 =>
 some ((r7.1.1,()),(r7.2.1,r7.2.2.1,()))
 else
 if r5.1.1=2 then
 (aaG ({ r5.2.1 with line:=r5.1.1,inside:=r6.1.1 }:(RunV MV)) r5.2.2.1).bind fun r8 =>
 some ((r8.1.1,()),(r8.2.1,r8.2.2.1,()))
 else
 if r5.1.1=3 then
 (aaG ({ r5.2.1 with line:=r5.1.1,inside:=r6.1.1 }:(RunV MV)) r5.2.2.1).bind fun r9 =>
 some ((r9.1.1,()),(r9.2.1,r9.2.2.1,()))
 else
 if 4≤r5.1.1 then
 if r5.1.1≤8 then
 (abo ({ r5.2.1 with line:=r5.1.1,inside:=r6.1.1 }:(RunV MV)) r5.2.2.1).bind fun r10 =>
 some ((r10.1.1,()),(r10.2.1,r10.2.2.1,()))
 else
 if 9≤r5.1.1 then
 if r5.1.1≤15 then
 (aaM ({ r5.2.1 with line:=r5.1.1,inside:=r6.1.1 }:(RunV MV)) r5.2.2.1).bind fun r11 =>
 some ((r11.1.1,()),(r11.2.1,r11.2.2.1,()))
 else
 (aar ({ r5.2.1 with line:=r5.1.1,inside:=r6.1.1 }:(RunV MV)) r5.2.2.1).bind fun r12 =>
 some ((r12.1.1,()),(r12.2.1,r12.2.2.1,()))
 else
 (aar ({ r5.2.1 with line:=r5.1.1,inside:=r6.1.1 }:(RunV MV)) r5.2.2.1).bind fun r13 =>
 some ((r13.1.1,()),(r13.2.1,r13.2.2.1,()))
 else
 if 9≤r5.1.1 then
 if r5.1.1≤15 then
 (aaM ({ r5.2.1 with line:=r5.1.1,inside:=r6.1.1 }:(RunV MV)) r5.2.2.1).bind fun r14 =>
 some ((r14.1.1,()),(r14.2.1,r14.2.2.1,()))
 else
 (aar ({ r5.2.1 with line:=r5.1.1,inside:=r6.1.1 }:(RunV MV)) r5.2.2.1).bind fun r15 =>
 some ((r15.1.1,()),(r15.2.1,r15.2.2.1,()))
 else
 (aar ({ r5.2.1 with line:=r5.1.1,inside:=r6.1.1 }:(RunV MV)) r5.2.2.1).bind fun r16 =>
 some ((r16.1.1,()),(r16.2.1,r16.2.2.1,()))
 else
 if r5.1.1=1 then
 (aaG ({ r5.2.1 with line:=r5.1.1 }:(RunV MV)) r5.2.2.1).bind fun r17 =>
 some ((r17.1.1,()),(r17.2.1,r17.2.2.1,()))
 else
 if r5.1.1=2 then
 (aaG ({ r5.2.1 with line:=r5.1.1 }:(RunV MV)) r5.2.2.1).bind fun r18 =>
 some ((r18.1.1,()),(r18.2.1,r18.2.2.1,()))
 else
 if r5.1.1=3 then
 (aaG ({ r5.2.1 with line:=r5.1.1 }:(RunV MV)) r5.2.2.1).bind fun r19 =>
 some ((r19.1.1,()),(r19.2.1,r19.2.2.1,()))
 else
 if 4≤r5.1.1 then
 if r5.1.1≤8 then
 (abo ({ r5.2.1 with line:=r5.1.1 }:(RunV MV)) r5.2.2.1).bind fun r20 =>
 some ((r20.1.1,()),(r20.2.1,r20.2.2.1,()))
 else
 if 9≤r5.1.1 then
 if r5.1.1≤15 then
 (aaM ({ r5.2.1 with line:=r5.1.1 }:(RunV MV)) r5.2.2.1).bind fun r21 =>
 some ((r21.1.1,()),(r21.2.1,r21.2.2.1,()))
 else
 (aar ({ r5.2.1 with line:=r5.1.1 }:(RunV MV)) r5.2.2.1).bind fun r22 =>
 some ((r22.1.1,()),(r22.2.1,r22.2.2.1,()))
 else
 (aar ({ r5.2.1 with line:=r5.1.1 }:(RunV MV)) r5.2.2.1).bind fun r23 =>
 some ((r23.1.1,()),(r23.2.1,r23.2.2.1,()))
 else
 if 9≤r5.1.1 then
 if r5.1.1≤15 then
 (aaM ({ r5.2.1 with line:=r5.1.1 }:(RunV MV)) r5.2.2.1).bind fun r24 =>
 some ((r24.1.1,()),(r24.2.1,r24.2.2.1,()))
 else
 (aar ({ r5.2.1 with line:=r5.1.1 }:(RunV MV)) r5.2.2.1).bind fun r25 =>
 some ((r25.1.1,()),(r25.2.1,r25.2.2.1,()))
 else
 (aar ({ r5.2.1 with line:=r5.1.1 }:(RunV MV)) r5.2.2.1).bind fun r26 =>
 some ((r26.1.1,()),(r26.2.1,r26.2.2.1,()))
 else
 if y0.line=1 then
 (aaG ({ y0 with o:=r1.2.1 }:(RunV MV)) y1).bind fun r27 =>
 some ((r27.1.1,()),(r27.2.1,r27.2.2.1,()))
 else
 if y0.line=2 then
 (aaG ({ y0 with o:=r1.2.1 }:(RunV MV)) y1).bind fun r28 =>
 some ((r28.1.1,()),(r28.2.1,r28.2.2.1,()))
 else
 if y0.line=3 then
 (aaG ({ y0 with o:=r1.2.1 }:(RunV MV)) y1).bind fun r29 =>
 some ((r29.1.1,()),(r29.2.1,r29.2.2.1,()))
 else
 if 4≤y0.line then
 if y0.line≤8 then
 (abo ({ y0 with o:=r1.2.1 }:(RunV MV)) y1).bind fun r30 =>
 some ((r30.1.1,()),(r30.2.1,r30.2.2.1,()))
 else
 if 9≤y0.line then
 if y0.line≤15 then
 (aaM ({ y0 with o:=r1.2.1 }:(RunV MV)) y1).bind fun r31 =>
 some ((r31.1.1,()),(r31.2.1,r31.2.2.1,()))
 else
 (aar ({ y0 with o:=r1.2.1 }:(RunV MV)) y1).bind fun r32 =>
 some ((r32.1.1,()),(r32.2.1,r32.2.2.1,()))
 else
 (aar ({ y0 with o:=r1.2.1 }:(RunV MV)) y1).bind fun r33 =>
 some ((r33.1.1,()),(r33.2.1,r33.2.2.1,()))
 else
 if 9≤y0.line then
 if y0.line≤15 then
 (aaM ({ y0 with o:=r1.2.1 }:(RunV MV)) y1).bind fun r34 =>
 some ((r34.1.1,()),(r34.2.1,r34.2.2.1,()))
 else
 (aar ({ y0 with o:=r1.2.1 }:(RunV MV)) y1).bind fun r35 =>
 some ((r35.1.1,()),(r35.2.1,r35.2.2.1,()))
 else
 (aar ({ y0 with o:=r1.2.1 }:(RunV MV)) y1).bind fun r36 =>
 some ((r36.1.1,()),(r36.2.1,r36.2.2.1,()))
 else none
noncomputable abbrev aqz:Con SR1:=⟨222,[.ref 33,.ref 27],[.sh .b],fun x =>abt x.1 x.2.1⟩
noncomputable def apd:List (Nat×Func):=[(223,Tryz.f223)]
theorem ape:CO Tryz.prog aqz:=ahZ aah Tryz.func222 [abu,acM,aiL,ahF,aiH,ajK,aki,aiK] ⟨aa9,abI,amK,ajI,amE,anV,apf,amH,trivial⟩ apd ⟨Tryz.func223,trivial⟩ (fun _ =>[]) [] fun x =>by kernel_rfl
noncomputable def aef (m:MV) (e:EnvP):Option ((Bool×Unit)×(MV×EnvP×Unit)) :=
 match m with
 | .alloc x =>(ab4 x e).bind fun o =>some (o.1,(MV.alloc o.2.1,o.2.2))
 | .publish x =>(abS x e).bind fun o =>some (o.1,(MV.publish o.2.1,o.2.2))
 | .claim x =>(adk x e).bind fun o =>some (o.1,(MV.claim o.2.1,o.2.2))
 | .attempt x =>(acQ x e).bind fun o =>some (o.1,(MV.attempt o.2.1,o.2.2))
 | .release x =>(acP x e).bind fun o =>some (o.1,(MV.release o.2.1,o.2.2))
 | .opush x =>(adS x e).bind fun o =>some (o.1,(MV.opush o.2.1,o.2.2))
 | .opop x =>(aes x e).bind fun o =>some (o.1,(MV.opop o.2.1,o.2.2))
 | .steal x =>(adj x e).bind fun o =>some (o.1,(MV.steal o.2.1,o.2.2))
 | .set x =>(adW x e).bind fun o =>some (o.1,(MV.set o.2.1,o.2.2))
 | .reset x =>(acT x e).bind fun o =>some (o.1,(MV.reset o.2.1,o.2.2))
 | .insert x =>(abN x e).bind fun o =>some (o.1,(MV.insert o.2.1,o.2.2))
 | .remove x =>(abM x e).bind fun o =>some (o.1,(MV.remove o.2.1,o.2.2))
 | .sleep x =>(ade x e).bind fun o =>some (o.1,(MV.sleep o.2.1,o.2.2))
 | .wake x =>(adH x e).bind fun o =>some (o.1,(MV.wake o.2.1,o.2.2))
 | .raise x =>(acE x e).bind fun o =>some (o.1,(MV.raise o.2.1,o.2.2))
 | .probe x =>(abp x e).bind fun o =>some (o.1,(MV.probe o.2.1,o.2.2))
 | .lpush x =>(acC x e).bind fun o =>some (o.1,(MV.lpush o.2.1,o.2.2))
 | .lpop x =>(adg x e).bind fun o =>some (o.1,(MV.lpop o.2.1,o.2.2))
 | .walk x =>(acb x e).bind fun o =>some (o.1,(MV.walk o.2.1,o.2.2))
 | .take x =>(afg x e).bind fun o =>some (o.1,(MV.take o.2.1,o.2.2))
 | .sweep x =>(aaE x e).bind fun o =>some (o.1,(MV.sweep o.2.1,o.2.2))
 | .enter x =>(ab8 x e).bind fun o =>some (o.1,(MV.enter o.2.1,o.2.2))
 | .drain x =>(abq x e).bind fun o =>some (o.1,(MV.drain o.2.1,o.2.2))
 | .run x =>(abt x e).bind fun o =>some (o.1,(MV.run o.2.1,o.2.2))
 | _ =>none
noncomputable abbrev asM:Con SR1:=⟨1000000000,[.mch,.ref 27],[.sh .b],fun x =>aef x.1 x.2.1⟩
theorem aCL (m:MV) (xs:amk SR1 [.ref 27]) (out:amn SR1 [.sh .b]×(MV×ak7 SR1 [.ref 27])) (h:aef m xs.1=some out):ar3 SR1 Tryz.prog 0 [.ref 27] [.sh .b] m xs out:=by
 cases m with
 | alloc x =>exact aaB (.alloc x) xs out h
 | publish x =>exact aaB (.publish x) xs out h
 | claim x =>exact aaB (.claim x) xs out h
 | attempt x =>exact aaB (.attempt x) xs out h
 | release x =>exact aaB (.release x) xs out h
 | opush x =>exact aaB (.opush x) xs out h
 | opop x =>exact aaB (.opop x) xs out h
 | steal x =>exact aaB (.steal x) xs out h
 | set x =>exact aaB (.set x) xs out h
 | reset x =>exact aaB (.reset x) xs out h
 | insert x =>exact aaB (.insert x) xs out h
 | remove x =>exact aaB (.remove x) xs out h
 | sleep x =>exact aaB (.sleep x) xs out h
 | wake x =>exact aaB (.wake x) xs out h
 | raise x =>exact aaB (.raise x) xs out h
 | probe x =>exact aaB (.probe x) xs out h
 | lpush x =>exact amw (.lpush x) xs out h
 | lpop x =>exact amw (.lpop x) xs out h
 | walk x =>exact alc (.walk x) xs out h
 | take x =>exact alc (.take x) xs out h
 | sweep x =>exact alc (.sweep x) xs out h
 | enter x =>exact alc (.enter x) xs out h
 | drain x =>exact alc (.drain x) xs out h
 | run x =>exact abc (S:=SR1) (ps:=[.ref 27]) (rs:=[.sh .b]) (c:=33) (mk:=MV.run) (fun _ =>rfl) rfl (fun _ _ _ _ =>by kernel_rfl) ape h
 | _ =>cases h
theorem auu:CO Tryz.prog asM:=akT (S:=SR1) (i:=0) (ps:=[.ref 27]) (rs:=[.sh .b]) (spec:=fun m xs =>aef m xs.1) aCL
noncomputable def abE (m:MV):Option ((Int×Int×Unit)×(MV×Unit)) :=
 match m with
 | .alloc x =>some ((x.o.code,x.o.value,()),(MV.alloc x,()))
 | .publish x =>some ((x.o.code,x.o.value,()),(MV.publish x,()))
 | .claim x =>some ((x.o.code,x.o.value,()),(MV.claim x,()))
 | .attempt x =>some ((x.o.code,x.o.value,()),(MV.attempt x,()))
 | .release x =>some ((x.o.code,x.o.value,()),(MV.release x,()))
 | .opush x =>some ((x.o.code,x.o.value,()),(MV.opush x,()))
 | .opop x =>some ((x.o.code,x.o.value,()),(MV.opop x,()))
 | .steal x =>some ((x.o.code,x.o.value,()),(MV.steal x,()))
 | .set x =>some ((x.o.code,x.o.value,()),(MV.set x,()))
 | .reset x =>some ((x.o.code,x.o.value,()),(MV.reset x,()))
 | .insert x =>some ((x.o.code,x.o.value,()),(MV.insert x,()))
 | .remove x =>some ((x.o.code,x.o.value,()),(MV.remove x,()))
 | .sleep x =>some ((x.o.code,x.o.value,()),(MV.sleep x,()))
 | .wake x =>some ((x.o.code,x.o.value,()),(MV.wake x,()))
 | .raise x =>some ((x.o.code,x.o.value,()),(MV.raise x,()))
 | .probe x =>some ((x.o.code,x.o.value,()),(MV.probe x,()))
 | .lpush x =>some ((x.o.code,x.o.value,()),(MV.lpush x,()))
 | .lpop x =>some ((x.o.code,x.o.value,()),(MV.lpop x,()))
 | .walk x =>some ((x.o.code,x.o.value,()),(MV.walk x,()))
 | .take x =>some ((x.o.code,x.o.value,()),(MV.take x,()))
 | .sweep x =>some ((x.o.code,x.o.value,()),(MV.sweep x,()))
 | .enter x =>some ((x.o.code,x.o.value,()),(MV.enter x,()))
 | .drain x =>some ((x.o.code,x.o.value,()),(MV.drain x,()))
 | .run x =>some ((x.o.code,x.o.value,()),(MV.run x,()))
 | _ =>none
noncomputable abbrev anX:Con SR1:=⟨1000000001,[.mch],[.sh sI_,.sh sI_],fun x =>abE x.1⟩
theorem ayR (m:MV) (xs:amk SR1 []) (out:amn SR1 [.sh sI_,.sh sI_]×(MV×ak7 SR1 [])) (h:abE m=some out):ar3 SR1 Tryz.prog 1 [] [.sh sI_,.sh sI_] m xs out:=by
 cases m with
 | alloc x =>exact aal (.alloc x) xs out h
 | publish x =>exact aal (.publish x) xs out h
 | claim x =>exact aal (.claim x) xs out h
 | attempt x =>exact aal (.attempt x) xs out h
 | release x =>exact aal (.release x) xs out h
 | opush x =>exact aal (.opush x) xs out h
 | opop x =>exact aal (.opop x) xs out h
 | steal x =>exact aal (.steal x) xs out h
 | set x =>exact aal (.set x) xs out h
 | reset x =>exact aal (.reset x) xs out h
 | insert x =>exact aal (.insert x) xs out h
 | remove x =>exact aal (.remove x) xs out h
 | sleep x =>exact aal (.sleep x) xs out h
 | wake x =>exact aal (.wake x) xs out h
 | raise x =>exact aal (.raise x) xs out h
 | probe x =>exact aal (.probe x) xs out h
 | lpush x =>exact aiN (.lpush x) xs out h
 | lpop x =>exact aiN (.lpop x) xs out h
 | walk x =>exact ahs (.walk x) xs out h
 | take x =>exact ahs (.take x) xs out h
 | sweep x =>exact ahs (.sweep x) xs out h
 | enter x =>exact ahs (.enter x) xs out h
 | drain x =>exact ahs (.drain x) xs out h
 | run x =>exact abc (S:=SR1) (ps:=[]) (rs:=[.sh sI_,.sh sI_]) (c:=33) (mk:=MV.run) (f:=161) (sp:=fun x =>some ((x.1.o.code,x.1.o.value,()),(x.1,()))) (fun _ =>rfl) rfl (fun _ _ _ _ =>by kernel_rfl) (acA [aaY] ⟨aaS,trivial⟩ fun x =>by kernel_rfl) h
 | _ =>cases h
theorem aqD:CO Tryz.prog anX:=akT (S:=SR1) (i:=1) (ps:=[]) (rs:=[.sh sI_,.sh sI_]) (spec:=fun m _ =>abE m) ayR
noncomputable def aax (y0:(ClientV MV)):Option ((Bool×Unit)×((ClientV MV)×Unit)) :=
 some ((decide (((y0.subs.length:Nat):Int)≤y0.i),()),(y0,()))
noncomputable abbrev afI:Con SR1:=⟨77,[.ref 30],[.sh .b],fun x =>aax x.1⟩
theorem ahU:CO Tryz.prog afI:=aam aah Tryz.func77 [] trivial
noncomputable def al7 (y0:Int):Option ((MV×Unit)×(Unit)) :=
 some ((MV.attempt (⟨⟨false,0,0⟩,y0,false⟩:AttemptV),()),())
noncomputable abbrev anb:Con SR1:=⟨118,[.sh sI_],[.sh .mach],fun x =>al7 x.1⟩
theorem ar0:CO Tryz.prog anb:=aam aah Tryz.func118 [] trivial
noncomputable def ain (y0:Int) (y1:Int):Option ((MV×Unit)×(Unit)) :=
 some ((MV.insert (⟨⟨false,0,0⟩,y0,y1,1,0,0,0,0⟩:InsertV),()),())
noncomputable abbrev ajQ:Con SR1:=⟨120,[.sh sI_,.sh sI_],[.sh .mach],fun x =>ain x.1 x.2.1⟩
theorem aos:CO Tryz.prog ajQ:=aam aah Tryz.func120 [] trivial
noncomputable def adx (y0:(ClientV MV)):Option ((MV×Unit)×((ClientV MV)×Unit)) :=
 if 0≤y0.i∧y0.i<((y0.subs.length:Nat):Int) then
 if ((abH y0.subs y0.i).prog)=((abH y0.subs y0.i).prog) then
 if ((abH y0.subs y0.i).level)=((abH y0.subs y0.i).level) then
 if ((abH y0.subs y0.i).deadline)=((abH y0.subs y0.i).deadline) then
 if y0.i=y0.i then
 (al7 y0.me).bind fun r1 =>
 if y0.line=y0.line then
 if ((abH y0.subs y0.i).level)=((abH y0.subs y0.i).level) then
 if y0.me=y0.me then
 if y0.id=y0.id then
 if ((abH y0.subs y0.i).deadline)=((abH y0.subs y0.i).deadline) then
 (afv).bind fun r2 =>
 if y0.line=y0.line then
 if ((abH y0.subs y0.i).level)=((abH y0.subs y0.i).level) then
 if y0.me=y0.me then
 if y0.id=y0.id then
 if ((abH y0.subs y0.i).deadline)=((abH y0.subs y0.i).deadline) then
 (ain ((abH y0.subs y0.i).deadline) y0.id).bind fun r3 =>
 if y0.line=y0.line then
 if ((abH y0.subs y0.i).level)=((abH y0.subs y0.i).level) then
 if y0.me=y0.me then
 (agb).bind fun r4 =>
 if y0.line=y0.line then
 if ((abH y0.subs y0.i).level)=((abH y0.subs y0.i).level) then
 if y0.me=y0.me then
 (adc y0.me ((abH y0.subs y0.i).level)).bind fun r5 =>
 if y0.line=y0.line then
 if y0.line=y0.line then
 if 0≤wi (y0.line-1)∧wi (y0.line-1)<((([r1.1.1,MV.nil,r2.1.1,MV.nil,MV.nil,r3.1.1,MV.nil,r4.1.1,r5.1.1]:List MV).length:Nat):Int) then
 some ((aLp ([r1.1.1,MV.nil,r2.1.1,MV.nil,MV.nil,r3.1.1,MV.nil,r4.1.1,r5.1.1]) (wi (y0.line-1)),()),(y0,()))
 else none
 else none
 else none
 else none
 else none
 else none
 else none
 else none
 else none
 else none
 else none
 else none
 else none
 else none
 else none
 else none
 else none
 else none
 else none
 else none
 else none
 else none
 else none
 else none
noncomputable abbrev afU:Con SR1:=⟨115,[.ref 30],[.sh .mach],fun x =>adx x.1⟩
theorem ajx:CO Tryz.prog afU:=aam aah Tryz.func115 [anb,ahF,ajQ,aji,aiQ] ⟨ar0,ajI,aos,alQ,ajc,trivial⟩
noncomputable def aak (y0:(ClientV MV)) (y1:Int):Option ((Bool×Unit)×((ClientV MV)×Unit)) :=
 some ((false,()),(({ y0 with line:=y1,inside:=MV.nil,fresh:=true }:(ClientV MV)),()))
noncomputable abbrev ad3:Con SR1:=⟨130,[.ref 30,.sh sI_],[.sh .b],fun x =>aak x.1 x.2.1⟩
theorem aeF:CO Tryz.prog ad3:=aam aah Tryz.func130 [] trivial
noncomputable def abP (y0:(ClientV MV)) (y1:EnvP) (y2:Int):Option ((Bool×Unit)×((ClientV MV)×EnvP×Unit)) :=
 (aeJ y1 (⟨2,y0.me,0,y0.i,y2⟩:Ev)).bind fun r1 =>
 (aak y0 8).bind fun r2 =>
 some ((r2.1.1,()),(r2.2.1,r1.2.1,()))
noncomputable abbrev aeP:Con SR1:=⟨125,[.ref 30,.ref 27,.sh sI_],[.sh .b],fun x =>abP x.1 x.2.1 x.2.2.1⟩
theorem agR:CO Tryz.prog aeP:=aam aah Tryz.func125 [aga,ad3] ⟨ae2,aeF,trivial⟩
end
end Go.Proofs.YteapeojalliebaaGreat
