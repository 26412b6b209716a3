/- The reference: machines. -/
import Derived.Test.YtkmkhldmflebkaaGreatCzai
set_option linter.all false
namespace Go.Proofs.YtkmkhldmflebkaaGreat
open Go Go.RowKit
set_option maxRecDepth 100000
variable [Tb]
noncomputable def ais (e:EnvV) (f:FrV):Option ((ResV×Unit)×(EnvV×FrV×Unit)) :=
 (aj9 f.u).bind fun r1 =>
 if f.line=1 then
  (aaN e.m 1 2 0 0).bind fun r2 =>
  if (wi (r2.1.1))≤0 then
   some (((⟨true,2,0⟩:ResV),()),(({ e with m:=r2.2.1 }:EnvV),({ f with n:=wi (r2.1.1) }:FrV),()))
  else
  some (((⟨false,0,0⟩:ResV),()),(({ e with m:=r2.2.1 }:EnvV),({ f with line:=wi (f.line+1),n:=wi (r2.1.1) }:FrV),()))
 else
 if f.line=2 then
  (agw e.c 0).bind fun r3 =>
  (aaN e.m 1 r3.1.1 0 0).bind fun r4 =>
  some (((⟨false,0,0⟩:ResV),()),(({ e with m:=r4.2.1 }:EnvV),({ f with line:=wi (f.line+1),u:=r4.1.1 }:FrV),()))
 else
 if f.line=3 then
  (agw e.c (wi (f.n-1))).bind fun r5 =>
  (aaN e.m 1 r5.1.1 0 0).bind fun r6 =>
  some (((⟨false,0,0⟩:ResV),()),(({ e with m:=r6.2.1 }:EnvV),({ f with line:=wi (f.line+1),v:=r6.1.1 }:FrV),()))
 else
 if f.line=4 then
  (aaN e.m 2 2 (wu (wi (f.n-1))) 0).bind fun r7 =>
  (aaM ({ e with m:=r7.2.1 }:EnvV) 13 f.a r1.1.2.2.1 0 0).bind fun r8 =>
  if f.n=1 then
   some (((⟨true,1,r1.1.2.2.1⟩:ResV),()),(r8.2.1,f,()))
  else
  if 1<(wi (f.n-1)) then
   some (((⟨false,0,0⟩:ResV),()),(r8.2.1,({ f with line:=5,i:=0 }:FrV),()))
  else
  some (((⟨false,0,0⟩:ResV),()),(r8.2.1,({ f with line:=8,i:=0 }:FrV),()))
 else
 if f.line=5 then
  (agw e.c (wi ((wi (2*f.i))+1))).bind fun r9 =>
  (aaN e.m 1 r9.1.1 0 0).bind fun r10 =>
  if (wi (f.n-1))≤(wi ((wi (2*f.i))+2)) then
   (abF ({ f with j:=wi ((wi (2*f.i))+1),w:=r10.1.1 }:FrV)).bind fun r11 =>
   some (((⟨false,0,0⟩:ResV),()),(({ e with m:=r10.2.1 }:EnvV),({ r11.2.1 with line:=r11.1.1 }:FrV),()))
  else
  some (((⟨false,0,0⟩:ResV),()),(({ e with m:=r10.2.1 }:EnvV),({ f with line:=wi (f.line+1),j:=wi ((wi (2*f.i))+1),w:=r10.1.1 }:FrV),()))
 else
 if f.line=6 then
  (agw e.c (wi ((wi (2*f.i))+2))).bind fun r12 =>
  (aaN e.m 1 r12.1.1 0 0).bind fun r13 =>
  if r13.1.1<f.w then
   (abF ({ f with j:=wi ((wi (2*f.i))+2),w:=r13.1.1 }:FrV)).bind fun r14 =>
   some (((⟨false,0,0⟩:ResV),()),(({ e with m:=r13.2.1 }:EnvV),({ r14.2.1 with line:=r14.1.1 }:FrV),()))
  else
  (abF f).bind fun r15 =>
  some (((⟨false,0,0⟩:ResV),()),(({ e with m:=r13.2.1 }:EnvV),({ r15.2.1 with line:=r15.1.1 }:FrV),()))
 else
 if f.line=7 then
  (agw e.c f.i).bind fun r16 =>
  if f.w=f.w then
   (aaN e.m 2 r16.1.1 f.w 0).bind fun r17 =>
   if (wi ((wi (2*f.j))+1))<(wi (f.n-1)) then
   some (((⟨false,0,0⟩:ResV),()),(({ e with m:=r17.2.1 }:EnvV),({ f with line:=5,i:=f.j }:FrV),()))
   else
   some (((⟨false,0,0⟩:ResV),()),(({ e with m:=r17.2.1 }:EnvV),({ f with line:=8,i:=f.j }:FrV),()))
  else none
 else
 (agw e.c f.i).bind fun r18 =>
 if f.v=f.v then
  (aaN e.m 2 r18.1.1 f.v 0).bind fun r19 =>
  some (((⟨true,1,r1.1.2.2.1⟩:ResV),()),(({ e with m:=r19.2.1 }:EnvV),f,()))
 else none
noncomputable abbrev aly:Con SR1:=⟨119,[.ref 12,.ref 8],[.val 10],fun x =>ais x.1 x.2.1⟩
noncomputable def aoX:List (Nat×Func):=[(114,Tryz.f114),(112,Tryz.f112),(117,Tryz.f117),(161,Tryz.f161)]
theorem aoY:CO Tryz.prog aly:=aaC aaB Tryz.func119 [alN,acW,amC,abm,alz] ⟨apb,acn,anV,abh,aoZ,trivial⟩ aoX ⟨Tryz.func114,Tryz.func112,Tryz.func117,Tryz.func161,trivial⟩ (fun _ =>[]) [] fun x =>by kernel_rfl
noncomputable def amy (e:EnvV) (f:FrV):Option ((ResV×Unit)×(EnvV×FrV×Unit)) :=
 (adX e.c f.b).bind fun r1 =>
 (aaN e.m 3 r1.1.1 1 2).bind fun r2 =>
 if (!r2.1.2.1)=true then
  (aaM ({ e with m:=r2.2.1 }:EnvV) 15 f.a f.b 0 0).bind fun r3 =>
  some (((⟨true,4,0⟩:ResV),()),(r3.2.1,f,()))
 else
 if 0≤f.b∧f.b<((e.recs.length:Nat):Int) then
  if (aat e.recs f.b).started=true then
   if 0≤f.b∧f.b<(((ws7 e.recs f.b).length:Nat):Int) then
   (aaM ({ e with m:=r2.2.1,recs:=(ws7 e.recs f.b).set f.b.toNat ({ aat (ws7 e.recs f.b) f.b with started:=true }:RecV) }:EnvV) 9 f.a f.b 0 0).bind fun r4 =>
   some (((⟨true,1,f.b⟩:ResV),()),(r4.2.1,f,()))
   else none
  else
  if 0≤f.b∧f.b<(((ws7 e.recs f.b).length:Nat):Int) then
   (aaM ({ e with m:=r2.2.1,recs:=(ws7 e.recs f.b).set f.b.toNat ({ aat (ws7 e.recs f.b) f.b with started:=true }:RecV) }:EnvV) 5 f.a f.b 0 0).bind fun r5 =>
   some (((⟨true,1,f.b⟩:ResV),()),(r5.2.1,f,()))
  else none
 else none
noncomputable abbrev anR:Con SR1:=⟨163,[.ref 12,.ref 8],[.val 10],fun x =>amy x.1 x.2.1⟩
noncomputable def arI:List (Nat×Func):=[(116,Tryz.f116),(112,Tryz.f112)]
theorem arJ:CO Tryz.prog anR:=aaC aaB Tryz.func163 [aej,acW,abm] ⟨ad6,acn,abh,trivial⟩ arI ⟨Tryz.func116,Tryz.func112,trivial⟩ (fun _ =>[]) [] fun x =>by kernel_rfl
noncomputable def adj (e:EnvV) (f:FrV):Option ((ResV×Unit)×(EnvV×FrV×Unit)) :=
 if f.kind=12 then
  (aaN e.m 6 0 1 0).bind fun r1 =>
  if 0≤(wi (r1.1.1)) then
   if (wi (r1.1.1))<e.c.tasks then
   if (wi (r1.1.1))<((e.recs.length:Nat):Int) then
   some (((⟨true,1,wi (r1.1.1)⟩:ResV),()),(({ e with m:=r1.2.1 }:EnvV),f,()))
   else
   some (((⟨true,3,0⟩:ResV),()),(({ e with m:=r1.2.1 }:EnvV),f,()))
   else
   some (((⟨true,3,0⟩:ResV),()),(({ e with m:=r1.2.1 }:EnvV),f,()))
  else
  some (((⟨true,3,0⟩:ResV),()),(({ e with m:=r1.2.1 }:EnvV),f,()))
 else
 if f.kind=14 then
  (amy e f).bind fun r2 =>
  some ((r2.1.1,()),(r2.2.1,r2.2.2.1,()))
 else
 if f.kind=13 then
  if 0≤f.a then
   if f.a<e.c.tasks then
   if ¬ (f.a<((e.recs.length:Nat):Int)) then
   some (((⟨true,4,0⟩:ResV),()),(e,f,()))
   else
   if f.kind=13 then
   if f.line=1 then
   (adY e.c f.a).bind fun r3 =>
   if f.b=f.b then
   (aaN e.m 2 r3.1.1 (wu (f.b)) 0).bind fun r4 =>
   some (((⟨false,0,0⟩:ResV),()),(({ e with m:=r4.2.1 }:EnvV),({ f with line:=wi (f.line+1) }:FrV),()))
   else none
   else
   if f.line=2 then
   (afE e.c f.a).bind fun r5 =>
   if e.now=e.now then
   (aaN e.m 2 r5.1.1 (wu (e.now)) 0).bind fun r6 =>
   some (((⟨false,0,0⟩:ResV),()),(({ e with m:=r6.2.1 }:EnvV),({ f with line:=wi (f.line+1) }:FrV),()))
   else none
   else
   (adX e.c f.a).bind fun r7 =>
   (aaN e.m 2 r7.1.1 1 0).bind fun r8 =>
   some (((⟨true,0,0⟩:ResV),()),(({ e with m:=r8.2.1 }:EnvV),f,()))
   else
   if f.line=1 then
   (afE e.c f.b).bind fun r9 =>
   if e.now=e.now then
   (aaN e.m 2 r9.1.1 (wu (e.now)) 0).bind fun r10 =>
   some (((⟨false,0,0⟩:ResV),()),(({ e with m:=r10.2.1 }:EnvV),({ f with line:=wi (f.line+1) }:FrV),()))
   else none
   else
   if f.line=2 then
   (adX e.c f.b).bind fun r11 =>
   (aaN e.m 2 r11.1.1 1 0).bind fun r12 =>
   some (((⟨false,0,0⟩:ResV),()),(({ e with m:=r12.2.1 }:EnvV),({ f with line:=wi (f.line+1) }:FrV),()))
   else
   (adY e.c f.b).bind fun r13 =>
   (aaN e.m 1 r13.1.1 0 0).bind fun r14 =>
   some (((⟨false,0,0⟩:ResV),()),(({ e with m:=r14.2.1 }:EnvV),({ f with line:=wi (f.line+1),t:=wi (r14.1.1) }:FrV),()))
   else
   some (((⟨true,4,0⟩:ResV),()),(e,f,()))
  else
  some (((⟨true,4,0⟩:ResV),()),(e,f,()))
 else
 if 0≤f.b then
  if f.b<e.c.tasks then
   if ¬ (f.b<((e.recs.length:Nat):Int)) then
   some (((⟨true,4,0⟩:ResV),()),(e,f,()))
   else
   if f.kind=13 then
   if f.line=1 then
   (adY e.c f.a).bind fun r15 =>
   if f.b=f.b then
   (aaN e.m 2 r15.1.1 (wu (f.b)) 0).bind fun r16 =>
   some (((⟨false,0,0⟩:ResV),()),(({ e with m:=r16.2.1 }:EnvV),({ f with line:=wi (f.line+1) }:FrV),()))
   else none
   else
   if f.line=2 then
   (afE e.c f.a).bind fun r17 =>
   if e.now=e.now then
   (aaN e.m 2 r17.1.1 (wu (e.now)) 0).bind fun r18 =>
   some (((⟨false,0,0⟩:ResV),()),(({ e with m:=r18.2.1 }:EnvV),({ f with line:=wi (f.line+1) }:FrV),()))
   else none
   else
   (adX e.c f.a).bind fun r19 =>
   (aaN e.m 2 r19.1.1 1 0).bind fun r20 =>
   some (((⟨true,0,0⟩:ResV),()),(({ e with m:=r20.2.1 }:EnvV),f,()))
   else
   if f.line=1 then
   (afE e.c f.b).bind fun r21 =>
   if e.now=e.now then
   (aaN e.m 2 r21.1.1 (wu (e.now)) 0).bind fun r22 =>
   some (((⟨false,0,0⟩:ResV),()),(({ e with m:=r22.2.1 }:EnvV),({ f with line:=wi (f.line+1) }:FrV),()))
   else none
   else
   if f.line=2 then
   (adX e.c f.b).bind fun r23 =>
   (aaN e.m 2 r23.1.1 1 0).bind fun r24 =>
   some (((⟨false,0,0⟩:ResV),()),(({ e with m:=r24.2.1 }:EnvV),({ f with line:=wi (f.line+1) }:FrV),()))
   else
   (adY e.c f.b).bind fun r25 =>
   (aaN e.m 1 r25.1.1 0 0).bind fun r26 =>
   some (((⟨false,0,0⟩:ResV),()),(({ e with m:=r26.2.1 }:EnvV),({ f with line:=wi (f.line+1),t:=wi (r26.1.1) }:FrV),()))
  else
  some (((⟨true,4,0⟩:ResV),()),(e,f,()))
 else
 some (((⟨true,4,0⟩:ResV),()),(e,f,()))
noncomputable abbrev anK:Con SR1:=⟨120,[.ref 12,.ref 8],[.val 10],fun x =>adj x.1 x.2.1⟩
noncomputable def ars:List (Nat×Func):=[(158,Tryz.f158),(102,Tryz.f102),(112,Tryz.f112),(164,Tryz.f164),(117,Tryz.f117),(114,Tryz.f114)]
theorem art:CO Tryz.prog anK:=aaC aaB Tryz.func120 [acW,anR,afb,aiA,aej] ⟨acn,arJ,aeP,aja,ad6,trivial⟩ ars ⟨Tryz.func158,Tryz.func102,Tryz.func112,Tryz.func164,Tryz.func117,Tryz.func114,trivial⟩ (fun _ =>[]) [] fun x =>by kernel_rfl
noncomputable def acH (e:EnvV) (f:FrV):Option ((ResV×Unit)×(EnvV×FrV×Unit)) :=
 if 0≤f.b then
  if f.b<e.c.tasks then
   if ¬ (f.b<((e.recs.length:Nat):Int)) then
   some (((⟨true,4,0⟩:ResV),()),(e,f,()))
   else
   if f.d<0 then
   some (((⟨true,4,0⟩:ResV),()),(e,f,()))
   else
   if e.c.levels≤f.d then
   some (((⟨true,4,0⟩:ResV),()),(e,f,()))
   else
   if f.kind=16 then
   if f.line=1 then
   (adY e.c f.b).bind fun r1 =>
   (aaN e.m 1 r1.1.1 0 0).bind fun r2 =>
   if f.d≤(wi (r2.1.1)) then
   some (((⟨true,0,0⟩:ResV),()),(({ e with m:=r2.2.1 }:EnvV),({ f with u:=r2.1.1 }:FrV),()))
   else
   some (((⟨false,0,0⟩:ResV),()),(({ e with m:=r2.2.1 }:EnvV),({ f with line:=2,u:=r2.1.1 }:FrV),()))
   else
   (adY e.c f.b).bind fun r3 =>
   if f.d=f.d then
   if f.u=f.u then
   (aaN e.m 3 r3.1.1 f.u (wu (f.d))).bind fun r4 =>
   if r4.1.2.1=true then
   (aaM ({ e with m:=r4.2.1 }:EnvV) 11 f.a f.b 0 f.d).bind fun r5 =>
   some (((⟨true,1,0⟩:ResV),()),(r5.2.1,f,()))
   else
   some (((⟨false,0,0⟩:ResV),()),(({ e with m:=r4.2.1 }:EnvV),({ f with line:=1 }:FrV),()))
   else none
   else none
   else
   if f.line=2 then
   (adX e.c f.b).bind fun r6 =>
   (aaN e.m 1 r6.1.1 0 0).bind fun r7 =>
   if r7.1.1=1 then
   some (((⟨false,0,0⟩:ResV),()),(({ e with m:=r7.2.1 }:EnvV),({ f with line:=3 }:FrV),()))
   else
   some (((⟨false,0,0⟩:ResV),()),(({ e with m:=r7.2.1 }:EnvV),({ f with line:=4 }:FrV),()))
   else
   (ah2 e.c f.b).bind fun r8 =>
   (aaN e.m 1 r8.1.1 0 0).bind fun r9 =>
   if r9.1.1=0 then
   some (((⟨true,0,0⟩:ResV),()),(({ e with m:=r9.2.1 }:EnvV),f,()))
   else
   some (((⟨false,0,0⟩:ResV),()),(({ e with m:=r9.2.1 }:EnvV),({ f with line:=1,b:=wi (wu (r9.1.1-1)) }:FrV),()))
  else
  some (((⟨true,4,0⟩:ResV),()),(e,f,()))
 else
 some (((⟨true,4,0⟩:ResV),()),(e,f,()))
noncomputable abbrev anS:Con SR1:=⟨121,[.ref 12,.ref 8],[.val 10],fun x =>acH x.1 x.2.1⟩
noncomputable def arK:List (Nat×Func):=[(102,Tryz.f102),(112,Tryz.f112),(114,Tryz.f114),(116,Tryz.f116)]
theorem arL:CO Tryz.prog anS:=aaC aaB Tryz.func121 [afb,acW,abm,aej,akx] ⟨aeP,acn,abh,ad6,alG,trivial⟩ arK ⟨Tryz.func102,Tryz.func112,Tryz.func114,Tryz.func116,trivial⟩ (fun _ =>[]) [] fun x =>by kernel_rfl
noncomputable def acS (e:EnvV) (f:FrV):Option ((ResV×Unit)×(EnvV×FrV×Unit)) :=
 if 0≤f.b then
  if f.b<e.c.tasks then
   if ¬ (f.b<((e.recs.length:Nat):Int)) then
   some (((⟨true,0,0⟩:ResV),()),(e,f,()))
   else
   if e.c.age=0 then
   some (((⟨true,0,0⟩:ResV),()),(e,f,()))
   else
   if f.line=1 then
   (adX e.c f.b).bind fun r1 =>
   (aaN e.m 1 r1.1.1 0 0).bind fun r2 =>
   if r2.1.1≠1 then
   some (((⟨true,0,0⟩:ResV),()),(({ e with m:=r2.2.1 }:EnvV),f,()))
   else
   some (((⟨false,0,0⟩:ResV),()),(({ e with m:=r2.2.1 }:EnvV),({ f with line:=wi (f.line+1) }:FrV),()))
   else
   if f.line=2 then
   (afE e.c f.b).bind fun r3 =>
   if e.c.age=e.c.age then
   if e.now=e.now then
   (aaN e.m 1 r3.1.1 0 0).bind fun r4 =>
   if e.c.age=e.c.age then
   if e.now=e.now then
   if (wi (e.now-(wi (r4.1.1))))<e.c.age then
   some (((⟨true,0,0⟩:ResV),()),(({ e with m:=r4.2.1 }:EnvV),f,()))
   else
   some (((⟨false,0,0⟩:ResV),()),(({ e with m:=r4.2.1 }:EnvV),({ f with line:=wi (f.line+1) }:FrV),()))
   else none
   else none
   else none
   else none
   else
   if f.line=3 then
   (adY e.c f.b).bind fun r5 =>
   (aaN e.m 1 r5.1.1 0 0).bind fun r6 =>
   if (wi (e.c.levels-1))≤(wi (r6.1.1)) then
   some (((⟨true,0,0⟩:ResV),()),(({ e with m:=r6.2.1 }:EnvV),({ f with t:=wi ((wi (r6.1.1))+1),u:=r6.1.1 }:FrV),()))
   else
   some (((⟨false,0,0⟩:ResV),()),(({ e with m:=r6.2.1 }:EnvV),({ f with line:=wi (f.line+1),t:=wi ((wi (r6.1.1))+1),u:=r6.1.1 }:FrV),()))
   else
   if f.line=4 then
   (adY e.c f.b).bind fun r7 =>
   if f.u=f.u then
   if f.u=f.u then
   (aaN e.m 3 r7.1.1 f.u (wu (f.u+1))).bind fun r8 =>
   if (!r8.1.2.1)=true then
   some (((⟨true,4,0⟩:ResV),()),(({ e with m:=r8.2.1 }:EnvV),f,()))
   else
   (aaM ({ e with m:=r8.2.1 }:EnvV) 12 f.a f.b 0 f.t).bind fun r9 =>
   some (((⟨false,0,0⟩:ResV),()),(r9.2.1,({ f with line:=wi (f.line+1) }:FrV),()))
   else none
   else none
   else
   (afE e.c f.b).bind fun r10 =>
   if e.now=e.now then
   (aaN e.m 2 r10.1.1 (wu (e.now)) 0).bind fun r11 =>
   some (((⟨false,0,0⟩:ResV),()),(({ e with m:=r11.2.1 }:EnvV),({ f with line:=wi (f.line+1) }:FrV),()))
   else none
  else
  some (((⟨true,0,0⟩:ResV),()),(e,f,()))
 else
 some (((⟨true,0,0⟩:ResV),()),(e,f,()))
noncomputable abbrev anL:Con SR1:=⟨122,[.ref 12,.ref 8],[.val 10],fun x =>acS x.1 x.2.1⟩
noncomputable def aru:List (Nat×Func):=[(102,Tryz.f102),(112,Tryz.f112),(114,Tryz.f114),(116,Tryz.f116),(117,Tryz.f117)]
theorem arv:CO Tryz.prog anL:=aaC aaB Tryz.func122 [aej,acW,aiA,afb,abm] ⟨ad6,acn,aja,aeP,abh,trivial⟩ aru ⟨Tryz.func102,Tryz.func112,Tryz.func114,Tryz.func116,Tryz.func117,trivial⟩ (fun _ =>[]) [] fun x =>by kernel_rfl
noncomputable def acT (e:EnvV) (f:FrV):Option ((ResV×Unit)×(EnvV×FrV×Unit)) :=
 (aiC f.a e.c.classes).bind fun r1 =>
 if e.c.workers=e.c.workers then
  if e.c.levels=e.c.levels then
   if e.c.classes=e.c.classes then
   if e.c.tasks=e.c.tasks then
   if e.c.deque=e.c.deque then
   if e.c.heap=e.c.heap then
   if e.c.batch=e.c.batch then
   if e.c.age=e.c.age then
   if e.c.patience=e.c.patience then
   (aeO e.c r1.1.1).bind fun r2 =>
   if f.line=1 then
   (ajb e.c f.a).bind fun r3 =>
   (aaN e.m 1 r3.1.1 0 0).bind fun r4 =>
   some (((⟨false,0,0⟩:ResV),()),(({ e with m:=r4.2.1 }:EnvV),({ f with line:=wi (f.line+1),u:=r4.1.1 }:FrV),()))
   else
   if f.line=2 then
   (aiF f.a).bind fun r5 =>
   (aaN e.m 4 r2.1.1 r5.1.1 0).bind fun r6 =>
   some (((⟨false,0,0⟩:ResV),()),(({ e with m:=r6.2.1 }:EnvV),({ f with line:=wi (f.line+1) }:FrV),()))
   else
   if f.line=3 then
   (aaN e.m 1 2 0 0).bind fun r7 =>
   if r7.1.1≠0 then
   some (((⟨false,0,0⟩:ResV),()),(({ e with m:=r7.2.1 }:EnvV),({ f with line:=7,n:=0 }:FrV),()))
   else
   some (((⟨false,0,0⟩:ResV),()),(({ e with m:=r7.2.1 }:EnvV),({ f with line:=wi (f.line+1),n:=0 }:FrV),()))
   else
   if f.line=4 then
   (adu e.c f.n).bind fun r8 =>
   (aaN e.m 1 r8.1.1 0 0).bind fun r9 =>
   if r9.1.1≠0 then
   some (((⟨false,0,0⟩:ResV),()),(({ e with m:=r9.2.1 }:EnvV),({ f with line:=7,n:=wi (f.n+1) }:FrV),()))
   else
   if (wi (f.n+1))<e.c.workers then
   some (((⟨false,0,0⟩:ResV),()),(({ e with m:=r9.2.1 }:EnvV),({ f with line:=4,n:=wi (f.n+1) }:FrV),()))
   else
   (aaM ({ e with m:=r9.2.1 }:EnvV) 16 f.a 0 0 0).bind fun r10 =>
   some (((⟨false,0,0⟩:ResV),()),(r10.2.1,({ f with line:=wi (f.line+1),n:=wi (f.n+1),t:=r10.2.1.now }:FrV),()))
   else
   if f.line=5 then
   (ajb e.c f.a).bind fun r11 =>
   (aaN e.m 1 r11.1.1 0 0).bind fun r12 =>
   if r12.1.1≠f.u then
   (aaM ({ e with m:=r12.2.1 }:EnvV) 17 f.a 0 1 0).bind fun r13 =>
   some (((⟨false,0,0⟩:ResV),()),(r13.2.1,({ f with line:=wi (f.line+1) }:FrV),()))
   else
   if e.c.patience≤(wi (e.now-f.t)) then
   (aaM ({ e with m:=r12.2.1 }:EnvV) 17 f.a 0 2 0).bind fun r14 =>
   some (((⟨false,0,0⟩:ResV),()),(r14.2.1,({ f with line:=wi (f.line+1) }:FrV),()))
   else
   some (((⟨false,0,0⟩:ResV),()),(({ e with m:=r12.2.1 }:EnvV),({ f with line:=5 }:FrV),()))
   else
   (aiF f.a).bind fun r15 =>
   (aaN e.m 5 r2.1.1 (awO r15.1.1) 0).bind fun r16 =>
   if f.line=6 then
   some (((⟨true,1,0⟩:ResV),()),(({ e with m:=r16.2.1 }:EnvV),f,()))
   else
   some (((⟨true,5,0⟩:ResV),()),(({ e with m:=r16.2.1 }:EnvV),f,()))
   else none
   else none
   else none
   else none
   else none
   else none
   else none
  else none
 else none
noncomputable abbrev anN:Con SR1:=⟨123,[.ref 12,.ref 8],[.val 10],fun x =>acT x.1 x.2.1⟩
noncomputable def ary:List (Nat×Func):=[(114,Tryz.f114),(110,Tryz.f110),(155,Tryz.f155),(112,Tryz.f112)]
theorem arz:CO Tryz.prog anN:=aaC aaB Tryz.func123 [ahn,agT,akz,acW,aiE,aeQ,abm] ⟨agV,aiz,alJ,acn,aiD,afc,abh,trivial⟩ ary ⟨Tryz.func114,Tryz.func110,Tryz.func155,Tryz.func112,trivial⟩ (fun _ =>[]) [] fun x =>by kernel_rfl
noncomputable def adW (e:EnvV) (f:FrV):Option ((ResV×Unit)×(EnvV×FrV×Unit)) :=
 (amF f.b e.c.levels e.c.classes).bind fun r1 =>
 if e.c.classes=e.c.classes then
  if f.j=f.j then
   (aiC (wi (r1.1.1+f.j)) e.c.classes).bind fun r2 =>
   if f.line=1 then
   (aeO e.c r2.1.1).bind fun r3 =>
   (aaN e.m 1 r3.1.1 0 0).bind fun r4 =>
   if r4.1.1≠0 then
   (avZ r4.1.1).bind fun r5 =>
   some (((⟨false,0,0⟩:ResV),()),(({ e with m:=r4.2.1 }:EnvV),({ f with line:=2,n:=r5.1.1 }:FrV),()))
   else
   if e.c.classes≤(wi (f.j+1)) then
   some (((⟨true,2,0⟩:ResV),()),(({ e with m:=r4.2.1 }:EnvV),({ f with j:=wi (f.j+1) }:FrV),()))
   else
   some (((⟨false,0,0⟩:ResV),()),(({ e with m:=r4.2.1 }:EnvV),({ f with j:=wi (f.j+1) }:FrV),()))
   else
   if f.line=2 then
   (aeO e.c r2.1.1).bind fun r6 =>
   if f.n=f.n then
   (aiF f.n).bind fun r7 =>
   (aaN e.m 5 r6.1.1 (awO r7.1.1) 0).bind fun r8 =>
   (an0 r8.1.1 f.n).bind fun r9 =>
   if (!r9.1.1)=true then
   some (((⟨true,4,0⟩:ResV),()),(({ e with m:=r8.2.1 }:EnvV),f,()))
   else
   some (((⟨false,0,0⟩:ResV),()),(({ e with m:=r8.2.1 }:EnvV),({ f with line:=3 }:FrV),()))
   else none
   else
   (ajb e.c f.n).bind fun r10 =>
   (aaN e.m 6 r10.1.1 1 0).bind fun r11 =>
   (aaM ({ e with m:=r11.2.1 }:EnvV) 18 f.a 0 f.n 0).bind fun r12 =>
   some (((⟨true,1,f.n⟩:ResV),()),(r12.2.1,f,()))
  else none
 else none
noncomputable abbrev aqk:Con SR1:=⟨124,[.ref 12,.ref 8],[.val 10],fun x =>adW x.1 x.2.1⟩
noncomputable def as3:List (Nat×Func):=[(114,Tryz.f114),(112,Tryz.f112),(155,Tryz.f155),(158,Tryz.f158)]
theorem as4:CO Tryz.prog aqk:=aaC aaB Tryz.func124 [anZ,ahn,agT,acW,atn,aiE,amH,akz,abm] ⟨arP,agV,aiz,acn,avY,aiD,amG,alJ,abh,trivial⟩ as3 ⟨Tryz.func114,Tryz.func112,Tryz.func155,Tryz.func158,trivial⟩ (fun _ =>[]) [] fun x =>by kernel_rfl
noncomputable def acU (e:EnvV) (f:FrV):Option ((ResV×Unit)×(EnvV×FrV×Unit)) :=
 if f.line=1 then
  (aiC e.draw e.c.workers).bind fun r1 =>
  (lpF (σ:=Int×Int×Unit) (β:=Int×Int×Unit) (fun self4 x2 =>
   if x2.2.1<e.c.workers then
   if x2.2.1≠f.a then
   self4 (wi (x2.1+1),wi (x2.2.1+1),())
   else
   self4 (x2.1,wi (x2.2.1+1),())
   else
   some (x2.1,x2.2.1,())
  ) 18446744073709551616 (0,0,())).bind fun z3 =>
  if z3.1=0 then
   some (((⟨true,2,0⟩:ResV),()),(e,({ f with line:=2,j:=(-1),n:=(-1),t:=r1.1.1 }:FrV),()))
  else
  if e.c.workers≠0 then
   if (Int.tmod (wi (r1.1.1+f.i)) e.c.workers)=f.a then
   if e.c.workers≠0 then
   (adu e.c (Int.tmod (wi (r1.1.1+(wi (f.i+1)))) e.c.workers)).bind fun r5 =>
   (aaN e.m 1 r5.1.1 0 0).bind fun r6 =>
   (ajN r6.1.1).bind fun r7 =>
   if (-1)<r7.1.1 then
   (lpF (σ:=Bool×Int×Unit) (β:=Bool×Int×Unit) (fun self10 x8 =>
   if x8.2.1<e.c.workers then
   if x8.1=true then
   self10 (true,wi (x8.2.1+1),())
   else
   if e.c.workers≠0 then
   self10 (decide ((Int.tmod (wi (r1.1.1+x8.2.1)) e.c.workers)≠f.a),wi (x8.2.1+1),())
   else none
   else
   some (x8.1,x8.2.1,())
   ) 18446744073709551616 (false,wi ((wi (f.i+1))+1),())).bind fun z9 =>
   if z9.1=true then
   some (((⟨false,0,0⟩:ResV),()),(({ e with m:=r6.2.1 }:EnvV),({ f with line:=2,i:=wi ((wi (f.i+1))+1),j:=(Int.tmod (wi (r1.1.1+(wi (f.i+1)))) e.c.workers),n:=r7.1.1,t:=r1.1.1 }:FrV),()))
   else
   if (Int.tmod (wi (r1.1.1+(wi (f.i+1)))) e.c.workers)<0 then
   some (((⟨true,2,0⟩:ResV),()),(({ e with m:=r6.2.1 }:EnvV),({ f with line:=2,i:=wi ((wi (f.i+1))+1),j:=(Int.tmod (wi (r1.1.1+(wi (f.i+1)))) e.c.workers),n:=r7.1.1,t:=r1.1.1 }:FrV),()))
   else
   some (((⟨true,1,wi ((wi ((Int.tmod (wi (r1.1.1+(wi (f.i+1)))) e.c.workers)*64))+r7.1.1)⟩:ResV),()),(({ e with m:=r6.2.1 }:EnvV),({ f with line:=2,i:=wi ((wi (f.i+1))+1),j:=(Int.tmod (wi (r1.1.1+(wi (f.i+1)))) e.c.workers),n:=r7.1.1,t:=r1.1.1 }:FrV),()))
   else
   (lpF (σ:=Bool×Int×Unit) (β:=Bool×Int×Unit) (fun self13 x11 =>
   if x11.2.1<e.c.workers then
   if x11.1=true then
   self13 (true,wi (x11.2.1+1),())
   else
   if e.c.workers≠0 then
   self13 (decide ((Int.tmod (wi (r1.1.1+x11.2.1)) e.c.workers)≠f.a),wi (x11.2.1+1),())
   else none
   else
   some (x11.1,x11.2.1,())
   ) 18446744073709551616 (false,wi ((wi (f.i+1))+1),())).bind fun z12 =>
   if z12.1=true then
   some (((⟨false,0,0⟩:ResV),()),(({ e with m:=r6.2.1 }:EnvV),({ f with line:=2,i:=wi ((wi (f.i+1))+1),j:=(-1),n:=(-1),t:=r1.1.1 }:FrV),()))
   else
   some (((⟨true,2,0⟩:ResV),()),(({ e with m:=r6.2.1 }:EnvV),({ f with line:=2,i:=wi ((wi (f.i+1))+1),j:=(-1),n:=(-1),t:=r1.1.1 }:FrV),()))
   else none
   else
   (adu e.c (Int.tmod (wi (r1.1.1+f.i)) e.c.workers)).bind fun r14 =>
   (aaN e.m 1 r14.1.1 0 0).bind fun r15 =>
   (ajN r15.1.1).bind fun r16 =>
   if (-1)<r16.1.1 then
   (lpF (σ:=Bool×Int×Unit) (β:=Bool×Int×Unit) (fun self19 x17 =>
   if x17.2.1<e.c.workers then
   if x17.1=true then
   self19 (true,wi (x17.2.1+1),())
   else
   if e.c.workers≠0 then
   self19 (decide ((Int.tmod (wi (r1.1.1+x17.2.1)) e.c.workers)≠f.a),wi (x17.2.1+1),())
   else none
   else
   some (x17.1,x17.2.1,())
   ) 18446744073709551616 (false,wi (f.i+1),())).bind fun z18 =>
   if z18.1=true then
   some (((⟨false,0,0⟩:ResV),()),(({ e with m:=r15.2.1 }:EnvV),({ f with line:=2,i:=wi (f.i+1),j:=(Int.tmod (wi (r1.1.1+f.i)) e.c.workers),n:=r16.1.1,t:=r1.1.1 }:FrV),()))
   else
   if (Int.tmod (wi (r1.1.1+f.i)) e.c.workers)<0 then
   some (((⟨true,2,0⟩:ResV),()),(({ e with m:=r15.2.1 }:EnvV),({ f with line:=2,i:=wi (f.i+1),j:=(Int.tmod (wi (r1.1.1+f.i)) e.c.workers),n:=r16.1.1,t:=r1.1.1 }:FrV),()))
   else
   some (((⟨true,1,wi ((wi ((Int.tmod (wi (r1.1.1+f.i)) e.c.workers)*64))+r16.1.1)⟩:ResV),()),(({ e with m:=r15.2.1 }:EnvV),({ f with line:=2,i:=wi (f.i+1),j:=(Int.tmod (wi (r1.1.1+f.i)) e.c.workers),n:=r16.1.1,t:=r1.1.1 }:FrV),()))
   else
   (lpF (σ:=Bool×Int×Unit) (β:=Bool×Int×Unit) (fun self22 x20 =>
   if x20.2.1<e.c.workers then
   if x20.1=true then
   self22 (true,wi (x20.2.1+1),())
   else
   if e.c.workers≠0 then
   self22 (decide ((Int.tmod (wi (r1.1.1+x20.2.1)) e.c.workers)≠f.a),wi (x20.2.1+1),())
   else none
   else
   some (x20.1,x20.2.1,())
   ) 18446744073709551616 (false,wi (f.i+1),())).bind fun z21 =>
   if z21.1=true then
   some (((⟨false,0,0⟩:ResV),()),(({ e with m:=r15.2.1 }:EnvV),({ f with line:=2,i:=wi (f.i+1),j:=(-1),n:=(-1),t:=r1.1.1 }:FrV),()))
   else
   some (((⟨true,2,0⟩:ResV),()),(({ e with m:=r15.2.1 }:EnvV),({ f with line:=2,i:=wi (f.i+1),j:=(-1),n:=(-1),t:=r1.1.1 }:FrV),()))
  else none
 else
 (lpF (σ:=Int×Int×Unit) (β:=Int×Int×Unit) (fun self25 x23 =>
  if x23.2.1<e.c.workers then
   if x23.2.1≠f.a then
   self25 (wi (x23.1+1),wi (x23.2.1+1),())
   else
   self25 (x23.1,wi (x23.2.1+1),())
  else
  some (x23.1,x23.2.1,())
 ) 18446744073709551616 (0,0,())).bind fun z24 =>
 if z24.1=0 then
  some (((⟨true,2,0⟩:ResV),()),(e,f,()))
 else
 if e.c.workers≠0 then
  if (Int.tmod (wi (f.t+f.i)) e.c.workers)=f.a then
   if e.c.workers≠0 then
   (adu e.c (Int.tmod (wi (f.t+(wi (f.i+1)))) e.c.workers)).bind fun r26 =>
   (aaN e.m 1 r26.1.1 0 0).bind fun r27 =>
   (ajN r27.1.1).bind fun r28 =>
   if f.n<r28.1.1 then
   (lpF (σ:=Bool×Int×Unit) (β:=Bool×Int×Unit) (fun self31 x29 =>
   if x29.2.1<e.c.workers then
   if x29.1=true then
   self31 (true,wi (x29.2.1+1),())
   else
   if e.c.workers≠0 then
   self31 (decide ((Int.tmod (wi (f.t+x29.2.1)) e.c.workers)≠f.a),wi (x29.2.1+1),())
   else none
   else
   some (x29.1,x29.2.1,())
   ) 18446744073709551616 (false,wi ((wi (f.i+1))+1),())).bind fun z30 =>
   if z30.1=true then
   some (((⟨false,0,0⟩:ResV),()),(({ e with m:=r27.2.1 }:EnvV),({ f with i:=wi ((wi (f.i+1))+1),j:=(Int.tmod (wi (f.t+(wi (f.i+1)))) e.c.workers),n:=r28.1.1 }:FrV),()))
   else
   if (Int.tmod (wi (f.t+(wi (f.i+1)))) e.c.workers)<0 then
   some (((⟨true,2,0⟩:ResV),()),(({ e with m:=r27.2.1 }:EnvV),({ f with i:=wi ((wi (f.i+1))+1),j:=(Int.tmod (wi (f.t+(wi (f.i+1)))) e.c.workers),n:=r28.1.1 }:FrV),()))
   else
   some (((⟨true,1,wi ((wi ((Int.tmod (wi (f.t+(wi (f.i+1)))) e.c.workers)*64))+r28.1.1)⟩:ResV),()),(({ e with m:=r27.2.1 }:EnvV),({ f with i:=wi ((wi (f.i+1))+1),j:=(Int.tmod (wi (f.t+(wi (f.i+1)))) e.c.workers),n:=r28.1.1 }:FrV),()))
   else
   (lpF (σ:=Bool×Int×Unit) (β:=Bool×Int×Unit) (fun self34 x32 =>
   if x32.2.1<e.c.workers then
   if x32.1=true then
   self34 (true,wi (x32.2.1+1),())
   else
   if e.c.workers≠0 then
   self34 (decide ((Int.tmod (wi (f.t+x32.2.1)) e.c.workers)≠f.a),wi (x32.2.1+1),())
   else none
   else
   some (x32.1,x32.2.1,())
   ) 18446744073709551616 (false,wi ((wi (f.i+1))+1),())).bind fun z33 =>
   if z33.1=true then
   some (((⟨false,0,0⟩:ResV),()),(({ e with m:=r27.2.1 }:EnvV),({ f with i:=wi ((wi (f.i+1))+1) }:FrV),()))
   else
   if f.j<0 then
   some (((⟨true,2,0⟩:ResV),()),(({ e with m:=r27.2.1 }:EnvV),({ f with i:=wi ((wi (f.i+1))+1) }:FrV),()))
   else
   some (((⟨true,1,wi ((wi (f.j*64))+f.n)⟩:ResV),()),(({ e with m:=r27.2.1 }:EnvV),({ f with i:=wi ((wi (f.i+1))+1) }:FrV),()))
   else none
  else
  (adu e.c (Int.tmod (wi (f.t+f.i)) e.c.workers)).bind fun r35 =>
  (aaN e.m 1 r35.1.1 0 0).bind fun r36 =>
  (ajN r36.1.1).bind fun r37 =>
  if f.n<r37.1.1 then
   (lpF (σ:=Bool×Int×Unit) (β:=Bool×Int×Unit) (fun self40 x38 =>
   if x38.2.1<e.c.workers then
   if x38.1=true then
   self40 (true,wi (x38.2.1+1),())
   else
   if e.c.workers≠0 then
   self40 (decide ((Int.tmod (wi (f.t+x38.2.1)) e.c.workers)≠f.a),wi (x38.2.1+1),())
   else none
   else
   some (x38.1,x38.2.1,())
   ) 18446744073709551616 (false,wi (f.i+1),())).bind fun z39 =>
   if z39.1=true then
   some (((⟨false,0,0⟩:ResV),()),(({ e with m:=r36.2.1 }:EnvV),({ f with i:=wi (f.i+1),j:=(Int.tmod (wi (f.t+f.i)) e.c.workers),n:=r37.1.1 }:FrV),()))
   else
   if (Int.tmod (wi (f.t+f.i)) e.c.workers)<0 then
   some (((⟨true,2,0⟩:ResV),()),(({ e with m:=r36.2.1 }:EnvV),({ f with i:=wi (f.i+1),j:=(Int.tmod (wi (f.t+f.i)) e.c.workers),n:=r37.1.1 }:FrV),()))
   else
   some (((⟨true,1,wi ((wi ((Int.tmod (wi (f.t+f.i)) e.c.workers)*64))+r37.1.1)⟩:ResV),()),(({ e with m:=r36.2.1 }:EnvV),({ f with i:=wi (f.i+1),j:=(Int.tmod (wi (f.t+f.i)) e.c.workers),n:=r37.1.1 }:FrV),()))
  else
  (lpF (σ:=Bool×Int×Unit) (β:=Bool×Int×Unit) (fun self43 x41 =>
   if x41.2.1<e.c.workers then
   if x41.1=true then
   self43 (true,wi (x41.2.1+1),())
   else
   if e.c.workers≠0 then
   self43 (decide ((Int.tmod (wi (f.t+x41.2.1)) e.c.workers)≠f.a),wi (x41.2.1+1),())
   else none
   else
   some (x41.1,x41.2.1,())
  ) 18446744073709551616 (false,wi (f.i+1),())).bind fun z42 =>
  if z42.1=true then
   some (((⟨false,0,0⟩:ResV),()),(({ e with m:=r36.2.1 }:EnvV),({ f with i:=wi (f.i+1) }:FrV),()))
  else
  if f.j<0 then
   some (((⟨true,2,0⟩:ResV),()),(({ e with m:=r36.2.1 }:EnvV),({ f with i:=wi (f.i+1) }:FrV),()))
  else
  some (((⟨true,1,wi ((wi (f.j*64))+f.n)⟩:ResV),()),(({ e with m:=r36.2.1 }:EnvV),({ f with i:=wi (f.i+1) }:FrV),()))
 else none
noncomputable abbrev anO:Con SR1:=⟨125,[.ref 12,.ref 8],[.val 10],fun x =>acU x.1 x.2.1⟩
noncomputable def arA:List (Nat×Func):=[(112,Tryz.f112),(114,Tryz.f114)]
theorem arB:CO Tryz.prog anO:=aaC aaB Tryz.func125 [ahn,aeQ,acW,amE] ⟨agV,afc,acn,anY,trivial⟩ arA ⟨Tryz.func112,Tryz.func114,trivial⟩ (fun _ =>[]) [(5,.loop [.rg 5 sI_,.rg 6 sI_] 18446744073709551616 0),(21,.loop [.rg 9 .b,.rg 10 sI_] 18446744073709551616 2)] fun x =>by kernel_rfl
noncomputable def acV (e:EnvV) (f:FrV):Option ((ResV×Unit)×(EnvV×FrV×Unit)) :=
 if f.line=1 then
  (aaN e.m 1 2 0 0).bind fun r1 =>
  if (wi (r1.1.1))≤0 then
   some (((⟨true,2,0⟩:ResV),()),(({ e with m:=r1.2.1 }:EnvV),f,()))
  else
  some (((⟨false,0,0⟩:ResV),()),(({ e with m:=r1.2.1 }:EnvV),({ f with line:=2 }:FrV),()))
 else
 (adY e.c f.n).bind fun r2 =>
 (aaN e.m 1 r2.1.1 0 0).bind fun r3 =>
 some (((⟨false,0,0⟩:ResV),()),(({ e with m:=r3.2.1 }:EnvV),({ f with line:=5,t:=wi (r3.1.1) }:FrV),()))
noncomputable abbrev anQ:Con SR1:=⟨126,[.ref 12,.ref 8],[.val 10],fun x =>acV x.1 x.2.1⟩
noncomputable def arG:List (Nat×Func):=[(114,Tryz.f114),(112,Tryz.f112)]
theorem arH:CO Tryz.prog anQ:=aaC aaB Tryz.func126 [acW,afb] ⟨acn,aeP,trivial⟩ arG ⟨Tryz.func114,Tryz.func112,trivial⟩ (fun _ =>[]) [] fun x =>by kernel_rfl
noncomputable def aew (f:FrV):Option ((ResV×Unit)×(FrV×Unit)) :=
 if 0≤wi (((f.l.length:Nat):Int)-1)∧wi (((f.l.length:Nat):Int)-1)≤((f.l.length:Nat):Int) then
  if (((f.l.take (wi (((f.l.length:Nat):Int)-1):Int).toNat).length:Nat):Int)=0 then
   some (((⟨true,0,0⟩:ResV),()),(({ f with line:=1,l:=f.l.take (wi (((f.l.length:Nat):Int)-1):Int).toNat }:FrV),()))
  else
  some (((⟨false,0,0⟩:ResV),()),(({ f with line:=1,l:=f.l.take (wi (((f.l.length:Nat):Int)-1):Int).toNat }:FrV),()))
 else none
noncomputable abbrev akr:Con SR1:=⟨177,[.ref 8],[.val 10],fun x =>aew x.1⟩
noncomputable def arD:List (Nat×Func):=[(112,Tryz.f112)]
theorem alA:CO Tryz.prog akr:=aaC aaB Tryz.func177 [] trivial arD ⟨Tryz.func112,trivial⟩ (fun _ =>[]) [] fun x =>by kernel_rfl
noncomputable def aj5 (e:EnvV) (f:FrV) (a:Int):Option ((ResV×Unit)×(EnvV×FrV×Unit)) :=
 if f.line=17 then
  (adX e.c a).bind fun r1 =>
  (aaN e.m 2 r1.1.1 4 0).bind fun r2 =>
  some (((⟨false,0,0⟩:ResV),()),(({ e with m:=r2.2.1 }:EnvV),({ f with line:=18 }:FrV),()))
 else
 if f.line=18 then
  (alI e.c a).bind fun r3 =>
  (aaN e.m 3 r3.1.1 0 4294967296).bind fun r4 =>
  (aaM ({ e with m:=r4.2.1 }:EnvV) 10 f.a a 0 0).bind fun r5 =>
  if r4.1.2.1=true then
   (aew f).bind fun r6 =>
   some ((r6.1.1,()),(r5.2.1,r6.2.1,()))
  else
  some (((⟨false,0,0⟩:ResV),()),(r5.2.1,({ f with line:=19 }:FrV),()))
 else
 (alI e.c a).bind fun r7 =>
 (aaN e.m 1 r7.1.1 0 0).bind fun r8 =>
 if 0≤(wi (wu (r8.1.1-1))) then
  if (wi (wu (r8.1.1-1)))<e.c.tasks then
   if ¬ ((wi (wu (r8.1.1-1)))<((e.recs.length:Nat):Int)) then
   (aew ({ f with n:=wi (wu (r8.1.1-1)) }:FrV)).bind fun r9 =>
   some ((r9.1.1,()),(({ e with m:=r8.2.1 }:EnvV),r9.2.1,()))
   else
   some (((⟨false,0,0⟩:ResV),()),(({ e with m:=r8.2.1 }:EnvV),({ f with line:=20,n:=wi (wu (r8.1.1-1)) }:FrV),()))
  else
  (aew ({ f with n:=wi (wu (r8.1.1-1)) }:FrV)).bind fun r10 =>
  some ((r10.1.1,()),(({ e with m:=r8.2.1 }:EnvV),r10.2.1,()))
 else
 (aew ({ f with n:=wi (wu (r8.1.1-1)) }:FrV)).bind fun r11 =>
 some ((r11.1.1,()),(({ e with m:=r8.2.1 }:EnvV),r11.2.1,()))
noncomputable abbrev alC:Con SR1:=⟨176,[.ref 12,.ref 8,.sh sI_],[.val 10],fun x =>aj5 x.1 x.2.1 x.2.2.1⟩
noncomputable def ao2:List (Nat×Func):=[(117,Tryz.f117),(116,Tryz.f116),(114,Tryz.f114),(102,Tryz.f102)]
theorem ao3:CO Tryz.prog alC:=aaC aaB Tryz.func176 [aej,acW,amD,abm,akr] ⟨ad6,acn,anW,abh,alA,trivial⟩ ao2 ⟨Tryz.func117,Tryz.func116,Tryz.func114,Tryz.func102,trivial⟩ (fun _ =>[]) [] fun x =>by kernel_rfl
noncomputable def af5 (e:EnvV) (f:FrV):Option ((ResV×Unit)×(EnvV×FrV×Unit)) :=
 if 0≤wi (((f.l.length:Nat):Int)-1)∧wi (((f.l.length:Nat):Int)-1)<((f.l.length:Nat):Int) then
  if f.line=23 then
   some (((⟨true,4,0⟩:ResV),()),(e,f,()))
  else
  if 0≤aaf f.l (wi (((f.l.length:Nat):Int)-1))∧aaf f.l (wi (((f.l.length:Nat):Int)-1))<((e.recs.length:Nat):Int) then
   if f.line=2 then
   (ah2 e.c (aaf f.l (wi (((f.l.length:Nat):Int)-1)))).bind fun r1 =>
   (aaN e.m 2 r1.1.1 0 0).bind fun r2 =>
   some (((⟨false,0,0⟩:ResV),()),(({ e with m:=r2.2.1,recs:=e.recs.set (aaf f.l (wi (((f.l.length:Nat):Int)-1))).toNat ({ aat e.recs (aaf f.l (wi (((f.l.length:Nat):Int)-1))) with waiting:=(-1) }:RecV) }:EnvV),({ f with line:=1 }:FrV),()))
   else
   if f.line=3 then
   if ((aat e.recs (aaf f.l (wi (((f.l.length:Nat):Int)-1)))).left)=0 then
   if 0≤aaf f.l (wi (((f.l.length:Nat):Int)-1))∧aaf f.l (wi (((f.l.length:Nat):Int)-1))<(((ws7 e.recs (aaf f.l (wi (((f.l.length:Nat):Int)-1)))).length:Nat):Int) then
   if ((aat (ws7 e.recs (aaf f.l (wi (((f.l.length:Nat):Int)-1)))) (aaf f.l (wi (((f.l.length:Nat):Int)-1)))).prog)<0 then
   if ((aat e.recs (aaf f.l (wi (((f.l.length:Nat):Int)-1)))).pc)=((aat (ws7 e.recs (aaf f.l (wi (((f.l.length:Nat):Int)-1)))) (aaf f.l (wi (((f.l.length:Nat):Int)-1)))).pc) then
   none
   else none
   else
   if ((e.c.progs.length:Nat):Int)≤((aat (ws7 e.recs (aaf f.l (wi (((f.l.length:Nat):Int)-1)))) (aaf f.l (wi (((f.l.length:Nat):Int)-1)))).prog) then
   if ((aat e.recs (aaf f.l (wi (((f.l.length:Nat):Int)-1)))).pc)=((aat (ws7 e.recs (aaf f.l (wi (((f.l.length:Nat):Int)-1)))) (aaf f.l (wi (((f.l.length:Nat):Int)-1)))).pc) then
   none
   else none
   else
   if 0≤(aat (ws7 e.recs (aaf f.l (wi (((f.l.length:Nat):Int)-1)))) (aaf f.l (wi (((f.l.length:Nat):Int)-1)))).prog∧(aat (ws7 e.recs (aaf f.l (wi (((f.l.length:Nat):Int)-1)))) (aaf f.l (wi (((f.l.length:Nat):Int)-1)))).prog<((e.c.progs.length:Nat):Int) then
   if ((aat e.recs (aaf f.l (wi (((f.l.length:Nat):Int)-1)))).pc)=((aat (ws7 e.recs (aaf f.l (wi (((f.l.length:Nat):Int)-1)))) (aaf f.l (wi (((f.l.length:Nat):Int)-1)))).pc) then
   if 0≤(aat e.recs (aaf f.l (wi (((f.l.length:Nat):Int)-1)))).pc∧(aat e.recs (aaf f.l (wi (((f.l.length:Nat):Int)-1)))).pc<(((atL [] e.c.progs ((aat (ws7 e.recs (aaf f.l (wi (((f.l.length:Nat):Int)-1)))) (aaf f.l (wi (((f.l.length:Nat):Int)-1)))).prog)).length:Nat):Int) then
   if ((aat (((ws7 e.recs (aaf f.l (wi (((f.l.length:Nat):Int)-1)))).set (aaf f.l (wi (((f.l.length:Nat):Int)-1))).toNat ({ aat (ws7 e.recs (aaf f.l (wi (((f.l.length:Nat):Int)-1)))) (aaf f.l (wi (((f.l.length:Nat):Int)-1))) with left:=(acA (atL [] e.c.progs ((aat (ws7 e.recs (aaf f.l (wi (((f.l.length:Nat):Int)-1)))) (aaf f.l (wi (((f.l.length:Nat):Int)-1)))).prog)) ((aat e.recs (aaf f.l (wi (((f.l.length:Nat):Int)-1)))).pc)).a }:RecV)).set (aaf f.l (wi (((f.l.length:Nat):Int)-1))).toNat ({ aat ((ws7 e.recs (aaf f.l (wi (((f.l.length:Nat):Int)-1)))).set (aaf f.l (wi (((f.l.length:Nat):Int)-1))).toNat ({ aat (ws7 e.recs (aaf f.l (wi (((f.l.length:Nat):Int)-1)))) (aaf f.l (wi (((f.l.length:Nat):Int)-1))) with left:=(acA (atL [] e.c.progs ((aat (ws7 e.recs (aaf f.l (wi (((f.l.length:Nat):Int)-1)))) (aaf f.l (wi (((f.l.length:Nat):Int)-1)))).prog)) ((aat e.recs (aaf f.l (wi (((f.l.length:Nat):Int)-1)))).pc)).a }:RecV)) (aaf f.l (wi (((f.l.length:Nat):Int)-1))) with left:=wi (((aat ((ws7 e.recs (aaf f.l (wi (((f.l.length:Nat):Int)-1)))).set (aaf f.l (wi (((f.l.length:Nat):Int)-1))).toNat ({ aat (ws7 e.recs (aaf f.l (wi (((f.l.length:Nat):Int)-1)))) (aaf f.l (wi (((f.l.length:Nat):Int)-1))) with left:=(acA (atL [] e.c.progs ((aat (ws7 e.recs (aaf f.l (wi (((f.l.length:Nat):Int)-1)))) (aaf f.l (wi (((f.l.length:Nat):Int)-1)))).prog)) ((aat e.recs (aaf f.l (wi (((f.l.length:Nat):Int)-1)))).pc)).a }:RecV)) (aaf f.l (wi (((f.l.length:Nat):Int)-1)))).left)-1) }:RecV)) (aaf f.l (wi (((f.l.length:Nat):Int)-1)))).left)=0 then
   some (((⟨false,0,0⟩:ResV),()),(({ e with recs:=(((ws7 e.recs (aaf f.l (wi (((f.l.length:Nat):Int)-1)))).set (aaf f.l (wi (((f.l.length:Nat):Int)-1))).toNat ({ aat (ws7 e.recs (aaf f.l (wi (((f.l.length:Nat):Int)-1)))) (aaf f.l (wi (((f.l.length:Nat):Int)-1))) with left:=(acA (atL [] e.c.progs ((aat (ws7 e.recs (aaf f.l (wi (((f.l.length:Nat):Int)-1)))) (aaf f.l (wi (((f.l.length:Nat):Int)-1)))).prog)) ((aat e.recs (aaf f.l (wi (((f.l.length:Nat):Int)-1)))).pc)).a }:RecV)).set (aaf f.l (wi (((f.l.length:Nat):Int)-1))).toNat ({ aat ((ws7 e.recs (aaf f.l (wi (((f.l.length:Nat):Int)-1)))).set (aaf f.l (wi (((f.l.length:Nat):Int)-1))).toNat ({ aat (ws7 e.recs (aaf f.l (wi (((f.l.length:Nat):Int)-1)))) (aaf f.l (wi (((f.l.length:Nat):Int)-1))) with left:=(acA (atL [] e.c.progs ((aat (ws7 e.recs (aaf f.l (wi (((f.l.length:Nat):Int)-1)))) (aaf f.l (wi (((f.l.length:Nat):Int)-1)))).prog)) ((aat e.recs (aaf f.l (wi (((f.l.length:Nat):Int)-1)))).pc)).a }:RecV)) (aaf f.l (wi (((f.l.length:Nat):Int)-1))) with left:=wi (((aat ((ws7 e.recs (aaf f.l (wi (((f.l.length:Nat):Int)-1)))).set (aaf f.l (wi (((f.l.length:Nat):Int)-1))).toNat ({ aat (ws7 e.recs (aaf f.l (wi (((f.l.length:Nat):Int)-1)))) (aaf f.l (wi (((f.l.length:Nat):Int)-1))) with left:=(acA (atL [] e.c.progs ((aat (ws7 e.recs (aaf f.l (wi (((f.l.length:Nat):Int)-1)))) (aaf f.l (wi (((f.l.length:Nat):Int)-1)))).prog)) ((aat e.recs (aaf f.l (wi (((f.l.length:Nat):Int)-1)))).pc)).a }:RecV)) (aaf f.l (wi (((f.l.length:Nat):Int)-1)))).left)-1) }:RecV)).set (aaf f.l (wi (((f.l.length:Nat):Int)-1))).toNat ({ aat (((ws7 e.recs (aaf f.l (wi (((f.l.length:Nat):Int)-1)))).set (aaf f.l (wi (((f.l.length:Nat):Int)-1))).toNat ({ aat (ws7 e.recs (aaf f.l (wi (((f.l.length:Nat):Int)-1)))) (aaf f.l (wi (((f.l.length:Nat):Int)-1))) with left:=(acA (atL [] e.c.progs ((aat (ws7 e.recs (aaf f.l (wi (((f.l.length:Nat):Int)-1)))) (aaf f.l (wi (((f.l.length:Nat):Int)-1)))).prog)) ((aat e.recs (aaf f.l (wi (((f.l.length:Nat):Int)-1)))).pc)).a }:RecV)).set (aaf f.l (wi (((f.l.length:Nat):Int)-1))).toNat ({ aat ((ws7 e.recs (aaf f.l (wi (((f.l.length:Nat):Int)-1)))).set (aaf f.l (wi (((f.l.length:Nat):Int)-1))).toNat ({ aat (ws7 e.recs (aaf f.l (wi (((f.l.length:Nat):Int)-1)))) (aaf f.l (wi (((f.l.length:Nat):Int)-1))) with left:=(acA (atL [] e.c.progs ((aat (ws7 e.recs (aaf f.l (wi (((f.l.length:Nat):Int)-1)))) (aaf f.l (wi (((f.l.length:Nat):Int)-1)))).prog)) ((aat e.recs (aaf f.l (wi (((f.l.length:Nat):Int)-1)))).pc)).a }:RecV)) (aaf f.l (wi (((f.l.length:Nat):Int)-1))) with left:=wi (((aat ((ws7 e.recs (aaf f.l (wi (((f.l.length:Nat):Int)-1)))).set (aaf f.l (wi (((f.l.length:Nat):Int)-1))).toNat ({ aat (ws7 e.recs (aaf f.l (wi (((f.l.length:Nat):Int)-1)))) (aaf f.l (wi (((f.l.length:Nat):Int)-1))) with left:=(acA (atL [] e.c.progs ((aat (ws7 e.recs (aaf f.l (wi (((f.l.length:Nat):Int)-1)))) (aaf f.l (wi (((f.l.length:Nat):Int)-1)))).prog)) ((aat e.recs (aaf f.l (wi (((f.l.length:Nat):Int)-1)))).pc)).a }:RecV)) (aaf f.l (wi (((f.l.length:Nat):Int)-1)))).left)-1) }:RecV)) (aaf f.l (wi (((f.l.length:Nat):Int)-1))) with pc:=wi (((aat (((ws7 e.recs (aaf f.l (wi (((f.l.length:Nat):Int)-1)))).set (aaf f.l (wi (((f.l.length:Nat):Int)-1))).toNat ({ aat (ws7 e.recs (aaf f.l (wi (((f.l.length:Nat):Int)-1)))) (aaf f.l (wi (((f.l.length:Nat):Int)-1))) with left:=(acA (atL [] e.c.progs ((aat (ws7 e.recs (aaf f.l (wi (((f.l.length:Nat):Int)-1)))) (aaf f.l (wi (((f.l.length:Nat):Int)-1)))).prog)) ((aat e.recs (aaf f.l (wi (((f.l.length:Nat):Int)-1)))).pc)).a }:RecV)).set (aaf f.l (wi (((f.l.length:Nat):Int)-1))).toNat ({ aat ((ws7 e.recs (aaf f.l (wi (((f.l.length:Nat):Int)-1)))).set (aaf f.l (wi (((f.l.length:Nat):Int)-1))).toNat ({ aat (ws7 e.recs (aaf f.l (wi (((f.l.length:Nat):Int)-1)))) (aaf f.l (wi (((f.l.length:Nat):Int)-1))) with left:=(acA (atL [] e.c.progs ((aat (ws7 e.recs (aaf f.l (wi (((f.l.length:Nat):Int)-1)))) (aaf f.l (wi (((f.l.length:Nat):Int)-1)))).prog)) ((aat e.recs (aaf f.l (wi (((f.l.length:Nat):Int)-1)))).pc)).a }:RecV)) (aaf f.l (wi (((f.l.length:Nat):Int)-1))) with left:=wi (((aat ((ws7 e.recs (aaf f.l (wi (((f.l.length:Nat):Int)-1)))).set (aaf f.l (wi (((f.l.length:Nat):Int)-1))).toNat ({ aat (ws7 e.recs (aaf f.l (wi (((f.l.length:Nat):Int)-1)))) (aaf f.l (wi (((f.l.length:Nat):Int)-1))) with left:=(acA (atL [] e.c.progs ((aat (ws7 e.recs (aaf f.l (wi (((f.l.length:Nat):Int)-1)))) (aaf f.l (wi (((f.l.length:Nat):Int)-1)))).prog)) ((aat e.recs (aaf f.l (wi (((f.l.length:Nat):Int)-1)))).pc)).a }:RecV)) (aaf f.l (wi (((f.l.length:Nat):Int)-1)))).left)-1) }:RecV)) (aaf f.l (wi (((f.l.length:Nat):Int)-1)))).pc)+1) }:RecV) }:EnvV),({ f with line:=1 }:FrV),()))
   else
   some (((⟨false,0,0⟩:ResV),()),(({ e with recs:=((ws7 e.recs (aaf f.l (wi (((f.l.length:Nat):Int)-1)))).set (aaf f.l (wi (((f.l.length:Nat):Int)-1))).toNat ({ aat (ws7 e.recs (aaf f.l (wi (((f.l.length:Nat):Int)-1)))) (aaf f.l (wi (((f.l.length:Nat):Int)-1))) with left:=(acA (atL [] e.c.progs ((aat (ws7 e.recs (aaf f.l (wi (((f.l.length:Nat):Int)-1)))) (aaf f.l (wi (((f.l.length:Nat):Int)-1)))).prog)) ((aat e.recs (aaf f.l (wi (((f.l.length:Nat):Int)-1)))).pc)).a }:RecV)).set (aaf f.l (wi (((f.l.length:Nat):Int)-1))).toNat ({ aat ((ws7 e.recs (aaf f.l (wi (((f.l.length:Nat):Int)-1)))).set (aaf f.l (wi (((f.l.length:Nat):Int)-1))).toNat ({ aat (ws7 e.recs (aaf f.l (wi (((f.l.length:Nat):Int)-1)))) (aaf f.l (wi (((f.l.length:Nat):Int)-1))) with left:=(acA (atL [] e.c.progs ((aat (ws7 e.recs (aaf f.l (wi (((f.l.length:Nat):Int)-1)))) (aaf f.l (wi (((f.l.length:Nat):Int)-1)))).prog)) ((aat e.recs (aaf f.l (wi (((f.l.length:Nat):Int)-1)))).pc)).a }:RecV)) (aaf f.l (wi (((f.l.length:Nat):Int)-1))) with left:=wi (((aat ((ws7 e.recs (aaf f.l (wi (((f.l.length:Nat):Int)-1)))).set (aaf f.l (wi (((f.l.length:Nat):Int)-1))).toNat ({ aat (ws7 e.recs (aaf f.l (wi (((f.l.length:Nat):Int)-1)))) (aaf f.l (wi (((f.l.length:Nat):Int)-1))) with left:=(acA (atL [] e.c.progs ((aat (ws7 e.recs (aaf f.l (wi (((f.l.length:Nat):Int)-1)))) (aaf f.l (wi (((f.l.length:Nat):Int)-1)))).prog)) ((aat e.recs (aaf f.l (wi (((f.l.length:Nat):Int)-1)))).pc)).a }:RecV)) (aaf f.l (wi (((f.l.length:Nat):Int)-1)))).left)-1) }:RecV) }:EnvV),({ f with line:=1 }:FrV),()))
   else none
   else none
   else none
   else none
   else
   if ((aat (e.recs.set (aaf f.l (wi (((f.l.length:Nat):Int)-1))).toNat ({ aat e.recs (aaf f.l (wi (((f.l.length:Nat):Int)-1))) with left:=wi (((aat e.recs (aaf f.l (wi (((f.l.length:Nat):Int)-1)))).left)-1) }:RecV)) (aaf f.l (wi (((f.l.length:Nat):Int)-1)))).left)=0 then
   some (((⟨false,0,0⟩:ResV),()),(({ e with recs:=(e.recs.set (aaf f.l (wi (((f.l.length:Nat):Int)-1))).toNat ({ aat e.recs (aaf f.l (wi (((f.l.length:Nat):Int)-1))) with left:=wi (((aat e.recs (aaf f.l (wi (((f.l.length:Nat):Int)-1)))).left)-1) }:RecV)).set (aaf f.l (wi (((f.l.length:Nat):Int)-1))).toNat ({ aat (e.recs.set (aaf f.l (wi (((f.l.length:Nat):Int)-1))).toNat ({ aat e.recs (aaf f.l (wi (((f.l.length:Nat):Int)-1))) with left:=wi (((aat e.recs (aaf f.l (wi (((f.l.length:Nat):Int)-1)))).left)-1) }:RecV)) (aaf f.l (wi (((f.l.length:Nat):Int)-1))) with pc:=wi (((aat (e.recs.set (aaf f.l (wi (((f.l.length:Nat):Int)-1))).toNat ({ aat e.recs (aaf f.l (wi (((f.l.length:Nat):Int)-1))) with left:=wi (((aat e.recs (aaf f.l (wi (((f.l.length:Nat):Int)-1)))).left)-1) }:RecV)) (aaf f.l (wi (((f.l.length:Nat):Int)-1)))).pc)+1) }:RecV) }:EnvV),({ f with line:=1 }:FrV),()))
   else
   some (((⟨false,0,0⟩:ResV),()),(({ e with recs:=e.recs.set (aaf f.l (wi (((f.l.length:Nat):Int)-1))).toNat ({ aat e.recs (aaf f.l (wi (((f.l.length:Nat):Int)-1))) with left:=wi (((aat e.recs (aaf f.l (wi (((f.l.length:Nat):Int)-1)))).left)-1) }:RecV) }:EnvV),({ f with line:=1 }:FrV),()))
   else
   if f.line=4 then
   some (((⟨false,0,0⟩:ResV),()),(({ e with recs:=e.recs.set (aaf f.l (wi (((f.l.length:Nat):Int)-1))).toNat ({ aat e.recs (aaf f.l (wi (((f.l.length:Nat):Int)-1))) with pc:=wi (((aat e.recs (aaf f.l (wi (((f.l.length:Nat):Int)-1)))).pc)+1) }:RecV) }:EnvV),({ f with line:=1 }:FrV),()))
   else
   if f.line=10 then
   (ah2 e.c (aaf f.l (wi (((f.l.length:Nat):Int)-1)))).bind fun r3 =>
   if f.j=f.j then
   (aaN e.m 2 r3.1.1 (wu (wi (f.j+1))) 0).bind fun r4 =>
   some (((⟨false,0,0⟩:ResV),()),(({ e with m:=r4.2.1,recs:=(e.recs.set (aaf f.l (wi (((f.l.length:Nat):Int)-1))).toNat ({ aat e.recs (aaf f.l (wi (((f.l.length:Nat):Int)-1))) with pc:=wi (((aat e.recs (aaf f.l (wi (((f.l.length:Nat):Int)-1)))).pc)+1) }:RecV)).set (aaf f.l (wi (((f.l.length:Nat):Int)-1))).toNat ({ aat (e.recs.set (aaf f.l (wi (((f.l.length:Nat):Int)-1))).toNat ({ aat e.recs (aaf f.l (wi (((f.l.length:Nat):Int)-1))) with pc:=wi (((aat e.recs (aaf f.l (wi (((f.l.length:Nat):Int)-1)))).pc)+1) }:RecV)) (aaf f.l (wi (((f.l.length:Nat):Int)-1))) with waiting:=f.j }:RecV) }:EnvV),({ f with line:=11 }:FrV),()))
   else none
   else
   if f.line=11 then
   (adX e.c (aaf f.l (wi (((f.l.length:Nat):Int)-1)))).bind fun r5 =>
   (aaN e.m 2 r5.1.1 3 0).bind fun r6 =>
   some (((⟨false,0,0⟩:ResV),()),(({ e with m:=r6.2.1 }:EnvV),({ f with line:=12 }:FrV),()))
   else
   if f.line=12 then
   (alI e.c f.j).bind fun r7 =>
   (aaN e.m 3 r7.1.1 0 (wu (wi ((aaf f.l (wi (((f.l.length:Nat):Int)-1)))+1)))).bind fun r8 =>
   if r8.1.2.1=true then
   (aaM ({ e with m:=r8.2.1 }:EnvV) 6 f.a (aaf f.l (wi (((f.l.length:Nat):Int)-1))) f.j 0).bind fun r9 =>
   some (((⟨false,0,0⟩:ResV),()),(r9.2.1,({ f with line:=13 }:FrV),()))
   else
   some (((⟨false,0,0⟩:ResV),()),(({ e with m:=r8.2.1 }:EnvV),({ f with line:=15 }:FrV),()))
   else
   if f.line=13 then
   (adY e.c (aaf f.l (wi (((f.l.length:Nat):Int)-1)))).bind fun r10 =>
   (aaN e.m 1 r10.1.1 0 0).bind fun r11 =>
   some (((⟨false,0,0⟩:ResV),()),(({ e with m:=r11.2.1 }:EnvV),({ f with line:=14,t:=wi (r11.1.1) }:FrV),()))
   else
   if f.line=15 then
   (adX e.c (aaf f.l (wi (((f.l.length:Nat):Int)-1)))).bind fun r12 =>
   (aaN e.m 2 r12.1.1 2 0).bind fun r13 =>
   some (((⟨false,0,0⟩:ResV),()),(({ e with m:=r13.2.1 }:EnvV),({ f with line:=16 }:FrV),()))
   else
   if f.line=16 then
   (ah2 e.c (aaf f.l (wi (((f.l.length:Nat):Int)-1)))).bind fun r14 =>
   (aaN e.m 2 r14.1.1 0 0).bind fun r15 =>
   (aaM ({ e with m:=r15.2.1,recs:=e.recs.set (aaf f.l (wi (((f.l.length:Nat):Int)-1))).toNat ({ aat e.recs (aaf f.l (wi (((f.l.length:Nat):Int)-1))) with waiting:=(-1) }:RecV) }:EnvV) 8 f.a (aaf f.l (wi (((f.l.length:Nat):Int)-1))) f.j 0).bind fun r16 =>
   some (((⟨false,0,0⟩:ResV),()),(r16.2.1,({ f with line:=1 }:FrV),()))
   else
   (aj5 e f (aaf f.l (wi (((f.l.length:Nat):Int)-1)))).bind fun r17 =>
   some ((r17.1.1,()),(r17.2.1,r17.2.2.1,()))
  else none
 else none
noncomputable abbrev as5:Con SR1:=⟨127,[.ref 12,.ref 8],[.val 10],fun x =>af5 x.1 x.2.1⟩
noncomputable def avM:List (Nat×Func):=[(173,Tryz.f173),(112,Tryz.f112),(117,Tryz.f117),(174,Tryz.f174),(116,Tryz.f116),(114,Tryz.f114)]
theorem avN:CO Tryz.prog as5:=aaC aaB Tryz.func127 [akx,acW,aej,amD,abm,afb,alC] ⟨alG,acn,ad6,anW,abh,aeP,ao3,trivial⟩ avM ⟨Tryz.func173,Tryz.func112,Tryz.func117,Tryz.func174,Tryz.func116,Tryz.func114,trivial⟩ (fun _ =>[]) [] fun x =>by kernel_rfl
end Go.Proofs.YtkmkhldmflebkaaGreat
