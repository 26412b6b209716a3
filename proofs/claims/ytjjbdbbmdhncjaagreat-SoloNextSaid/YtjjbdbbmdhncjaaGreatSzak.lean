/- The reference: machines. The reference: machines. The reference: machines. -/
import Derived.Test.YtjjbdbbmdhncjaaGreatSzaj
set_option linter.all false
namespace Go.Proofs.YtjjbdbbmdhncjaaGreat
section
open Go Go.RowKit
set_option maxRecDepth 100000
variable [Tb]
noncomputable def ai3 (e:EnvV) (f:FrV):Option ((ResV×Unit)×(EnvV×FrV×Unit)) :=
 (ak1 f.u).bind fun r1 =>
 if f.line=1 then
  (aaZ e.m 1 2 0 0).bind fun r2 =>
  if (wi (r2.1.1))≤0 then
   some (((⟨true,2,0⟩:ResV),()),(({ e with m:=r2.2.1 }:EnvV),({ f with n:=wi (r2.1.1) }:FrV),()))
  else
  some (((⟨false,0,0⟩:ResV),()),(({ e with m:=r2.2.1 }:EnvV),({ f with line:=wi (f.line+1),n:=wi (r2.1.1) }:FrV),()))
 else
 if f.line=2 then
  (agX e.c 0).bind fun r3 =>
  (aaZ e.m 1 r3.1.1 0 0).bind fun r4 =>
  some (((⟨false,0,0⟩:ResV),()),(({ e with m:=r4.2.1 }:EnvV),({ f with line:=wi (f.line+1),u:=r4.1.1 }:FrV),()))
 else
 if f.line=3 then
  (agX e.c (wi (f.n-1))).bind fun r5 =>
  (aaZ e.m 1 r5.1.1 0 0).bind fun r6 =>
  some (((⟨false,0,0⟩:ResV),()),(({ e with m:=r6.2.1 }:EnvV),({ f with line:=wi (f.line+1),v:=r6.1.1 }:FrV),()))
 else
 if f.line=4 then
  (aaZ e.m 2 2 (wu (wi (f.n-1))) 0).bind fun r7 =>
  (aaX ({ e with m:=r7.2.1 }:EnvV) 13 f.a r1.1.2.2.1 0 0).bind fun r8 =>
  if f.n=1 then
   some (((⟨true,1,r1.1.2.2.1⟩:ResV),()),(r8.2.1,f,()))
  else
  if 1<(wi (f.n-1)) then
   some (((⟨false,0,0⟩:ResV),()),(r8.2.1,({ f with line:=5,i:=0 }:FrV),()))
  else
  some (((⟨false,0,0⟩:ResV),()),(r8.2.1,({ f with line:=8,i:=0 }:FrV),()))
 else
 if f.line=5 then
  (agX e.c (wi ((wi (2*f.i))+1))).bind fun r9 =>
  (aaZ e.m 1 r9.1.1 0 0).bind fun r10 =>
  if (wi (f.n-1))≤(wi ((wi (2*f.i))+2)) then
   (abV ({ f with j:=wi ((wi (2*f.i))+1),w:=r10.1.1 }:FrV)).bind fun r11 =>
   some (((⟨false,0,0⟩:ResV),()),(({ e with m:=r10.2.1 }:EnvV),({ r11.2.1 with line:=r11.1.1 }:FrV),()))
  else
  some (((⟨false,0,0⟩:ResV),()),(({ e with m:=r10.2.1 }:EnvV),({ f with line:=wi (f.line+1),j:=wi ((wi (2*f.i))+1),w:=r10.1.1 }:FrV),()))
 else
 if f.line=6 then
  (agX e.c (wi ((wi (2*f.i))+2))).bind fun r12 =>
  (aaZ e.m 1 r12.1.1 0 0).bind fun r13 =>
  if r13.1.1<f.w then
   (abV ({ f with j:=wi ((wi (2*f.i))+2),w:=r13.1.1 }:FrV)).bind fun r14 =>
   some (((⟨false,0,0⟩:ResV),()),(({ e with m:=r13.2.1 }:EnvV),({ r14.2.1 with line:=r14.1.1 }:FrV),()))
  else
  (abV f).bind fun r15 =>
  some (((⟨false,0,0⟩:ResV),()),(({ e with m:=r13.2.1 }:EnvV),({ r15.2.1 with line:=r15.1.1 }:FrV),()))
 else
 if f.line=7 then
  (agX e.c f.i).bind fun r16 =>
  if f.w=f.w then
   (aaZ e.m 2 r16.1.1 f.w 0).bind fun r17 =>
   if (wi ((wi (2*f.j))+1))<(wi (f.n-1)) then
   some (((⟨false,0,0⟩:ResV),()),(({ e with m:=r17.2.1 }:EnvV),({ f with line:=5,i:=f.j }:FrV),()))
   else
   some (((⟨false,0,0⟩:ResV),()),(({ e with m:=r17.2.1 }:EnvV),({ f with line:=8,i:=f.j }:FrV),()))
  else none
 else
 (agX e.c f.i).bind fun r18 =>
 if f.v=f.v then
  (aaZ e.m 2 r18.1.1 f.v 0).bind fun r19 =>
  some (((⟨true,1,r1.1.2.2.1⟩:ResV),()),(({ e with m:=r19.2.1 }:EnvV),f,()))
 else none
noncomputable abbrev am1:Con SR1:=⟨156,[.ref 12,.ref 8],[.val 10],fun x =>ai3 x.1 x.2.1⟩
noncomputable def arl:List (Nat×Func):=[(151,Tryz.f151),(149,Tryz.f149),(154,Tryz.f154),(192,Tryz.f192)]
theorem arm:CO Tryz.prog am1:=abc abb Tryz.func156 [anh,ac7,aoe,abC,am2] ⟨arA,acG,apW,aby,arn,trivial⟩ arl ⟨Tryz.func151,Tryz.func149,Tryz.func154,Tryz.func192,trivial⟩ (fun _ =>[]) [] fun x =>by kernel_rfl
noncomputable def aoa (e:EnvV) (f:FrV):Option ((ResV×Unit)×(EnvV×FrV×Unit)) :=
 (ac6 e.c f.b).bind fun r1 =>
 (aaZ e.m 3 r1.1.1 1 2).bind fun r2 =>
 if (!r2.1.2.1)=true then
  (aaX ({ e with m:=r2.2.1 }:EnvV) 15 f.a f.b 0 0).bind fun r3 =>
  some (((⟨true,4,0⟩:ResV),()),(r3.2.1,f,()))
 else
 if 0≤f.b∧f.b<((e.recs.length:Nat):Int) then
  if (abH e.recs f.b).started=true then
   if 0≤f.b∧f.b<(((ws7 e.recs f.b).length:Nat):Int) then
   (aaX ({ e with m:=r2.2.1,recs:=(ws7 e.recs f.b).set f.b.toNat ({ abH (ws7 e.recs f.b) f.b with started:=true }:RecV) }:EnvV) 9 f.a f.b 0 0).bind fun r4 =>
   some (((⟨true,1,f.b⟩:ResV),()),(r4.2.1,f,()))
   else none
  else
  if 0≤f.b∧f.b<(((ws7 e.recs f.b).length:Nat):Int) then
   (aaX ({ e with m:=r2.2.1,recs:=(ws7 e.recs f.b).set f.b.toNat ({ abH (ws7 e.recs f.b) f.b with started:=true }:RecV) }:EnvV) 5 f.a f.b 0 0).bind fun r5 =>
   some (((⟨true,1,f.b⟩:ResV),()),(r5.2.1,f,()))
  else none
 else none
noncomputable abbrev apS:Con SR1:=⟨194,[.ref 12,.ref 8],[.val 10],fun x =>aoa x.1 x.2.1⟩
noncomputable def auq:List (Nat×Func):=[(153,Tryz.f153),(149,Tryz.f149)]
theorem aur:CO Tryz.prog apS:=abc abb Tryz.func194 [adR,ac7,abC] ⟨adC,acG,aby,trivial⟩ auq ⟨Tryz.func153,Tryz.func149,trivial⟩ (fun _ =>[]) [] fun x =>by kernel_rfl
noncomputable def adp (e:EnvV) (f:FrV):Option ((ResV×Unit)×(EnvV×FrV×Unit)) :=
 if f.kind=12 then
  (aaZ e.m 6 0 1 0).bind fun r1 =>
  if 0≤(wi (r1.1.1)) then
   if (wi (r1.1.1))<e.c.tasks then
   if (wi (r1.1.1))<((e.recs.length:Nat):Int) then
   some (((⟨true,1,wi (r1.1.1)⟩:ResV),()),(({ e with m:=r1.2.1 }:EnvV),f,()))
   else
   some (((⟨true,3,0⟩:ResV),()),(({ e with m:=r1.2.1 }:EnvV),f,()))
   else
   some (((⟨true,3,0⟩:ResV),()),(({ e with m:=r1.2.1 }:EnvV),f,()))
  else
  some (((⟨true,3,0⟩:ResV),()),(({ e with m:=r1.2.1 }:EnvV),f,()))
 else
 if f.kind=14 then
  (aoa e f).bind fun r2 =>
  some ((r2.1.1,()),(r2.2.1,r2.2.2.1,()))
 else
 if f.kind=13 then
  if 0≤f.a then
   if f.a<e.c.tasks then
   if ¬ (f.a<((e.recs.length:Nat):Int)) then
   some (((⟨true,4,0⟩:ResV),()),(e,f,()))
   else
   if f.kind=13 then
   if f.line=1 then
   (aee e.c f.a).bind fun r3 =>
   if f.b=f.b then
   (aaZ e.m 2 r3.1.1 (wu (f.b)) 0).bind fun r4 =>
   some (((⟨false,0,0⟩:ResV),()),(({ e with m:=r4.2.1 }:EnvV),({ f with line:=wi (f.line+1) }:FrV),()))
   else none
   else
   if f.line=2 then
   (afS e.c f.a).bind fun r5 =>
   if e.now=e.now then
   (aaZ e.m 2 r5.1.1 (wu (e.now)) 0).bind fun r6 =>
   some (((⟨false,0,0⟩:ResV),()),(({ e with m:=r6.2.1 }:EnvV),({ f with line:=wi (f.line+1) }:FrV),()))
   else none
   else
   (ac6 e.c f.a).bind fun r7 =>
   (aaZ e.m 2 r7.1.1 1 0).bind fun r8 =>
   some (((⟨true,0,0⟩:ResV),()),(({ e with m:=r8.2.1 }:EnvV),f,()))
   else
   if f.line=1 then
   (afS e.c f.b).bind fun r9 =>
   if e.now=e.now then
   (aaZ e.m 2 r9.1.1 (wu (e.now)) 0).bind fun r10 =>
   some (((⟨false,0,0⟩:ResV),()),(({ e with m:=r10.2.1 }:EnvV),({ f with line:=wi (f.line+1) }:FrV),()))
   else none
   else
   if f.line=2 then
   (ac6 e.c f.b).bind fun r11 =>
   (aaZ e.m 2 r11.1.1 1 0).bind fun r12 =>
   some (((⟨false,0,0⟩:ResV),()),(({ e with m:=r12.2.1 }:EnvV),({ f with line:=wi (f.line+1) }:FrV),()))
   else
   (aee e.c f.b).bind fun r13 =>
   (aaZ e.m 1 r13.1.1 0 0).bind fun r14 =>
   some (((⟨false,0,0⟩:ResV),()),(({ e with m:=r14.2.1 }:EnvV),({ f with line:=wi (f.line+1),t:=wi (r14.1.1) }:FrV),()))
   else
   some (((⟨true,4,0⟩:ResV),()),(e,f,()))
  else
  some (((⟨true,4,0⟩:ResV),()),(e,f,()))
 else
 if 0≤f.b then
  if f.b<e.c.tasks then
   if ¬ (f.b<((e.recs.length:Nat):Int)) then
   some (((⟨true,4,0⟩:ResV),()),(e,f,()))
   else
   if f.kind=13 then
   if f.line=1 then
   (aee e.c f.a).bind fun r15 =>
   if f.b=f.b then
   (aaZ e.m 2 r15.1.1 (wu (f.b)) 0).bind fun r16 =>
   some (((⟨false,0,0⟩:ResV),()),(({ e with m:=r16.2.1 }:EnvV),({ f with line:=wi (f.line+1) }:FrV),()))
   else none
   else
   if f.line=2 then
   (afS e.c f.a).bind fun r17 =>
   if e.now=e.now then
   (aaZ e.m 2 r17.1.1 (wu (e.now)) 0).bind fun r18 =>
   some (((⟨false,0,0⟩:ResV),()),(({ e with m:=r18.2.1 }:EnvV),({ f with line:=wi (f.line+1) }:FrV),()))
   else none
   else
   (ac6 e.c f.a).bind fun r19 =>
   (aaZ e.m 2 r19.1.1 1 0).bind fun r20 =>
   some (((⟨true,0,0⟩:ResV),()),(({ e with m:=r20.2.1 }:EnvV),f,()))
   else
   if f.line=1 then
   (afS e.c f.b).bind fun r21 =>
   if e.now=e.now then
   (aaZ e.m 2 r21.1.1 (wu (e.now)) 0).bind fun r22 =>
   some (((⟨false,0,0⟩:ResV),()),(({ e with m:=r22.2.1 }:EnvV),({ f with line:=wi (f.line+1) }:FrV),()))
   else none
   else
   if f.line=2 then
   (ac6 e.c f.b).bind fun r23 =>
   (aaZ e.m 2 r23.1.1 1 0).bind fun r24 =>
   some (((⟨false,0,0⟩:ResV),()),(({ e with m:=r24.2.1 }:EnvV),({ f with line:=wi (f.line+1) }:FrV),()))
   else
   (aee e.c f.b).bind fun r25 =>
   (aaZ e.m 1 r25.1.1 0 0).bind fun r26 =>
   some (((⟨false,0,0⟩:ResV),()),(({ e with m:=r26.2.1 }:EnvV),({ f with line:=wi (f.line+1),t:=wi (r26.1.1) }:FrV),()))
  else
  some (((⟨true,4,0⟩:ResV),()),(e,f,()))
 else
 some (((⟨true,4,0⟩:ResV),()),(e,f,()))
noncomputable abbrev apL:Con SR1:=⟨157,[.ref 12,.ref 8],[.val 10],fun x =>adp x.1 x.2.1⟩
noncomputable def aua:List (Nat×Func):=[(191,Tryz.f191),(139,Tryz.f139),(149,Tryz.f149),(195,Tryz.f195),(154,Tryz.f154),(151,Tryz.f151)]
theorem aub:CO Tryz.prog apL:=abc abb Tryz.func157 [ac7,apS,afm,ajb,adR] ⟨acG,aur,afc,ajU,adC,trivial⟩ aua ⟨Tryz.func191,Tryz.func139,Tryz.func149,Tryz.func195,Tryz.func154,Tryz.func151,trivial⟩ (fun _ =>[]) [] fun x =>by kernel_rfl
noncomputable def acS (e:EnvV) (f:FrV):Option ((ResV×Unit)×(EnvV×FrV×Unit)) :=
 if 0≤f.b then
  if f.b<e.c.tasks then
   if ¬ (f.b<((e.recs.length:Nat):Int)) then
   some (((⟨true,4,0⟩:ResV),()),(e,f,()))
   else
   if f.d<0 then
   some (((⟨true,4,0⟩:ResV),()),(e,f,()))
   else
   if e.c.levels≤f.d then
   some (((⟨true,4,0⟩:ResV),()),(e,f,()))
   else
   if f.kind=16 then
   if f.line=1 then
   (aee e.c f.b).bind fun r1 =>
   (aaZ e.m 1 r1.1.1 0 0).bind fun r2 =>
   if f.d≤(wi (r2.1.1)) then
   some (((⟨true,0,0⟩:ResV),()),(({ e with m:=r2.2.1 }:EnvV),({ f with u:=r2.1.1 }:FrV),()))
   else
   some (((⟨false,0,0⟩:ResV),()),(({ e with m:=r2.2.1 }:EnvV),({ f with line:=2,u:=r2.1.1 }:FrV),()))
   else
   (aee e.c f.b).bind fun r3 =>
   if f.d=f.d then
   if f.u=f.u then
   (aaZ e.m 3 r3.1.1 f.u (wu (f.d))).bind fun r4 =>
   if r4.1.2.1=true then
   (aaX ({ e with m:=r4.2.1 }:EnvV) 11 f.a f.b 0 f.d).bind fun r5 =>
   some (((⟨true,1,0⟩:ResV),()),(r5.2.1,f,()))
   else
   some (((⟨false,0,0⟩:ResV),()),(({ e with m:=r4.2.1 }:EnvV),({ f with line:=1 }:FrV),()))
   else none
   else none
   else
   if f.line=2 then
   (ac6 e.c f.b).bind fun r6 =>
   (aaZ e.m 1 r6.1.1 0 0).bind fun r7 =>
   if r7.1.1=1 then
   some (((⟨false,0,0⟩:ResV),()),(({ e with m:=r7.2.1 }:EnvV),({ f with line:=3 }:FrV),()))
   else
   some (((⟨false,0,0⟩:ResV),()),(({ e with m:=r7.2.1 }:EnvV),({ f with line:=4 }:FrV),()))
   else
   (aiy e.c f.b).bind fun r8 =>
   (aaZ e.m 1 r8.1.1 0 0).bind fun r9 =>
   if r9.1.1=0 then
   some (((⟨true,0,0⟩:ResV),()),(({ e with m:=r9.2.1 }:EnvV),f,()))
   else
   some (((⟨false,0,0⟩:ResV),()),(({ e with m:=r9.2.1 }:EnvV),({ f with line:=1,b:=wi (wu (r9.1.1-1)) }:FrV),()))
  else
  some (((⟨true,4,0⟩:ResV),()),(e,f,()))
 else
 some (((⟨true,4,0⟩:ResV),()),(e,f,()))
noncomputable abbrev apT:Con SR1:=⟨158,[.ref 12,.ref 8],[.val 10],fun x =>acS x.1 x.2.1⟩
noncomputable def aus:List (Nat×Func):=[(139,Tryz.f139),(149,Tryz.f149),(151,Tryz.f151),(153,Tryz.f153)]
theorem aut:CO Tryz.prog apT:=abc abb Tryz.func158 [afm,ac7,abC,adR,alC] ⟨afc,acG,aby,adC,am9,trivial⟩ aus ⟨Tryz.func139,Tryz.func149,Tryz.func151,Tryz.func153,trivial⟩ (fun _ =>[]) [] fun x =>by kernel_rfl
noncomputable def ac2 (e:EnvV) (f:FrV):Option ((ResV×Unit)×(EnvV×FrV×Unit)) :=
 if 0≤f.b then
  if f.b<e.c.tasks then
   if ¬ (f.b<((e.recs.length:Nat):Int)) then
   some (((⟨true,0,0⟩:ResV),()),(e,f,()))
   else
   if e.c.age=0 then
   some (((⟨true,0,0⟩:ResV),()),(e,f,()))
   else
   if f.line=1 then
   (ac6 e.c f.b).bind fun r1 =>
   (aaZ e.m 1 r1.1.1 0 0).bind fun r2 =>
   if r2.1.1≠1 then
   some (((⟨true,0,0⟩:ResV),()),(({ e with m:=r2.2.1 }:EnvV),f,()))
   else
   some (((⟨false,0,0⟩:ResV),()),(({ e with m:=r2.2.1 }:EnvV),({ f with line:=wi (f.line+1) }:FrV),()))
   else
   if f.line=2 then
   (afS e.c f.b).bind fun r3 =>
   if e.c.age=e.c.age then
   if e.now=e.now then
   (aaZ e.m 1 r3.1.1 0 0).bind fun r4 =>
   if e.c.age=e.c.age then
   if e.now=e.now then
   if (wi (e.now-(wi (r4.1.1))))<e.c.age then
   some (((⟨true,0,0⟩:ResV),()),(({ e with m:=r4.2.1 }:EnvV),f,()))
   else
   some (((⟨false,0,0⟩:ResV),()),(({ e with m:=r4.2.1 }:EnvV),({ f with line:=wi (f.line+1) }:FrV),()))
   else none
   else none
   else none
   else none
   else
   if f.line=3 then
   (aee e.c f.b).bind fun r5 =>
   (aaZ e.m 1 r5.1.1 0 0).bind fun r6 =>
   if (wi (e.c.levels-1))≤(wi (r6.1.1)) then
   some (((⟨true,0,0⟩:ResV),()),(({ e with m:=r6.2.1 }:EnvV),({ f with t:=wi ((wi (r6.1.1))+1),u:=r6.1.1 }:FrV),()))
   else
   some (((⟨false,0,0⟩:ResV),()),(({ e with m:=r6.2.1 }:EnvV),({ f with line:=wi (f.line+1),t:=wi ((wi (r6.1.1))+1),u:=r6.1.1 }:FrV),()))
   else
   if f.line=4 then
   (aee e.c f.b).bind fun r7 =>
   if f.u=f.u then
   if f.u=f.u then
   (aaZ e.m 3 r7.1.1 f.u (wu (f.u+1))).bind fun r8 =>
   if (!r8.1.2.1)=true then
   some (((⟨true,4,0⟩:ResV),()),(({ e with m:=r8.2.1 }:EnvV),f,()))
   else
   (aaX ({ e with m:=r8.2.1 }:EnvV) 12 f.a f.b 0 f.t).bind fun r9 =>
   some (((⟨false,0,0⟩:ResV),()),(r9.2.1,({ f with line:=wi (f.line+1) }:FrV),()))
   else none
   else none
   else
   (afS e.c f.b).bind fun r10 =>
   if e.now=e.now then
   (aaZ e.m 2 r10.1.1 (wu (e.now)) 0).bind fun r11 =>
   some (((⟨false,0,0⟩:ResV),()),(({ e with m:=r11.2.1 }:EnvV),({ f with line:=wi (f.line+1) }:FrV),()))
   else none
  else
  some (((⟨true,0,0⟩:ResV),()),(e,f,()))
 else
 some (((⟨true,0,0⟩:ResV),()),(e,f,()))
noncomputable abbrev apM:Con SR1:=⟨159,[.ref 12,.ref 8],[.val 10],fun x =>ac2 x.1 x.2.1⟩
noncomputable def auc:List (Nat×Func):=[(139,Tryz.f139),(149,Tryz.f149),(151,Tryz.f151),(153,Tryz.f153),(154,Tryz.f154)]
theorem aud:CO Tryz.prog apM:=abc abb Tryz.func159 [adR,ac7,ajb,afm,abC] ⟨adC,acG,ajU,afc,aby,trivial⟩ auc ⟨Tryz.func139,Tryz.func149,Tryz.func151,Tryz.func153,Tryz.func154,trivial⟩ (fun _ =>[]) [] fun x =>by kernel_rfl
noncomputable def ac3 (e:EnvV) (f:FrV):Option ((ResV×Unit)×(EnvV×FrV×Unit)) :=
 (aje f.a e.c.classes).bind fun r1 =>
 if e.c.workers=e.c.workers then
  if e.c.levels=e.c.levels then
   if e.c.classes=e.c.classes then
   if e.c.tasks=e.c.tasks then
   if e.c.deque=e.c.deque then
   if e.c.heap=e.c.heap then
   if e.c.batch=e.c.batch then
   if e.c.age=e.c.age then
   if e.c.patience=e.c.patience then
   (afb e.c r1.1.1).bind fun r2 =>
   if f.line=1 then
   (ajW e.c f.a).bind fun r3 =>
   (aaZ e.m 1 r3.1.1 0 0).bind fun r4 =>
   some (((⟨false,0,0⟩:ResV),()),(({ e with m:=r4.2.1 }:EnvV),({ f with line:=wi (f.line+1),u:=r4.1.1 }:FrV),()))
   else
   if f.line=2 then
   (ajh f.a).bind fun r5 =>
   (aaZ e.m 4 r2.1.1 r5.1.1 0).bind fun r6 =>
   some (((⟨false,0,0⟩:ResV),()),(({ e with m:=r6.2.1 }:EnvV),({ f with line:=wi (f.line+1) }:FrV),()))
   else
   if f.line=3 then
   (aaZ e.m 1 2 0 0).bind fun r7 =>
   if r7.1.1≠0 then
   some (((⟨false,0,0⟩:ResV),()),(({ e with m:=r7.2.1 }:EnvV),({ f with line:=7,n:=0 }:FrV),()))
   else
   some (((⟨false,0,0⟩:ResV),()),(({ e with m:=r7.2.1 }:EnvV),({ f with line:=wi (f.line+1),n:=0 }:FrV),()))
   else
   if f.line=4 then
   (adD e.c f.n).bind fun r8 =>
   (aaZ e.m 1 r8.1.1 0 0).bind fun r9 =>
   if r9.1.1≠0 then
   some (((⟨false,0,0⟩:ResV),()),(({ e with m:=r9.2.1 }:EnvV),({ f with line:=7,n:=wi (f.n+1) }:FrV),()))
   else
   if (wi (f.n+1))<e.c.workers then
   some (((⟨false,0,0⟩:ResV),()),(({ e with m:=r9.2.1 }:EnvV),({ f with line:=4,n:=wi (f.n+1) }:FrV),()))
   else
   (aaX ({ e with m:=r9.2.1 }:EnvV) 16 f.a 0 0 0).bind fun r10 =>
   some (((⟨false,0,0⟩:ResV),()),(r10.2.1,({ f with line:=wi (f.line+1),n:=wi (f.n+1),t:=r10.2.1.now }:FrV),()))
   else
   if f.line=5 then
   (ajW e.c f.a).bind fun r11 =>
   (aaZ e.m 1 r11.1.1 0 0).bind fun r12 =>
   if r12.1.1≠f.u then
   (aaX ({ e with m:=r12.2.1 }:EnvV) 17 f.a 0 1 0).bind fun r13 =>
   some (((⟨false,0,0⟩:ResV),()),(r13.2.1,({ f with line:=wi (f.line+1) }:FrV),()))
   else
   if e.c.patience≤(wi (e.now-f.t)) then
   (aaX ({ e with m:=r12.2.1 }:EnvV) 17 f.a 0 2 0).bind fun r14 =>
   some (((⟨false,0,0⟩:ResV),()),(r14.2.1,({ f with line:=wi (f.line+1) }:FrV),()))
   else
   some (((⟨false,0,0⟩:ResV),()),(({ e with m:=r12.2.1 }:EnvV),({ f with line:=5 }:FrV),()))
   else
   (ajh f.a).bind fun r15 =>
   (aaZ e.m 5 r2.1.1 (az1 r15.1.1) 0).bind fun r16 =>
   if f.line=6 then
   some (((⟨true,1,0⟩:ResV),()),(({ e with m:=r16.2.1 }:EnvV),f,()))
   else
   some (((⟨true,5,0⟩:ResV),()),(({ e with m:=r16.2.1 }:EnvV),f,()))
   else none
   else none
   else none
   else none
   else none
   else none
   else none
  else none
 else none
noncomputable abbrev apO:Con SR1:=⟨160,[.ref 12,.ref 8],[.val 10],fun x =>ac3 x.1 x.2.1⟩
noncomputable def aug:List (Nat×Func):=[(151,Tryz.f151),(147,Tryz.f147),(188,Tryz.f188),(149,Tryz.f149)]
theorem auh:CO Tryz.prog apO:=abc abb Tryz.func160 [ahY,ahp,alD,ac7,ajg,afd,abC] ⟨ahr,aja,anb,acG,ajf,afn,aby,trivial⟩ aug ⟨Tryz.func151,Tryz.func147,Tryz.func188,Tryz.func149,trivial⟩ (fun _ =>[]) [] fun x =>by kernel_rfl
noncomputable def aed (e:EnvV) (f:FrV):Option ((ResV×Unit)×(EnvV×FrV×Unit)) :=
 (aoh f.b e.c.levels e.c.classes).bind fun r1 =>
 if e.c.classes=e.c.classes then
  if f.j=f.j then
   (aje (wi (r1.1.1+f.j)) e.c.classes).bind fun r2 =>
   if f.line=1 then
   (afb e.c r2.1.1).bind fun r3 =>
   (aaZ e.m 1 r3.1.1 0 0).bind fun r4 =>
   if r4.1.1≠0 then
   (ay6 r4.1.1).bind fun r5 =>
   some (((⟨false,0,0⟩:ResV),()),(({ e with m:=r4.2.1 }:EnvV),({ f with line:=2,n:=r5.1.1 }:FrV),()))
   else
   if e.c.classes≤(wi (f.j+1)) then
   some (((⟨true,2,0⟩:ResV),()),(({ e with m:=r4.2.1 }:EnvV),({ f with j:=wi (f.j+1) }:FrV),()))
   else
   some (((⟨false,0,0⟩:ResV),()),(({ e with m:=r4.2.1 }:EnvV),({ f with j:=wi (f.j+1) }:FrV),()))
   else
   if f.line=2 then
   (afb e.c r2.1.1).bind fun r6 =>
   if f.n=f.n then
   (ajh f.n).bind fun r7 =>
   (aaZ e.m 5 r6.1.1 (az1 r7.1.1) 0).bind fun r8 =>
   (ap1 r8.1.1 f.n).bind fun r9 =>
   if (!r9.1.1)=true then
   some (((⟨true,4,0⟩:ResV),()),(({ e with m:=r8.2.1 }:EnvV),f,()))
   else
   some (((⟨false,0,0⟩:ResV),()),(({ e with m:=r8.2.1 }:EnvV),({ f with line:=3 }:FrV),()))
   else none
   else
   (ajW e.c f.n).bind fun r10 =>
   (aaZ e.m 6 r10.1.1 1 0).bind fun r11 =>
   (aaX ({ e with m:=r11.2.1 }:EnvV) 18 f.a 0 f.n 0).bind fun r12 =>
   some (((⟨true,1,f.n⟩:ResV),()),(r12.2.1,f,()))
  else none
 else none
noncomputable abbrev asR:Con SR1:=⟨161,[.ref 12,.ref 8],[.val 10],fun x =>aed x.1 x.2.1⟩
noncomputable def avX:List (Nat×Func):=[(151,Tryz.f151),(149,Tryz.f149),(188,Tryz.f188),(191,Tryz.f191)]
theorem avY:CO Tryz.prog asR:=abc abb Tryz.func161 [ap0,ahY,ahp,ac7,awh,ajg,aoj,alD,abC] ⟨auw,ahr,aja,acG,ay5,ajf,aoi,anb,aby,trivial⟩ avX ⟨Tryz.func151,Tryz.func149,Tryz.func188,Tryz.func191,trivial⟩ (fun _ =>[]) [] fun x =>by kernel_rfl
noncomputable def ac4 (e:EnvV) (f:FrV):Option ((ResV×Unit)×(EnvV×FrV×Unit)) :=
 if f.line=1 then
  (aje e.draw e.c.workers).bind fun r1 =>
  (lpF (σ:=Int×Int×Unit) (β:=Int×Int×Unit) (fun self4 x2 =>
   if x2.2.1<e.c.workers then
   if x2.2.1≠f.a then
   self4 (wi (x2.1+1),wi (x2.2.1+1),())
   else
   self4 (x2.1,wi (x2.2.1+1),())
   else
   some (x2.1,x2.2.1,())
  ) 18446744073709551616 (0,0,())).bind fun z3 =>
  if z3.1=0 then
   some (((⟨true,2,0⟩:ResV),()),(e,({ f with line:=2,j:=(-1),n:=(-1),t:=r1.1.1 }:FrV),()))
  else
  if e.c.workers≠0 then
   if (Int.tmod (wi (r1.1.1+f.i)) e.c.workers)=f.a then
   if e.c.workers≠0 then
   (adD e.c (Int.tmod (wi (r1.1.1+(wi (f.i+1)))) e.c.workers)).bind fun r5 =>
   (aaZ e.m 1 r5.1.1 0 0).bind fun r6 =>
   (akx r6.1.1).bind fun r7 =>
   if (-1)<r7.1.1 then
   (lpF (σ:=Bool×Int×Unit) (β:=Bool×Int×Unit) (fun self10 x8 =>
   if x8.2.1<e.c.workers then
   if x8.1=true then
   self10 (true,wi (x8.2.1+1),())
   else
   if e.c.workers≠0 then
   self10 (decide ((Int.tmod (wi (r1.1.1+x8.2.1)) e.c.workers)≠f.a),wi (x8.2.1+1),())
   else none
   else
   some (x8.1,x8.2.1,())
   ) 18446744073709551616 (false,wi ((wi (f.i+1))+1),())).bind fun z9 =>
   if z9.1=true then
   some (((⟨false,0,0⟩:ResV),()),(({ e with m:=r6.2.1 }:EnvV),({ f with line:=2,i:=wi ((wi (f.i+1))+1),j:=(Int.tmod (wi (r1.1.1+(wi (f.i+1)))) e.c.workers),n:=r7.1.1,t:=r1.1.1 }:FrV),()))
   else
   if (Int.tmod (wi (r1.1.1+(wi (f.i+1)))) e.c.workers)<0 then
   some (((⟨true,2,0⟩:ResV),()),(({ e with m:=r6.2.1 }:EnvV),({ f with line:=2,i:=wi ((wi (f.i+1))+1),j:=(Int.tmod (wi (r1.1.1+(wi (f.i+1)))) e.c.workers),n:=r7.1.1,t:=r1.1.1 }:FrV),()))
   else
   some (((⟨true,1,wi ((wi ((Int.tmod (wi (r1.1.1+(wi (f.i+1)))) e.c.workers)*64))+r7.1.1)⟩:ResV),()),(({ e with m:=r6.2.1 }:EnvV),({ f with line:=2,i:=wi ((wi (f.i+1))+1),j:=(Int.tmod (wi (r1.1.1+(wi (f.i+1)))) e.c.workers),n:=r7.1.1,t:=r1.1.1 }:FrV),()))
   else
   (lpF (σ:=Bool×Int×Unit) (β:=Bool×Int×Unit) (fun self13 x11 =>
   if x11.2.1<e.c.workers then
   if x11.1=true then
   self13 (true,wi (x11.2.1+1),())
   else
   if e.c.workers≠0 then
   self13 (decide ((Int.tmod (wi (r1.1.1+x11.2.1)) e.c.workers)≠f.a),wi (x11.2.1+1),())
   else none
   else
   some (x11.1,x11.2.1,())
   ) 18446744073709551616 (false,wi ((wi (f.i+1))+1),())).bind fun z12 =>
   if z12.1=true then
   some (((⟨false,0,0⟩:ResV),()),(({ e with m:=r6.2.1 }:EnvV),({ f with line:=2,i:=wi ((wi (f.i+1))+1),j:=(-1),n:=(-1),t:=r1.1.1 }:FrV),()))
   else
   some (((⟨true,2,0⟩:ResV),()),(({ e with m:=r6.2.1 }:EnvV),({ f with line:=2,i:=wi ((wi (f.i+1))+1),j:=(-1),n:=(-1),t:=r1.1.1 }:FrV),()))
   else none
   else
   (adD e.c (Int.tmod (wi (r1.1.1+f.i)) e.c.workers)).bind fun r14 =>
   (aaZ e.m 1 r14.1.1 0 0).bind fun r15 =>
   (akx r15.1.1).bind fun r16 =>
   if (-1)<r16.1.1 then
   (lpF (σ:=Bool×Int×Unit) (β:=Bool×Int×Unit) (fun self19 x17 =>
   if x17.2.1<e.c.workers then
   if x17.1=true then
   self19 (true,wi (x17.2.1+1),())
   else
   if e.c.workers≠0 then
   self19 (decide ((Int.tmod (wi (r1.1.1+x17.2.1)) e.c.workers)≠f.a),wi (x17.2.1+1),())
   else none
   else
   some (x17.1,x17.2.1,())
   ) 18446744073709551616 (false,wi (f.i+1),())).bind fun z18 =>
   if z18.1=true then
   some (((⟨false,0,0⟩:ResV),()),(({ e with m:=r15.2.1 }:EnvV),({ f with line:=2,i:=wi (f.i+1),j:=(Int.tmod (wi (r1.1.1+f.i)) e.c.workers),n:=r16.1.1,t:=r1.1.1 }:FrV),()))
   else
   if (Int.tmod (wi (r1.1.1+f.i)) e.c.workers)<0 then
   some (((⟨true,2,0⟩:ResV),()),(({ e with m:=r15.2.1 }:EnvV),({ f with line:=2,i:=wi (f.i+1),j:=(Int.tmod (wi (r1.1.1+f.i)) e.c.workers),n:=r16.1.1,t:=r1.1.1 }:FrV),()))
   else
   some (((⟨true,1,wi ((wi ((Int.tmod (wi (r1.1.1+f.i)) e.c.workers)*64))+r16.1.1)⟩:ResV),()),(({ e with m:=r15.2.1 }:EnvV),({ f with line:=2,i:=wi (f.i+1),j:=(Int.tmod (wi (r1.1.1+f.i)) e.c.workers),n:=r16.1.1,t:=r1.1.1 }:FrV),()))
   else
   (lpF (σ:=Bool×Int×Unit) (β:=Bool×Int×Unit) (fun self22 x20 =>
   if x20.2.1<e.c.workers then
   if x20.1=true then
   self22 (true,wi (x20.2.1+1),())
   else
   if e.c.workers≠0 then
   self22 (decide ((Int.tmod (wi (r1.1.1+x20.2.1)) e.c.workers)≠f.a),wi (x20.2.1+1),())
   else none
   else
   some (x20.1,x20.2.1,())
   ) 18446744073709551616 (false,wi (f.i+1),())).bind fun z21 =>
   if z21.1=true then
   some (((⟨false,0,0⟩:ResV),()),(({ e with m:=r15.2.1 }:EnvV),({ f with line:=2,i:=wi (f.i+1),j:=(-1),n:=(-1),t:=r1.1.1 }:FrV),()))
   else
   some (((⟨true,2,0⟩:ResV),()),(({ e with m:=r15.2.1 }:EnvV),({ f with line:=2,i:=wi (f.i+1),j:=(-1),n:=(-1),t:=r1.1.1 }:FrV),()))
  else none
 else
 (lpF (σ:=Int×Int×Unit) (β:=Int×Int×Unit) (fun self25 x23 =>
  if x23.2.1<e.c.workers then
   if x23.2.1≠f.a then
   self25 (wi (x23.1+1),wi (x23.2.1+1),())
   else
   self25 (x23.1,wi (x23.2.1+1),())
  else
  some (x23.1,x23.2.1,())
 ) 18446744073709551616 (0,0,())).bind fun z24 =>
 if z24.1=0 then
  some (((⟨true,2,0⟩:ResV),()),(e,f,()))
 else
 if e.c.workers≠0 then
  if (Int.tmod (wi (f.t+f.i)) e.c.workers)=f.a then
   if e.c.workers≠0 then
   (adD e.c (Int.tmod (wi (f.t+(wi (f.i+1)))) e.c.workers)).bind fun r26 =>
   (aaZ e.m 1 r26.1.1 0 0).bind fun r27 =>
   (akx r27.1.1).bind fun r28 =>
   if f.n<r28.1.1 then
   (lpF (σ:=Bool×Int×Unit) (β:=Bool×Int×Unit) (fun self31 x29 =>
   if x29.2.1<e.c.workers then
   if x29.1=true then
   self31 (true,wi (x29.2.1+1),())
   else
   if e.c.workers≠0 then
   self31 (decide ((Int.tmod (wi (f.t+x29.2.1)) e.c.workers)≠f.a),wi (x29.2.1+1),())
   else none
   else
   some (x29.1,x29.2.1,())
   ) 18446744073709551616 (false,wi ((wi (f.i+1))+1),())).bind fun z30 =>
   if z30.1=true then
   some (((⟨false,0,0⟩:ResV),()),(({ e with m:=r27.2.1 }:EnvV),({ f with i:=wi ((wi (f.i+1))+1),j:=(Int.tmod (wi (f.t+(wi (f.i+1)))) e.c.workers),n:=r28.1.1 }:FrV),()))
   else
   if (Int.tmod (wi (f.t+(wi (f.i+1)))) e.c.workers)<0 then
   some (((⟨true,2,0⟩:ResV),()),(({ e with m:=r27.2.1 }:EnvV),({ f with i:=wi ((wi (f.i+1))+1),j:=(Int.tmod (wi (f.t+(wi (f.i+1)))) e.c.workers),n:=r28.1.1 }:FrV),()))
   else
   some (((⟨true,1,wi ((wi ((Int.tmod (wi (f.t+(wi (f.i+1)))) e.c.workers)*64))+r28.1.1)⟩:ResV),()),(({ e with m:=r27.2.1 }:EnvV),({ f with i:=wi ((wi (f.i+1))+1),j:=(Int.tmod (wi (f.t+(wi (f.i+1)))) e.c.workers),n:=r28.1.1 }:FrV),()))
   else
   (lpF (σ:=Bool×Int×Unit) (β:=Bool×Int×Unit) (fun self34 x32 =>
   if x32.2.1<e.c.workers then
   if x32.1=true then
   self34 (true,wi (x32.2.1+1),())
   else
   if e.c.workers≠0 then
   self34 (decide ((Int.tmod (wi (f.t+x32.2.1)) e.c.workers)≠f.a),wi (x32.2.1+1),())
   else none
   else
   some (x32.1,x32.2.1,())
   ) 18446744073709551616 (false,wi ((wi (f.i+1))+1),())).bind fun z33 =>
   if z33.1=true then
   some (((⟨false,0,0⟩:ResV),()),(({ e with m:=r27.2.1 }:EnvV),({ f with i:=wi ((wi (f.i+1))+1) }:FrV),()))
   else
   if f.j<0 then
   some (((⟨true,2,0⟩:ResV),()),(({ e with m:=r27.2.1 }:EnvV),({ f with i:=wi ((wi (f.i+1))+1) }:FrV),()))
   else
   some (((⟨true,1,wi ((wi (f.j*64))+f.n)⟩:ResV),()),(({ e with m:=r27.2.1 }:EnvV),({ f with i:=wi ((wi (f.i+1))+1) }:FrV),()))
   else none
  else
  (adD e.c (Int.tmod (wi (f.t+f.i)) e.c.workers)).bind fun r35 =>
  (aaZ e.m 1 r35.1.1 0 0).bind fun r36 =>
  (akx r36.1.1).bind fun r37 =>
  if f.n<r37.1.1 then
   (lpF (σ:=Bool×Int×Unit) (β:=Bool×Int×Unit) (fun self40 x38 =>
   if x38.2.1<e.c.workers then
   if x38.1=true then
   self40 (true,wi (x38.2.1+1),())
   else
   if e.c.workers≠0 then
   self40 (decide ((Int.tmod (wi (f.t+x38.2.1)) e.c.workers)≠f.a),wi (x38.2.1+1),())
   else none
   else
   some (x38.1,x38.2.1,())
   ) 18446744073709551616 (false,wi (f.i+1),())).bind fun z39 =>
   if z39.1=true then
   some (((⟨false,0,0⟩:ResV),()),(({ e with m:=r36.2.1 }:EnvV),({ f with i:=wi (f.i+1),j:=(Int.tmod (wi (f.t+f.i)) e.c.workers),n:=r37.1.1 }:FrV),()))
   else
   if (Int.tmod (wi (f.t+f.i)) e.c.workers)<0 then
   some (((⟨true,2,0⟩:ResV),()),(({ e with m:=r36.2.1 }:EnvV),({ f with i:=wi (f.i+1),j:=(Int.tmod (wi (f.t+f.i)) e.c.workers),n:=r37.1.1 }:FrV),()))
   else
   some (((⟨true,1,wi ((wi ((Int.tmod (wi (f.t+f.i)) e.c.workers)*64))+r37.1.1)⟩:ResV),()),(({ e with m:=r36.2.1 }:EnvV),({ f with i:=wi (f.i+1),j:=(Int.tmod (wi (f.t+f.i)) e.c.workers),n:=r37.1.1 }:FrV),()))
  else
  (lpF (σ:=Bool×Int×Unit) (β:=Bool×Int×Unit) (fun self43 x41 =>
   if x41.2.1<e.c.workers then
   if x41.1=true then
   self43 (true,wi (x41.2.1+1),())
   else
   if e.c.workers≠0 then
   self43 (decide ((Int.tmod (wi (f.t+x41.2.1)) e.c.workers)≠f.a),wi (x41.2.1+1),())
   else none
   else
   some (x41.1,x41.2.1,())
  ) 18446744073709551616 (false,wi (f.i+1),())).bind fun z42 =>
  if z42.1=true then
   some (((⟨false,0,0⟩:ResV),()),(({ e with m:=r36.2.1 }:EnvV),({ f with i:=wi (f.i+1) }:FrV),()))
  else
  if f.j<0 then
   some (((⟨true,2,0⟩:ResV),()),(({ e with m:=r36.2.1 }:EnvV),({ f with i:=wi (f.i+1) }:FrV),()))
  else
  some (((⟨true,1,wi ((wi (f.j*64))+f.n)⟩:ResV),()),(({ e with m:=r36.2.1 }:EnvV),({ f with i:=wi (f.i+1) }:FrV),()))
 else none
noncomputable abbrev apP:Con SR1:=⟨162,[.ref 12,.ref 8],[.val 10],fun x =>ac4 x.1 x.2.1⟩
noncomputable def aui:List (Nat×Func):=[(149,Tryz.f149),(151,Tryz.f151)]
theorem auj:CO Tryz.prog apP:=abc abb Tryz.func162 [ahY,afd,ac7,aog] ⟨ahr,afn,acG,apZ,trivial⟩ aui ⟨Tryz.func149,Tryz.func151,trivial⟩ (fun _ =>[]) [(5,.loop [.rg 5 sI_,.rg 6 sI_] 18446744073709551616 0),(21,.loop [.rg 9 .b,.rg 10 sI_] 18446744073709551616 2)] fun x =>by kernel_rfl
noncomputable def ac5 (e:EnvV) (f:FrV):Option ((ResV×Unit)×(EnvV×FrV×Unit)) :=
 if f.line=1 then
  (aaZ e.m 1 2 0 0).bind fun r1 =>
  if (wi (r1.1.1))≤0 then
   some (((⟨true,2,0⟩:ResV),()),(({ e with m:=r1.2.1 }:EnvV),f,()))
  else
  some (((⟨false,0,0⟩:ResV),()),(({ e with m:=r1.2.1 }:EnvV),({ f with line:=2 }:FrV),()))
 else
 (aee e.c f.n).bind fun r2 =>
 (aaZ e.m 1 r2.1.1 0 0).bind fun r3 =>
 some (((⟨false,0,0⟩:ResV),()),(({ e with m:=r3.2.1 }:EnvV),({ f with line:=5,t:=wi (r3.1.1) }:FrV),()))
noncomputable abbrev apR:Con SR1:=⟨163,[.ref 12,.ref 8],[.val 10],fun x =>ac5 x.1 x.2.1⟩
noncomputable def auo:List (Nat×Func):=[(151,Tryz.f151),(149,Tryz.f149)]
theorem aup:CO Tryz.prog apR:=abc abb Tryz.func163 [ac7,afm] ⟨acG,afc,trivial⟩ auo ⟨Tryz.func151,Tryz.func149,trivial⟩ (fun _ =>[]) [] fun x =>by kernel_rfl
noncomputable def aeV (f:FrV):Option ((ResV×Unit)×(FrV×Unit)) :=
 if 0≤wi (((f.l.length:Nat):Int)-1)∧wi (((f.l.length:Nat):Int)-1)≤((f.l.length:Nat):Int) then
  if (((f.l.take (wi (((f.l.length:Nat):Int)-1):Int).toNat).length:Nat):Int)=0 then
   some (((⟨true,0,0⟩:ResV),()),(({ f with line:=1,l:=f.l.take (wi (((f.l.length:Nat):Int)-1):Int).toNat }:FrV),()))
  else
  some (((⟨false,0,0⟩:ResV),()),(({ f with line:=1,l:=f.l.take (wi (((f.l.length:Nat):Int)-1):Int).toNat }:FrV),()))
 else none
noncomputable abbrev alw:Con SR1:=⟨206,[.ref 8],[.val 10],fun x =>aeV x.1⟩
noncomputable def aul:List (Nat×Func):=[(149,Tryz.f149)]
theorem am3:CO Tryz.prog alw:=abc abb Tryz.func206 [] trivial aul ⟨Tryz.func149,trivial⟩ (fun _ =>[]) [] fun x =>by kernel_rfl
noncomputable def akX (e:EnvV) (f:FrV) (a:Int):Option ((ResV×Unit)×(EnvV×FrV×Unit)) :=
 if f.line=17 then
  (ac6 e.c a).bind fun r1 =>
  (aaZ e.m 2 r1.1.1 4 0).bind fun r2 =>
  some (((⟨false,0,0⟩:ResV),()),(({ e with m:=r2.2.1 }:EnvV),({ f with line:=18 }:FrV),()))
 else
 if f.line=18 then
  (ana e.c a).bind fun r3 =>
  (aaZ e.m 3 r3.1.1 0 4294967296).bind fun r4 =>
  (aaX ({ e with m:=r4.2.1 }:EnvV) 10 f.a a 0 0).bind fun r5 =>
  if r4.1.2.1=true then
   (aeV f).bind fun r6 =>
   some ((r6.1.1,()),(r5.2.1,r6.2.1,()))
  else
  some (((⟨false,0,0⟩:ResV),()),(r5.2.1,({ f with line:=19 }:FrV),()))
 else
 (ana e.c a).bind fun r7 =>
 (aaZ e.m 1 r7.1.1 0 0).bind fun r8 =>
 if 0≤(wi (wu (r8.1.1-1))) then
  if (wi (wu (r8.1.1-1)))<e.c.tasks then
   if ¬ ((wi (wu (r8.1.1-1)))<((e.recs.length:Nat):Int)) then
   (aeV ({ f with n:=wi (wu (r8.1.1-1)) }:FrV)).bind fun r9 =>
   some ((r9.1.1,()),(({ e with m:=r8.2.1 }:EnvV),r9.2.1,()))
   else
   some (((⟨false,0,0⟩:ResV),()),(({ e with m:=r8.2.1 }:EnvV),({ f with line:=20,n:=wi (wu (r8.1.1-1)) }:FrV),()))
  else
  (aeV ({ f with n:=wi (wu (r8.1.1-1)) }:FrV)).bind fun r10 =>
  some ((r10.1.1,()),(({ e with m:=r8.2.1 }:EnvV),r10.2.1,()))
 else
 (aeV ({ f with n:=wi (wu (r8.1.1-1)) }:FrV)).bind fun r11 =>
 some ((r11.1.1,()),(({ e with m:=r8.2.1 }:EnvV),r11.2.1,()))
noncomputable abbrev am5:Con SR1:=⟨205,[.ref 12,.ref 8,.sh sI_],[.val 10],fun x =>akX x.1 x.2.1 x.2.2.1⟩
noncomputable def arq:List (Nat×Func):=[(154,Tryz.f154),(153,Tryz.f153),(151,Tryz.f151),(139,Tryz.f139)]
theorem ars:CO Tryz.prog am5:=abc abb Tryz.func205 [adR,ac7,aof,abC,alw] ⟨adC,acG,apX,aby,am3,trivial⟩ arq ⟨Tryz.func154,Tryz.func153,Tryz.func151,Tryz.func139,trivial⟩ (fun _ =>[]) [] fun x =>by kernel_rfl
noncomputable def ags (e:EnvV) (f:FrV):Option ((ResV×Unit)×(EnvV×FrV×Unit)) :=
 if 0≤wi (((f.l.length:Nat):Int)-1)∧wi (((f.l.length:Nat):Int)-1)<((f.l.length:Nat):Int) then
  if f.line=23 then
   some (((⟨true,4,0⟩:ResV),()),(e,f,()))
  else
  if 0≤(tpF f)∧(tpF f)<((e.recs.length:Nat):Int) then
   if f.line=2 then
   (aiy e.c (tpF f)).bind fun r1 =>
   (aaZ e.m 2 r1.1.1 0 0).bind fun r2 =>
   some (((⟨false,0,0⟩:ResV),()),(({ e with m:=r2.2.1,recs:=e.recs.set (tpF f).toNat ({ trR e f with waiting:=(-1) }:RecV) }:EnvV),({ f with line:=1 }:FrV),()))
   else
   if f.line=3 then
   if ((trR e f).left)=0 then
   if 0≤(tpF f)∧(tpF f)<(((tsR e f).length:Nat):Int) then
   if ((tuR e f).prog)<0 then
   if ((trR e f).pc)=((tuR e f).pc) then
   none
   else none
   else
   if ((e.c.progs.length:Nat):Int)≤((tuR e f).prog) then
   if ((trR e f).pc)=((tuR e f).pc) then
   none
   else none
   else
   if 0≤(tuR e f).prog∧(tuR e f).prog<((e.c.progs.length:Nat):Int) then
   if ((trR e f).pc)=((tuR e f).pc) then
   if 0≤(trR e f).pc∧(trR e f).pc<(((atL [] e.c.progs ((tuR e f).prog)).length:Nat):Int) then
   if ((abH (((tsR e f).set (tpF f).toNat ({ abH (tsR e f) (tpF f) with left:=(afW (atL [] e.c.progs ((tuR e f).prog)) ((trR e f).pc)).a }:RecV)).set (tpF f).toNat ({ abH ((tsR e f).set (tpF f).toNat ({ abH (tsR e f) (tpF f) with left:=(afW (atL [] e.c.progs ((tuR e f).prog)) ((trR e f).pc)).a }:RecV)) (tpF f) with left:=wi (((abH ((tsR e f).set (tpF f).toNat ({ abH (tsR e f) (tpF f) with left:=(afW (atL [] e.c.progs ((tuR e f).prog)) ((trR e f).pc)).a }:RecV)) (tpF f)).left)-1) }:RecV)) (tpF f)).left)=0 then
   some (((⟨false,0,0⟩:ResV),()),(({ e with recs:=(((tsR e f).set (tpF f).toNat ({ abH (tsR e f) (tpF f) with left:=(afW (atL [] e.c.progs ((tuR e f).prog)) ((trR e f).pc)).a }:RecV)).set (tpF f).toNat ({ abH ((tsR e f).set (tpF f).toNat ({ abH (tsR e f) (tpF f) with left:=(afW (atL [] e.c.progs ((tuR e f).prog)) ((trR e f).pc)).a }:RecV)) (tpF f) with left:=wi (((abH ((tsR e f).set (tpF f).toNat ({ abH (tsR e f) (tpF f) with left:=(afW (atL [] e.c.progs ((tuR e f).prog)) ((trR e f).pc)).a }:RecV)) (tpF f)).left)-1) }:RecV)).set (tpF f).toNat ({ abH (((tsR e f).set (tpF f).toNat ({ abH (tsR e f) (tpF f) with left:=(afW (atL [] e.c.progs ((tuR e f).prog)) ((trR e f).pc)).a }:RecV)).set (tpF f).toNat ({ abH ((tsR e f).set (tpF f).toNat ({ abH (tsR e f) (tpF f) with left:=(afW (atL [] e.c.progs ((tuR e f).prog)) ((trR e f).pc)).a }:RecV)) (tpF f) with left:=wi (((abH ((tsR e f).set (tpF f).toNat ({ abH (tsR e f) (tpF f) with left:=(afW (atL [] e.c.progs ((tuR e f).prog)) ((trR e f).pc)).a }:RecV)) (tpF f)).left)-1) }:RecV)) (tpF f) with pc:=wi (((abH (((tsR e f).set (tpF f).toNat ({ abH (tsR e f) (tpF f) with left:=(afW (atL [] e.c.progs ((tuR e f).prog)) ((trR e f).pc)).a }:RecV)).set (tpF f).toNat ({ abH ((tsR e f).set (tpF f).toNat ({ abH (tsR e f) (tpF f) with left:=(afW (atL [] e.c.progs ((tuR e f).prog)) ((trR e f).pc)).a }:RecV)) (tpF f) with left:=wi (((abH ((tsR e f).set (tpF f).toNat ({ abH (tsR e f) (tpF f) with left:=(afW (atL [] e.c.progs ((tuR e f).prog)) ((trR e f).pc)).a }:RecV)) (tpF f)).left)-1) }:RecV)) (tpF f)).pc)+1) }:RecV) }:EnvV),({ f with line:=1 }:FrV),()))
   else
   some (((⟨false,0,0⟩:ResV),()),(({ e with recs:=((tsR e f).set (tpF f).toNat ({ abH (tsR e f) (tpF f) with left:=(afW (atL [] e.c.progs ((tuR e f).prog)) ((trR e f).pc)).a }:RecV)).set (tpF f).toNat ({ abH ((tsR e f).set (tpF f).toNat ({ abH (tsR e f) (tpF f) with left:=(afW (atL [] e.c.progs ((tuR e f).prog)) ((trR e f).pc)).a }:RecV)) (tpF f) with left:=wi (((abH ((tsR e f).set (tpF f).toNat ({ abH (tsR e f) (tpF f) with left:=(afW (atL [] e.c.progs ((tuR e f).prog)) ((trR e f).pc)).a }:RecV)) (tpF f)).left)-1) }:RecV) }:EnvV),({ f with line:=1 }:FrV),()))
   else none
   else none
   else none
   else none
   else
   if ((abH (e.recs.set (tpF f).toNat ({ trR e f with left:=wi (((trR e f).left)-1) }:RecV)) (tpF f)).left)=0 then
   some (((⟨false,0,0⟩:ResV),()),(({ e with recs:=(e.recs.set (tpF f).toNat ({ trR e f with left:=wi (((trR e f).left)-1) }:RecV)).set (tpF f).toNat ({ abH (e.recs.set (tpF f).toNat ({ trR e f with left:=wi (((trR e f).left)-1) }:RecV)) (tpF f) with pc:=wi (((abH (e.recs.set (tpF f).toNat ({ trR e f with left:=wi (((trR e f).left)-1) }:RecV)) (tpF f)).pc)+1) }:RecV) }:EnvV),({ f with line:=1 }:FrV),()))
   else
   some (((⟨false,0,0⟩:ResV),()),(({ e with recs:=e.recs.set (tpF f).toNat ({ trR e f with left:=wi (((trR e f).left)-1) }:RecV) }:EnvV),({ f with line:=1 }:FrV),()))
   else
   if f.line=4 then
   some (((⟨false,0,0⟩:ResV),()),(({ e with recs:=e.recs.set (tpF f).toNat ({ trR e f with pc:=wi (((trR e f).pc)+1) }:RecV) }:EnvV),({ f with line:=1 }:FrV),()))
   else
   if f.line=10 then
   (aiy e.c (tpF f)).bind fun r3 =>
   if f.j=f.j then
   (aaZ e.m 2 r3.1.1 (wu (wi (f.j+1))) 0).bind fun r4 =>
   some (((⟨false,0,0⟩:ResV),()),(({ e with m:=r4.2.1,recs:=(e.recs.set (tpF f).toNat ({ trR e f with pc:=wi (((trR e f).pc)+1) }:RecV)).set (tpF f).toNat ({ abH (e.recs.set (tpF f).toNat ({ trR e f with pc:=wi (((trR e f).pc)+1) }:RecV)) (tpF f) with waiting:=f.j }:RecV) }:EnvV),({ f with line:=11 }:FrV),()))
   else none
   else
   if f.line=11 then
   (ac6 e.c (tpF f)).bind fun r5 =>
   (aaZ e.m 2 r5.1.1 3 0).bind fun r6 =>
   some (((⟨false,0,0⟩:ResV),()),(({ e with m:=r6.2.1 }:EnvV),({ f with line:=12 }:FrV),()))
   else
   if f.line=12 then
   (ana e.c f.j).bind fun r7 =>
   (aaZ e.m 3 r7.1.1 0 (wu (wi ((tpF f)+1)))).bind fun r8 =>
   if r8.1.2.1=true then
   (aaX ({ e with m:=r8.2.1 }:EnvV) 6 f.a (tpF f) f.j 0).bind fun r9 =>
   some (((⟨false,0,0⟩:ResV),()),(r9.2.1,({ f with line:=13 }:FrV),()))
   else
   some (((⟨false,0,0⟩:ResV),()),(({ e with m:=r8.2.1 }:EnvV),({ f with line:=15 }:FrV),()))
   else
   if f.line=13 then
   (aee e.c (tpF f)).bind fun r10 =>
   (aaZ e.m 1 r10.1.1 0 0).bind fun r11 =>
   some (((⟨false,0,0⟩:ResV),()),(({ e with m:=r11.2.1 }:EnvV),({ f with line:=14,t:=wi (r11.1.1) }:FrV),()))
   else
   if f.line=15 then
   (ac6 e.c (tpF f)).bind fun r12 =>
   (aaZ e.m 2 r12.1.1 2 0).bind fun r13 =>
   some (((⟨false,0,0⟩:ResV),()),(({ e with m:=r13.2.1 }:EnvV),({ f with line:=16 }:FrV),()))
   else
   if f.line=16 then
   (aiy e.c (tpF f)).bind fun r14 =>
   (aaZ e.m 2 r14.1.1 0 0).bind fun r15 =>
   (aaX ({ e with m:=r15.2.1,recs:=e.recs.set (tpF f).toNat ({ trR e f with waiting:=(-1) }:RecV) }:EnvV) 8 f.a (tpF f) f.j 0).bind fun r16 =>
   some (((⟨false,0,0⟩:ResV),()),(r16.2.1,({ f with line:=1 }:FrV),()))
   else
   (akX e f (tpF f)).bind fun r17 =>
   some ((r17.1.1,()),(r17.2.1,r17.2.2.1,()))
  else none
 else none
noncomputable abbrev avZ:Con SR1:=⟨164,[.ref 12,.ref 8],[.val 10],fun x =>ags x.1 x.2.1⟩
noncomputable def ayT:List (Nat×Func):=[(202,Tryz.f202),(149,Tryz.f149),(154,Tryz.f154),(203,Tryz.f203),(153,Tryz.f153),(151,Tryz.f151)]
theorem ayU:CO Tryz.prog avZ:=abc abb Tryz.func164 [alC,ac7,adR,aof,abC,afm,am5] ⟨am9,acG,adC,apX,aby,afc,ars,trivial⟩ ayT ⟨Tryz.func202,Tryz.func149,Tryz.func154,Tryz.func203,Tryz.func153,Tryz.func151,trivial⟩ (fun _ =>[]) [] fun x =>by kernel_rfl
noncomputable def acy (e:EnvV) (f:FrV):Option ((ResV×Unit)×(EnvV×FrV×Unit)) :=
 if ((e.c.subs.length:Nat):Int)≤f.i then
  some (((⟨true,0,0⟩:ResV),()),(e,f,()))
 else
 if 0≤f.i∧f.i<((e.c.subs.length:Nat):Int) then
  if ((akM e.c.subs f.i).prog)=((akM e.c.subs f.i).prog) then
   if ((akM e.c.subs f.i).level)=((akM e.c.subs f.i).level) then
   if ((akM e.c.subs f.i).deadline)=((akM e.c.subs f.i).deadline) then
   if f.i=f.i then
   if f.line=2 then
   (aaZ e.m 1 2 0 0).bind fun r1 =>
   if e.c.heap=e.c.heap then
   if e.c.heap≤(wi (r1.1.1)) then
   (aaX ({ e with m:=r1.2.1 }:EnvV) 2 e.c.workers 0 f.i 1).bind fun r2 =>
   some (((⟨false,0,0⟩:ResV),()),(r2.2.1,({ f with line:=8,b:=0 }:FrV),()))
   else
   some (((⟨false,0,0⟩:ResV),()),(({ e with m:=r1.2.1 }:EnvV),({ f with line:=wi (f.line+1),b:=0 }:FrV),()))
   else none
   else
   if f.line=4 then
   (aee e.c f.n).bind fun r3 =>
   if ((akM e.c.subs f.i).level)=((akM e.c.subs f.i).level) then
   (aaZ e.m 2 r3.1.1 (wu ((akM e.c.subs f.i).level)) 0).bind fun r4 =>
   some (((⟨false,0,0⟩:ResV),()),(({ e with m:=r4.2.1 }:EnvV),({ f with line:=wi (f.line+1) }:FrV),()))
   else none
   else
   if f.line=5 then
   (afS e.c f.n).bind fun r5 =>
   if e.now=e.now then
   (aaZ e.m 2 r5.1.1 (wu (e.now)) 0).bind fun r6 =>
   some (((⟨false,0,0⟩:ResV),()),(({ e with m:=r6.2.1 }:EnvV),({ f with line:=wi (f.line+1) }:FrV),()))
   else none
   else
   (ac6 e.c f.n).bind fun r7 =>
   (aaZ e.m 2 r7.1.1 1 0).bind fun r8 =>
   some (((⟨false,0,0⟩:ResV),()),(({ e with m:=r8.2.1 }:EnvV),({ f with line:=wi (f.line+1) }:FrV),()))
   else none
   else none
   else none
  else none
 else none
noncomputable abbrev am6:Con SR1:=⟨165,[.ref 12,.ref 8],[.val 10],fun x =>acy x.1 x.2.1⟩
noncomputable def art:List (Nat×Func):=[(149,Tryz.f149),(151,Tryz.f151),(154,Tryz.f154)]
theorem aru:CO Tryz.prog am6:=abc abb Tryz.func165 [ac7,abC,afm,ajb,adR] ⟨acG,aby,afc,ajU,adC,trivial⟩ art ⟨Tryz.func149,Tryz.func151,Tryz.func154,trivial⟩ (fun _ =>[]) [] fun x =>by kernel_rfl
noncomputable def alx (e:EnvV) (f:FrV):Option ((ResV×Unit)×(EnvV×FrV×Unit)) :=
 if f.kind=0 then
  (asT e f).bind fun r1 =>
  some ((r1.1.1,()),(r1.2.1,r1.2.2.1,()))
 else
 if f.kind=1 then
  (ayX e f).bind fun r2 =>
  some ((r2.1.1,()),(r2.2.1,r2.2.2.1,()))
 else
 if f.kind=2 then
  (an5 e f).bind fun r3 =>
  some ((r3.1.1,()),(r3.2.1,r3.2.2.1,()))
 else
 if f.kind=3 then
  (ajh f.b).bind fun r4 =>
  if f.a=f.a then
   (aaZ e.m 4 f.a r4.1.1 0).bind fun r5 =>
   some (((⟨true,0,0⟩:ResV),()),(({ e with m:=r5.2.1 }:EnvV),f,()))
  else none
 else
 if f.kind=4 then
  (ahT e f).bind fun r6 =>
  some ((r6.1.1,()),(r6.2.1,r6.2.2.1,()))
 else
 if f.kind=6 then
  (adD e.c f.a).bind fun r7 =>
  (aaZ e.m 1 r7.1.1 0 0).bind fun r8 =>
  if r8.1.1=0 then
   some (((⟨true,2,0⟩:ResV),()),(({ e with m:=r8.2.1 }:EnvV),({ f with u:=r8.1.1 }:FrV),()))
  else
  (akx r8.1.1).bind fun r9 =>
  some (((⟨false,0,0⟩:ResV),()),(({ e with m:=r8.2.1 }:EnvV),({ f with line:=2,i:=r9.1.1,u:=r8.1.1 }:FrV),()))
 else
 if f.kind=7 then
  if f.kind=7 then
   (aaZ e.m 3 1 0 (wu (wi (f.a+1)))).bind fun r10 =>
   if r10.1.2.1=true then
   some (((⟨true,1,0⟩:ResV),()),(({ e with m:=r10.2.1 }:EnvV),f,()))
   else
   if f.kind=8 then
   some (((⟨true,5,0⟩:ResV),()),(({ e with m:=r10.2.1 }:EnvV),f,()))
   else
   some (((⟨false,0,0⟩:ResV),()),(({ e with m:=r10.2.1 }:EnvV),f,()))
  else
  if f.kind=9 then
   (aaZ e.m 2 1 0 0).bind fun r11 =>
   some (((⟨true,0,0⟩:ResV),()),(({ e with m:=r11.2.1 }:EnvV),f,()))
  else
  if f.kind=10 then
   (ai5 e f).bind fun r12 =>
   some ((r12.1.1,()),(r12.2.1,r12.2.2.1,()))
  else
  if f.kind=11 then
   (ai3 e f).bind fun r13 =>
   some ((r13.1.1,()),(r13.2.1,r13.2.2.1,()))
  else
  if f.kind=12 then
   if f.kind=12 then
   (adp e f).bind fun r14 =>
   some ((r14.1.1,()),(r14.2.1,r14.2.2.1,()))
   else
   if f.kind=16 then
   if f.kind=16 then
   (acS e f).bind fun r15 =>
   some ((r15.1.1,()),(r15.2.1,r15.2.2.1,()))
   else
   if f.kind=18 then
   (ac2 e f).bind fun r16 =>
   some ((r16.1.1,()),(r16.2.1,r16.2.2.1,()))
   else
   if f.kind=19 then
   (ac3 e f).bind fun r17 =>
   some ((r17.1.1,()),(r17.2.1,r17.2.2.1,()))
   else
   if f.kind=20 then
   (aed e f).bind fun r18 =>
   some ((r18.1.1,()),(r18.2.1,r18.2.2.1,()))
   else
   if f.kind=21 then
   (ac4 e f).bind fun r19 =>
   some ((r19.1.1,()),(r19.2.1,r19.2.2.1,()))
   else
   if f.kind=22 then
   (ac5 e f).bind fun r20 =>
   some ((r20.1.1,()),(r20.2.1,r20.2.2.1,()))
   else
   if f.kind=24 then
   (ags e f).bind fun r21 =>
   some ((r21.1.1,()),(r21.2.1,r21.2.2.1,()))
   else
   if f.kind=26 then
   (acy e f).bind fun r22 =>
   some ((r22.1.1,()),(r22.2.1,r22.2.2.1,()))
   else
   some (((⟨true,4,0⟩:ResV),()),(e,f,()))
   else
   if f.kind=17 then
   (acS e f).bind fun r23 =>
   some ((r23.1.1,()),(r23.2.1,r23.2.2.1,()))
   else
   if f.kind=18 then
   (ac2 e f).bind fun r24 =>
   some ((r24.1.1,()),(r24.2.1,r24.2.2.1,()))
   else
   if f.kind=19 then
   (ac3 e f).bind fun r25 =>
   some ((r25.1.1,()),(r25.2.1,r25.2.2.1,()))
   else
   if f.kind=20 then
   (aed e f).bind fun r26 =>
   some ((r26.1.1,()),(r26.2.1,r26.2.2.1,()))
   else
   if f.kind=21 then
   (ac4 e f).bind fun r27 =>
   some ((r27.1.1,()),(r27.2.1,r27.2.2.1,()))
   else
   if f.kind=22 then
   (ac5 e f).bind fun r28 =>
   some ((r28.1.1,()),(r28.2.1,r28.2.2.1,()))
   else
   if f.kind=24 then
   (ags e f).bind fun r29 =>
   some ((r29.1.1,()),(r29.2.1,r29.2.2.1,()))
   else
   if f.kind=26 then
   (acy e f).bind fun r30 =>
   some ((r30.1.1,()),(r30.2.1,r30.2.2.1,()))
   else
   some (((⟨true,4,0⟩:ResV),()),(e,f,()))
  else
  if f.kind=13 then
   if f.kind=13 then
   (adp e f).bind fun r31 =>
   some ((r31.1.1,()),(r31.2.1,r31.2.2.1,()))
   else
   if f.kind=16 then
   if f.kind=16 then
   (acS e f).bind fun r32 =>
   some ((r32.1.1,()),(r32.2.1,r32.2.2.1,()))
   else
   if f.kind=18 then
   (ac2 e f).bind fun r33 =>
   some ((r33.1.1,()),(r33.2.1,r33.2.2.1,()))
   else
   if f.kind=19 then
   (ac3 e f).bind fun r34 =>
   some ((r34.1.1,()),(r34.2.1,r34.2.2.1,()))
   else
   if f.kind=20 then
   (aed e f).bind fun r35 =>
   some ((r35.1.1,()),(r35.2.1,r35.2.2.1,()))
   else
   if f.kind=21 then
   (ac4 e f).bind fun r36 =>
   some ((r36.1.1,()),(r36.2.1,r36.2.2.1,()))
   else
   if f.kind=22 then
   (ac5 e f).bind fun r37 =>
   some ((r37.1.1,()),(r37.2.1,r37.2.2.1,()))
   else
   if f.kind=24 then
   (ags e f).bind fun r38 =>
   some ((r38.1.1,()),(r38.2.1,r38.2.2.1,()))
   else
   if f.kind=26 then
   (acy e f).bind fun r39 =>
   some ((r39.1.1,()),(r39.2.1,r39.2.2.1,()))
   else
   some (((⟨true,4,0⟩:ResV),()),(e,f,()))
   else
   if f.kind=17 then
   (acS e f).bind fun r40 =>
   some ((r40.1.1,()),(r40.2.1,r40.2.2.1,()))
   else
   if f.kind=18 then
   (ac2 e f).bind fun r41 =>
   some ((r41.1.1,()),(r41.2.1,r41.2.2.1,()))
   else
   if f.kind=19 then
   (ac3 e f).bind fun r42 =>
   some ((r42.1.1,()),(r42.2.1,r42.2.2.1,()))
   else
   if f.kind=20 then
   (aed e f).bind fun r43 =>
   some ((r43.1.1,()),(r43.2.1,r43.2.2.1,()))
   else
   if f.kind=21 then
   (ac4 e f).bind fun r44 =>
   some ((r44.1.1,()),(r44.2.1,r44.2.2.1,()))
   else
   if f.kind=22 then
   (ac5 e f).bind fun r45 =>
   some ((r45.1.1,()),(r45.2.1,r45.2.2.1,()))
   else
   if f.kind=24 then
   (ags e f).bind fun r46 =>
   some ((r46.1.1,()),(r46.2.1,r46.2.2.1,()))
   else
   if f.kind=26 then
   (acy e f).bind fun r47 =>
   some ((r47.1.1,()),(r47.2.1,r47.2.2.1,()))
   else
   some (((⟨true,4,0⟩:ResV),()),(e,f,()))
  else
  if f.kind=14 then
   if f.kind=14 then
   (adp e f).bind fun r48 =>
   some ((r48.1.1,()),(r48.2.1,r48.2.2.1,()))
   else
   if f.kind=16 then
   if f.kind=16 then
   (acS e f).bind fun r49 =>
   some ((r49.1.1,()),(r49.2.1,r49.2.2.1,()))
   else
   if f.kind=18 then
   (ac2 e f).bind fun r50 =>
   some ((r50.1.1,()),(r50.2.1,r50.2.2.1,()))
   else
   if f.kind=19 then
   (ac3 e f).bind fun r51 =>
   some ((r51.1.1,()),(r51.2.1,r51.2.2.1,()))
   else
   if f.kind=20 then
   (aed e f).bind fun r52 =>
   some ((r52.1.1,()),(r52.2.1,r52.2.2.1,()))
   else
   if f.kind=21 then
   (ac4 e f).bind fun r53 =>
   some ((r53.1.1,()),(r53.2.1,r53.2.2.1,()))
   else
   if f.kind=22 then
   (ac5 e f).bind fun r54 =>
   some ((r54.1.1,()),(r54.2.1,r54.2.2.1,()))
   else
   if f.kind=24 then
   (ags e f).bind fun r55 =>
   some ((r55.1.1,()),(r55.2.1,r55.2.2.1,()))
   else
   if f.kind=26 then
   (acy e f).bind fun r56 =>
   some ((r56.1.1,()),(r56.2.1,r56.2.2.1,()))
   else
   some (((⟨true,4,0⟩:ResV),()),(e,f,()))
   else
   if f.kind=17 then
   (acS e f).bind fun r57 =>
   some ((r57.1.1,()),(r57.2.1,r57.2.2.1,()))
   else
   if f.kind=18 then
   (ac2 e f).bind fun r58 =>
   some ((r58.1.1,()),(r58.2.1,r58.2.2.1,()))
   else
   if f.kind=19 then
   (ac3 e f).bind fun r59 =>
   some ((r59.1.1,()),(r59.2.1,r59.2.2.1,()))
   else
   if f.kind=20 then
   (aed e f).bind fun r60 =>
   some ((r60.1.1,()),(r60.2.1,r60.2.2.1,()))
   else
   if f.kind=21 then
   (ac4 e f).bind fun r61 =>
   some ((r61.1.1,()),(r61.2.1,r61.2.2.1,()))
   else
   if f.kind=22 then
   (ac5 e f).bind fun r62 =>
   some ((r62.1.1,()),(r62.2.1,r62.2.2.1,()))
   else
   if f.kind=24 then
   (ags e f).bind fun r63 =>
   some ((r63.1.1,()),(r63.2.1,r63.2.2.1,()))
   else
   if f.kind=26 then
   (acy e f).bind fun r64 =>
   some ((r64.1.1,()),(r64.2.1,r64.2.2.1,()))
   else
   some (((⟨true,4,0⟩:ResV),()),(e,f,()))
  else
  if f.kind=15 then
   (adp e f).bind fun r65 =>
   some ((r65.1.1,()),(r65.2.1,r65.2.2.1,()))
  else
  if f.kind=16 then
   if f.kind=16 then
   (acS e f).bind fun r66 =>
   some ((r66.1.1,()),(r66.2.1,r66.2.2.1,()))
   else
   if f.kind=18 then
   (ac2 e f).bind fun r67 =>
   some ((r67.1.1,()),(r67.2.1,r67.2.2.1,()))
   else
   if f.kind=19 then
   (ac3 e f).bind fun r68 =>
   some ((r68.1.1,()),(r68.2.1,r68.2.2.1,()))
   else
   if f.kind=20 then
   (aed e f).bind fun r69 =>
   some ((r69.1.1,()),(r69.2.1,r69.2.2.1,()))
   else
   if f.kind=21 then
   (ac4 e f).bind fun r70 =>
   some ((r70.1.1,()),(r70.2.1,r70.2.2.1,()))
   else
   if f.kind=22 then
   (ac5 e f).bind fun r71 =>
   some ((r71.1.1,()),(r71.2.1,r71.2.2.1,()))
   else
   if f.kind=24 then
   (ags e f).bind fun r72 =>
   some ((r72.1.1,()),(r72.2.1,r72.2.2.1,()))
   else
   if f.kind=26 then
   (acy e f).bind fun r73 =>
   some ((r73.1.1,()),(r73.2.1,r73.2.2.1,()))
   else
   some (((⟨true,4,0⟩:ResV),()),(e,f,()))
  else
  if f.kind=17 then
   (acS e f).bind fun r74 =>
   some ((r74.1.1,()),(r74.2.1,r74.2.2.1,()))
  else
  if f.kind=18 then
   (ac2 e f).bind fun r75 =>
   some ((r75.1.1,()),(r75.2.1,r75.2.2.1,()))
  else
  if f.kind=19 then
   (ac3 e f).bind fun r76 =>
   some ((r76.1.1,()),(r76.2.1,r76.2.2.1,()))
  else
  if f.kind=20 then
   (aed e f).bind fun r77 =>
   some ((r77.1.1,()),(r77.2.1,r77.2.2.1,()))
  else
  if f.kind=21 then
   (ac4 e f).bind fun r78 =>
   some ((r78.1.1,()),(r78.2.1,r78.2.2.1,()))
  else
  if f.kind=22 then
   (ac5 e f).bind fun r79 =>
   some ((r79.1.1,()),(r79.2.1,r79.2.2.1,()))
  else
  if f.kind=24 then
   (ags e f).bind fun r80 =>
   some ((r80.1.1,()),(r80.2.1,r80.2.2.1,()))
  else
  if f.kind=26 then
   (acy e f).bind fun r81 =>
   some ((r81.1.1,()),(r81.2.1,r81.2.2.1,()))
  else
  some (((⟨true,4,0⟩:ResV),()),(e,f,()))
 else
 if f.kind=8 then
  (aaZ e.m 3 1 0 (wu (wi (f.a+1)))).bind fun r82 =>
  if r82.1.2.1=true then
   some (((⟨true,1,0⟩:ResV),()),(({ e with m:=r82.2.1 }:EnvV),f,()))
  else
  if f.kind=8 then
   some (((⟨true,5,0⟩:ResV),()),(({ e with m:=r82.2.1 }:EnvV),f,()))
  else
  some (((⟨false,0,0⟩:ResV),()),(({ e with m:=r82.2.1 }:EnvV),f,()))
 else
 if f.kind=9 then
  (aaZ e.m 2 1 0 0).bind fun r83 =>
  some (((⟨true,0,0⟩:ResV),()),(({ e with m:=r83.2.1 }:EnvV),f,()))
 else
 if f.kind=10 then
  (ai5 e f).bind fun r84 =>
  some ((r84.1.1,()),(r84.2.1,r84.2.2.1,()))
 else
 if f.kind=11 then
  (ai3 e f).bind fun r85 =>
  some ((r85.1.1,()),(r85.2.1,r85.2.2.1,()))
 else
 if f.kind=12 then
  if f.kind=12 then
   (adp e f).bind fun r86 =>
   some ((r86.1.1,()),(r86.2.1,r86.2.2.1,()))
  else
  if f.kind=16 then
   if f.kind=16 then
   (acS e f).bind fun r87 =>
   some ((r87.1.1,()),(r87.2.1,r87.2.2.1,()))
   else
   if f.kind=18 then
   (ac2 e f).bind fun r88 =>
   some ((r88.1.1,()),(r88.2.1,r88.2.2.1,()))
   else
   if f.kind=19 then
   (ac3 e f).bind fun r89 =>
   some ((r89.1.1,()),(r89.2.1,r89.2.2.1,()))
   else
   if f.kind=20 then
   (aed e f).bind fun r90 =>
   some ((r90.1.1,()),(r90.2.1,r90.2.2.1,()))
   else
   if f.kind=21 then
   (ac4 e f).bind fun r91 =>
   some ((r91.1.1,()),(r91.2.1,r91.2.2.1,()))
   else
   if f.kind=22 then
   (ac5 e f).bind fun r92 =>
   some ((r92.1.1,()),(r92.2.1,r92.2.2.1,()))
   else
   if f.kind=24 then
   (ags e f).bind fun r93 =>
   some ((r93.1.1,()),(r93.2.1,r93.2.2.1,()))
   else
   if f.kind=26 then
   (acy e f).bind fun r94 =>
   some ((r94.1.1,()),(r94.2.1,r94.2.2.1,()))
   else
   some (((⟨true,4,0⟩:ResV),()),(e,f,()))
  else
  if f.kind=17 then
   (acS e f).bind fun r95 =>
   some ((r95.1.1,()),(r95.2.1,r95.2.2.1,()))
  else
  if f.kind=18 then
   (ac2 e f).bind fun r96 =>
   some ((r96.1.1,()),(r96.2.1,r96.2.2.1,()))
  else
  if f.kind=19 then
   (ac3 e f).bind fun r97 =>
   some ((r97.1.1,()),(r97.2.1,r97.2.2.1,()))
  else
  if f.kind=20 then
   (aed e f).bind fun r98 =>
   some ((r98.1.1,()),(r98.2.1,r98.2.2.1,()))
  else
  if f.kind=21 then
   (ac4 e f).bind fun r99 =>
   some ((r99.1.1,()),(r99.2.1,r99.2.2.1,()))
  else
  if f.kind=22 then
   (ac5 e f).bind fun r100 =>
   some ((r100.1.1,()),(r100.2.1,r100.2.2.1,()))
  else
  if f.kind=24 then
   (ags e f).bind fun r101 =>
   some ((r101.1.1,()),(r101.2.1,r101.2.2.1,()))
  else
  if f.kind=26 then
   (acy e f).bind fun r102 =>
   some ((r102.1.1,()),(r102.2.1,r102.2.2.1,()))
  else
  some (((⟨true,4,0⟩:ResV),()),(e,f,()))
 else
 if f.kind=13 then
  if f.kind=13 then
   (adp e f).bind fun r103 =>
   some ((r103.1.1,()),(r103.2.1,r103.2.2.1,()))
  else
  if f.kind=16 then
   if f.kind=16 then
   (acS e f).bind fun r104 =>
   some ((r104.1.1,()),(r104.2.1,r104.2.2.1,()))
   else
   if f.kind=18 then
   (ac2 e f).bind fun r105 =>
   some ((r105.1.1,()),(r105.2.1,r105.2.2.1,()))
   else
   if f.kind=19 then
   (ac3 e f).bind fun r106 =>
   some ((r106.1.1,()),(r106.2.1,r106.2.2.1,()))
   else
   if f.kind=20 then
   (aed e f).bind fun r107 =>
   some ((r107.1.1,()),(r107.2.1,r107.2.2.1,()))
   else
   if f.kind=21 then
   (ac4 e f).bind fun r108 =>
   some ((r108.1.1,()),(r108.2.1,r108.2.2.1,()))
   else
   if f.kind=22 then
   (ac5 e f).bind fun r109 =>
   some ((r109.1.1,()),(r109.2.1,r109.2.2.1,()))
   else
   if f.kind=24 then
   (ags e f).bind fun r110 =>
   some ((r110.1.1,()),(r110.2.1,r110.2.2.1,()))
   else
   if f.kind=26 then
   (acy e f).bind fun r111 =>
   some ((r111.1.1,()),(r111.2.1,r111.2.2.1,()))
   else
   some (((⟨true,4,0⟩:ResV),()),(e,f,()))
  else
  if f.kind=17 then
   (acS e f).bind fun r112 =>
   some ((r112.1.1,()),(r112.2.1,r112.2.2.1,()))
  else
  if f.kind=18 then
   (ac2 e f).bind fun r113 =>
   some ((r113.1.1,()),(r113.2.1,r113.2.2.1,()))
  else
  if f.kind=19 then
   (ac3 e f).bind fun r114 =>
   some ((r114.1.1,()),(r114.2.1,r114.2.2.1,()))
  else
  if f.kind=20 then
   (aed e f).bind fun r115 =>
   some ((r115.1.1,()),(r115.2.1,r115.2.2.1,()))
  else
  if f.kind=21 then
   (ac4 e f).bind fun r116 =>
   some ((r116.1.1,()),(r116.2.1,r116.2.2.1,()))
  else
  if f.kind=22 then
   (ac5 e f).bind fun r117 =>
   some ((r117.1.1,()),(r117.2.1,r117.2.2.1,()))
  else
  if f.kind=24 then
   (ags e f).bind fun r118 =>
   some ((r118.1.1,()),(r118.2.1,r118.2.2.1,()))
  else
  if f.kind=26 then
   (acy e f).bind fun r119 =>
   some ((r119.1.1,()),(r119.2.1,r119.2.2.1,()))
  else
  some (((⟨true,4,0⟩:ResV),()),(e,f,()))
 else
 if f.kind=14 then
  if f.kind=14 then
   (adp e f).bind fun r120 =>
   some ((r120.1.1,()),(r120.2.1,r120.2.2.1,()))
  else
  if f.kind=16 then
   if f.kind=16 then
   (acS e f).bind fun r121 =>
   some ((r121.1.1,()),(r121.2.1,r121.2.2.1,()))
   else
   if f.kind=18 then
   (ac2 e f).bind fun r122 =>
   some ((r122.1.1,()),(r122.2.1,r122.2.2.1,()))
   else
   if f.kind=19 then
   (ac3 e f).bind fun r123 =>
   some ((r123.1.1,()),(r123.2.1,r123.2.2.1,()))
   else
   if f.kind=20 then
   (aed e f).bind fun r124 =>
   some ((r124.1.1,()),(r124.2.1,r124.2.2.1,()))
   else
   if f.kind=21 then
   (ac4 e f).bind fun r125 =>
   some ((r125.1.1,()),(r125.2.1,r125.2.2.1,()))
   else
   if f.kind=22 then
   (ac5 e f).bind fun r126 =>
   some ((r126.1.1,()),(r126.2.1,r126.2.2.1,()))
   else
   if f.kind=24 then
   (ags e f).bind fun r127 =>
   some ((r127.1.1,()),(r127.2.1,r127.2.2.1,()))
   else
   if f.kind=26 then
   (acy e f).bind fun r128 =>
   some ((r128.1.1,()),(r128.2.1,r128.2.2.1,()))
   else
   some (((⟨true,4,0⟩:ResV),()),(e,f,()))
  else
  if f.kind=17 then
   (acS e f).bind fun r129 =>
   some ((r129.1.1,()),(r129.2.1,r129.2.2.1,()))
  else
  if f.kind=18 then
   (ac2 e f).bind fun r130 =>
   some ((r130.1.1,()),(r130.2.1,r130.2.2.1,()))
  else
  if f.kind=19 then
   (ac3 e f).bind fun r131 =>
   some ((r131.1.1,()),(r131.2.1,r131.2.2.1,()))
  else
  if f.kind=20 then
   (aed e f).bind fun r132 =>
   some ((r132.1.1,()),(r132.2.1,r132.2.2.1,()))
  else
  if f.kind=21 then
   (ac4 e f).bind fun r133 =>
   some ((r133.1.1,()),(r133.2.1,r133.2.2.1,()))
  else
  if f.kind=22 then
   (ac5 e f).bind fun r134 =>
   some ((r134.1.1,()),(r134.2.1,r134.2.2.1,()))
  else
  if f.kind=24 then
   (ags e f).bind fun r135 =>
   some ((r135.1.1,()),(r135.2.1,r135.2.2.1,()))
  else
  if f.kind=26 then
   (acy e f).bind fun r136 =>
   some ((r136.1.1,()),(r136.2.1,r136.2.2.1,()))
  else
  some (((⟨true,4,0⟩:ResV),()),(e,f,()))
 else
 if f.kind=15 then
  (adp e f).bind fun r137 =>
  some ((r137.1.1,()),(r137.2.1,r137.2.2.1,()))
 else
 if f.kind=16 then
  if f.kind=16 then
   (acS e f).bind fun r138 =>
   some ((r138.1.1,()),(r138.2.1,r138.2.2.1,()))
  else
  if f.kind=18 then
   (ac2 e f).bind fun r139 =>
   some ((r139.1.1,()),(r139.2.1,r139.2.2.1,()))
  else
  if f.kind=19 then
   (ac3 e f).bind fun r140 =>
   some ((r140.1.1,()),(r140.2.1,r140.2.2.1,()))
  else
  if f.kind=20 then
   (aed e f).bind fun r141 =>
   some ((r141.1.1,()),(r141.2.1,r141.2.2.1,()))
  else
  if f.kind=21 then
   (ac4 e f).bind fun r142 =>
   some ((r142.1.1,()),(r142.2.1,r142.2.2.1,()))
  else
  if f.kind=22 then
   (ac5 e f).bind fun r143 =>
   some ((r143.1.1,()),(r143.2.1,r143.2.2.1,()))
  else
  if f.kind=24 then
   (ags e f).bind fun r144 =>
   some ((r144.1.1,()),(r144.2.1,r144.2.2.1,()))
  else
  if f.kind=26 then
   (acy e f).bind fun r145 =>
   some ((r145.1.1,()),(r145.2.1,r145.2.2.1,()))
  else
  some (((⟨true,4,0⟩:ResV),()),(e,f,()))
 else
 if f.kind=17 then
  (acS e f).bind fun r146 =>
  some ((r146.1.1,()),(r146.2.1,r146.2.2.1,()))
 else
 if f.kind=18 then
  (ac2 e f).bind fun r147 =>
  some ((r147.1.1,()),(r147.2.1,r147.2.2.1,()))
 else
 if f.kind=19 then
  (ac3 e f).bind fun r148 =>
  some ((r148.1.1,()),(r148.2.1,r148.2.2.1,()))
 else
 if f.kind=20 then
  (aed e f).bind fun r149 =>
  some ((r149.1.1,()),(r149.2.1,r149.2.2.1,()))
 else
 if f.kind=21 then
  (ac4 e f).bind fun r150 =>
  some ((r150.1.1,()),(r150.2.1,r150.2.2.1,()))
 else
 if f.kind=22 then
  (ac5 e f).bind fun r151 =>
  some ((r151.1.1,()),(r151.2.1,r151.2.2.1,()))
 else
 if f.kind=24 then
  (ags e f).bind fun r152 =>
  some ((r152.1.1,()),(r152.2.1,r152.2.2.1,()))
 else
 if f.kind=26 then
  (acy e f).bind fun r153 =>
  some ((r153.1.1,()),(r153.2.1,r153.2.2.1,()))
 else
 some (((⟨true,4,0⟩:ResV),()),(e,f,()))
noncomputable abbrev asV:Con SR1:=⟨112,[.ref 12,.ref 8],[.val 10],fun x =>alx x.1 x.2.1⟩
noncomputable def av6:List (Nat×Func):=[(147,Tryz.f147),(149,Tryz.f149),(151,Tryz.f151),(153,Tryz.f153),(154,Tryz.f154)]
theorem av7:CO Tryz.prog asV:=abc abb Tryz.func112 [asS,av2,apN,ajg,ac7,akt,afd,aog,am4,am1,apL,apT,apM,apO,asR,apP,apR,avZ,am6] ⟨av1,ayW,auf,ajf,acG,an9,afn,apZ,arp,arm,aub,aut,aud,auh,avY,auj,aup,ayU,aru,trivial⟩ av6 ⟨Tryz.func147,Tryz.func149,Tryz.func151,Tryz.func153,Tryz.func154,trivial⟩ (fun _ =>[]) [] fun x =>by kernel_rfl
noncomputable def ahU (e:EnvV) (f:FrV) (a:Int):Option ((ResV×Unit)×(EnvV×FrV×Unit)) :=
 if f.line=1 then
  if a=1 then
   some (((⟨false,0,0⟩:ResV),()),(e,({ f with line:=2 }:FrV),()))
  else
  some (((⟨false,0,0⟩:ResV),()),(e,({ f with line:=4 }:FrV),()))
 else
 if a=3 then
  (aaX e 19 f.a f.b 0 f.d).bind fun r1 =>
  some (((⟨false,0,0⟩:ResV),()),(r1.2.1,({ f with line:=4 }:FrV),()))
 else
 some (((⟨false,0,0⟩:ResV),()),(e,({ f with line:=4 }:FrV),()))
noncomputable abbrev aku:Con SR1:=⟨166,[.ref 12,.ref 8,.sh sI_],[.val 10],fun x =>ahU x.1 x.2.1 x.2.2.1⟩
theorem aob:CO Tryz.prog aku:=abc abb Tryz.func166 [abC] ⟨aby,trivial⟩ [] trivial (fun _ =>[]) [] fun x =>by kernel_rfl
noncomputable def agu (e:EnvV) (f:FrV) (a:Int) (b:Int):Option ((ResV×Unit)×(EnvV×FrV×Unit)) :=
 if f.line=2 then
  if a=5 then
   some (((⟨true,5,0⟩:ResV),()),(e,f,()))
  else
  some (((⟨false,0,0⟩:ResV),()),(e,({ f with line:=3 }:FrV),()))
 else
 if f.line=3 then
  if a=2 then
   some (((⟨false,0,0⟩:ResV),()),(e,({ f with line:=6,n:=b }:FrV),()))
  else
  some (((⟨false,0,0⟩:ResV),()),(e,({ f with line:=4,n:=b }:FrV),()))
 else
 if f.line=5 then
  if a=3 then
   some (((⟨false,0,0⟩:ResV),()),(e,({ f with line:=6,d:=f.n }:FrV),()))
  else
  if (wi (f.i+1))<e.c.batch then
   some (((⟨false,0,0⟩:ResV),()),(e,({ f with line:=3,i:=wi (f.i+1),j:=f.t }:FrV),()))
  else
  some (((⟨false,0,0⟩:ResV),()),(e,({ f with line:=6,i:=wi (f.i+1),j:=f.t }:FrV),()))
 else
 if f.line=6 then
  if 0<f.i then
   some (((⟨false,0,0⟩:ResV),()),(e,({ f with line:=7 }:FrV),()))
  else
  if 0≤f.d then
   some (((⟨true,1,f.d⟩:ResV),()),(e,f,()))
  else
  some (((⟨true,2,0⟩:ResV),()),(e,f,()))
 else
 if 0≤f.d then
  some (((⟨true,1,f.d⟩:ResV),()),(e,f,()))
 else
 some (((⟨true,0,f.i⟩:ResV),()),(e,f,()))
noncomputable abbrev ai9:Con SR1:=⟨168,[.ref 12,.ref 8,.sh sI_,.sh sI_],[.val 10],fun x =>agu x.1 x.2.1 x.2.2.1 x.2.2.2.1⟩
noncomputable def amA:List (Nat×Func):=[(149,Tryz.f149)]
theorem amB:CO Tryz.prog ai9:=abc abb Tryz.func168 [] trivial amA ⟨Tryz.func149,trivial⟩ (fun _ =>[]) [] fun x =>by kernel_rfl
noncomputable def ahV (f:FrV) (a:Int) (b:Int):Option ((ResV×Unit)×(FrV×Unit)) :=
 if f.line=1 then
  if a=2 then
   some (((⟨true,2,0⟩:ResV),()),(f,()))
  else
  some (((⟨false,0,0⟩:ResV),()),(({ f with line:=2,n:=b }:FrV),()))
 else
 if a=1 then
  some (((⟨true,1,b⟩:ResV),()),(f,()))
 else
 some (((⟨false,0,0⟩:ResV),()),(({ f with line:=1 }:FrV),()))
noncomputable abbrev akv:Con SR1:=⟨169,[.ref 8,.sh sI_,.sh sI_],[.val 10],fun x =>ahV x.1 x.2.1 x.2.2.1⟩
noncomputable def aoc:List (Nat×Func):=[(149,Tryz.f149)]
theorem aod:CO Tryz.prog akv:=abc abb Tryz.func169 [] trivial aoc ⟨Tryz.func149,trivial⟩ (fun _ =>[]) [] fun x =>by kernel_rfl
noncomputable def ai8 (e:EnvV) (f:FrV) (a:Int) (b:Int):Option ((ResV×Unit)×(EnvV×FrV×Unit)) :=
 if 0≤wi (((f.l.length:Nat):Int)-1)∧wi (((f.l.length:Nat):Int)-1)<((f.l.length:Nat):Int) then
  if 0≤(tpF f)∧(tpF f)<((e.recs.length:Nat):Int) then
   if f.line=5 then
   agr (
   if 0≤(tpF f)∧(tpF f)<(((tsR e f).length:Nat):Int) then
   if ((tuR e f).prog)<0 then
   if ((trR e f).pc)=((tuR e f).pc) then
   none
   else none
   else
   if ((e.c.progs.length:Nat):Int)≤((tuR e f).prog) then
   if ((trR e f).pc)=((tuR e f).pc) then
   none
   else none
   else
   if 0≤(tuR e f).prog∧(tuR e f).prog<((e.c.progs.length:Nat):Int) then
   if ((trR e f).pc)=((tuR e f).pc) then
   if 0≤(trR e f).pc∧(trR e f).pc<(((atL [] e.c.progs ((tuR e f).prog)).length:Nat):Int) then
   if ((afW (atL [] e.c.progs ((tuR e f).prog)) ((trR e f).pc)).op)=((afW (atL [] e.c.progs ((tuR e f).prog)) ((trR e f).pc)).op) then
   if ((afW (atL [] e.c.progs ((tuR e f).prog)) ((trR e f).pc)).a)=((afW (atL [] e.c.progs ((tuR e f).prog)) ((trR e f).pc)).a) then
   if ((afW (atL [] e.c.progs ((tuR e f).prog)) ((trR e f).pc)).b)=((afW (atL [] e.c.progs ((tuR e f).prog)) ((trR e f).pc)).b) then
   if ((trR e f).pc)=((tuR e f).pc) then
   if a=3 then
   if (((([]:List Int).length+((abH ((tsR e f).set (tpF f).toNat ({ abH (tsR e f) (tpF f) with pc:=wi (((tuR e f).pc)+1) }:RecV)) (tpF f)).kids).length:Nat)):Int)<1000000000000 then
   if ((((([])++((abH ((tsR e f).set (tpF f).toNat ({ abH (tsR e f) (tpF f) with pc:=wi (((tuR e f).pc)+1) }:RecV)) (tpF f)).kids)).length+([(-1)]:List Int).length:Nat)):Int)<1000000000000 then
   (aaX ({ e with recs:=((tsR e f).set (tpF f).toNat ({ abH (tsR e f) (tpF f) with pc:=wi (((tuR e f).pc)+1) }:RecV)).set (tpF f).toNat ({ abH ((tsR e f).set (tpF f).toNat ({ abH (tsR e f) (tpF f) with pc:=wi (((tuR e f).pc)+1) }:RecV)) (tpF f) with kids:=(([])++((abH ((tsR e f).set (tpF f).toNat ({ abH (tsR e f) (tpF f) with pc:=wi (((tuR e f).pc)+1) }:RecV)) (tpF f)).kids))++([(-1)]) }:RecV) }:EnvV) 4 f.a (tpF f) 0 0).bind fun r3 =>
   some (((⟨false,0,0⟩:ResV),()),(r3.2.1,({ f with line:=1 }:FrV),()))
   else none
   else none
   else
   if (((([]:List Int).length+((abH ((tsR e f).set (tpF f).toNat ({ abH (tsR e f) (tpF f) with pc:=wi (((tuR e f).pc)+1) }:RecV)) (tpF f)).kids).length:Nat)):Int)<1000000000000 then
   if ((((([])++((abH ((tsR e f).set (tpF f).toNat ({ abH (tsR e f) (tpF f) with pc:=wi (((tuR e f).pc)+1) }:RecV)) (tpF f)).kids)).length+([b]:List Int).length:Nat)):Int)<1000000000000 then
   (agt ((afW (atL [] e.c.progs ((tuR e f).prog)) ((trR e f).pc)).a) (tpF f)).bind fun r4 =>
   if 0≤b∧b<(((((tsR e f).set (tpF f).toNat ({ abH (tsR e f) (tpF f) with pc:=wi (((tuR e f).pc)+1) }:RecV)).set (tpF f).toNat ({ abH ((tsR e f).set (tpF f).toNat ({ abH (tsR e f) (tpF f) with pc:=wi (((tuR e f).pc)+1) }:RecV)) (tpF f) with kids:=(([])++((abH ((tsR e f).set (tpF f).toNat ({ abH (tsR e f) (tpF f) with pc:=wi (((tuR e f).pc)+1) }:RecV)) (tpF f)).kids))++([b]) }:RecV)).length:Nat):Int) then
   if ((afW (atL [] e.c.progs ((tuR e f).prog)) ((trR e f).pc)).b)=((afW (atL [] e.c.progs ((tuR e f).prog)) ((trR e f).pc)).b) then
   some (((⟨false,0,0⟩:ResV),()),(({ e with recs:=(((tsR e f).set (tpF f).toNat ({ abH (tsR e f) (tpF f) with pc:=wi (((tuR e f).pc)+1) }:RecV)).set (tpF f).toNat ({ abH ((tsR e f).set (tpF f).toNat ({ abH (tsR e f) (tpF f) with pc:=wi (((tuR e f).pc)+1) }:RecV)) (tpF f) with kids:=(([])++((abH ((tsR e f).set (tpF f).toNat ({ abH (tsR e f) (tpF f) with pc:=wi (((tuR e f).pc)+1) }:RecV)) (tpF f)).kids))++([b]) }:RecV)).set b.toNat r4.1.1 }:EnvV),({ f with line:=6,d:=(afW (atL [] e.c.progs ((tuR e f).prog)) ((trR e f).pc)).b,n:=b }:FrV),()))
   else none
   else none
   else none
   else none
   else none
   else none
   else none
   else none
   else none
   else none
   else none
   else none
   ) (
   if ((trR e f).pc)=((trR e f).pc) then
   if 0≤(tpF f)∧(tpF f)<(((tsR e f).length:Nat):Int) then
   if ((tuR e f).prog)<0 then
   if ((trR e f).pc)=((tuR e f).pc) then
   none
   else none
   else
   if ((e.c.progs.length:Nat):Int)≤((tuR e f).prog) then
   if ((trR e f).pc)=((tuR e f).pc) then
   none
   else none
   else
   if 0≤(tuR e f).prog∧(tuR e f).prog<((e.c.progs.length:Nat):Int) then
   if ((trR e f).pc)=((tuR e f).pc) then
   if 0≤(trR e f).pc∧(trR e f).pc<(((atL [] e.c.progs ((tuR e f).prog)).length:Nat):Int) then
   if a=3 then
   if (((([]:List Int).length+((abH ((tsR e f).set (tpF f).toNat ({ abH (tsR e f) (tpF f) with pc:=wi (((tuR e f).pc)+1) }:RecV)) (tpF f)).kids).length:Nat)):Int)<1000000000000 then
   if ((((([])++((abH ((tsR e f).set (tpF f).toNat ({ abH (tsR e f) (tpF f) with pc:=wi (((tuR e f).pc)+1) }:RecV)) (tpF f)).kids)).length+([(-1)]:List Int).length:Nat)):Int)<1000000000000 then
   (aaX ({ e with recs:=((tsR e f).set (tpF f).toNat ({ abH (tsR e f) (tpF f) with pc:=wi (((tuR e f).pc)+1) }:RecV)).set (tpF f).toNat ({ abH ((tsR e f).set (tpF f).toNat ({ abH (tsR e f) (tpF f) with pc:=wi (((tuR e f).pc)+1) }:RecV)) (tpF f) with kids:=(([])++((abH ((tsR e f).set (tpF f).toNat ({ abH (tsR e f) (tpF f) with pc:=wi (((tuR e f).pc)+1) }:RecV)) (tpF f)).kids))++([(-1)]) }:RecV) }:EnvV) 4 f.a (tpF f) 0 0).bind fun r1 =>
   some (((⟨false,0,0⟩:ResV),()),(r1.2.1,({ f with line:=1 }:FrV),()))
   else none
   else none
   else
   if (((([]:List Int).length+((abH ((tsR e f).set (tpF f).toNat ({ abH (tsR e f) (tpF f) with pc:=wi (((tuR e f).pc)+1) }:RecV)) (tpF f)).kids).length:Nat)):Int)<1000000000000 then
   if ((((([])++((abH ((tsR e f).set (tpF f).toNat ({ abH (tsR e f) (tpF f) with pc:=wi (((tuR e f).pc)+1) }:RecV)) (tpF f)).kids)).length+([b]:List Int).length:Nat)):Int)<1000000000000 then
   (agt ((afW (atL [] e.c.progs ((tuR e f).prog)) ((trR e f).pc)).a) (tpF f)).bind fun r2 =>
   if 0≤b∧b<(((((tsR e f).set (tpF f).toNat ({ abH (tsR e f) (tpF f) with pc:=wi (((tuR e f).pc)+1) }:RecV)).set (tpF f).toNat ({ abH ((tsR e f).set (tpF f).toNat ({ abH (tsR e f) (tpF f) with pc:=wi (((tuR e f).pc)+1) }:RecV)) (tpF f) with kids:=(([])++((abH ((tsR e f).set (tpF f).toNat ({ abH (tsR e f) (tpF f) with pc:=wi (((tuR e f).pc)+1) }:RecV)) (tpF f)).kids))++([b]) }:RecV)).length:Nat):Int) then
   if ((afW (atL [] e.c.progs ((tuR e f).prog)) ((trR e f).pc)).b)=((afW (atL [] e.c.progs ((tuR e f).prog)) ((trR e f).pc)).b) then
   some (((⟨false,0,0⟩:ResV),()),(({ e with recs:=(((tsR e f).set (tpF f).toNat ({ abH (tsR e f) (tpF f) with pc:=wi (((tuR e f).pc)+1) }:RecV)).set (tpF f).toNat ({ abH ((tsR e f).set (tpF f).toNat ({ abH (tsR e f) (tpF f) with pc:=wi (((tuR e f).pc)+1) }:RecV)) (tpF f) with kids:=(([])++((abH ((tsR e f).set (tpF f).toNat ({ abH (tsR e f) (tpF f) with pc:=wi (((tuR e f).pc)+1) }:RecV)) (tpF f)).kids))++([b]) }:RecV)).set b.toNat r2.1.1 }:EnvV),({ f with line:=6,d:=(afW (atL [] e.c.progs ((tuR e f).prog)) ((trR e f).pc)).b,n:=b }:FrV),()))
   else none
   else none
   else none
   else none
   else none
   else none
   else none
   else none
   else none
   )
   else
   if f.line=6 then
   (aaX e 3 f.a f.n (tpF f) f.d).bind fun r5 =>
   some (((⟨false,0,0⟩:ResV),()),(r5.2.1,({ f with line:=7 }:FrV),()))
   else
   if f.line=7 then
   if a=3 then
   some (((⟨false,0,0⟩:ResV),()),(e,({ f with line:=9 }:FrV),()))
   else
   some (((⟨false,0,0⟩:ResV),()),(e,({ f with line:=8 }:FrV),()))
   else
   if f.line=8 then
   some (((⟨false,0,0⟩:ResV),()),(e,({ f with line:=1 }:FrV),()))
   else
   if f.line=9 then
   if a=1 then
   agr (
   if f.n=f.n then
   agr (
   if (((([]:List Int).length+f.l.length:Nat)):Int)<1000000000000 then
   if f.n=f.n then
   if ((((([])++f.l).length+([f.n]:List Int).length:Nat)):Int)<1000000000000 then
   some (((⟨false,0,0⟩:ResV),()),(e,({ f with line:=1,l:=(([])++f.l)++([f.n]) }:FrV),()))
   else none
   else none
   else none
   ) (
   if (((([]:List Int).length+f.l.length:Nat)):Int)<1000000000000 then
   if f.n=f.n then
   if ((((([])++f.l).length+([f.n]:List Int).length:Nat)):Int)<1000000000000 then
   some (((⟨false,0,0⟩:ResV),()),(e,({ f with line:=1,l:=(([])++f.l)++([f.n]) }:FrV),()))
   else none
   else none
   else none
   )
   else none
   ) (
   if f.n=f.n then
   if (((([]:List Int).length+f.l.length:Nat)):Int)<1000000000000 then
   if f.n=f.n then
   if ((((([])++f.l).length+([f.n]:List Int).length:Nat)):Int)<1000000000000 then
   some (((⟨false,0,0⟩:ResV),()),(e,({ f with line:=1,l:=(([])++f.l)++([f.n]) }:FrV),()))
   else none
   else none
   else none
   else none
   )
   else
   some (((⟨false,0,0⟩:ResV),()),(e,({ f with line:=1 }:FrV),()))
   else
   if f.line=14 then
   (aaX e 7 f.a (tpF f) 0 f.t).bind fun r6 =>
   (aeV f).bind fun r7 =>
   some ((r7.1.1,()),(r6.2.1,r7.2.1,()))
   else
   if f.line=20 then
   if a=3 then
   some (((⟨false,0,0⟩:ResV),()),(e,({ f with line:=22,t:=b }:FrV),()))
   else
   some (((⟨false,0,0⟩:ResV),()),(e,({ f with line:=21,t:=b }:FrV),()))
   else
   if f.line=21 then
   (aeV f).bind fun r8 =>
   some ((r8.1.1,()),(e,r8.2.1,()))
   else
   if f.line=22 then
   if a≠1 then
   (aeV f).bind fun r9 =>
   some ((r9.1.1,()),(e,r9.2.1,()))
   else
   if 0≤wi (((f.l.length:Nat):Int)-1)∧wi (((f.l.length:Nat):Int)-1)≤((f.l.length:Nat):Int) then
   agr (
   if f.n=f.n then
   agr (
   if (((([]:List Int).length+(f.l.take (wi (((f.l.length:Nat):Int)-1):Int).toNat).length:Nat)):Int)<1000000000000 then
   if f.n=f.n then
   if ((((([])++(f.l.take (wi (((f.l.length:Nat):Int)-1):Int).toNat)).length+([f.n]:List Int).length:Nat)):Int)<1000000000000 then
   some (((⟨false,0,0⟩:ResV),()),(e,({ f with line:=1,l:=(([])++(f.l.take (wi (((f.l.length:Nat):Int)-1):Int).toNat))++([f.n]) }:FrV),()))
   else none
   else none
   else none
   ) (
   if (((([]:List Int).length+(f.l.take (wi (((f.l.length:Nat):Int)-1):Int).toNat).length:Nat)):Int)<1000000000000 then
   if f.n=f.n then
   if ((((([])++(f.l.take (wi (((f.l.length:Nat):Int)-1):Int).toNat)).length+([f.n]:List Int).length:Nat)):Int)<1000000000000 then
   some (((⟨false,0,0⟩:ResV),()),(e,({ f with line:=1,l:=(([])++(f.l.take (wi (((f.l.length:Nat):Int)-1):Int).toNat))++([f.n]) }:FrV),()))
   else none
   else none
   else none
   )
   else none
   ) (
   if f.n=f.n then
   if (((([]:List Int).length+(f.l.take (wi (((f.l.length:Nat):Int)-1):Int).toNat).length:Nat)):Int)<1000000000000 then
   if f.n=f.n then
   if ((((([])++(f.l.take (wi (((f.l.length:Nat):Int)-1):Int).toNat)).length+([f.n]:List Int).length:Nat)):Int)<1000000000000 then
   some (((⟨false,0,0⟩:ResV),()),(e,({ f with line:=1,l:=(([])++(f.l.take (wi (((f.l.length:Nat):Int)-1):Int).toNat))++([f.n]) }:FrV),()))
   else none
   else none
   else none
   else none
   )
   else none
   else
   some (((⟨false,0,0⟩:ResV),()),(e,f,()))
  else none
 else none
noncomputable abbrev alA:Con SR1:=⟨170,[.ref 12,.ref 8,.sh sI_,.sh sI_],[.val 10],fun x =>ai8 x.1 x.2.1 x.2.2.1 x.2.2.2.1⟩
noncomputable def apU:List (Nat×Func):=[(202,Tryz.f202),(203,Tryz.f203)]
theorem apV:CO Tryz.prog alA:=abc abb Tryz.func170 [abC,ai6,alw] ⟨aby,ajT,am3,trivial⟩ apU ⟨Tryz.func202,Tryz.func203,trivial⟩ (fun _ =>[]) [] fun x =>by kernel_rfl
noncomputable def afB (e:EnvV) (f:FrV) (a:Int) (b:Int):Option ((Unit)×(EnvV×FrV×Unit)) :=
 if f.line=1 then
  if (if 1<e.c.tasks then e.c.tasks else 1)≠0 then
   some ((()),(e,({ f with line:=2,j:=(Int.tmod (wi (f.j+1)) (if 1<e.c.tasks then e.c.tasks else 1)) }:FrV),()))
  else none
 else
 if f.line=2 then
  if a=1 then
   some ((()),(e,({ f with line:=7,n:=b }:FrV),()))
  else
  some ((()),(e,({ f with line:=3,n:=b }:FrV),()))
 else
 if f.line=3 then
  if a=1 then
   some ((()),(e,({ f with line:=6,n:=b }:FrV),()))
  else
  if a=0 then
   some ((()),(e,({ f with line:=2,n:=b }:FrV),()))
  else
  if e.c.workers=1 then
   some ((()),(e,({ f with line:=8,n:=b }:FrV),()))
  else
  some ((()),(e,({ f with line:=4,n:=b }:FrV),()))
 else
 if f.line=4 then
  if a=1 then
   some ((()),(e,({ f with line:=5,d:=(Int.tmod b 64),i:=wi (Int.tdiv b 64) }:FrV),()))
  else
  some ((()),(e,({ f with line:=8,d:=(Int.tmod b 64),i:=wi (Int.tdiv b 64) }:FrV),()))
 else
 if f.line=5 then
  if a=1 then
   (aaX e 14 f.a b f.i f.d).bind fun r1 =>
   some ((()),(r1.2.1,({ f with line:=6,n:=b }:FrV),()))
  else
  if a=2 then
   some ((()),(e,({ f with line:=9,n:=b }:FrV),()))
  else
  some ((()),(e,({ f with line:=1,n:=b }:FrV),()))
 else
 if f.line=6 then
  if a=1 then
   some ((()),(e,({ f with line:=7 }:FrV),()))
  else
  some ((()),(e,({ f with line:=1 }:FrV),()))
 else
 some ((()),(e,({ f with line:=1 }:FrV),()))
noncomputable abbrev ain:Con SR1:=⟨171,[.ref 12,.ref 8,.sh sI_,.sh sI_],[],fun x =>afB x.1 x.2.1 x.2.2.1 x.2.2.2.1⟩
theorem alz:CO Tryz.prog ain:=abc abb Tryz.func171 [abC] ⟨aby,trivial⟩ [] trivial (fun _ =>[]) [] fun x =>by kernel_rfl
noncomputable def afl (e:EnvV) (f:FrV):Option ((ResV×Unit)×(EnvV×FrV×Unit)) :=
 if ((e.c.subs.length:Nat):Int)≤(wi (f.i+1)) then
  some (((⟨true,0,0⟩:ResV),()),(e,({ f with line:=1,b:=0,i:=wi (f.i+1) }:FrV),()))
 else
 some (((⟨false,0,0⟩:ResV),()),(e,({ f with line:=1,b:=0,i:=wi (f.i+1) }:FrV),()))
noncomputable abbrev ai7:Con SR1:=⟨207,[.ref 12,.ref 8],[.val 10],fun x =>afl x.1 x.2.1⟩
noncomputable def amy:List (Nat×Func):=[(149,Tryz.f149)]
theorem amz:CO Tryz.prog ai7:=abc abb Tryz.func207 [] trivial amy ⟨Tryz.func149,trivial⟩ (fun _ =>[]) [] fun x =>by kernel_rfl
noncomputable def afC (e:EnvV) (f:FrV) (a:Int) (b:Int):Option ((ResV×Unit)×(EnvV×FrV×Unit)) :=
 if 0≤f.i∧f.i<((e.c.subs.length:Nat):Int) then
  if ((akM e.c.subs f.i).prog)=((akM e.c.subs f.i).prog) then
   if ((akM e.c.subs f.i).level)=((akM e.c.subs f.i).level) then
   if ((akM e.c.subs f.i).deadline)=((akM e.c.subs f.i).deadline) then
   if f.i=f.i then
   if f.line=1 then
   some (((⟨false,0,0⟩:ResV),()),(e,({ f with line:=2 }:FrV),()))
   else
   if f.line=3 then
   if a=3 then
   (aaX e 2 e.c.workers 0 f.i 2).bind fun r1 =>
   some (((⟨false,0,0⟩:ResV),()),(r1.2.1,({ f with line:=8 }:FrV),()))
   else
   (agt ((akM e.c.subs f.i).prog) (-1)).bind fun r2 =>
   if 0≤b∧b<((e.recs.length:Nat):Int) then
   some (((⟨false,0,0⟩:ResV),()),(({ e with recs:=e.recs.set b.toNat r2.1.1 }:EnvV),({ f with line:=4,n:=b }:FrV),()))
   else none
   else
   if f.line=6 then
   if a=0 then
   (aaX e 1 e.c.workers f.n f.i ((akM e.c.subs f.i).level)).bind fun r3 =>
   some (((⟨false,0,0⟩:ResV),()),(r3.2.1,({ f with line:=7,b:=1 }:FrV),()))
   else
   some (((⟨false,0,0⟩:ResV),()),(e,({ f with line:=8 }:FrV),()))
   else
   if f.line=8 then
   if f.b=1 then
   some (((⟨false,0,0⟩:ResV),()),(e,({ f with line:=9 }:FrV),()))
   else
   (afl e f).bind fun r4 =>
   some ((r4.1.1,()),(r4.2.1,r4.2.2.1,()))
   else
   (afl e f).bind fun r5 =>
   some ((r5.1.1,()),(r5.2.1,r5.2.2.1,()))
   else none
   else none
   else none
  else none
 else none
noncomputable abbrev aio:Con SR1:=⟨172,[.ref 12,.ref 8,.sh sI_,.sh sI_],[.val 10],fun x =>afC x.1 x.2.1 x.2.2.1 x.2.2.2.1⟩
theorem alB:CO Tryz.prog aio:=abc abb Tryz.func172 [abC,ai6,ai7] ⟨aby,ajT,amz,trivial⟩ [] trivial (fun _ =>[]) [] fun x =>by kernel_rfl
noncomputable def am8 (e:EnvV) (f:FrV) (a:Int) (b:Int):Option ((ResV×Unit)×(EnvV×FrV×Unit)) :=
 if f.kind=5 then
  if f.line=2 then
   some (((⟨true,a,0⟩:ResV),()),(e,f,()))
  else
  if a=3 then
   some (((⟨true,a,0⟩:ResV),()),(e,f,()))
  else
  some (((⟨false,0,0⟩:ResV),()),(e,({ f with line:=2 }:FrV),()))
 else
 if f.kind=6 then
  if f.line=3 then
   some (((⟨false,0,0⟩:ResV),()),(e,({ f with line:=1 }:FrV),()))
  else
  if a=1 then
   some (((⟨true,1,b⟩:ResV),()),(e,f,()))
  else
  some (((⟨false,0,0⟩:ResV),()),(e,({ f with line:=3 }:FrV),()))
 else
 if f.kind=15 then
  some (((⟨true,a,f.t⟩:ResV),()),(e,f,()))
 else
 if f.kind=17 then
  (ahU e f a).bind fun r1 =>
  some ((r1.1.1,()),(r1.2.1,r1.2.2.1,()))
 else
 if f.kind=18 then
  if a=3 then
   (aaX e 19 f.a f.b 0 f.t).bind fun r2 =>
   some (((⟨true,1,0⟩:ResV),()),(r2.2.1,f,()))
  else
  some (((⟨true,1,0⟩:ResV),()),(e,f,()))
 else
 if f.kind=22 then
  (agu e f a b).bind fun r3 =>
  some ((r3.1.1,()),(r3.2.1,r3.2.2.1,()))
 else
 if f.kind=23 then
  (ahV f a b).bind fun r4 =>
  some ((r4.1.1,()),(e,r4.2.1,()))
 else
 if f.kind=24 then
  (ai8 e f a b).bind fun r5 =>
  some ((r5.1.1,()),(r5.2.1,r5.2.2.1,()))
 else
 if f.kind=25 then
  (afB e f a b).bind fun r6 =>
  some (((⟨false,0,0⟩:ResV),()),(r6.2.1,r6.2.2.1,()))
 else
 if f.kind=26 then
  (afC e f a b).bind fun r7 =>
  some ((r7.1.1,()),(r7.2.1,r7.2.2.1,()))
 else
 some (((⟨false,0,0⟩:ResV),()),(e,f,()))
noncomputable abbrev asW:Con SR1:=⟨113,[.ref 12,.ref 8,.sh sI_,.sh sI_],[.val 10],fun x =>am8 x.1 x.2.1 x.2.2.1 x.2.2.2.1⟩
noncomputable def av8:List (Nat×Func):=[(149,Tryz.f149)]
theorem av9:CO Tryz.prog asW:=abc abb Tryz.func113 [aku,abC,ai9,akv,alA,ain,aio] ⟨aob,aby,amB,aod,apV,alz,alB,trivial⟩ av8 ⟨Tryz.func149,trivial⟩ (fun _ =>[]) [] fun x =>by kernel_rfl
noncomputable def adg (m:MaV) (e:EnvV):Option ((Bool×Unit)×(MaV×EnvV×Unit)) :=
 if m.over=true then
  some ((true,()),(m,e,()))
 else
 (lpF (σ:=MaV×EnvV×Unit) (β:=MaV×EnvV×Unit) (fun self3 x1 =>
  if 0≤wi (((x1.1.f.length:Nat):Int)-1)∧wi (((x1.1.f.length:Nat):Int)-1)<((x1.1.f.length:Nat):Int) then
   agr (
   (aix x1.2.1 (au3 x1.1.f (wi (((x1.1.f.length:Nat):Int)-1)))).bind fun r5 =>
   if (!r5.1.2.1)=true then
   some (({ x1.1 with f:=x1.1.f.set (wi (((x1.1.f.length:Nat):Int)-1)).toNat r5.2.2.1 }:MaV),r5.2.1,())
   else
   if ((((x1.1.f.set (wi (((x1.1.f.length:Nat):Int)-1)).toNat r5.2.2.1).length+([({ r5.1.1 with line:=1 }:FrV)]:List FrV).length:Nat)):Int)<100000000000 then
   self3 (({ x1.1 with f:=(x1.1.f.set (wi (((x1.1.f.length:Nat):Int)-1)).toNat r5.2.2.1)++([({ r5.1.1 with line:=1 }:FrV)]) }:MaV),r5.2.1,())
   else none
   ) (
   (aix x1.2.1 (au3 x1.1.f (wi (((x1.1.f.length:Nat):Int)-1)))).bind fun r4 =>
   if (!r4.1.2.1)=true then
   some (({ x1.1 with f:=x1.1.f.set (wi (((x1.1.f.length:Nat):Int)-1)).toNat r4.2.2.1 }:MaV),r4.2.1,())
   else
   if ((((x1.1.f.set (wi (((x1.1.f.length:Nat):Int)-1)).toNat r4.2.2.1).length+([({ r4.1.1 with line:=1 }:FrV)]:List FrV).length:Nat)):Int)<100000000000 then
   self3 (({ x1.1 with f:=(x1.1.f.set (wi (((x1.1.f.length:Nat):Int)-1)).toNat r4.2.2.1)++([({ r4.1.1 with line:=1 }:FrV)]) }:MaV),r4.2.1,())
   else none
   )
  else none
 ) 18446744073709551616 (m,e,())).bind fun z2 =>
 if 0≤wi (((z2.1.f.length:Nat):Int)-1)∧wi (((z2.1.f.length:Nat):Int)-1)<((z2.1.f.length:Nat):Int) then
  agr (
   (alx z2.2.1 (au3 z2.1.f (wi (((z2.1.f.length:Nat):Int)-1)))).bind fun r12 =>
   (lpF (σ:=ResV×MaV×EnvV×Unit) (β:=(ResV×MaV×EnvV×Unit)⊕((Bool×Unit)×(MaV×EnvV×Unit))) (fun self15 x13 =>
   if x13.1.done=true then
   if 0≤wi (((x13.2.1.f.length:Nat):Int)-1)∧wi (((x13.2.1.f.length:Nat):Int)-1)≤((x13.2.1.f.length:Nat):Int) then
   if (((x13.2.1.f.take (wi (((x13.2.1.f.length:Nat):Int)-1):Int).toNat).length:Nat):Int)=0 then
   if x13.1.value=x13.1.value then
   if x13.1.code=x13.1.code then
   if x13.1.value=x13.1.value then
   Option.map Sum.inr (
   some ((true,()),(({ x13.1 with f:=x13.2.1.f.take (wi (((x13.2.1.f.length:Nat):Int)-1):Int).toNat,over:=true }:MaV),x13.2.2.1,()))
   )
   else none
   else none
   else none
   else
   if 0≤wi ((((x13.2.1.f.take (wi (((x13.2.1.f.length:Nat):Int)-1):Int).toNat).length:Nat):Int)-1)∧wi ((((x13.2.1.f.take (wi (((x13.2.1.f.length:Nat):Int)-1):Int).toNat).length:Nat):Int)-1)<(((x13.2.1.f.take (wi (((x13.2.1.f.length:Nat):Int)-1):Int).toNat).length:Nat):Int) then
   (am8 x13.2.2.1 (au3 (x13.2.1.f.take (wi (((x13.2.1.f.length:Nat):Int)-1):Int).toNat) (wi ((((x13.2.1.f.take (wi (((x13.2.1.f.length:Nat):Int)-1):Int).toNat).length:Nat):Int)-1))) x13.1.code x13.1.value).bind fun r16 =>
   self15 (r16.1.1,({ x13.2.1 with f:=(x13.2.1.f.take (wi (((x13.2.1.f.length:Nat):Int)-1):Int).toNat).set (wi ((((x13.2.1.f.take (wi (((x13.2.1.f.length:Nat):Int)-1):Int).toNat).length:Nat):Int)-1)).toNat r16.2.2.1 }:MaV),r16.2.1,())
   else none
   else none
   else
   some (Sum.inl (x13.1,x13.2.1,x13.2.2.1,()))
   ) 18446744073709551616 (r12.1.1,({ z2.1 with f:=z2.1.f.set (wi (((z2.1.f.length:Nat):Int)-1)).toNat r12.2.2.1 }:MaV),r12.2.1,())).bind fun z14 =>match z14 with
   | .inr o17 =>some o17
   | .inl z14 =>
   some ((false,()),(z14.2.1,z14.2.2.1,()))
  ) (
   (alx z2.2.1 (au3 z2.1.f (wi (((z2.1.f.length:Nat):Int)-1)))).bind fun r6 =>
   (lpF (σ:=ResV×MaV×EnvV×Unit) (β:=(ResV×MaV×EnvV×Unit)⊕((Bool×Unit)×(MaV×EnvV×Unit))) (fun self9 x7 =>
   if x7.1.done=true then
   if 0≤wi (((x7.2.1.f.length:Nat):Int)-1)∧wi (((x7.2.1.f.length:Nat):Int)-1)≤((x7.2.1.f.length:Nat):Int) then
   if (((x7.2.1.f.take (wi (((x7.2.1.f.length:Nat):Int)-1):Int).toNat).length:Nat):Int)=0 then
   if x7.1.value=x7.1.value then
   if x7.1.code=x7.1.code then
   if x7.1.value=x7.1.value then
   Option.map Sum.inr (
   some ((true,()),(({ x7.1 with f:=x7.2.1.f.take (wi (((x7.2.1.f.length:Nat):Int)-1):Int).toNat,over:=true }:MaV),x7.2.2.1,()))
   )
   else none
   else none
   else none
   else
   if 0≤wi ((((x7.2.1.f.take (wi (((x7.2.1.f.length:Nat):Int)-1):Int).toNat).length:Nat):Int)-1)∧wi ((((x7.2.1.f.take (wi (((x7.2.1.f.length:Nat):Int)-1):Int).toNat).length:Nat):Int)-1)<(((x7.2.1.f.take (wi (((x7.2.1.f.length:Nat):Int)-1):Int).toNat).length:Nat):Int) then
   (am8 x7.2.2.1 (au3 (x7.2.1.f.take (wi (((x7.2.1.f.length:Nat):Int)-1):Int).toNat) (wi ((((x7.2.1.f.take (wi (((x7.2.1.f.length:Nat):Int)-1):Int).toNat).length:Nat):Int)-1))) x7.1.code x7.1.value).bind fun r10 =>
   self9 (r10.1.1,({ x7.2.1 with f:=(x7.2.1.f.take (wi (((x7.2.1.f.length:Nat):Int)-1):Int).toNat).set (wi ((((x7.2.1.f.take (wi (((x7.2.1.f.length:Nat):Int)-1):Int).toNat).length:Nat):Int)-1)).toNat r10.2.2.1 }:MaV),r10.2.1,())
   else none
   else none
   else
   some (Sum.inl (x7.1,x7.2.1,x7.2.2.1,()))
   ) 18446744073709551616 (r6.1.1,({ z2.1 with f:=z2.1.f.set (wi (((z2.1.f.length:Nat):Int)-1)).toNat r6.2.2.1 }:MaV),r6.2.1,())).bind fun z8 =>match z8 with
   | .inr o11 =>some o11
   | .inl z8 =>
   some ((false,()),(z8.2.1,z8.2.2.1,()))
  )
 else none
noncomputable abbrev agW:Con SR1:=⟨67,[.ref 11,.ref 12],[.sh .b],fun x =>adg x.1 x.2.1⟩
theorem ajS:CO Tryz.prog agW:=abc abb Tryz.func67 [apQ,asV,asW] ⟨aun,av7,av9,trivial⟩ [] trivial (fun _ =>[]) [(3,.loop [.ob 0 11,.ob 1 12] 18446744073709551616 0),(8,.loopR [.rg 7 (.own 10),.ob 0 11,.ob 1 12] 18446744073709551616 2)] fun x =>by kernel_rfl
end
end Go.Proofs.YtjjbdbbmdhncjaaGreat
