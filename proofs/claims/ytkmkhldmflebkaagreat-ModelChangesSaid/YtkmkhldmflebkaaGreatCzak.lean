/- The reference: machines. The reference: machines. What the reference's functions answer is what was said plainly,1. The machines of the reference,said plainly,2: probing,choosing,entering,going back,a step. No program occurs here. -/
import Derived.Test.YtkmkhldmflebkaaGreatCzaj
import Derived.Test.YtkmkhldmflebkaaGreatCzai
set_option linter.all false
namespace Go.Proofs.YtkmkhldmflebkaaGreat
section
open Go Go.RowKit
set_option maxRecDepth 100000
variable [Tb]
noncomputable def acg (e:EnvV) (f:FrV):Option ((ResV×Unit)×(EnvV×FrV×Unit)) :=
 if ((e.c.subs.length:Nat):Int)≤f.i then
  some (((⟨true,0,0⟩:ResV),()),(e,f,()))
 else
 if 0≤f.i∧f.i<((e.c.subs.length:Nat):Int) then
  if ((acK e.c.subs f.i).prog)=((acK e.c.subs f.i).prog) then
   if ((acK e.c.subs f.i).level)=((acK e.c.subs f.i).level) then
   if ((acK e.c.subs f.i).deadline)=((acK e.c.subs f.i).deadline) then
   if f.i=f.i then
   if f.line=2 then
   (aaN e.m 1 2 0 0).bind fun r1 =>
   if e.c.heap=e.c.heap then
   if e.c.heap≤(wi (r1.1.1)) then
   (aaM ({ e with m:=r1.2.1 }:EnvV) 2 e.c.workers 0 f.i 1).bind fun r2 =>
   some (((⟨false,0,0⟩:ResV),()),(r2.2.1,({ f with line:=8,b:=0 }:FrV),()))
   else
   some (((⟨false,0,0⟩:ResV),()),(({ e with m:=r1.2.1 }:EnvV),({ f with line:=wi (f.line+1),b:=0 }:FrV),()))
   else none
   else
   if f.line=4 then
   (adY e.c f.n).bind fun r3 =>
   if ((acK e.c.subs f.i).level)=((acK e.c.subs f.i).level) then
   (aaN e.m 2 r3.1.1 (wu ((acK e.c.subs f.i).level)) 0).bind fun r4 =>
   some (((⟨false,0,0⟩:ResV),()),(({ e with m:=r4.2.1 }:EnvV),({ f with line:=wi (f.line+1) }:FrV),()))
   else none
   else
   if f.line=5 then
   (afE e.c f.n).bind fun r5 =>
   if e.now=e.now then
   (aaN e.m 2 r5.1.1 (wu (e.now)) 0).bind fun r6 =>
   some (((⟨false,0,0⟩:ResV),()),(({ e with m:=r6.2.1 }:EnvV),({ f with line:=wi (f.line+1) }:FrV),()))
   else none
   else
   (adX e.c f.n).bind fun r7 =>
   (aaN e.m 2 r7.1.1 1 0).bind fun r8 =>
   some (((⟨false,0,0⟩:ResV),()),(({ e with m:=r8.2.1 }:EnvV),({ f with line:=wi (f.line+1) }:FrV),()))
   else none
   else none
   else none
  else none
 else none
noncomputable abbrev alD:Con SR1:=⟨128,[.ref 12,.ref 8],[.val 10],fun x =>acg x.1 x.2.1⟩
noncomputable def ao4:List (Nat×Func):=[(112,Tryz.f112),(114,Tryz.f114),(117,Tryz.f117)]
theorem ao5:CO Tryz.prog alD:=aaC aaB Tryz.func128 [acW,abm,afb,aiA,aej] ⟨acn,abh,aeP,aja,ad6,trivial⟩ ao4 ⟨Tryz.func112,Tryz.func114,Tryz.func117,trivial⟩ (fun _ =>[]) [] fun x =>by kernel_rfl
noncomputable def aks (e:EnvV) (f:FrV):Option ((ResV×Unit)×(EnvV×FrV×Unit)) :=
 if f.kind=0 then
  (aqm e f).bind fun r1 =>
  some ((r1.1.1,()),(r1.2.1,r1.2.2.1,()))
 else
 if f.kind=1 then
  (avQ e f).bind fun r2 =>
  some ((r2.1.1,()),(r2.2.1,r2.2.2.1,()))
 else
 if f.kind=2 then
  (amt e f).bind fun r3 =>
  some ((r3.1.1,()),(r3.2.1,r3.2.2.1,()))
 else
 if f.kind=3 then
  (aiF f.b).bind fun r4 =>
  if f.a=f.a then
   (aaN e.m 4 f.a r4.1.1 0).bind fun r5 =>
   some (((⟨true,0,0⟩:ResV),()),(({ e with m:=r5.2.1 }:EnvV),f,()))
  else none
 else
 if f.kind=4 then
  (ahi e f).bind fun r6 =>
  some ((r6.1.1,()),(r6.2.1,r6.2.2.1,()))
 else
 if f.kind=6 then
  (adu e.c f.a).bind fun r7 =>
  (aaN e.m 1 r7.1.1 0 0).bind fun r8 =>
  if r8.1.1=0 then
   some (((⟨true,2,0⟩:ResV),()),(({ e with m:=r8.2.1 }:EnvV),({ f with u:=r8.1.1 }:FrV),()))
  else
  (ajN r8.1.1).bind fun r9 =>
  some (((⟨false,0,0⟩:ResV),()),(({ e with m:=r8.2.1 }:EnvV),({ f with line:=2,i:=r9.1.1,u:=r8.1.1 }:FrV),()))
 else
 if f.kind=7 then
  if f.kind=7 then
   (aaN e.m 3 1 0 (wu (wi (f.a+1)))).bind fun r10 =>
   if r10.1.2.1=true then
   some (((⟨true,1,0⟩:ResV),()),(({ e with m:=r10.2.1 }:EnvV),f,()))
   else
   if f.kind=8 then
   some (((⟨true,5,0⟩:ResV),()),(({ e with m:=r10.2.1 }:EnvV),f,()))
   else
   some (((⟨false,0,0⟩:ResV),()),(({ e with m:=r10.2.1 }:EnvV),f,()))
  else
  if f.kind=9 then
   (aaN e.m 2 1 0 0).bind fun r11 =>
   some (((⟨true,0,0⟩:ResV),()),(({ e with m:=r11.2.1 }:EnvV),f,()))
  else
  if f.kind=10 then
   (aiu e f).bind fun r12 =>
   some ((r12.1.1,()),(r12.2.1,r12.2.2.1,()))
  else
  if f.kind=11 then
   (ais e f).bind fun r13 =>
   some ((r13.1.1,()),(r13.2.1,r13.2.2.1,()))
  else
  if f.kind=12 then
   if f.kind=12 then
   (adj e f).bind fun r14 =>
   some ((r14.1.1,()),(r14.2.1,r14.2.2.1,()))
   else
   if f.kind=16 then
   if f.kind=16 then
   (acH e f).bind fun r15 =>
   some ((r15.1.1,()),(r15.2.1,r15.2.2.1,()))
   else
   if f.kind=18 then
   (acS e f).bind fun r16 =>
   some ((r16.1.1,()),(r16.2.1,r16.2.2.1,()))
   else
   if f.kind=19 then
   (acT e f).bind fun r17 =>
   some ((r17.1.1,()),(r17.2.1,r17.2.2.1,()))
   else
   if f.kind=20 then
   (adW e f).bind fun r18 =>
   some ((r18.1.1,()),(r18.2.1,r18.2.2.1,()))
   else
   if f.kind=21 then
   (acU e f).bind fun r19 =>
   some ((r19.1.1,()),(r19.2.1,r19.2.2.1,()))
   else
   if f.kind=22 then
   (acV e f).bind fun r20 =>
   some ((r20.1.1,()),(r20.2.1,r20.2.2.1,()))
   else
   if f.kind=24 then
   (af5 e f).bind fun r21 =>
   some ((r21.1.1,()),(r21.2.1,r21.2.2.1,()))
   else
   if f.kind=26 then
   (acg e f).bind fun r22 =>
   some ((r22.1.1,()),(r22.2.1,r22.2.2.1,()))
   else
   some (((⟨true,4,0⟩:ResV),()),(e,f,()))
   else
   if f.kind=17 then
   (acH e f).bind fun r23 =>
   some ((r23.1.1,()),(r23.2.1,r23.2.2.1,()))
   else
   if f.kind=18 then
   (acS e f).bind fun r24 =>
   some ((r24.1.1,()),(r24.2.1,r24.2.2.1,()))
   else
   if f.kind=19 then
   (acT e f).bind fun r25 =>
   some ((r25.1.1,()),(r25.2.1,r25.2.2.1,()))
   else
   if f.kind=20 then
   (adW e f).bind fun r26 =>
   some ((r26.1.1,()),(r26.2.1,r26.2.2.1,()))
   else
   if f.kind=21 then
   (acU e f).bind fun r27 =>
   some ((r27.1.1,()),(r27.2.1,r27.2.2.1,()))
   else
   if f.kind=22 then
   (acV e f).bind fun r28 =>
   some ((r28.1.1,()),(r28.2.1,r28.2.2.1,()))
   else
   if f.kind=24 then
   (af5 e f).bind fun r29 =>
   some ((r29.1.1,()),(r29.2.1,r29.2.2.1,()))
   else
   if f.kind=26 then
   (acg e f).bind fun r30 =>
   some ((r30.1.1,()),(r30.2.1,r30.2.2.1,()))
   else
   some (((⟨true,4,0⟩:ResV),()),(e,f,()))
  else
  if f.kind=13 then
   if f.kind=13 then
   (adj e f).bind fun r31 =>
   some ((r31.1.1,()),(r31.2.1,r31.2.2.1,()))
   else
   if f.kind=16 then
   if f.kind=16 then
   (acH e f).bind fun r32 =>
   some ((r32.1.1,()),(r32.2.1,r32.2.2.1,()))
   else
   if f.kind=18 then
   (acS e f).bind fun r33 =>
   some ((r33.1.1,()),(r33.2.1,r33.2.2.1,()))
   else
   if f.kind=19 then
   (acT e f).bind fun r34 =>
   some ((r34.1.1,()),(r34.2.1,r34.2.2.1,()))
   else
   if f.kind=20 then
   (adW e f).bind fun r35 =>
   some ((r35.1.1,()),(r35.2.1,r35.2.2.1,()))
   else
   if f.kind=21 then
   (acU e f).bind fun r36 =>
   some ((r36.1.1,()),(r36.2.1,r36.2.2.1,()))
   else
   if f.kind=22 then
   (acV e f).bind fun r37 =>
   some ((r37.1.1,()),(r37.2.1,r37.2.2.1,()))
   else
   if f.kind=24 then
   (af5 e f).bind fun r38 =>
   some ((r38.1.1,()),(r38.2.1,r38.2.2.1,()))
   else
   if f.kind=26 then
   (acg e f).bind fun r39 =>
   some ((r39.1.1,()),(r39.2.1,r39.2.2.1,()))
   else
   some (((⟨true,4,0⟩:ResV),()),(e,f,()))
   else
   if f.kind=17 then
   (acH e f).bind fun r40 =>
   some ((r40.1.1,()),(r40.2.1,r40.2.2.1,()))
   else
   if f.kind=18 then
   (acS e f).bind fun r41 =>
   some ((r41.1.1,()),(r41.2.1,r41.2.2.1,()))
   else
   if f.kind=19 then
   (acT e f).bind fun r42 =>
   some ((r42.1.1,()),(r42.2.1,r42.2.2.1,()))
   else
   if f.kind=20 then
   (adW e f).bind fun r43 =>
   some ((r43.1.1,()),(r43.2.1,r43.2.2.1,()))
   else
   if f.kind=21 then
   (acU e f).bind fun r44 =>
   some ((r44.1.1,()),(r44.2.1,r44.2.2.1,()))
   else
   if f.kind=22 then
   (acV e f).bind fun r45 =>
   some ((r45.1.1,()),(r45.2.1,r45.2.2.1,()))
   else
   if f.kind=24 then
   (af5 e f).bind fun r46 =>
   some ((r46.1.1,()),(r46.2.1,r46.2.2.1,()))
   else
   if f.kind=26 then
   (acg e f).bind fun r47 =>
   some ((r47.1.1,()),(r47.2.1,r47.2.2.1,()))
   else
   some (((⟨true,4,0⟩:ResV),()),(e,f,()))
  else
  if f.kind=14 then
   if f.kind=14 then
   (adj e f).bind fun r48 =>
   some ((r48.1.1,()),(r48.2.1,r48.2.2.1,()))
   else
   if f.kind=16 then
   if f.kind=16 then
   (acH e f).bind fun r49 =>
   some ((r49.1.1,()),(r49.2.1,r49.2.2.1,()))
   else
   if f.kind=18 then
   (acS e f).bind fun r50 =>
   some ((r50.1.1,()),(r50.2.1,r50.2.2.1,()))
   else
   if f.kind=19 then
   (acT e f).bind fun r51 =>
   some ((r51.1.1,()),(r51.2.1,r51.2.2.1,()))
   else
   if f.kind=20 then
   (adW e f).bind fun r52 =>
   some ((r52.1.1,()),(r52.2.1,r52.2.2.1,()))
   else
   if f.kind=21 then
   (acU e f).bind fun r53 =>
   some ((r53.1.1,()),(r53.2.1,r53.2.2.1,()))
   else
   if f.kind=22 then
   (acV e f).bind fun r54 =>
   some ((r54.1.1,()),(r54.2.1,r54.2.2.1,()))
   else
   if f.kind=24 then
   (af5 e f).bind fun r55 =>
   some ((r55.1.1,()),(r55.2.1,r55.2.2.1,()))
   else
   if f.kind=26 then
   (acg e f).bind fun r56 =>
   some ((r56.1.1,()),(r56.2.1,r56.2.2.1,()))
   else
   some (((⟨true,4,0⟩:ResV),()),(e,f,()))
   else
   if f.kind=17 then
   (acH e f).bind fun r57 =>
   some ((r57.1.1,()),(r57.2.1,r57.2.2.1,()))
   else
   if f.kind=18 then
   (acS e f).bind fun r58 =>
   some ((r58.1.1,()),(r58.2.1,r58.2.2.1,()))
   else
   if f.kind=19 then
   (acT e f).bind fun r59 =>
   some ((r59.1.1,()),(r59.2.1,r59.2.2.1,()))
   else
   if f.kind=20 then
   (adW e f).bind fun r60 =>
   some ((r60.1.1,()),(r60.2.1,r60.2.2.1,()))
   else
   if f.kind=21 then
   (acU e f).bind fun r61 =>
   some ((r61.1.1,()),(r61.2.1,r61.2.2.1,()))
   else
   if f.kind=22 then
   (acV e f).bind fun r62 =>
   some ((r62.1.1,()),(r62.2.1,r62.2.2.1,()))
   else
   if f.kind=24 then
   (af5 e f).bind fun r63 =>
   some ((r63.1.1,()),(r63.2.1,r63.2.2.1,()))
   else
   if f.kind=26 then
   (acg e f).bind fun r64 =>
   some ((r64.1.1,()),(r64.2.1,r64.2.2.1,()))
   else
   some (((⟨true,4,0⟩:ResV),()),(e,f,()))
  else
  if f.kind=15 then
   (adj e f).bind fun r65 =>
   some ((r65.1.1,()),(r65.2.1,r65.2.2.1,()))
  else
  if f.kind=16 then
   if f.kind=16 then
   (acH e f).bind fun r66 =>
   some ((r66.1.1,()),(r66.2.1,r66.2.2.1,()))
   else
   if f.kind=18 then
   (acS e f).bind fun r67 =>
   some ((r67.1.1,()),(r67.2.1,r67.2.2.1,()))
   else
   if f.kind=19 then
   (acT e f).bind fun r68 =>
   some ((r68.1.1,()),(r68.2.1,r68.2.2.1,()))
   else
   if f.kind=20 then
   (adW e f).bind fun r69 =>
   some ((r69.1.1,()),(r69.2.1,r69.2.2.1,()))
   else
   if f.kind=21 then
   (acU e f).bind fun r70 =>
   some ((r70.1.1,()),(r70.2.1,r70.2.2.1,()))
   else
   if f.kind=22 then
   (acV e f).bind fun r71 =>
   some ((r71.1.1,()),(r71.2.1,r71.2.2.1,()))
   else
   if f.kind=24 then
   (af5 e f).bind fun r72 =>
   some ((r72.1.1,()),(r72.2.1,r72.2.2.1,()))
   else
   if f.kind=26 then
   (acg e f).bind fun r73 =>
   some ((r73.1.1,()),(r73.2.1,r73.2.2.1,()))
   else
   some (((⟨true,4,0⟩:ResV),()),(e,f,()))
  else
  if f.kind=17 then
   (acH e f).bind fun r74 =>
   some ((r74.1.1,()),(r74.2.1,r74.2.2.1,()))
  else
  if f.kind=18 then
   (acS e f).bind fun r75 =>
   some ((r75.1.1,()),(r75.2.1,r75.2.2.1,()))
  else
  if f.kind=19 then
   (acT e f).bind fun r76 =>
   some ((r76.1.1,()),(r76.2.1,r76.2.2.1,()))
  else
  if f.kind=20 then
   (adW e f).bind fun r77 =>
   some ((r77.1.1,()),(r77.2.1,r77.2.2.1,()))
  else
  if f.kind=21 then
   (acU e f).bind fun r78 =>
   some ((r78.1.1,()),(r78.2.1,r78.2.2.1,()))
  else
  if f.kind=22 then
   (acV e f).bind fun r79 =>
   some ((r79.1.1,()),(r79.2.1,r79.2.2.1,()))
  else
  if f.kind=24 then
   (af5 e f).bind fun r80 =>
   some ((r80.1.1,()),(r80.2.1,r80.2.2.1,()))
  else
  if f.kind=26 then
   (acg e f).bind fun r81 =>
   some ((r81.1.1,()),(r81.2.1,r81.2.2.1,()))
  else
  some (((⟨true,4,0⟩:ResV),()),(e,f,()))
 else
 if f.kind=8 then
  (aaN e.m 3 1 0 (wu (wi (f.a+1)))).bind fun r82 =>
  if r82.1.2.1=true then
   some (((⟨true,1,0⟩:ResV),()),(({ e with m:=r82.2.1 }:EnvV),f,()))
  else
  if f.kind=8 then
   some (((⟨true,5,0⟩:ResV),()),(({ e with m:=r82.2.1 }:EnvV),f,()))
  else
  some (((⟨false,0,0⟩:ResV),()),(({ e with m:=r82.2.1 }:EnvV),f,()))
 else
 if f.kind=9 then
  (aaN e.m 2 1 0 0).bind fun r83 =>
  some (((⟨true,0,0⟩:ResV),()),(({ e with m:=r83.2.1 }:EnvV),f,()))
 else
 if f.kind=10 then
  (aiu e f).bind fun r84 =>
  some ((r84.1.1,()),(r84.2.1,r84.2.2.1,()))
 else
 if f.kind=11 then
  (ais e f).bind fun r85 =>
  some ((r85.1.1,()),(r85.2.1,r85.2.2.1,()))
 else
 if f.kind=12 then
  if f.kind=12 then
   (adj e f).bind fun r86 =>
   some ((r86.1.1,()),(r86.2.1,r86.2.2.1,()))
  else
  if f.kind=16 then
   if f.kind=16 then
   (acH e f).bind fun r87 =>
   some ((r87.1.1,()),(r87.2.1,r87.2.2.1,()))
   else
   if f.kind=18 then
   (acS e f).bind fun r88 =>
   some ((r88.1.1,()),(r88.2.1,r88.2.2.1,()))
   else
   if f.kind=19 then
   (acT e f).bind fun r89 =>
   some ((r89.1.1,()),(r89.2.1,r89.2.2.1,()))
   else
   if f.kind=20 then
   (adW e f).bind fun r90 =>
   some ((r90.1.1,()),(r90.2.1,r90.2.2.1,()))
   else
   if f.kind=21 then
   (acU e f).bind fun r91 =>
   some ((r91.1.1,()),(r91.2.1,r91.2.2.1,()))
   else
   if f.kind=22 then
   (acV e f).bind fun r92 =>
   some ((r92.1.1,()),(r92.2.1,r92.2.2.1,()))
   else
   if f.kind=24 then
   (af5 e f).bind fun r93 =>
   some ((r93.1.1,()),(r93.2.1,r93.2.2.1,()))
   else
   if f.kind=26 then
   (acg e f).bind fun r94 =>
   some ((r94.1.1,()),(r94.2.1,r94.2.2.1,()))
   else
   some (((⟨true,4,0⟩:ResV),()),(e,f,()))
  else
  if f.kind=17 then
   (acH e f).bind fun r95 =>
   some ((r95.1.1,()),(r95.2.1,r95.2.2.1,()))
  else
  if f.kind=18 then
   (acS e f).bind fun r96 =>
   some ((r96.1.1,()),(r96.2.1,r96.2.2.1,()))
  else
  if f.kind=19 then
   (acT e f).bind fun r97 =>
   some ((r97.1.1,()),(r97.2.1,r97.2.2.1,()))
  else
  if f.kind=20 then
   (adW e f).bind fun r98 =>
   some ((r98.1.1,()),(r98.2.1,r98.2.2.1,()))
  else
  if f.kind=21 then
   (acU e f).bind fun r99 =>
   some ((r99.1.1,()),(r99.2.1,r99.2.2.1,()))
  else
  if f.kind=22 then
   (acV e f).bind fun r100 =>
   some ((r100.1.1,()),(r100.2.1,r100.2.2.1,()))
  else
  if f.kind=24 then
   (af5 e f).bind fun r101 =>
   some ((r101.1.1,()),(r101.2.1,r101.2.2.1,()))
  else
  if f.kind=26 then
   (acg e f).bind fun r102 =>
   some ((r102.1.1,()),(r102.2.1,r102.2.2.1,()))
  else
  some (((⟨true,4,0⟩:ResV),()),(e,f,()))
 else
 if f.kind=13 then
  if f.kind=13 then
   (adj e f).bind fun r103 =>
   some ((r103.1.1,()),(r103.2.1,r103.2.2.1,()))
  else
  if f.kind=16 then
   if f.kind=16 then
   (acH e f).bind fun r104 =>
   some ((r104.1.1,()),(r104.2.1,r104.2.2.1,()))
   else
   if f.kind=18 then
   (acS e f).bind fun r105 =>
   some ((r105.1.1,()),(r105.2.1,r105.2.2.1,()))
   else
   if f.kind=19 then
   (acT e f).bind fun r106 =>
   some ((r106.1.1,()),(r106.2.1,r106.2.2.1,()))
   else
   if f.kind=20 then
   (adW e f).bind fun r107 =>
   some ((r107.1.1,()),(r107.2.1,r107.2.2.1,()))
   else
   if f.kind=21 then
   (acU e f).bind fun r108 =>
   some ((r108.1.1,()),(r108.2.1,r108.2.2.1,()))
   else
   if f.kind=22 then
   (acV e f).bind fun r109 =>
   some ((r109.1.1,()),(r109.2.1,r109.2.2.1,()))
   else
   if f.kind=24 then
   (af5 e f).bind fun r110 =>
   some ((r110.1.1,()),(r110.2.1,r110.2.2.1,()))
   else
   if f.kind=26 then
   (acg e f).bind fun r111 =>
   some ((r111.1.1,()),(r111.2.1,r111.2.2.1,()))
   else
   some (((⟨true,4,0⟩:ResV),()),(e,f,()))
  else
  if f.kind=17 then
   (acH e f).bind fun r112 =>
   some ((r112.1.1,()),(r112.2.1,r112.2.2.1,()))
  else
  if f.kind=18 then
   (acS e f).bind fun r113 =>
   some ((r113.1.1,()),(r113.2.1,r113.2.2.1,()))
  else
  if f.kind=19 then
   (acT e f).bind fun r114 =>
   some ((r114.1.1,()),(r114.2.1,r114.2.2.1,()))
  else
  if f.kind=20 then
   (adW e f).bind fun r115 =>
   some ((r115.1.1,()),(r115.2.1,r115.2.2.1,()))
  else
  if f.kind=21 then
   (acU e f).bind fun r116 =>
   some ((r116.1.1,()),(r116.2.1,r116.2.2.1,()))
  else
  if f.kind=22 then
   (acV e f).bind fun r117 =>
   some ((r117.1.1,()),(r117.2.1,r117.2.2.1,()))
  else
  if f.kind=24 then
   (af5 e f).bind fun r118 =>
   some ((r118.1.1,()),(r118.2.1,r118.2.2.1,()))
  else
  if f.kind=26 then
   (acg e f).bind fun r119 =>
   some ((r119.1.1,()),(r119.2.1,r119.2.2.1,()))
  else
  some (((⟨true,4,0⟩:ResV),()),(e,f,()))
 else
 if f.kind=14 then
  if f.kind=14 then
   (adj e f).bind fun r120 =>
   some ((r120.1.1,()),(r120.2.1,r120.2.2.1,()))
  else
  if f.kind=16 then
   if f.kind=16 then
   (acH e f).bind fun r121 =>
   some ((r121.1.1,()),(r121.2.1,r121.2.2.1,()))
   else
   if f.kind=18 then
   (acS e f).bind fun r122 =>
   some ((r122.1.1,()),(r122.2.1,r122.2.2.1,()))
   else
   if f.kind=19 then
   (acT e f).bind fun r123 =>
   some ((r123.1.1,()),(r123.2.1,r123.2.2.1,()))
   else
   if f.kind=20 then
   (adW e f).bind fun r124 =>
   some ((r124.1.1,()),(r124.2.1,r124.2.2.1,()))
   else
   if f.kind=21 then
   (acU e f).bind fun r125 =>
   some ((r125.1.1,()),(r125.2.1,r125.2.2.1,()))
   else
   if f.kind=22 then
   (acV e f).bind fun r126 =>
   some ((r126.1.1,()),(r126.2.1,r126.2.2.1,()))
   else
   if f.kind=24 then
   (af5 e f).bind fun r127 =>
   some ((r127.1.1,()),(r127.2.1,r127.2.2.1,()))
   else
   if f.kind=26 then
   (acg e f).bind fun r128 =>
   some ((r128.1.1,()),(r128.2.1,r128.2.2.1,()))
   else
   some (((⟨true,4,0⟩:ResV),()),(e,f,()))
  else
  if f.kind=17 then
   (acH e f).bind fun r129 =>
   some ((r129.1.1,()),(r129.2.1,r129.2.2.1,()))
  else
  if f.kind=18 then
   (acS e f).bind fun r130 =>
   some ((r130.1.1,()),(r130.2.1,r130.2.2.1,()))
  else
  if f.kind=19 then
   (acT e f).bind fun r131 =>
   some ((r131.1.1,()),(r131.2.1,r131.2.2.1,()))
  else
  if f.kind=20 then
   (adW e f).bind fun r132 =>
   some ((r132.1.1,()),(r132.2.1,r132.2.2.1,()))
  else
  if f.kind=21 then
   (acU e f).bind fun r133 =>
   some ((r133.1.1,()),(r133.2.1,r133.2.2.1,()))
  else
  if f.kind=22 then
   (acV e f).bind fun r134 =>
   some ((r134.1.1,()),(r134.2.1,r134.2.2.1,()))
  else
  if f.kind=24 then
   (af5 e f).bind fun r135 =>
   some ((r135.1.1,()),(r135.2.1,r135.2.2.1,()))
  else
  if f.kind=26 then
   (acg e f).bind fun r136 =>
   some ((r136.1.1,()),(r136.2.1,r136.2.2.1,()))
  else
  some (((⟨true,4,0⟩:ResV),()),(e,f,()))
 else
 if f.kind=15 then
  (adj e f).bind fun r137 =>
  some ((r137.1.1,()),(r137.2.1,r137.2.2.1,()))
 else
 if f.kind=16 then
  if f.kind=16 then
   (acH e f).bind fun r138 =>
   some ((r138.1.1,()),(r138.2.1,r138.2.2.1,()))
  else
  if f.kind=18 then
   (acS e f).bind fun r139 =>
   some ((r139.1.1,()),(r139.2.1,r139.2.2.1,()))
  else
  if f.kind=19 then
   (acT e f).bind fun r140 =>
   some ((r140.1.1,()),(r140.2.1,r140.2.2.1,()))
  else
  if f.kind=20 then
   (adW e f).bind fun r141 =>
   some ((r141.1.1,()),(r141.2.1,r141.2.2.1,()))
  else
  if f.kind=21 then
   (acU e f).bind fun r142 =>
   some ((r142.1.1,()),(r142.2.1,r142.2.2.1,()))
  else
  if f.kind=22 then
   (acV e f).bind fun r143 =>
   some ((r143.1.1,()),(r143.2.1,r143.2.2.1,()))
  else
  if f.kind=24 then
   (af5 e f).bind fun r144 =>
   some ((r144.1.1,()),(r144.2.1,r144.2.2.1,()))
  else
  if f.kind=26 then
   (acg e f).bind fun r145 =>
   some ((r145.1.1,()),(r145.2.1,r145.2.2.1,()))
  else
  some (((⟨true,4,0⟩:ResV),()),(e,f,()))
 else
 if f.kind=17 then
  (acH e f).bind fun r146 =>
  some ((r146.1.1,()),(r146.2.1,r146.2.2.1,()))
 else
 if f.kind=18 then
  (acS e f).bind fun r147 =>
  some ((r147.1.1,()),(r147.2.1,r147.2.2.1,()))
 else
 if f.kind=19 then
  (acT e f).bind fun r148 =>
  some ((r148.1.1,()),(r148.2.1,r148.2.2.1,()))
 else
 if f.kind=20 then
  (adW e f).bind fun r149 =>
  some ((r149.1.1,()),(r149.2.1,r149.2.2.1,()))
 else
 if f.kind=21 then
  (acU e f).bind fun r150 =>
  some ((r150.1.1,()),(r150.2.1,r150.2.2.1,()))
 else
 if f.kind=22 then
  (acV e f).bind fun r151 =>
  some ((r151.1.1,()),(r151.2.1,r151.2.2.1,()))
 else
 if f.kind=24 then
  (af5 e f).bind fun r152 =>
  some ((r152.1.1,()),(r152.2.1,r152.2.2.1,()))
 else
 if f.kind=26 then
  (acg e f).bind fun r153 =>
  some ((r153.1.1,()),(r153.2.1,r153.2.2.1,()))
 else
 some (((⟨true,4,0⟩:ResV),()),(e,f,()))
noncomputable abbrev aqo:Con SR1:=⟨84,[.ref 12,.ref 8],[.val 10],fun x =>aks x.1 x.2.1⟩
noncomputable def atc:List (Nat×Func):=[(110,Tryz.f110),(112,Tryz.f112),(114,Tryz.f114),(116,Tryz.f116),(117,Tryz.f117)]
theorem atd:CO Tryz.prog aqo:=aaC aaB Tryz.func84 [aql,as8,anM,aiE,acW,ajJ,aeQ,amE,alB,aly,anK,anS,anL,anN,aqk,anO,anQ,as5,alD] ⟨as7,avP,arx,aiD,acn,amx,afc,anY,ao1,aoY,art,arL,arv,arz,as4,arB,arH,avN,ao5,trivial⟩ atc ⟨Tryz.func110,Tryz.func112,Tryz.func114,Tryz.func116,Tryz.func117,trivial⟩ (fun _ =>[]) [] fun x =>by kernel_rfl
noncomputable def ahj (e:EnvV) (f:FrV) (a:Int):Option ((ResV×Unit)×(EnvV×FrV×Unit)) :=
 if f.line=1 then
  if a=1 then
   some (((⟨false,0,0⟩:ResV),()),(e,({ f with line:=2 }:FrV),()))
  else
  some (((⟨false,0,0⟩:ResV),()),(e,({ f with line:=4 }:FrV),()))
 else
 if a=3 then
  (aaM e 19 f.a f.b 0 f.d).bind fun r1 =>
  some (((⟨false,0,0⟩:ResV),()),(r1.2.1,({ f with line:=4 }:FrV),()))
 else
 some (((⟨false,0,0⟩:ResV),()),(e,({ f with line:=4 }:FrV),()))
noncomputable abbrev ajK:Con SR1:=⟨129,[.ref 12,.ref 8,.sh sI_],[.val 10],fun x =>ahj x.1 x.2.1 x.2.2.1⟩
theorem amz:CO Tryz.prog ajK:=aaC aaB Tryz.func129 [abm] ⟨abh,trivial⟩ [] trivial (fun _ =>[]) [] fun x =>by kernel_rfl
noncomputable def af7 (e:EnvV) (f:FrV) (a:Int) (b:Int):Option ((ResV×Unit)×(EnvV×FrV×Unit)) :=
 if f.line=2 then
  if a=5 then
   some (((⟨true,5,0⟩:ResV),()),(e,f,()))
  else
  some (((⟨false,0,0⟩:ResV),()),(e,({ f with line:=3 }:FrV),()))
 else
 if f.line=3 then
  if a=2 then
   some (((⟨false,0,0⟩:ResV),()),(e,({ f with line:=6,n:=b }:FrV),()))
  else
  some (((⟨false,0,0⟩:ResV),()),(e,({ f with line:=4,n:=b }:FrV),()))
 else
 if f.line=5 then
  if a=3 then
   some (((⟨false,0,0⟩:ResV),()),(e,({ f with line:=6,d:=f.n }:FrV),()))
  else
  if (wi (f.i+1))<e.c.batch then
   some (((⟨false,0,0⟩:ResV),()),(e,({ f with line:=3,i:=wi (f.i+1),j:=f.t }:FrV),()))
  else
  some (((⟨false,0,0⟩:ResV),()),(e,({ f with line:=6,i:=wi (f.i+1),j:=f.t }:FrV),()))
 else
 if f.line=6 then
  if 0<f.i then
   some (((⟨false,0,0⟩:ResV),()),(e,({ f with line:=7 }:FrV),()))
  else
  if 0≤f.d then
   some (((⟨true,1,f.d⟩:ResV),()),(e,f,()))
  else
  some (((⟨true,2,0⟩:ResV),()),(e,f,()))
 else
 if 0≤f.d then
  some (((⟨true,1,f.d⟩:ResV),()),(e,f,()))
 else
 some (((⟨true,0,f.i⟩:ResV),()),(e,f,()))
noncomputable abbrev aiy:Con SR1:=⟨131,[.ref 12,.ref 8,.sh sI_,.sh sI_],[.val 10],fun x =>af7 x.1 x.2.1 x.2.2.1 x.2.2.2.1⟩
noncomputable def ale:List (Nat×Func):=[(112,Tryz.f112)]
theorem alf:CO Tryz.prog aiy:=aaC aaB Tryz.func131 [] trivial ale ⟨Tryz.func112,trivial⟩ (fun _ =>[]) [] fun x =>by kernel_rfl
noncomputable def ahk (f:FrV) (a:Int) (b:Int):Option ((ResV×Unit)×(FrV×Unit)) :=
 if f.line=1 then
  if a=2 then
   some (((⟨true,2,0⟩:ResV),()),(f,()))
  else
  some (((⟨false,0,0⟩:ResV),()),(({ f with line:=2,n:=b }:FrV),()))
 else
 if a=1 then
  some (((⟨true,1,b⟩:ResV),()),(f,()))
 else
 some (((⟨false,0,0⟩:ResV),()),(({ f with line:=1 }:FrV),()))
noncomputable abbrev ajL:Con SR1:=⟨132,[.ref 8,.sh sI_,.sh sI_],[.val 10],fun x =>ahk x.1 x.2.1 x.2.2.1⟩
noncomputable def amA:List (Nat×Func):=[(112,Tryz.f112)]
theorem amB:CO Tryz.prog ajL:=aaC aaB Tryz.func132 [] trivial amA ⟨Tryz.func112,trivial⟩ (fun _ =>[]) [] fun x =>by kernel_rfl
noncomputable def aix (e:EnvV) (f:FrV) (a:Int) (b:Int):Option ((ResV×Unit)×(EnvV×FrV×Unit)) :=
 if 0≤wi (((f.l.length:Nat):Int)-1)∧wi (((f.l.length:Nat):Int)-1)<((f.l.length:Nat):Int) then
  if 0≤aaf f.l (wi (((f.l.length:Nat):Int)-1))∧aaf f.l (wi (((f.l.length:Nat):Int)-1))<((e.recs.length:Nat):Int) then
   if f.line=5 then
   agr (
   if 0≤aaf f.l (wi (((f.l.length:Nat):Int)-1))∧aaf f.l (wi (((f.l.length:Nat):Int)-1))<(((ws7 e.recs (aaf f.l (wi (((f.l.length:Nat):Int)-1)))).length:Nat):Int) then
   if ((aat (ws7 e.recs (aaf f.l (wi (((f.l.length:Nat):Int)-1)))) (aaf f.l (wi (((f.l.length:Nat):Int)-1)))).prog)<0 then
   if ((aat e.recs (aaf f.l (wi (((f.l.length:Nat):Int)-1)))).pc)=((aat (ws7 e.recs (aaf f.l (wi (((f.l.length:Nat):Int)-1)))) (aaf f.l (wi (((f.l.length:Nat):Int)-1)))).pc) then
   none
   else none
   else
   if ((e.c.progs.length:Nat):Int)≤((aat (ws7 e.recs (aaf f.l (wi (((f.l.length:Nat):Int)-1)))) (aaf f.l (wi (((f.l.length:Nat):Int)-1)))).prog) then
   if ((aat e.recs (aaf f.l (wi (((f.l.length:Nat):Int)-1)))).pc)=((aat (ws7 e.recs (aaf f.l (wi (((f.l.length:Nat):Int)-1)))) (aaf f.l (wi (((f.l.length:Nat):Int)-1)))).pc) then
   none
   else none
   else
   if 0≤(aat (ws7 e.recs (aaf f.l (wi (((f.l.length:Nat):Int)-1)))) (aaf f.l (wi (((f.l.length:Nat):Int)-1)))).prog∧(aat (ws7 e.recs (aaf f.l (wi (((f.l.length:Nat):Int)-1)))) (aaf f.l (wi (((f.l.length:Nat):Int)-1)))).prog<((e.c.progs.length:Nat):Int) then
   if ((aat e.recs (aaf f.l (wi (((f.l.length:Nat):Int)-1)))).pc)=((aat (ws7 e.recs (aaf f.l (wi (((f.l.length:Nat):Int)-1)))) (aaf f.l (wi (((f.l.length:Nat):Int)-1)))).pc) then
   if 0≤(aat e.recs (aaf f.l (wi (((f.l.length:Nat):Int)-1)))).pc∧(aat e.recs (aaf f.l (wi (((f.l.length:Nat):Int)-1)))).pc<(((atL [] e.c.progs ((aat (ws7 e.recs (aaf f.l (wi (((f.l.length:Nat):Int)-1)))) (aaf f.l (wi (((f.l.length:Nat):Int)-1)))).prog)).length:Nat):Int) then
   if ((acA (atL [] e.c.progs ((aat (ws7 e.recs (aaf f.l (wi (((f.l.length:Nat):Int)-1)))) (aaf f.l (wi (((f.l.length:Nat):Int)-1)))).prog)) ((aat e.recs (aaf f.l (wi (((f.l.length:Nat):Int)-1)))).pc)).op)=((acA (atL [] e.c.progs ((aat (ws7 e.recs (aaf f.l (wi (((f.l.length:Nat):Int)-1)))) (aaf f.l (wi (((f.l.length:Nat):Int)-1)))).prog)) ((aat e.recs (aaf f.l (wi (((f.l.length:Nat):Int)-1)))).pc)).op) then
   if ((acA (atL [] e.c.progs ((aat (ws7 e.recs (aaf f.l (wi (((f.l.length:Nat):Int)-1)))) (aaf f.l (wi (((f.l.length:Nat):Int)-1)))).prog)) ((aat e.recs (aaf f.l (wi (((f.l.length:Nat):Int)-1)))).pc)).a)=((acA (atL [] e.c.progs ((aat (ws7 e.recs (aaf f.l (wi (((f.l.length:Nat):Int)-1)))) (aaf f.l (wi (((f.l.length:Nat):Int)-1)))).prog)) ((aat e.recs (aaf f.l (wi (((f.l.length:Nat):Int)-1)))).pc)).a) then
   if ((acA (atL [] e.c.progs ((aat (ws7 e.recs (aaf f.l (wi (((f.l.length:Nat):Int)-1)))) (aaf f.l (wi (((f.l.length:Nat):Int)-1)))).prog)) ((aat e.recs (aaf f.l (wi (((f.l.length:Nat):Int)-1)))).pc)).b)=((acA (atL [] e.c.progs ((aat (ws7 e.recs (aaf f.l (wi (((f.l.length:Nat):Int)-1)))) (aaf f.l (wi (((f.l.length:Nat):Int)-1)))).prog)) ((aat e.recs (aaf f.l (wi (((f.l.length:Nat):Int)-1)))).pc)).b) then
   if ((aat e.recs (aaf f.l (wi (((f.l.length:Nat):Int)-1)))).pc)=((aat (ws7 e.recs (aaf f.l (wi (((f.l.length:Nat):Int)-1)))) (aaf f.l (wi (((f.l.length:Nat):Int)-1)))).pc) then
   if a=3 then
   if (((([]:List Int).length+((aat ((ws7 e.recs (aaf f.l (wi (((f.l.length:Nat):Int)-1)))).set (aaf f.l (wi (((f.l.length:Nat):Int)-1))).toNat ({ aat (ws7 e.recs (aaf f.l (wi (((f.l.length:Nat):Int)-1)))) (aaf f.l (wi (((f.l.length:Nat):Int)-1))) with pc:=wi (((aat (ws7 e.recs (aaf f.l (wi (((f.l.length:Nat):Int)-1)))) (aaf f.l (wi (((f.l.length:Nat):Int)-1)))).pc)+1) }:RecV)) (aaf f.l (wi (((f.l.length:Nat):Int)-1)))).kids).length:Nat)):Int)<1000000000000 then
   if ((((([])++((aat ((ws7 e.recs (aaf f.l (wi (((f.l.length:Nat):Int)-1)))).set (aaf f.l (wi (((f.l.length:Nat):Int)-1))).toNat ({ aat (ws7 e.recs (aaf f.l (wi (((f.l.length:Nat):Int)-1)))) (aaf f.l (wi (((f.l.length:Nat):Int)-1))) with pc:=wi (((aat (ws7 e.recs (aaf f.l (wi (((f.l.length:Nat):Int)-1)))) (aaf f.l (wi (((f.l.length:Nat):Int)-1)))).pc)+1) }:RecV)) (aaf f.l (wi (((f.l.length:Nat):Int)-1)))).kids)).length+([(-1)]:List Int).length:Nat)):Int)<1000000000000 then
   (aaM ({ e with recs:=((ws7 e.recs (aaf f.l (wi (((f.l.length:Nat):Int)-1)))).set (aaf f.l (wi (((f.l.length:Nat):Int)-1))).toNat ({ aat (ws7 e.recs (aaf f.l (wi (((f.l.length:Nat):Int)-1)))) (aaf f.l (wi (((f.l.length:Nat):Int)-1))) with pc:=wi (((aat (ws7 e.recs (aaf f.l (wi (((f.l.length:Nat):Int)-1)))) (aaf f.l (wi (((f.l.length:Nat):Int)-1)))).pc)+1) }:RecV)).set (aaf f.l (wi (((f.l.length:Nat):Int)-1))).toNat ({ aat ((ws7 e.recs (aaf f.l (wi (((f.l.length:Nat):Int)-1)))).set (aaf f.l (wi (((f.l.length:Nat):Int)-1))).toNat ({ aat (ws7 e.recs (aaf f.l (wi (((f.l.length:Nat):Int)-1)))) (aaf f.l (wi (((f.l.length:Nat):Int)-1))) with pc:=wi (((aat (ws7 e.recs (aaf f.l (wi (((f.l.length:Nat):Int)-1)))) (aaf f.l (wi (((f.l.length:Nat):Int)-1)))).pc)+1) }:RecV)) (aaf f.l (wi (((f.l.length:Nat):Int)-1))) with kids:=(([])++((aat ((ws7 e.recs (aaf f.l (wi (((f.l.length:Nat):Int)-1)))).set (aaf f.l (wi (((f.l.length:Nat):Int)-1))).toNat ({ aat (ws7 e.recs (aaf f.l (wi (((f.l.length:Nat):Int)-1)))) (aaf f.l (wi (((f.l.length:Nat):Int)-1))) with pc:=wi (((aat (ws7 e.recs (aaf f.l (wi (((f.l.length:Nat):Int)-1)))) (aaf f.l (wi (((f.l.length:Nat):Int)-1)))).pc)+1) }:RecV)) (aaf f.l (wi (((f.l.length:Nat):Int)-1)))).kids))++([(-1)]) }:RecV) }:EnvV) 4 f.a (aaf f.l (wi (((f.l.length:Nat):Int)-1))) 0 0).bind fun r3 =>
   some (((⟨false,0,0⟩:ResV),()),(r3.2.1,({ f with line:=1 }:FrV),()))
   else none
   else none
   else
   if (((([]:List Int).length+((aat ((ws7 e.recs (aaf f.l (wi (((f.l.length:Nat):Int)-1)))).set (aaf f.l (wi (((f.l.length:Nat):Int)-1))).toNat ({ aat (ws7 e.recs (aaf f.l (wi (((f.l.length:Nat):Int)-1)))) (aaf f.l (wi (((f.l.length:Nat):Int)-1))) with pc:=wi (((aat (ws7 e.recs (aaf f.l (wi (((f.l.length:Nat):Int)-1)))) (aaf f.l (wi (((f.l.length:Nat):Int)-1)))).pc)+1) }:RecV)) (aaf f.l (wi (((f.l.length:Nat):Int)-1)))).kids).length:Nat)):Int)<1000000000000 then
   if ((((([])++((aat ((ws7 e.recs (aaf f.l (wi (((f.l.length:Nat):Int)-1)))).set (aaf f.l (wi (((f.l.length:Nat):Int)-1))).toNat ({ aat (ws7 e.recs (aaf f.l (wi (((f.l.length:Nat):Int)-1)))) (aaf f.l (wi (((f.l.length:Nat):Int)-1))) with pc:=wi (((aat (ws7 e.recs (aaf f.l (wi (((f.l.length:Nat):Int)-1)))) (aaf f.l (wi (((f.l.length:Nat):Int)-1)))).pc)+1) }:RecV)) (aaf f.l (wi (((f.l.length:Nat):Int)-1)))).kids)).length+([b]:List Int).length:Nat)):Int)<1000000000000 then
   (af6 ((acA (atL [] e.c.progs ((aat (ws7 e.recs (aaf f.l (wi (((f.l.length:Nat):Int)-1)))) (aaf f.l (wi (((f.l.length:Nat):Int)-1)))).prog)) ((aat e.recs (aaf f.l (wi (((f.l.length:Nat):Int)-1)))).pc)).a) (aaf f.l (wi (((f.l.length:Nat):Int)-1)))).bind fun r4 =>
   if 0≤b∧b<(((((ws7 e.recs (aaf f.l (wi (((f.l.length:Nat):Int)-1)))).set (aaf f.l (wi (((f.l.length:Nat):Int)-1))).toNat ({ aat (ws7 e.recs (aaf f.l (wi (((f.l.length:Nat):Int)-1)))) (aaf f.l (wi (((f.l.length:Nat):Int)-1))) with pc:=wi (((aat (ws7 e.recs (aaf f.l (wi (((f.l.length:Nat):Int)-1)))) (aaf f.l (wi (((f.l.length:Nat):Int)-1)))).pc)+1) }:RecV)).set (aaf f.l (wi (((f.l.length:Nat):Int)-1))).toNat ({ aat ((ws7 e.recs (aaf f.l (wi (((f.l.length:Nat):Int)-1)))).set (aaf f.l (wi (((f.l.length:Nat):Int)-1))).toNat ({ aat (ws7 e.recs (aaf f.l (wi (((f.l.length:Nat):Int)-1)))) (aaf f.l (wi (((f.l.length:Nat):Int)-1))) with pc:=wi (((aat (ws7 e.recs (aaf f.l (wi (((f.l.length:Nat):Int)-1)))) (aaf f.l (wi (((f.l.length:Nat):Int)-1)))).pc)+1) }:RecV)) (aaf f.l (wi (((f.l.length:Nat):Int)-1))) with kids:=(([])++((aat ((ws7 e.recs (aaf f.l (wi (((f.l.length:Nat):Int)-1)))).set (aaf f.l (wi (((f.l.length:Nat):Int)-1))).toNat ({ aat (ws7 e.recs (aaf f.l (wi (((f.l.length:Nat):Int)-1)))) (aaf f.l (wi (((f.l.length:Nat):Int)-1))) with pc:=wi (((aat (ws7 e.recs (aaf f.l (wi (((f.l.length:Nat):Int)-1)))) (aaf f.l (wi (((f.l.length:Nat):Int)-1)))).pc)+1) }:RecV)) (aaf f.l (wi (((f.l.length:Nat):Int)-1)))).kids))++([b]) }:RecV)).length:Nat):Int) then
   if ((acA (atL [] e.c.progs ((aat (ws7 e.recs (aaf f.l (wi (((f.l.length:Nat):Int)-1)))) (aaf f.l (wi (((f.l.length:Nat):Int)-1)))).prog)) ((aat e.recs (aaf f.l (wi (((f.l.length:Nat):Int)-1)))).pc)).b)=((acA (atL [] e.c.progs ((aat (ws7 e.recs (aaf f.l (wi (((f.l.length:Nat):Int)-1)))) (aaf f.l (wi (((f.l.length:Nat):Int)-1)))).prog)) ((aat e.recs (aaf f.l (wi (((f.l.length:Nat):Int)-1)))).pc)).b) then
   some (((⟨false,0,0⟩:ResV),()),(({ e with recs:=(((ws7 e.recs (aaf f.l (wi (((f.l.length:Nat):Int)-1)))).set (aaf f.l (wi (((f.l.length:Nat):Int)-1))).toNat ({ aat (ws7 e.recs (aaf f.l (wi (((f.l.length:Nat):Int)-1)))) (aaf f.l (wi (((f.l.length:Nat):Int)-1))) with pc:=wi (((aat (ws7 e.recs (aaf f.l (wi (((f.l.length:Nat):Int)-1)))) (aaf f.l (wi (((f.l.length:Nat):Int)-1)))).pc)+1) }:RecV)).set (aaf f.l (wi (((f.l.length:Nat):Int)-1))).toNat ({ aat ((ws7 e.recs (aaf f.l (wi (((f.l.length:Nat):Int)-1)))).set (aaf f.l (wi (((f.l.length:Nat):Int)-1))).toNat ({ aat (ws7 e.recs (aaf f.l (wi (((f.l.length:Nat):Int)-1)))) (aaf f.l (wi (((f.l.length:Nat):Int)-1))) with pc:=wi (((aat (ws7 e.recs (aaf f.l (wi (((f.l.length:Nat):Int)-1)))) (aaf f.l (wi (((f.l.length:Nat):Int)-1)))).pc)+1) }:RecV)) (aaf f.l (wi (((f.l.length:Nat):Int)-1))) with kids:=(([])++((aat ((ws7 e.recs (aaf f.l (wi (((f.l.length:Nat):Int)-1)))).set (aaf f.l (wi (((f.l.length:Nat):Int)-1))).toNat ({ aat (ws7 e.recs (aaf f.l (wi (((f.l.length:Nat):Int)-1)))) (aaf f.l (wi (((f.l.length:Nat):Int)-1))) with pc:=wi (((aat (ws7 e.recs (aaf f.l (wi (((f.l.length:Nat):Int)-1)))) (aaf f.l (wi (((f.l.length:Nat):Int)-1)))).pc)+1) }:RecV)) (aaf f.l (wi (((f.l.length:Nat):Int)-1)))).kids))++([b]) }:RecV)).set b.toNat r4.1.1 }:EnvV),({ f with line:=6,d:=(acA (atL [] e.c.progs ((aat (ws7 e.recs (aaf f.l (wi (((f.l.length:Nat):Int)-1)))) (aaf f.l (wi (((f.l.length:Nat):Int)-1)))).prog)) ((aat e.recs (aaf f.l (wi (((f.l.length:Nat):Int)-1)))).pc)).b,n:=b }:FrV),()))
   else none
   else none
   else none
   else none
   else none
   else none
   else none
   else none
   else none
   else none
   else none
   else none
   ) (
   if ((aat e.recs (aaf f.l (wi (((f.l.length:Nat):Int)-1)))).pc)=((aat e.recs (aaf f.l (wi (((f.l.length:Nat):Int)-1)))).pc) then
   if 0≤aaf f.l (wi (((f.l.length:Nat):Int)-1))∧aaf f.l (wi (((f.l.length:Nat):Int)-1))<(((ws7 e.recs (aaf f.l (wi (((f.l.length:Nat):Int)-1)))).length:Nat):Int) then
   if ((aat (ws7 e.recs (aaf f.l (wi (((f.l.length:Nat):Int)-1)))) (aaf f.l (wi (((f.l.length:Nat):Int)-1)))).prog)<0 then
   if ((aat e.recs (aaf f.l (wi (((f.l.length:Nat):Int)-1)))).pc)=((aat (ws7 e.recs (aaf f.l (wi (((f.l.length:Nat):Int)-1)))) (aaf f.l (wi (((f.l.length:Nat):Int)-1)))).pc) then
   none
   else none
   else
   if ((e.c.progs.length:Nat):Int)≤((aat (ws7 e.recs (aaf f.l (wi (((f.l.length:Nat):Int)-1)))) (aaf f.l (wi (((f.l.length:Nat):Int)-1)))).prog) then
   if ((aat e.recs (aaf f.l (wi (((f.l.length:Nat):Int)-1)))).pc)=((aat (ws7 e.recs (aaf f.l (wi (((f.l.length:Nat):Int)-1)))) (aaf f.l (wi (((f.l.length:Nat):Int)-1)))).pc) then
   none
   else none
   else
   if 0≤(aat (ws7 e.recs (aaf f.l (wi (((f.l.length:Nat):Int)-1)))) (aaf f.l (wi (((f.l.length:Nat):Int)-1)))).prog∧(aat (ws7 e.recs (aaf f.l (wi (((f.l.length:Nat):Int)-1)))) (aaf f.l (wi (((f.l.length:Nat):Int)-1)))).prog<((e.c.progs.length:Nat):Int) then
   if ((aat e.recs (aaf f.l (wi (((f.l.length:Nat):Int)-1)))).pc)=((aat (ws7 e.recs (aaf f.l (wi (((f.l.length:Nat):Int)-1)))) (aaf f.l (wi (((f.l.length:Nat):Int)-1)))).pc) then
   if 0≤(aat e.recs (aaf f.l (wi (((f.l.length:Nat):Int)-1)))).pc∧(aat e.recs (aaf f.l (wi (((f.l.length:Nat):Int)-1)))).pc<(((atL [] e.c.progs ((aat (ws7 e.recs (aaf f.l (wi (((f.l.length:Nat):Int)-1)))) (aaf f.l (wi (((f.l.length:Nat):Int)-1)))).prog)).length:Nat):Int) then
   if a=3 then
   if (((([]:List Int).length+((aat ((ws7 e.recs (aaf f.l (wi (((f.l.length:Nat):Int)-1)))).set (aaf f.l (wi (((f.l.length:Nat):Int)-1))).toNat ({ aat (ws7 e.recs (aaf f.l (wi (((f.l.length:Nat):Int)-1)))) (aaf f.l (wi (((f.l.length:Nat):Int)-1))) with pc:=wi (((aat (ws7 e.recs (aaf f.l (wi (((f.l.length:Nat):Int)-1)))) (aaf f.l (wi (((f.l.length:Nat):Int)-1)))).pc)+1) }:RecV)) (aaf f.l (wi (((f.l.length:Nat):Int)-1)))).kids).length:Nat)):Int)<1000000000000 then
   if ((((([])++((aat ((ws7 e.recs (aaf f.l (wi (((f.l.length:Nat):Int)-1)))).set (aaf f.l (wi (((f.l.length:Nat):Int)-1))).toNat ({ aat (ws7 e.recs (aaf f.l (wi (((f.l.length:Nat):Int)-1)))) (aaf f.l (wi (((f.l.length:Nat):Int)-1))) with pc:=wi (((aat (ws7 e.recs (aaf f.l (wi (((f.l.length:Nat):Int)-1)))) (aaf f.l (wi (((f.l.length:Nat):Int)-1)))).pc)+1) }:RecV)) (aaf f.l (wi (((f.l.length:Nat):Int)-1)))).kids)).length+([(-1)]:List Int).length:Nat)):Int)<1000000000000 then
   (aaM ({ e with recs:=((ws7 e.recs (aaf f.l (wi (((f.l.length:Nat):Int)-1)))).set (aaf f.l (wi (((f.l.length:Nat):Int)-1))).toNat ({ aat (ws7 e.recs (aaf f.l (wi (((f.l.length:Nat):Int)-1)))) (aaf f.l (wi (((f.l.length:Nat):Int)-1))) with pc:=wi (((aat (ws7 e.recs (aaf f.l (wi (((f.l.length:Nat):Int)-1)))) (aaf f.l (wi (((f.l.length:Nat):Int)-1)))).pc)+1) }:RecV)).set (aaf f.l (wi (((f.l.length:Nat):Int)-1))).toNat ({ aat ((ws7 e.recs (aaf f.l (wi (((f.l.length:Nat):Int)-1)))).set (aaf f.l (wi (((f.l.length:Nat):Int)-1))).toNat ({ aat (ws7 e.recs (aaf f.l (wi (((f.l.length:Nat):Int)-1)))) (aaf f.l (wi (((f.l.length:Nat):Int)-1))) with pc:=wi (((aat (ws7 e.recs (aaf f.l (wi (((f.l.length:Nat):Int)-1)))) (aaf f.l (wi (((f.l.length:Nat):Int)-1)))).pc)+1) }:RecV)) (aaf f.l (wi (((f.l.length:Nat):Int)-1))) with kids:=(([])++((aat ((ws7 e.recs (aaf f.l (wi (((f.l.length:Nat):Int)-1)))).set (aaf f.l (wi (((f.l.length:Nat):Int)-1))).toNat ({ aat (ws7 e.recs (aaf f.l (wi (((f.l.length:Nat):Int)-1)))) (aaf f.l (wi (((f.l.length:Nat):Int)-1))) with pc:=wi (((aat (ws7 e.recs (aaf f.l (wi (((f.l.length:Nat):Int)-1)))) (aaf f.l (wi (((f.l.length:Nat):Int)-1)))).pc)+1) }:RecV)) (aaf f.l (wi (((f.l.length:Nat):Int)-1)))).kids))++([(-1)]) }:RecV) }:EnvV) 4 f.a (aaf f.l (wi (((f.l.length:Nat):Int)-1))) 0 0).bind fun r1 =>
   some (((⟨false,0,0⟩:ResV),()),(r1.2.1,({ f with line:=1 }:FrV),()))
   else none
   else none
   else
   if (((([]:List Int).length+((aat ((ws7 e.recs (aaf f.l (wi (((f.l.length:Nat):Int)-1)))).set (aaf f.l (wi (((f.l.length:Nat):Int)-1))).toNat ({ aat (ws7 e.recs (aaf f.l (wi (((f.l.length:Nat):Int)-1)))) (aaf f.l (wi (((f.l.length:Nat):Int)-1))) with pc:=wi (((aat (ws7 e.recs (aaf f.l (wi (((f.l.length:Nat):Int)-1)))) (aaf f.l (wi (((f.l.length:Nat):Int)-1)))).pc)+1) }:RecV)) (aaf f.l (wi (((f.l.length:Nat):Int)-1)))).kids).length:Nat)):Int)<1000000000000 then
   if ((((([])++((aat ((ws7 e.recs (aaf f.l (wi (((f.l.length:Nat):Int)-1)))).set (aaf f.l (wi (((f.l.length:Nat):Int)-1))).toNat ({ aat (ws7 e.recs (aaf f.l (wi (((f.l.length:Nat):Int)-1)))) (aaf f.l (wi (((f.l.length:Nat):Int)-1))) with pc:=wi (((aat (ws7 e.recs (aaf f.l (wi (((f.l.length:Nat):Int)-1)))) (aaf f.l (wi (((f.l.length:Nat):Int)-1)))).pc)+1) }:RecV)) (aaf f.l (wi (((f.l.length:Nat):Int)-1)))).kids)).length+([b]:List Int).length:Nat)):Int)<1000000000000 then
   (af6 ((acA (atL [] e.c.progs ((aat (ws7 e.recs (aaf f.l (wi (((f.l.length:Nat):Int)-1)))) (aaf f.l (wi (((f.l.length:Nat):Int)-1)))).prog)) ((aat e.recs (aaf f.l (wi (((f.l.length:Nat):Int)-1)))).pc)).a) (aaf f.l (wi (((f.l.length:Nat):Int)-1)))).bind fun r2 =>
   if 0≤b∧b<(((((ws7 e.recs (aaf f.l (wi (((f.l.length:Nat):Int)-1)))).set (aaf f.l (wi (((f.l.length:Nat):Int)-1))).toNat ({ aat (ws7 e.recs (aaf f.l (wi (((f.l.length:Nat):Int)-1)))) (aaf f.l (wi (((f.l.length:Nat):Int)-1))) with pc:=wi (((aat (ws7 e.recs (aaf f.l (wi (((f.l.length:Nat):Int)-1)))) (aaf f.l (wi (((f.l.length:Nat):Int)-1)))).pc)+1) }:RecV)).set (aaf f.l (wi (((f.l.length:Nat):Int)-1))).toNat ({ aat ((ws7 e.recs (aaf f.l (wi (((f.l.length:Nat):Int)-1)))).set (aaf f.l (wi (((f.l.length:Nat):Int)-1))).toNat ({ aat (ws7 e.recs (aaf f.l (wi (((f.l.length:Nat):Int)-1)))) (aaf f.l (wi (((f.l.length:Nat):Int)-1))) with pc:=wi (((aat (ws7 e.recs (aaf f.l (wi (((f.l.length:Nat):Int)-1)))) (aaf f.l (wi (((f.l.length:Nat):Int)-1)))).pc)+1) }:RecV)) (aaf f.l (wi (((f.l.length:Nat):Int)-1))) with kids:=(([])++((aat ((ws7 e.recs (aaf f.l (wi (((f.l.length:Nat):Int)-1)))).set (aaf f.l (wi (((f.l.length:Nat):Int)-1))).toNat ({ aat (ws7 e.recs (aaf f.l (wi (((f.l.length:Nat):Int)-1)))) (aaf f.l (wi (((f.l.length:Nat):Int)-1))) with pc:=wi (((aat (ws7 e.recs (aaf f.l (wi (((f.l.length:Nat):Int)-1)))) (aaf f.l (wi (((f.l.length:Nat):Int)-1)))).pc)+1) }:RecV)) (aaf f.l (wi (((f.l.length:Nat):Int)-1)))).kids))++([b]) }:RecV)).length:Nat):Int) then
   if ((acA (atL [] e.c.progs ((aat (ws7 e.recs (aaf f.l (wi (((f.l.length:Nat):Int)-1)))) (aaf f.l (wi (((f.l.length:Nat):Int)-1)))).prog)) ((aat e.recs (aaf f.l (wi (((f.l.length:Nat):Int)-1)))).pc)).b)=((acA (atL [] e.c.progs ((aat (ws7 e.recs (aaf f.l (wi (((f.l.length:Nat):Int)-1)))) (aaf f.l (wi (((f.l.length:Nat):Int)-1)))).prog)) ((aat e.recs (aaf f.l (wi (((f.l.length:Nat):Int)-1)))).pc)).b) then
   some (((⟨false,0,0⟩:ResV),()),(({ e with recs:=(((ws7 e.recs (aaf f.l (wi (((f.l.length:Nat):Int)-1)))).set (aaf f.l (wi (((f.l.length:Nat):Int)-1))).toNat ({ aat (ws7 e.recs (aaf f.l (wi (((f.l.length:Nat):Int)-1)))) (aaf f.l (wi (((f.l.length:Nat):Int)-1))) with pc:=wi (((aat (ws7 e.recs (aaf f.l (wi (((f.l.length:Nat):Int)-1)))) (aaf f.l (wi (((f.l.length:Nat):Int)-1)))).pc)+1) }:RecV)).set (aaf f.l (wi (((f.l.length:Nat):Int)-1))).toNat ({ aat ((ws7 e.recs (aaf f.l (wi (((f.l.length:Nat):Int)-1)))).set (aaf f.l (wi (((f.l.length:Nat):Int)-1))).toNat ({ aat (ws7 e.recs (aaf f.l (wi (((f.l.length:Nat):Int)-1)))) (aaf f.l (wi (((f.l.length:Nat):Int)-1))) with pc:=wi (((aat (ws7 e.recs (aaf f.l (wi (((f.l.length:Nat):Int)-1)))) (aaf f.l (wi (((f.l.length:Nat):Int)-1)))).pc)+1) }:RecV)) (aaf f.l (wi (((f.l.length:Nat):Int)-1))) with kids:=(([])++((aat ((ws7 e.recs (aaf f.l (wi (((f.l.length:Nat):Int)-1)))).set (aaf f.l (wi (((f.l.length:Nat):Int)-1))).toNat ({ aat (ws7 e.recs (aaf f.l (wi (((f.l.length:Nat):Int)-1)))) (aaf f.l (wi (((f.l.length:Nat):Int)-1))) with pc:=wi (((aat (ws7 e.recs (aaf f.l (wi (((f.l.length:Nat):Int)-1)))) (aaf f.l (wi (((f.l.length:Nat):Int)-1)))).pc)+1) }:RecV)) (aaf f.l (wi (((f.l.length:Nat):Int)-1)))).kids))++([b]) }:RecV)).set b.toNat r2.1.1 }:EnvV),({ f with line:=6,d:=(acA (atL [] e.c.progs ((aat (ws7 e.recs (aaf f.l (wi (((f.l.length:Nat):Int)-1)))) (aaf f.l (wi (((f.l.length:Nat):Int)-1)))).prog)) ((aat e.recs (aaf f.l (wi (((f.l.length:Nat):Int)-1)))).pc)).b,n:=b }:FrV),()))
   else none
   else none
   else none
   else none
   else none
   else none
   else none
   else none
   else none
   )
   else
   if f.line=6 then
   (aaM e 3 f.a f.n (aaf f.l (wi (((f.l.length:Nat):Int)-1))) f.d).bind fun r5 =>
   some (((⟨false,0,0⟩:ResV),()),(r5.2.1,({ f with line:=7 }:FrV),()))
   else
   if f.line=7 then
   if a=3 then
   some (((⟨false,0,0⟩:ResV),()),(e,({ f with line:=9 }:FrV),()))
   else
   some (((⟨false,0,0⟩:ResV),()),(e,({ f with line:=8 }:FrV),()))
   else
   if f.line=8 then
   some (((⟨false,0,0⟩:ResV),()),(e,({ f with line:=1 }:FrV),()))
   else
   if f.line=9 then
   if a=1 then
   agr (
   if f.n=f.n then
   agr (
   if (((([]:List Int).length+f.l.length:Nat)):Int)<1000000000000 then
   if f.n=f.n then
   if ((((([])++f.l).length+([f.n]:List Int).length:Nat)):Int)<1000000000000 then
   some (((⟨false,0,0⟩:ResV),()),(e,({ f with line:=1,l:=(([])++f.l)++([f.n]) }:FrV),()))
   else none
   else none
   else none
   ) (
   if (((([]:List Int).length+f.l.length:Nat)):Int)<1000000000000 then
   if f.n=f.n then
   if ((((([])++f.l).length+([f.n]:List Int).length:Nat)):Int)<1000000000000 then
   some (((⟨false,0,0⟩:ResV),()),(e,({ f with line:=1,l:=(([])++f.l)++([f.n]) }:FrV),()))
   else none
   else none
   else none
   )
   else none
   ) (
   if f.n=f.n then
   if (((([]:List Int).length+f.l.length:Nat)):Int)<1000000000000 then
   if f.n=f.n then
   if ((((([])++f.l).length+([f.n]:List Int).length:Nat)):Int)<1000000000000 then
   some (((⟨false,0,0⟩:ResV),()),(e,({ f with line:=1,l:=(([])++f.l)++([f.n]) }:FrV),()))
   else none
   else none
   else none
   else none
   )
   else
   some (((⟨false,0,0⟩:ResV),()),(e,({ f with line:=1 }:FrV),()))
   else
   if f.line=14 then
   (aaM e 7 f.a (aaf f.l (wi (((f.l.length:Nat):Int)-1))) 0 f.t).bind fun r6 =>
   (aew f).bind fun r7 =>
   some ((r7.1.1,()),(r6.2.1,r7.2.1,()))
   else
   if f.line=20 then
   if a=3 then
   some (((⟨false,0,0⟩:ResV),()),(e,({ f with line:=22,t:=b }:FrV),()))
   else
   some (((⟨false,0,0⟩:ResV),()),(e,({ f with line:=21,t:=b }:FrV),()))
   else
   if f.line=21 then
   (aew f).bind fun r8 =>
   some ((r8.1.1,()),(e,r8.2.1,()))
   else
   if f.line=22 then
   if a≠1 then
   (aew f).bind fun r9 =>
   some ((r9.1.1,()),(e,r9.2.1,()))
   else
   if 0≤wi (((f.l.length:Nat):Int)-1)∧wi (((f.l.length:Nat):Int)-1)≤((f.l.length:Nat):Int) then
   agr (
   if f.n=f.n then
   agr (
   if (((([]:List Int).length+(f.l.take (wi (((f.l.length:Nat):Int)-1):Int).toNat).length:Nat)):Int)<1000000000000 then
   if f.n=f.n then
   if ((((([])++(f.l.take (wi (((f.l.length:Nat):Int)-1):Int).toNat)).length+([f.n]:List Int).length:Nat)):Int)<1000000000000 then
   some (((⟨false,0,0⟩:ResV),()),(e,({ f with line:=1,l:=(([])++(f.l.take (wi (((f.l.length:Nat):Int)-1):Int).toNat))++([f.n]) }:FrV),()))
   else none
   else none
   else none
   ) (
   if (((([]:List Int).length+(f.l.take (wi (((f.l.length:Nat):Int)-1):Int).toNat).length:Nat)):Int)<1000000000000 then
   if f.n=f.n then
   if ((((([])++(f.l.take (wi (((f.l.length:Nat):Int)-1):Int).toNat)).length+([f.n]:List Int).length:Nat)):Int)<1000000000000 then
   some (((⟨false,0,0⟩:ResV),()),(e,({ f with line:=1,l:=(([])++(f.l.take (wi (((f.l.length:Nat):Int)-1):Int).toNat))++([f.n]) }:FrV),()))
   else none
   else none
   else none
   )
   else none
   ) (
   if f.n=f.n then
   if (((([]:List Int).length+(f.l.take (wi (((f.l.length:Nat):Int)-1):Int).toNat).length:Nat)):Int)<1000000000000 then
   if f.n=f.n then
   if ((((([])++(f.l.take (wi (((f.l.length:Nat):Int)-1):Int).toNat)).length+([f.n]:List Int).length:Nat)):Int)<1000000000000 then
   some (((⟨false,0,0⟩:ResV),()),(e,({ f with line:=1,l:=(([])++(f.l.take (wi (((f.l.length:Nat):Int)-1):Int).toNat))++([f.n]) }:FrV),()))
   else none
   else none
   else none
   else none
   )
   else none
   else
   some (((⟨false,0,0⟩:ResV),()),(e,f,()))
  else none
 else none
noncomputable abbrev akv:Con SR1:=⟨133,[.ref 12,.ref 8,.sh sI_,.sh sI_],[.val 10],fun x =>aix x.1 x.2.1 x.2.2.1 x.2.2.2.1⟩
noncomputable def anT:List (Nat×Func):=[(173,Tryz.f173),(174,Tryz.f174)]
theorem anU:CO Tryz.prog akv:=aaC aaB Tryz.func133 [abm,aiv,akr] ⟨abh,ai9,alA,trivial⟩ anT ⟨Tryz.func173,Tryz.func174,trivial⟩ (fun _ =>[]) [] fun x =>by kernel_rfl
noncomputable def aft (e:EnvV) (f:FrV) (a:Int) (b:Int):Option ((Unit)×(EnvV×FrV×Unit)) :=
 if f.line=1 then
  if (if 1<e.c.tasks then e.c.tasks else 1)≠0 then
   some ((()),(e,({ f with line:=2,j:=(Int.tmod (wi (f.j+1)) (if 1<e.c.tasks then e.c.tasks else 1)) }:FrV),()))
  else none
 else
 if f.line=2 then
  if a=1 then
   some ((()),(e,({ f with line:=7,n:=b }:FrV),()))
  else
  some ((()),(e,({ f with line:=3,n:=b }:FrV),()))
 else
 if f.line=3 then
  if a=1 then
   some ((()),(e,({ f with line:=6,n:=b }:FrV),()))
  else
  if a=0 then
   some ((()),(e,({ f with line:=2,n:=b }:FrV),()))
  else
  if e.c.workers=1 then
   some ((()),(e,({ f with line:=8,n:=b }:FrV),()))
  else
  some ((()),(e,({ f with line:=4,n:=b }:FrV),()))
 else
 if f.line=4 then
  if a=1 then
   some ((()),(e,({ f with line:=5,d:=(Int.tmod b 64),i:=wi (Int.tdiv b 64) }:FrV),()))
  else
  some ((()),(e,({ f with line:=8,d:=(Int.tmod b 64),i:=wi (Int.tdiv b 64) }:FrV),()))
 else
 if f.line=5 then
  if a=1 then
   (aaM e 14 f.a b f.i f.d).bind fun r1 =>
   some ((()),(r1.2.1,({ f with line:=6,n:=b }:FrV),()))
  else
  if a=2 then
   some ((()),(e,({ f with line:=9,n:=b }:FrV),()))
  else
  some ((()),(e,({ f with line:=1,n:=b }:FrV),()))
 else
 if f.line=6 then
  if a=1 then
   some ((()),(e,({ f with line:=7 }:FrV),()))
  else
  some ((()),(e,({ f with line:=1 }:FrV),()))
 else
 some ((()),(e,({ f with line:=1 }:FrV),()))
noncomputable abbrev ahP:Con SR1:=⟨134,[.ref 12,.ref 8,.sh sI_,.sh sI_],[],fun x =>aft x.1 x.2.1 x.2.2.1 x.2.2.2.1⟩
theorem aku:CO Tryz.prog ahP:=aaC aaB Tryz.func134 [abm] ⟨abh,trivial⟩ [] trivial (fun _ =>[]) [] fun x =>by kernel_rfl
noncomputable def afa (e:EnvV) (f:FrV):Option ((ResV×Unit)×(EnvV×FrV×Unit)) :=
 if ((e.c.subs.length:Nat):Int)≤(wi (f.i+1)) then
  some (((⟨true,0,0⟩:ResV),()),(e,({ f with line:=1,b:=0,i:=wi (f.i+1) }:FrV),()))
 else
 some (((⟨false,0,0⟩:ResV),()),(e,({ f with line:=1,b:=0,i:=wi (f.i+1) }:FrV),()))
noncomputable abbrev aiw:Con SR1:=⟨178,[.ref 12,.ref 8],[.val 10],fun x =>afa x.1 x.2.1⟩
noncomputable def alc:List (Nat×Func):=[(112,Tryz.f112)]
theorem ald:CO Tryz.prog aiw:=aaC aaB Tryz.func178 [] trivial alc ⟨Tryz.func112,trivial⟩ (fun _ =>[]) [] fun x =>by kernel_rfl
noncomputable def afu (e:EnvV) (f:FrV) (a:Int) (b:Int):Option ((ResV×Unit)×(EnvV×FrV×Unit)) :=
 if 0≤f.i∧f.i<((e.c.subs.length:Nat):Int) then
  if ((acK e.c.subs f.i).prog)=((acK e.c.subs f.i).prog) then
   if ((acK e.c.subs f.i).level)=((acK e.c.subs f.i).level) then
   if ((acK e.c.subs f.i).deadline)=((acK e.c.subs f.i).deadline) then
   if f.i=f.i then
   if f.line=1 then
   some (((⟨false,0,0⟩:ResV),()),(e,({ f with line:=2 }:FrV),()))
   else
   if f.line=3 then
   if a=3 then
   (aaM e 2 e.c.workers 0 f.i 2).bind fun r1 =>
   some (((⟨false,0,0⟩:ResV),()),(r1.2.1,({ f with line:=8 }:FrV),()))
   else
   (af6 ((acK e.c.subs f.i).prog) (-1)).bind fun r2 =>
   if 0≤b∧b<((e.recs.length:Nat):Int) then
   some (((⟨false,0,0⟩:ResV),()),(({ e with recs:=e.recs.set b.toNat r2.1.1 }:EnvV),({ f with line:=4,n:=b }:FrV),()))
   else none
   else
   if f.line=6 then
   if a=0 then
   (aaM e 1 e.c.workers f.n f.i ((acK e.c.subs f.i).level)).bind fun r3 =>
   some (((⟨false,0,0⟩:ResV),()),(r3.2.1,({ f with line:=7,b:=1 }:FrV),()))
   else
   some (((⟨false,0,0⟩:ResV),()),(e,({ f with line:=8 }:FrV),()))
   else
   if f.line=8 then
   if f.b=1 then
   some (((⟨false,0,0⟩:ResV),()),(e,({ f with line:=9 }:FrV),()))
   else
   (afa e f).bind fun r4 =>
   some ((r4.1.1,()),(r4.2.1,r4.2.2.1,()))
   else
   (afa e f).bind fun r5 =>
   some ((r5.1.1,()),(r5.2.1,r5.2.2.1,()))
   else none
   else none
   else none
  else none
 else none
noncomputable abbrev ahQ:Con SR1:=⟨135,[.ref 12,.ref 8,.sh sI_,.sh sI_],[.val 10],fun x =>afu x.1 x.2.1 x.2.2.1 x.2.2.2.1⟩
theorem akw:CO Tryz.prog ahQ:=aaC aaB Tryz.func135 [abm,aiv,aiw] ⟨abh,ai9,ald,trivial⟩ [] trivial (fun _ =>[]) [] fun x =>by kernel_rfl
noncomputable def alF (e:EnvV) (f:FrV) (a:Int) (b:Int):Option ((ResV×Unit)×(EnvV×FrV×Unit)) :=
 if f.kind=5 then
  if f.line=2 then
   some (((⟨true,a,0⟩:ResV),()),(e,f,()))
  else
  if a=3 then
   some (((⟨true,a,0⟩:ResV),()),(e,f,()))
  else
  some (((⟨false,0,0⟩:ResV),()),(e,({ f with line:=2 }:FrV),()))
 else
 if f.kind=6 then
  if f.line=3 then
   some (((⟨false,0,0⟩:ResV),()),(e,({ f with line:=1 }:FrV),()))
  else
  if a=1 then
   some (((⟨true,1,b⟩:ResV),()),(e,f,()))
  else
  some (((⟨false,0,0⟩:ResV),()),(e,({ f with line:=3 }:FrV),()))
 else
 if f.kind=15 then
  some (((⟨true,a,f.t⟩:ResV),()),(e,f,()))
 else
 if f.kind=17 then
  (ahj e f a).bind fun r1 =>
  some ((r1.1.1,()),(r1.2.1,r1.2.2.1,()))
 else
 if f.kind=18 then
  if a=3 then
   (aaM e 19 f.a f.b 0 f.t).bind fun r2 =>
   some (((⟨true,1,0⟩:ResV),()),(r2.2.1,f,()))
  else
  some (((⟨true,1,0⟩:ResV),()),(e,f,()))
 else
 if f.kind=22 then
  (af7 e f a b).bind fun r3 =>
  some ((r3.1.1,()),(r3.2.1,r3.2.2.1,()))
 else
 if f.kind=23 then
  (ahk f a b).bind fun r4 =>
  some ((r4.1.1,()),(e,r4.2.1,()))
 else
 if f.kind=24 then
  (aix e f a b).bind fun r5 =>
  some ((r5.1.1,()),(r5.2.1,r5.2.2.1,()))
 else
 if f.kind=25 then
  (aft e f a b).bind fun r6 =>
  some (((⟨false,0,0⟩:ResV),()),(r6.2.1,r6.2.2.1,()))
 else
 if f.kind=26 then
  (afu e f a b).bind fun r7 =>
  some ((r7.1.1,()),(r7.2.1,r7.2.2.1,()))
 else
 some (((⟨false,0,0⟩:ResV),()),(e,f,()))
noncomputable abbrev aqp:Con SR1:=⟨85,[.ref 12,.ref 8,.sh sI_,.sh sI_],[.val 10],fun x =>alF x.1 x.2.1 x.2.2.1 x.2.2.2.1⟩
noncomputable def ate:List (Nat×Func):=[(112,Tryz.f112)]
theorem atf:CO Tryz.prog aqp:=aaC aaB Tryz.func85 [ajK,abm,aiy,ajL,akv,ahP,ahQ] ⟨amz,abh,alf,amB,anU,aku,akw,trivial⟩ ate ⟨Tryz.func112,trivial⟩ (fun _ =>[]) [] fun x =>by kernel_rfl
noncomputable def ac2 (m:MaV) (e:EnvV):Option ((Bool×Unit)×(MaV×EnvV×Unit)) :=
 if m.over=true then
  some ((true,()),(m,e,()))
 else
 (lpF (σ:=MaV×EnvV×Unit) (β:=MaV×EnvV×Unit) (fun self3 x1 =>
  if 0≤wi (((x1.1.f.length:Nat):Int)-1)∧wi (((x1.1.f.length:Nat):Int)-1)<((x1.1.f.length:Nat):Int) then
   agr (
   (ah1 x1.2.1 (asf x1.1.f (wi (((x1.1.f.length:Nat):Int)-1)))).bind fun r5 =>
   if (!r5.1.2.1)=true then
   some (({ x1.1 with f:=x1.1.f.set (wi (((x1.1.f.length:Nat):Int)-1)).toNat r5.2.2.1 }:MaV),r5.2.1,())
   else
   if ((((x1.1.f.set (wi (((x1.1.f.length:Nat):Int)-1)).toNat r5.2.2.1).length+([({ r5.1.1 with line:=1 }:FrV)]:List FrV).length:Nat)):Int)<100000000000 then
   self3 (({ x1.1 with f:=(x1.1.f.set (wi (((x1.1.f.length:Nat):Int)-1)).toNat r5.2.2.1)++([({ r5.1.1 with line:=1 }:FrV)]) }:MaV),r5.2.1,())
   else none
   ) (
   (ah1 x1.2.1 (asf x1.1.f (wi (((x1.1.f.length:Nat):Int)-1)))).bind fun r4 =>
   if (!r4.1.2.1)=true then
   some (({ x1.1 with f:=x1.1.f.set (wi (((x1.1.f.length:Nat):Int)-1)).toNat r4.2.2.1 }:MaV),r4.2.1,())
   else
   if ((((x1.1.f.set (wi (((x1.1.f.length:Nat):Int)-1)).toNat r4.2.2.1).length+([({ r4.1.1 with line:=1 }:FrV)]:List FrV).length:Nat)):Int)<100000000000 then
   self3 (({ x1.1 with f:=(x1.1.f.set (wi (((x1.1.f.length:Nat):Int)-1)).toNat r4.2.2.1)++([({ r4.1.1 with line:=1 }:FrV)]) }:MaV),r4.2.1,())
   else none
   )
  else none
 ) 18446744073709551616 (m,e,())).bind fun z2 =>
 if 0≤wi (((z2.1.f.length:Nat):Int)-1)∧wi (((z2.1.f.length:Nat):Int)-1)<((z2.1.f.length:Nat):Int) then
  agr (
   (aks z2.2.1 (asf z2.1.f (wi (((z2.1.f.length:Nat):Int)-1)))).bind fun r12 =>
   (lpF (σ:=ResV×MaV×EnvV×Unit) (β:=(ResV×MaV×EnvV×Unit)⊕((Bool×Unit)×(MaV×EnvV×Unit))) (fun self15 x13 =>
   if x13.1.done=true then
   if 0≤wi (((x13.2.1.f.length:Nat):Int)-1)∧wi (((x13.2.1.f.length:Nat):Int)-1)≤((x13.2.1.f.length:Nat):Int) then
   if (((x13.2.1.f.take (wi (((x13.2.1.f.length:Nat):Int)-1):Int).toNat).length:Nat):Int)=0 then
   if x13.1.value=x13.1.value then
   if x13.1.code=x13.1.code then
   if x13.1.value=x13.1.value then
   Option.map Sum.inr (
   some ((true,()),(({ x13.1 with f:=x13.2.1.f.take (wi (((x13.2.1.f.length:Nat):Int)-1):Int).toNat,over:=true }:MaV),x13.2.2.1,()))
   )
   else none
   else none
   else none
   else
   if 0≤wi ((((x13.2.1.f.take (wi (((x13.2.1.f.length:Nat):Int)-1):Int).toNat).length:Nat):Int)-1)∧wi ((((x13.2.1.f.take (wi (((x13.2.1.f.length:Nat):Int)-1):Int).toNat).length:Nat):Int)-1)<(((x13.2.1.f.take (wi (((x13.2.1.f.length:Nat):Int)-1):Int).toNat).length:Nat):Int) then
   (alF x13.2.2.1 (asf (x13.2.1.f.take (wi (((x13.2.1.f.length:Nat):Int)-1):Int).toNat) (wi ((((x13.2.1.f.take (wi (((x13.2.1.f.length:Nat):Int)-1):Int).toNat).length:Nat):Int)-1))) x13.1.code x13.1.value).bind fun r16 =>
   self15 (r16.1.1,({ x13.2.1 with f:=(x13.2.1.f.take (wi (((x13.2.1.f.length:Nat):Int)-1):Int).toNat).set (wi ((((x13.2.1.f.take (wi (((x13.2.1.f.length:Nat):Int)-1):Int).toNat).length:Nat):Int)-1)).toNat r16.2.2.1 }:MaV),r16.2.1,())
   else none
   else none
   else
   some (Sum.inl (x13.1,x13.2.1,x13.2.2.1,()))
   ) 18446744073709551616 (r12.1.1,({ z2.1 with f:=z2.1.f.set (wi (((z2.1.f.length:Nat):Int)-1)).toNat r12.2.2.1 }:MaV),r12.2.1,())).bind fun z14 =>match z14 with
   | .inr o17 =>some o17
   | .inl z14 =>
   some ((false,()),(z14.2.1,z14.2.2.1,()))
  ) (
   (aks z2.2.1 (asf z2.1.f (wi (((z2.1.f.length:Nat):Int)-1)))).bind fun r6 =>
   (lpF (σ:=ResV×MaV×EnvV×Unit) (β:=(ResV×MaV×EnvV×Unit)⊕((Bool×Unit)×(MaV×EnvV×Unit))) (fun self9 x7 =>
   if x7.1.done=true then
   if 0≤wi (((x7.2.1.f.length:Nat):Int)-1)∧wi (((x7.2.1.f.length:Nat):Int)-1)≤((x7.2.1.f.length:Nat):Int) then
   if (((x7.2.1.f.take (wi (((x7.2.1.f.length:Nat):Int)-1):Int).toNat).length:Nat):Int)=0 then
   if x7.1.value=x7.1.value then
   if x7.1.code=x7.1.code then
   if x7.1.value=x7.1.value then
   Option.map Sum.inr (
   some ((true,()),(({ x7.1 with f:=x7.2.1.f.take (wi (((x7.2.1.f.length:Nat):Int)-1):Int).toNat,over:=true }:MaV),x7.2.2.1,()))
   )
   else none
   else none
   else none
   else
   if 0≤wi ((((x7.2.1.f.take (wi (((x7.2.1.f.length:Nat):Int)-1):Int).toNat).length:Nat):Int)-1)∧wi ((((x7.2.1.f.take (wi (((x7.2.1.f.length:Nat):Int)-1):Int).toNat).length:Nat):Int)-1)<(((x7.2.1.f.take (wi (((x7.2.1.f.length:Nat):Int)-1):Int).toNat).length:Nat):Int) then
   (alF x7.2.2.1 (asf (x7.2.1.f.take (wi (((x7.2.1.f.length:Nat):Int)-1):Int).toNat) (wi ((((x7.2.1.f.take (wi (((x7.2.1.f.length:Nat):Int)-1):Int).toNat).length:Nat):Int)-1))) x7.1.code x7.1.value).bind fun r10 =>
   self9 (r10.1.1,({ x7.2.1 with f:=(x7.2.1.f.take (wi (((x7.2.1.f.length:Nat):Int)-1):Int).toNat).set (wi ((((x7.2.1.f.take (wi (((x7.2.1.f.length:Nat):Int)-1):Int).toNat).length:Nat):Int)-1)).toNat r10.2.2.1 }:MaV),r10.2.1,())
   else none
   else none
   else
   some (Sum.inl (x7.1,x7.2.1,x7.2.2.1,()))
   ) 18446744073709551616 (r6.1.1,({ z2.1 with f:=z2.1.f.set (wi (((z2.1.f.length:Nat):Int)-1)).toNat r6.2.2.1 }:MaV),r6.2.1,())).bind fun z8 =>match z8 with
   | .inr o11 =>some o11
   | .inl z8 =>
   some ((false,()),(z8.2.1,z8.2.2.1,()))
  )
 else none
noncomputable abbrev agv:Con SR1:=⟨61,[.ref 11,.ref 12],[.sh .b],fun x =>ac2 x.1 x.2.1⟩
theorem ai8:CO Tryz.prog agv:=aaC aaB Tryz.func61 [anP,aqo,aqp] ⟨arF,atd,atf,trivial⟩ [] trivial (fun _ =>[]) [(3,.loop [.ob 0 11,.ob 1 12] 18446744073709551616 0),(8,.loopR [.rg 7 (.own 10),.ob 0 11,.ob 1 12] 18446744073709551616 2)] fun x =>by kernel_rfl
end
section
open Go
def Fit (e:EnvV):Prop:=e.evs.length<999999999999
theorem ado {e:EnvV} (h:Fit e) (k w t o l:Int):aaM e k w t o l=some ((()),(e.em k w t o l,())):=by
 unfold aaM EnvV.em
 unfold Fit at h
 rw [if_pos (by simp; omega)]
theorem agn {e:EnvV} {m:MemV} (h:Fit e) (k w t o l:Int):aaM { e with m:=m } k w t o l=some ((()),(({ e with m:=m }:EnvV).em k w t o l,())):=ado (e:={ e with m:=m }) h k w t o l
theorem agm {e:EnvV} {m:MemV} {rs:List RecV} (h:Fit e) (k w t o l:Int):aaM { e with m:=m,recs:=rs } k w t o l=some ((()),(({ e with m:=m,recs:=rs }:EnvV).em k w t o l,())):=ado (e:={ e with m:=m,recs:=rs }) h k w t o l
theorem axz {x:Int} (h:¬ x<1) (h2:x≤9223372036854775807):wu x≠0:=by
 have:wu x=x:=aCp (by omega) (by omega)
 rw [this]; omega
theorem w2:wi 2=2:=rfl
theorem w3:wi 3=3:=rfl
theorem w4:wi 4=4:=rfl
theorem w5:wi 5=5:=rfl
theorem w6:wi 6=6:=rfl
theorem w7:wi 7=7:=rfl
theorem w8:wi 8=8:=rfl
theorem w9:wi 9=9:=rfl
section
variable {e:EnvV} {f:FrV}
theorem avw (hq:f.q.cap≤9223372036854775807):amt e f=some (aek (alp e f)):=by
 have hq2:=@axz f.q.cap; unfold amt alp
 simp only [abw,abA,abb,abd,abB,aba,abc,aaD,aaH,abe,aaY,abS,aa3,abC,aaV,aa4,ab0,abf,abn,Option.bind_some,if_true,abF,aek,go,fin,EnvV.ac,EnvV.rd,EnvV.hit,EnvV.em,szV,acB,acP,adh,acx,aeI,EnvV.put,EnvV.rc,ad5,EnvV.sub]
 repeat' split
 all_goals first | rfl | omega | (simp_all (config:={ maxSteps:=2000000 }) [w2,w3,w4,w5,w6,w7,w8,w9]; done) | (simp_all (config:={ maxSteps:=2000000 }) [w2,w3,w4,w5,w6,w7,w8,w9]; omega)
theorem apJ:ahi e f=some (aek (al4 e f)):=by
 unfold ahi al4
 simp only [abw,abA,abb,abd,abB,aba,abc,aaD,aaH,abe,aaY,abS,aa3,abC,aaV,aa4,ab0,abf,abn,Option.bind_some,if_true,abF,aek,go,fin,EnvV.ac,EnvV.rd,EnvV.hit,EnvV.em,szV,acB,acP,adh,acx,aeI,EnvV.put,EnvV.rc,ad5,EnvV.sub]
 repeat' split
 all_goals first | rfl | omega | (simp_all (config:={ maxSteps:=2000000 }) [w2,w3,w4,w5,w6,w7,w8,w9]; done) | (simp_all (config:={ maxSteps:=2000000 }) [w2,w3,w4,w5,w6,w7,w8,w9]; omega)
theorem ayf (hq:f.q.cap≤9223372036854775807):aqm e f=some (aek (arQ e f)):=by
 have hq2:=@axz f.q.cap; unfold aqm arQ
 simp only [abw,abA,abb,abd,abB,aba,abc,aaD,aaH,abe,aaY,abS,aa3,abC,aaV,aa4,ab0,abf,abn,Option.bind_some,if_true,abF,aek,go,fin,EnvV.ac,EnvV.rd,EnvV.hit,EnvV.em,szV,acB,acP,adh,acx,aeI,EnvV.put,EnvV.rc,ad5,EnvV.sub]
 repeat' split
 all_goals first | rfl | omega | (simp_all (config:={ maxSteps:=2000000 }) [w2,w3,w4,w5,w6,w7,w8,w9]; done) | (simp_all (config:={ maxSteps:=2000000 }) [w2,w3,w4,w5,w6,w7,w8,w9]; omega)
theorem at9:aiu e f=some (aek (ajp e f)):=by
 unfold aiu ajp
 simp only [abw,abA,abb,abd,abB,aba,abc,aaD,aaH,abe,aaY,abS,aa3,abC,aaV,aa4,ab0,abf,abn,Option.bind_some,if_true,abF,aek,go,fin,EnvV.ac,EnvV.rd,EnvV.hit,EnvV.em,szV,acB,acP,adh,acx,aeI,EnvV.put,EnvV.rc,ad5,EnvV.sub]
 repeat' split
 all_goals first | rfl | omega | (simp_all (config:={ maxSteps:=2000000 }) [w2,w3,w4,w5,w6,w7,w8,w9]; done) | (simp_all (config:={ maxSteps:=2000000 }) [w2,w3,w4,w5,w6,w7,w8,w9]; omega)
theorem asX (hE:Fit e):ais e f=some (aek (ai6 e f)):=by
 unfold ais ai6
 simp only [abw,abA,abb,abd,abB,aba,abc,aaD,aaH,abe,aaY,abS,aa3,abC,aaV,aa4,ab0,abf,abn,Option.bind_some,if_true,abF,aek,go,fin,EnvV.ac,EnvV.rd,EnvV.hit,EnvV.em,szV,acB,acP,adh,acx,aeI,EnvV.put,EnvV.rc,ad5,EnvV.sub,ado,agn hE,agm hE]
 by_cases h1:f.line=1
 ·simp only [if_pos h1]
  try simp only [h1]
  repeat' split
  all_goals first | rfl | omega | (simp_all (config:={ maxSteps:=400000 }) [w2,w3,w4,w5,w6,w7,w8,w9]; done) | (simp_all (config:={ maxSteps:=400000 }) [w2,w3,w4,w5,w6,w7,w8,w9]; omega)
 by_cases h2:f.line=2
 ·simp only [if_neg h1,if_pos h2]
  try simp only [h2]
  repeat' split
  all_goals first | rfl | omega | (simp_all (config:={ maxSteps:=400000 }) [w2,w3,w4,w5,w6,w7,w8,w9]; done) | (simp_all (config:={ maxSteps:=400000 }) [w2,w3,w4,w5,w6,w7,w8,w9]; omega)
 by_cases h3:f.line=3
 ·simp only [if_neg h1,if_neg h2,if_pos h3]
  try simp only [h3]
  repeat' split
  all_goals first | rfl | omega | (simp_all (config:={ maxSteps:=400000 }) [w2,w3,w4,w5,w6,w7,w8,w9]; done) | (simp_all (config:={ maxSteps:=400000 }) [w2,w3,w4,w5,w6,w7,w8,w9]; omega)
 by_cases h4:f.line=4
 ·simp only [if_neg h1,if_neg h2,if_neg h3,if_pos h4]
  try simp only [h4]
  repeat' split
  all_goals first | rfl | omega | (simp_all (config:={ maxSteps:=400000 }) [w2,w3,w4,w5,w6,w7,w8,w9]; done) | (simp_all (config:={ maxSteps:=400000 }) [w2,w3,w4,w5,w6,w7,w8,w9]; omega)
 by_cases h5:f.line=5
 ·simp only [if_neg h1,if_neg h2,if_neg h3,if_neg h4,if_pos h5]
  try simp only [h5]
  repeat' split
  all_goals first | rfl | omega | (simp_all (config:={ maxSteps:=400000 }) [w2,w3,w4,w5,w6,w7,w8,w9]; done) | (simp_all (config:={ maxSteps:=400000 }) [w2,w3,w4,w5,w6,w7,w8,w9]; omega)
 by_cases h6:f.line=6
 ·simp only [if_neg h1,if_neg h2,if_neg h3,if_neg h4,if_neg h5,if_pos h6]
  try simp only [h6]
  repeat' split
  all_goals first | rfl | omega | (simp_all (config:={ maxSteps:=400000 }) [w2,w3,w4,w5,w6,w7,w8,w9]; done) | (simp_all (config:={ maxSteps:=400000 }) [w2,w3,w4,w5,w6,w7,w8,w9]; omega)
 by_cases h7:f.line=7
 ·simp only [if_neg h1,if_neg h2,if_neg h3,if_neg h4,if_neg h5,if_neg h6,if_pos h7]
  try simp only [h7]
  repeat' split
  all_goals first | rfl | omega | (simp_all (config:={ maxSteps:=400000 }) [w2,w3,w4,w5,w6,w7,w8,w9]; done) | (simp_all (config:={ maxSteps:=400000 }) [w2,w3,w4,w5,w6,w7,w8,w9]; omega)
 ·simp only [if_neg h1,if_neg h2,if_neg h3,if_neg h4,if_neg h5,if_neg h6,if_neg h7]
  repeat' split
  all_goals first | rfl | omega | (simp_all (config:={ maxSteps:=400000 }) [w2,w3,w4,w5,w6,w7,w8,w9]; done) | (simp_all (config:={ maxSteps:=400000 }) [w2,w3,w4,w5,w6,w7,w8,w9]; omega)
theorem avz (hE:Fit e):acT e f=some (aek (alr e f)):=by
 unfold acT alr
 simp only [abw,abA,abb,abd,abB,aba,abc,aaD,aaH,abe,aaY,abS,aa3,abC,aaV,aa4,ab0,abf,abn,Option.bind_some,if_true,abF,aek,go,fin,EnvV.ac,EnvV.rd,EnvV.hit,EnvV.em,szV,acB,acP,adh,acx,aeI,EnvV.put,EnvV.rc,ad5,EnvV.sub,ado,agn hE,agm hE]
 repeat' split
 all_goals first | rfl | omega | (simp_all (config:={ maxSteps:=2000000 }) [w2,w3,w4,w5,w6,w7,w8,w9]; done) | (simp_all (config:={ maxSteps:=2000000 }) [w2,w3,w4,w5,w6,w7,w8,w9]; omega)
theorem axA (hE:Fit e):adW e f=some (aek (arc e f)):=by
 unfold adW arc
 simp only [abw,abA,abb,abd,abB,aba,abc,aaD,aaH,abe,aaY,abS,aa3,abC,aaV,aa4,ab0,abf,abn,Option.bind_some,if_true,abF,aek,go,fin,EnvV.ac,EnvV.rd,EnvV.hit,EnvV.em,szV,acB,acP,adh,acx,aeI,EnvV.put,EnvV.rc,ad5,EnvV.sub,ado,agn hE,agm hE]
 repeat' split
 all_goals first | rfl | omega | (simp_all (config:={ maxSteps:=2000000 }) [w2,w3,w4,w5,w6,w7,w8,w9]; done) | (simp_all (config:={ maxSteps:=2000000 }) [w2,w3,w4,w5,w6,w7,w8,w9]; omega)
theorem awJ:acV e f=some (aek (al0 e f)):=by
 unfold acV al0
 simp only [abw,abA,abb,abd,abB,aba,abc,aaD,aaH,abe,aaY,abS,aa3,abC,aaV,aa4,ab0,abf,abn,Option.bind_some,if_true,abF,aek,go,fin,EnvV.ac,EnvV.rd,EnvV.hit,EnvV.em,szV,acB,acP,adh,acx,aeI,EnvV.put,EnvV.rc,ad5,EnvV.sub]
 repeat' split
 all_goals first | rfl | omega | (simp_all (config:={ maxSteps:=2000000 }) [w2,w3,w4,w5,w6,w7,w8,w9]; done) | (simp_all (config:={ maxSteps:=2000000 }) [w2,w3,w4,w5,w6,w7,w8,w9]; omega)
theorem az0 (hq:f.q.cap≤9223372036854775807):avQ e f=some (aek (azs e f)):=by
 have hq2:=@axz f.q.cap; unfold avQ azs
 simp only [abw,abA,abb,abd,abB,aba,abc,aaD,aaH,abe,aaY,abS,aa3,abC,aaV,aa4,ab0,abf,abn,Option.bind_some,if_true,abF,aek,go,fin,EnvV.ac,EnvV.rd,EnvV.hit,EnvV.em,szV,acB,acP,adh,acx,aeI,EnvV.put,EnvV.rc,ad5,EnvV.sub]
 by_cases h1:f.line=1
 ·simp only [if_pos h1]
  try simp only [h1]
  repeat' split
  all_goals first | rfl | omega | (simp_all (config:={ maxSteps:=400000 }) [w2,w3,w4,w5,w6,w7,w8,w9]; done) | (simp_all (config:={ maxSteps:=400000 }) [w2,w3,w4,w5,w6,w7,w8,w9]; omega)
 by_cases h2:f.line=2
 ·simp only [if_neg h1,if_pos h2]
  try simp only [h2]
  repeat' split
  all_goals first | rfl | omega | (simp_all (config:={ maxSteps:=400000 }) [w2,w3,w4,w5,w6,w7,w8,w9]; done) | (simp_all (config:={ maxSteps:=400000 }) [w2,w3,w4,w5,w6,w7,w8,w9]; omega)
 by_cases h3:f.line=3
 ·simp only [if_neg h1,if_neg h2,if_pos h3]
  try simp only [h3]
  repeat' split
  all_goals first | rfl | omega | (simp_all (config:={ maxSteps:=400000 }) [w2,w3,w4,w5,w6,w7,w8,w9]; done) | (simp_all (config:={ maxSteps:=400000 }) [w2,w3,w4,w5,w6,w7,w8,w9]; omega)
 by_cases h4:f.line=4
 ·simp only [if_neg h1,if_neg h2,if_neg h3,if_pos h4]
  try simp only [h4]
  repeat' split
  all_goals first | rfl | omega | (simp_all (config:={ maxSteps:=400000 }) [w2,w3,w4,w5,w6,w7,w8,w9]; done) | (simp_all (config:={ maxSteps:=400000 }) [w2,w3,w4,w5,w6,w7,w8,w9]; omega)
 by_cases h5:f.line=5
 ·simp only [if_neg h1,if_neg h2,if_neg h3,if_neg h4,if_pos h5]
  try simp only [h5]
  repeat' split
  all_goals first | rfl | omega | (simp_all (config:={ maxSteps:=400000 }) [w2,w3,w4,w5,w6,w7,w8,w9]; done) | (simp_all (config:={ maxSteps:=400000 }) [w2,w3,w4,w5,w6,w7,w8,w9]; omega)
 by_cases h8:f.line=8
 ·simp only [if_neg h1,if_neg h2,if_neg h3,if_neg h4,if_neg h5,if_pos h8]
  try simp only [h8]
  repeat' split
  all_goals first | rfl | omega | (simp_all (config:={ maxSteps:=400000 }) [w2,w3,w4,w5,w6,w7,w8,w9]; done) | (simp_all (config:={ maxSteps:=400000 }) [w2,w3,w4,w5,w6,w7,w8,w9]; omega)
 by_cases h6:f.line=6
 ·simp only [if_neg h1,if_neg h2,if_neg h3,if_neg h4,if_neg h5,if_neg h8,if_pos h6]
  try simp only [h6]
  repeat' split
  all_goals first | rfl | omega | (simp_all (config:={ maxSteps:=400000 }) [w2,w3,w4,w5,w6,w7,w8,w9]; done) | (simp_all (config:={ maxSteps:=400000 }) [w2,w3,w4,w5,w6,w7,w8,w9]; omega)
 by_cases h7:f.line=7
 ·simp only [if_neg h1,if_neg h2,if_neg h3,if_neg h4,if_neg h5,if_neg h8,if_neg h6,if_pos h7]
  try simp only [h7]
  repeat' split
  all_goals first | rfl | omega | (simp_all (config:={ maxSteps:=400000 }) [w2,w3,w4,w5,w6,w7,w8,w9]; done) | (simp_all (config:={ maxSteps:=400000 }) [w2,w3,w4,w5,w6,w7,w8,w9]; omega)
 ·simp only [if_neg h1,if_neg h2,if_neg h3,if_neg h4,if_neg h5,if_neg h8,if_neg h6,if_neg h7]
  repeat' split
  all_goals first | rfl | omega | (simp_all (config:={ maxSteps:=400000 }) [w2,w3,w4,w5,w6,w7,w8,w9]; done) | (simp_all (config:={ maxSteps:=400000 }) [w2,w3,w4,w5,w6,w7,w8,w9]; omega)
theorem awV (hE:Fit e) (hr:(e.recs.length:Int)=e.c.tasks):amy e f=some (aek (al5 e f)):=by
 unfold amy al5
 have hin:=@avr e.c f.b 0
 have hok:=@aA5 e.m 3 (aa0 e.c f.b 0) 1 2
 simp only [abw,abA,abb,abd,abB,aba,abc,aaD,aaH,abe,aaY,abS,aa3,abC,aaV,aa4,ab0,abf,abn,Option.bind_some,if_true,abF,aek,go,fin,EnvV.ac,EnvV.rd,EnvV.hit,EnvV.em,szV,acB,acP,adh,acx,aeI,EnvV.put,EnvV.rc,ad5,EnvV.sub,ado,agn hE,agm hE]
 by_cases h:(acc e.m 3 (aa0 e.c f.b 0) 1 2).1.2=true
 ·have h1:=hin (hok h).1
  have h2:0≤f.b∧f.b<(e.recs.length:Int):=by omega
  simp only [apZ h2,h,h2,if_true,Bool.not_true,Bool.false_eq_true,if_false,and_self]
  repeat' split
  all_goals first | rfl | omega | (simp_all (config:={ maxSteps:=400000 }) [w2,w3,w4,w5,w6,w7,w8,w9]; done) | (simp_all (config:={ maxSteps:=400000 }) [w2,w3,w4,w5,w6,w7,w8,w9]; omega)
 ·have h':(acc e.m 3 (aa0 e.c f.b 0) 1 2).1.2=false:=by simpa using h
  simp only [h',Bool.not_false,if_true,Bool.false_eq_true,if_false]
theorem aoO (hk:f.kind=12):adj e f=some (aek (aiY e f)):=by
 unfold adj aiY
 simp only [hk,abw,abA,abb,abd,abB,aba,abc,aaD,aaH,abe,aaY,abS,aa3,abC,aaV,aa4,ab0,abf,abn,Option.bind_some,if_true,abF,aek,go,fin,EnvV.ac,EnvV.rd,EnvV.hit,EnvV.em,szV,acB,acP,adh,acx,aeI,EnvV.put,EnvV.rc,ad5,EnvV.sub]
 by_cases hT:acm e (wi (acc e.m 6 0 1 0).1.1)
 ·have h1:=hT.1
  have h2:=hT.2.1
  have h3:=hT.2.2
  simp only [hT,h1,h2,h3,not_true,if_true,if_false,false_or]
  repeat' split
  all_goals first | rfl | omega | (simp_all (config:={ maxSteps:=400000 }) [w2,w3,w4,w5,w6,w7,w8,w9]; done) | (simp_all (config:={ maxSteps:=400000 }) [w2,w3,w4,w5,w6,w7,w8,w9]; omega)
 ·simp only [hT,not_false_iff,true_or,if_true]
  unfold acm at hT
  repeat' split
  all_goals first | rfl | omega | (simp_all (config:={ maxSteps:=400000 }) [w2,w3,w4,w5,w6,w7,w8,w9]; done) | (simp_all (config:={ maxSteps:=400000 }) [w2,w3,w4,w5,w6,w7,w8,w9]; omega)
theorem aoN (hk:f.kind=14) (hE:Fit e) (hr:(e.recs.length:Int)=e.c.tasks):adj e f=some (aek (al5 e f)):=by
 unfold adj
 simp only [hk,awV hE hr,Option.bind_some]
 rfl
theorem amg (hk:f.kind=13):adj e f=some (aek (ahp e f)):=by
 unfold adj ahp
 simp only [hk,show ¬ ((13:Int)=12) by decide,show ¬ ((13:Int)=14) by decide,if_false,abw,abA,abb,abd,abB,aba,abc,aaD,aaH,abe,aaY,abS,aa3,abC,aaV,aa4,ab0,abf,abn,Option.bind_some,if_true,abF,aek,go,fin,EnvV.ac,EnvV.rd,EnvV.hit,EnvV.em,szV,acB,acP,adh,acx,aeI,EnvV.put,EnvV.rc,ad5,EnvV.sub]
 by_cases hT:acm e f.a
 ·have h1:=hT.1
  have h2:=hT.2.1
  have h3:=hT.2.2
  simp only [hT,h1,h2,h3,not_true,if_true,if_false,false_or]
  repeat' split
  all_goals first | rfl | omega | (simp_all (config:={ maxSteps:=400000 }) [w2,w3,w4,w5,w6,w7,w8,w9]; done) | (simp_all (config:={ maxSteps:=400000 }) [w2,w3,w4,w5,w6,w7,w8,w9]; omega)
 ·simp only [hT,not_false_iff,true_or,if_true]
  unfold acm at hT
  repeat' split
  all_goals first | rfl | omega | (simp_all (config:={ maxSteps:=400000 }) [w2,w3,w4,w5,w6,w7,w8,w9]; done) | (simp_all (config:={ maxSteps:=400000 }) [w2,w3,w4,w5,w6,w7,w8,w9]; omega)
theorem aoM (hk:f.kind=15):adj e f=some (aek (ajt e f)):=by
 unfold adj ajt
 simp only [hk,show ¬ ((15:Int)=12) by decide,show ¬ ((15:Int)=14) by decide,show ¬ ((15:Int)=13) by decide,if_false,abw,abA,abb,abd,abB,aba,abc,aaD,aaH,abe,aaY,abS,aa3,abC,aaV,aa4,ab0,abf,abn,Option.bind_some,if_true,abF,aek,go,fin,EnvV.ac,EnvV.rd,EnvV.hit,EnvV.em,szV,acB,acP,adh,acx,aeI,EnvV.put,EnvV.rc,ad5,EnvV.sub]
 by_cases hT:acm e f.b
 ·have h1:=hT.1
  have h2:=hT.2.1
  have h3:=hT.2.2
  simp only [hT,h1,h2,h3,not_true,if_true,if_false,false_or]
  repeat' split
  all_goals first | rfl | omega | (simp_all (config:={ maxSteps:=400000 }) [w2,w3,w4,w5,w6,w7,w8,w9]; done) | (simp_all (config:={ maxSteps:=400000 }) [w2,w3,w4,w5,w6,w7,w8,w9]; omega)
 ·simp only [hT,not_false_iff,true_or,if_true]
  unfold acm at hT
  repeat' split
  all_goals first | rfl | omega | (simp_all (config:={ maxSteps:=400000 }) [w2,w3,w4,w5,w6,w7,w8,w9]; done) | (simp_all (config:={ maxSteps:=400000 }) [w2,w3,w4,w5,w6,w7,w8,w9]; omega)
theorem apP (hk:f.kind=16) (hE:Fit e):acH e f=some (aek (alx e f)):=by
 unfold acH alx
 simp only [hk,abw,abA,abb,abd,abB,aba,abc,aaD,aaH,abe,aaY,abS,aa3,abC,aaV,aa4,ab0,abf,abn,Option.bind_some,if_true,abF,aek,go,fin,EnvV.ac,EnvV.rd,EnvV.hit,EnvV.em,szV,acB,acP,adh,acx,aeI,EnvV.put,EnvV.rc,ad5,EnvV.sub,ado,agn hE,agm hE]
 by_cases hT:acm e f.b
 ·have h1:=hT.1
  have h2:=hT.2.1
  have h3:=hT.2.2
  simp only [hT,h1,h2,h3,not_true,if_true,if_false,false_or]
  repeat' split
  all_goals first | rfl | omega | (simp_all (config:={ maxSteps:=400000 }) [w2,w3,w4,w5,w6,w7,w8,w9]; done) | (simp_all (config:={ maxSteps:=400000 }) [w2,w3,w4,w5,w6,w7,w8,w9]; omega)
 ·simp only [hT,not_false_iff,true_or,if_true]
  unfold acm at hT
  repeat' split
  all_goals first | rfl | omega | (simp_all (config:={ maxSteps:=400000 }) [w2,w3,w4,w5,w6,w7,w8,w9]; done) | (simp_all (config:={ maxSteps:=400000 }) [w2,w3,w4,w5,w6,w7,w8,w9]; omega)
theorem asd (hk:f.kind=17):acH e f=some (aek (arb e f)):=by
 unfold acH arb
 simp only [hk,show ¬ ((17:Int)=16) by decide,if_false,abw,abA,abb,abd,abB,aba,abc,aaD,aaH,abe,aaY,abS,aa3,abC,aaV,aa4,ab0,abf,abn,Option.bind_some,if_true,abF,aek,go,fin,EnvV.ac,EnvV.rd,EnvV.hit,EnvV.em,szV,acB,acP,adh,acx,aeI,EnvV.put,EnvV.rc,ad5,EnvV.sub]
 by_cases hT:acm e f.b
 ·have h1:=hT.1
  have h2:=hT.2.1
  have h3:=hT.2.2
  simp only [hT,h1,h2,h3,not_true,if_true,if_false,false_or]
  repeat' split
  all_goals first | rfl | omega | (simp_all (config:={ maxSteps:=400000 }) [w2,w3,w4,w5,w6,w7,w8,w9]; done) | (simp_all (config:={ maxSteps:=400000 }) [w2,w3,w4,w5,w6,w7,w8,w9]; omega)
 ·simp only [hT,not_false_iff,true_or,if_true]
  unfold acm at hT
  repeat' split
  all_goals first | rfl | omega | (simp_all (config:={ maxSteps:=400000 }) [w2,w3,w4,w5,w6,w7,w8,w9]; done) | (simp_all (config:={ maxSteps:=400000 }) [w2,w3,w4,w5,w6,w7,w8,w9]; omega)
theorem avs (hE:Fit e):acS e f=some (aek (aln e f)):=by
 unfold acS aln
 simp only [abw,abA,abb,abd,abB,aba,abc,aaD,aaH,abe,aaY,abS,aa3,abC,aaV,aa4,ab0,abf,abn,Option.bind_some,if_true,abF,aek,go,fin,EnvV.ac,EnvV.rd,EnvV.hit,EnvV.em,szV,acB,acP,adh,acx,aeI,EnvV.put,EnvV.rc,ad5,EnvV.sub,ado,agn hE,agm hE]
 by_cases hT:acm e f.b
 ·have h1:=hT.1
  have h2:=hT.2.1
  have h3:=hT.2.2
  simp only [hT,h1,h2,h3,not_true,if_true,if_false,false_or]
  repeat' split
  all_goals first | rfl | omega | (simp_all (config:={ maxSteps:=400000 }) [w2,w3,w4,w5,w6,w7,w8,w9]; done) | (simp_all (config:={ maxSteps:=400000 }) [w2,w3,w4,w5,w6,w7,w8,w9]; omega)
 ·simp only [hT,not_false_iff,true_or,if_true]
  unfold acm at hT
  repeat' split
  all_goals first | rfl | omega | (simp_all (config:={ maxSteps:=400000 }) [w2,w3,w4,w5,w6,w7,w8,w9]; done) | (simp_all (config:={ maxSteps:=400000 }) [w2,w3,w4,w5,w6,w7,w8,w9]; omega)
end
structure CfgOk (c:Cfg):Prop where
 w1:1≤c.workers
 w2:c.workers≤64
 l1:1≤c.levels
 l2:c.levels≤64
 c1:1≤c.classes
 c2:c.classes≤64
 t1:1≤c.tasks
 t2:c.tasks≤65535
 q1:0≤c.deque
 q2:c.deque≤65535
 sl:c.subs.length≤1000
 sub:∀ s∈c.subs,Rg s.level∧Rg s.deadline∧Rg s.prog
 ins:∀ p∈c.progs,∀ x∈p,Rg x.a∧Rg x.b∧(x.op≠0→x.op≠1→0≤x.a)
def alj (a:Int):Nat→Int
 | 0 =>0
 | n+1 =>if (n:Int)≠a then alj a n+1 else alj a n
def atY (w a t:Int):Nat→Int→Bool
 | 0,_ =>false
 | k+1,i =>decide (Int.tmod (wi (t+i)) w≠a) || atY w a t k (i+1)
def ayA (w a t i:Int):Bool:=atY w a t (w-i).toNat i
def ahT (e:EnvV) (f:FrV):FrV:=if f.line=1 then { f with line:=2,j := -1,n := -1,t:=acy e.draw e.c.workers } else f
def adM (e:EnvV) (f:FrV):Int:=if Int.tmod (wi (f.t+f.i)) e.c.workers=f.a then wi (f.i+1) else f.i
def adC (e:EnvV) (f:FrV):Int:=Int.tmod (wi (f.t+adM e f)) e.c.workers
def agX (e:EnvV) (f:FrV):Int:=aif (e.ld (abX e.c (adC e f)))
def acJ (e:EnvV) (f:FrV):FrV:=if f.n<agX e f then { f with i:=wi (adM e f+1),j:=adC e f,n:=agX e f } else { f with i:=wi (adM e f+1) }
def ajO (e:EnvV) (f:FrV):Lf :=
 if alj f.a e.c.workers.toNat=0 then fin 2 0 e f
 else if ayA e.c.workers f.a f.t (wi (adM e f+1))=true then go (e.lm (abX e.c (adC e f))) (acJ e f)
 else if (acJ e f).j<0 then fin 2 0 (e.lm (abX e.c (adC e f))) (acJ e f)
 else fin 1 (wi (wi ((acJ e f).j*64)+(acJ e f).n)) (e.lm (abX e.c (adC e f))) (acJ e f)
def ajP (e:EnvV) (f:FrV):Lf:=ajO e (ahT e f)
def afi (e:EnvV) (f:FrV):Lf :=
 if f.kind=0 then arQ e f
 else if f.kind=1 then azs e f
 else if f.kind=2 then alp e f
 else if f.kind=3 then fin 0 0 (e.ac 4 f.a (akK f.b) 0) f
 else if f.kind=4 then al4 e f
 else if f.kind=6 then
  if e.ld (abX e.c f.a)=0 then fin 2 0 (e.lm (abX e.c f.a)) { f with u:=e.ld (abX e.c f.a) } else go (e.lm (abX e.c f.a)) { f with line:=2,u:=e.ld (abX e.c f.a),i:=aif (e.ld (abX e.c f.a)) }
 else if f.kind=7 then
  if e.hit 3 1 0 (wu (wi (f.a+1)))=true then fin 1 0 (e.ac 3 1 0 (wu (wi (f.a+1)))) f else go (e.ac 3 1 0 (wu (wi (f.a+1)))) f
 else if f.kind=8 then
  if e.hit 3 1 0 (wu (wi (f.a+1)))=true then fin 1 0 (e.ac 3 1 0 (wu (wi (f.a+1)))) f else fin 5 0 (e.ac 3 1 0 (wu (wi (f.a+1)))) f
 else if f.kind=9 then fin 0 0 (e.sm 1 0) f
 else if f.kind=10 then ajp e f
 else if f.kind=11 then ai6 e f
 else if f.kind=12 then aiY e f
 else if f.kind=13 then ahp e f
 else if f.kind=14 then al5 e f
 else if f.kind=15 then ajt e f
 else if f.kind=16 then alx e f
 else if f.kind=17 then arb e f
 else if f.kind=18 then aln e f
 else if f.kind=19 then alr e f
 else if f.kind=20 then arc e f
 else if f.kind=21 then ajP e f
 else if f.kind=22 then al0 e f
 else if f.kind=24 then ax0 e f
 else if f.kind=26 then ajv e f
 else fin 4 0 e f
def afH (e:EnvV) (f:FrV):FrV :=
 if f.line≠1 then f
 else if ¬ acm e (aa7 f.l) then { f with line:=23 }
 else if (e.rc (aa7 f.l)).waiting ≠ -1 then { f with line:=2 }
 else if (e.rc (aa7 f.l)).pc<0∨((e.prog (aa7 f.l)).length:Int)≤(e.rc (aa7 f.l)).pc then { f with line:=17 }
 else if (e.ins (aa7 f.l)).op=0 then { f with line:=3 }
 else if (e.ins (aa7 f.l)).op=1 then { f with line:=5 }
 else if (e.ins (aa7 f.l)).a<((e.rc (aa7 f.l)).kids.length:Int)∧aaf (e.rc (aa7 f.l)).kids (e.ins (aa7 f.l)).a ≠ -1 then { f with line:=10,j:=aaf (e.rc (aa7 f.l)).kids (e.ins (aa7 f.l)).a }
 else { f with line:=4 }
def frK (k:Int):FrV:=⟨k,0,⟨0,0,0,0⟩,0,0,0,0,0,0,0,0,0,0,0,[]⟩
def azq (f:FrV):Option FrV :=
 if f.line=5 then some (frK 12)
 else if f.line=6 then some { frK 13 with a:=f.n,b:=f.d }
 else if f.line=7 then some { frK 5 with a:=f.a,b:=f.d,d:=f.n }
 else if f.line=8 then some { frK 20 with a:=f.a,b:=f.d }
 else if f.line=9∨f.line=22 then some { frK 14 with a:=f.a,b:=f.n }
 else if f.line=14 then some { frK 17 with a:=f.a,b:=f.j,d:=f.t }
 else if f.line=20 then some { frK 15 with a:=f.a,b:=f.n }
 else if f.line=21 then some { frK 20 with a:=f.a,b:=f.t }
 else none
def aot (f:FrV):Option FrV :=
 if f.line=2 then some { frK 8 with a:=f.a }
 else if f.line=3 then some { frK 11 with a:=f.a }
 else if f.line=5 then some { frK 5 with a:=f.a,b:=f.t,d:=f.n }
 else if f.line=6 then some (frK 9)
 else if f.line=7 then some { frK 20 with a:=f.a,b:=f.j }
 else none
def af1 (e:EnvV) (f:FrV):FrV:=if f.line=1∧e.c.age=0 then { f with line:=2 } else f
def amd (e:EnvV) (f:FrV):FrV :=
 if f.line=1 then { frK 18 with a:=f.a,b:=f.j }
 else if f.line=2 then { frK 23 with a:=f.a }
 else if f.line=3 then { frK 22 with a:=f.a,d := -1 }
 else if f.line=4 then { frK 21 with a:=f.a }
 else if f.line=5 then { frK 2 with q:=aiG e.c f.i f.d }
 else if f.line=6 then { frK 14 with a:=f.a,b:=f.n }
 else if f.line=7 then { frK 24 with a:=f.a,b:=f.n,l:=[f.n] }
 else if f.line=8 then { frK 19 with a:=f.a }
 else { frK 4 with a:=abX e.c f.i,b:=f.d,q:=aiG e.c f.i f.d }
def ak4 (e:EnvV) (f:FrV):Option FrV :=
 if (e.c.subs.length:Int)≤f.i then none
 else if f.line=1 then some { frK 7 with a:=e.c.workers }
 else if f.line=3 then some (frK 12)
 else if f.line=6 then some { frK 10 with a:=(e.sub f.i).deadline,b:=f.n }
 else if f.line=8 then some (frK 9)
 else if f.line=9 then some { frK 20 with a:=e.c.workers,b:=(e.sub f.i).level }
 else none
def aiO (e:EnvV) (f:FrV):Option FrV×FrV :=
 if f.kind=5 then
  if f.line=1 then (some { frK 0 with q:=aiG e.c f.a f.b,a:=f.d },f) else (some { frK 3 with a:=abX e.c f.a,b:=f.b },f)
 else if f.kind=6 then
  if f.line=2 then (some { frK 1 with q:=aiG e.c f.a f.i },f)
  else if f.line=3 then (some { frK 4 with a:=abX e.c f.a,b:=f.i,q:=aiG e.c f.a f.i },f)
  else (none,f)
 else if f.kind=15 then
  if f.line=4 then (some { frK 5 with a:=f.a,b:=f.t,d:=f.b },f) else (none,f)
 else if f.kind=17 then
  if f.line=1 then
   if acm e f.b∧0≤f.d∧f.d<e.c.levels then (some { frK 16 with a:=f.a,b:=f.b,d:=f.d },f) else (none,f)
  else if f.line=3 then (some { frK 5 with a:=f.a,b:=f.d,d:=f.b },f)
  else (none,f)
 else if f.kind=18 then
  if f.line=6 then (some { frK 5 with a:=f.a,b:=f.t,d:=f.b },f) else (none,f)
 else if f.kind=22 then (aot f,f)
 else if f.kind=23 then
  if f.line=1 then (some { frK 6 with a:=f.a },f) else (some { frK 14 with a:=f.a,b:=f.n },f)
 else if f.kind=24 then (azq (afH e f),afH e f)
 else if f.kind=25 then (some (amd e (af1 e f)),af1 e f)
 else if f.kind=26 then (ak4 e f,f)
 else (none,f)
def ast (e:EnvV) (f:FrV) (code:Int):Lf :=
 if f.line=1 then (if code=1 then go e { f with line:=2 } else go e { f with line:=4 })
 else if code=3 then go (e.em 19 f.a f.b 0 f.d) { f with line:=4 } else go e { f with line:=4 }
def aou (e:EnvV) (f:FrV) (code value:Int):Lf :=
 if f.line=2 then (if code=5 then fin 5 0 e f else go e { f with line:=3 })
 else if f.line=3 then (if code=2 then go e { f with line:=6,n:=value } else go e { f with line:=4,n:=value })
 else if f.line=5 then
  if code=3 then go e { f with line:=6,d:=f.n }
  else if wi (f.i+1)<e.c.batch then go e { f with line:=3,i:=wi (f.i+1),j:=f.t } else go e { f with line:=6,i:=wi (f.i+1),j:=f.t }
 else if f.line=6 then
  if 0<f.i then go e { f with line:=7 } else if 0≤f.d then fin 1 f.d e f else fin 2 0 e f
 else if 0≤f.d then fin 1 f.d e f else fin 0 f.i e f
def ans (e:EnvV) (f:FrV) (code value:Int):Lf :=
 if f.line=1 then (if code=2 then fin 2 0 e f else go e { f with line:=2,n:=value })
 else if code=1 then fin 1 value e f else go e { f with line:=1 }
def aij (e:EnvV) (f:FrV) (code value:Int):Lf :=
 if f.line=1 then go e { f with line:=2,j:=Int.tmod (wi (f.j+1)) (if 1<e.c.tasks then e.c.tasks else 1) }
 else if f.line=2 then (if code=1 then go e { f with line:=7,n:=value } else go e { f with line:=3,n:=value })
 else if f.line=3 then
  if code=1 then go e { f with line:=6,n:=value }
  else if code=0 then go e { f with line:=2,n:=value }
  else if e.c.workers=1 then go e { f with line:=8,n:=value }
  else go e { f with line:=4,n:=value }
 else if f.line=4 then (if code=1 then go e { f with line:=5,d:=Int.tmod value 64,i:=wi (Int.tdiv value 64) } else go e { f with line:=8,d:=Int.tmod value 64,i:=wi (Int.tdiv value 64) })
 else if f.line=5 then
  if code=1 then go (e.em 14 f.a value f.i f.d) { f with line:=6,n:=value }
  else if code=2 then go e { f with line:=9,n:=value }
  else go e { f with line:=1,n:=value }
 else if f.line=6 then (if code=1 then go e { f with line:=7 } else go e { f with line:=1 })
 else go e { f with line:=1 }
def ajr (e:EnvV) (f:FrV):Lf :=
 if (e.c.subs.length:Int)≤wi (f.i+1) then fin 0 0 e { f with line:=1,b:=0,i:=wi (f.i+1) } else go e { f with line:=1,b:=0,i:=wi (f.i+1) }
def ajQ (prog parent:Int):RecV:=⟨prog,parent,0,0,-1,[],false⟩
def ak5 (e:EnvV) (f:FrV) (code value:Int):Lf :=
 if f.line=1 then go e { f with line:=2 }
 else if f.line=3 then
  if code=3 then go (e.em 2 e.c.workers 0 f.i 2) { f with line:=8 } else go (e.put value (ajQ (e.sub f.i).prog (-1))) { f with line:=4,n:=value }
 else if f.line=6 then
  if code=0 then go (e.em 1 e.c.workers f.n f.i (e.sub f.i).level) { f with line:=7,b:=1 } else go e { f with line:=8 }
 else if f.line=8 then (if f.b=1 then go e { f with line:=9 } else ajr e f)
 else ajr e f
def aAC (r:RecV) (k:Int):RecV:={ r with pc:=wi (r.pc+1),kids:=r.kids++[k] }
def azQ (e:EnvV) (f:FrV) (code value:Int):Lf :=
 if f.line=5 then
  if code=3 then go ((e.put (aa7 f.l) (aAC (e.rc (aa7 f.l)) (-1))).em 4 f.a (aa7 f.l) 0 0) { f with line:=1 }
  else go ((e.put (aa7 f.l) (aAC (e.rc (aa7 f.l)) value)).put value (ajQ (e.ins (aa7 f.l)).a (aa7 f.l))) { f with line:=6,n:=value,d:=(e.ins (aa7 f.l)).b }
 else if f.line=6 then go (e.em 3 f.a f.n (aa7 f.l) f.d) { f with line:=7 }
 else if f.line=7 then (if code=3 then go e { f with line:=9 } else go e { f with line:=8 })
 else if f.line=8 then go e { f with line:=1 }
 else if f.line=9 then (if code=1 then go e { f with line:=1,l:=f.l++[f.n] } else go e { f with line:=1 })
 else if f.line=14 then ad4 (e.em 7 f.a (aa7 f.l) 0 f.t) f
 else if f.line=20 then (if code=3 then go e { f with line:=22,t:=value } else go e { f with line:=21,t:=value })
 else if f.line=21 then ad4 e f
 else if f.line=22 then (if code=1 then go e { f with line:=1,l:=f.l.dropLast++[f.n] } else ad4 e f)
 else go e f
def ahK (e:EnvV) (f:FrV) (code value:Int):Lf :=
 if f.kind=5 then (if f.line=2∨code=3 then fin code 0 e f else go e { f with line:=2 })
 else if f.kind=6 then
  if f.line=3 then go e { f with line:=1 } else if code=1 then fin 1 value e f else go e { f with line:=3 }
 else if f.kind=15 then fin code f.t e f
 else if f.kind=17 then ast e f code
 else if f.kind=18 then (if code=3 then fin 1 0 (e.em 19 f.a f.b 0 f.t) f else fin 1 0 e f)
 else if f.kind=22 then aou e f code value
 else if f.kind=23 then ans e f code value
 else if f.kind=24 then azQ e f code value
 else if f.kind=25 then aij e f code value
 else if f.kind=26 then ak5 e f code value
 else go e f
def afA (e:EnvV):Nat→FrV→List FrV→FrV×List FrV
 | 0,top,ps =>(top,ps)
 | k+1,top,ps =>match aiO e top with
  | (none,f) =>(f,ps)
  | (some ch,f) =>afA e k { ch with line:=1 } (f::ps)
def alk:ResV→EnvV→FrV→List FrV→(Option ResV×EnvV×List FrV)
 | r,e,top,[] =>if r.done=true then (some r,e,[]) else (none,e,[top])
 | r,e,top,p::ps =>if r.done=true then alk (ahK e p r.code r.value).1 (ahK e p r.code r.value).2.1 (ahK e p r.code r.value).2.2 ps else (none,e,top::p::ps)
def avv (e:EnvV) (top:FrV) (ps:List FrV):Option ResV×EnvV×List FrV :=
 alk (afi e (afA e 8 top ps).1).1 (afi e (afA e 8 top ps).1).2.1 (afi e (afA e 8 top ps).1).2.2 (afA e 8 top ps).2
def ai4 (e:EnvV) (m:MaV):Bool×MaV×EnvV :=
 if m.over=true then (true,m,e)
 else match m.f.reverse with
  | [] =>(false,m,e)
  | top::ps =>match avv e top ps with
   | (some r,e',_) =>(true,⟨[],true,r.code,r.value⟩,e')
   | (none,e',s) =>(false,{ m with f:=s.reverse },e')
end
end Go.Proofs.YtkmkhldmflebkaaGreat
