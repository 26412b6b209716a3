/- The reference: machines. The reference: machines. What the reference's functions answer is what was said plainly,1. -/
import Derived.Test.YtkmkhldmflebkaaGreatOzak
import Derived.Test.YtkmkhldmflebkaaGreatOzaj
set_option linter.all false
namespace Go.Proofs.YtkmkhldmflebkaaGreat
section
open Go Go.RowKit
set_option maxRecDepth 100000
variable [Tb]
noncomputable def abH (e : EnvV) (f : FrV) : Option ((ResV × Unit) × (EnvV × FrV × Unit)) :=
 if ((e.c.subs.length : Nat) : Int) ≤ f.i then
  some (((⟨true,0,0⟩ : ResV),()),(e,f,()))
 else
 if 0 ≤ f.i ∧ f.i < ((e.c.subs.length : Nat) : Int) then
  if ((ac1 e.c.subs f.i).prog) = ((ac1 e.c.subs f.i).prog) then
   if ((ac1 e.c.subs f.i).level) = ((ac1 e.c.subs f.i).level) then
   if ((ac1 e.c.subs f.i).deadline) = ((ac1 e.c.subs f.i).deadline) then
   if f.i = f.i then
   if f.line = 2 then
   (aaz e.m 1 2 0 0).bind fun r1 =>
   if e.c.heap = e.c.heap then
   if e.c.heap ≤ (wi (r1.1.1)) then
   (aay ({ e with m := r1.2.1 } : EnvV) 2 e.c.workers 0 f.i 1).bind fun r2 =>
   some (((⟨false,0,0⟩ : ResV),()),(r2.2.1,({ f with line := 8,b := 0 } : FrV),()))
   else
   some (((⟨false,0,0⟩ : ResV),()),(({ e with m := r1.2.1 } : EnvV),({ f with line := wi (f.line + 1),b := 0 } : FrV),()))
   else none
   else
   if f.line = 4 then
   (acQ e.c f.n).bind fun r3 =>
   if ((ac1 e.c.subs f.i).level) = ((ac1 e.c.subs f.i).level) then
   (aaz e.m 2 r3.1.1 (wu ((ac1 e.c.subs f.i).level)) 0).bind fun r4 =>
   some (((⟨false,0,0⟩ : ResV),()),(({ e with m := r4.2.1 } : EnvV),({ f with line := wi (f.line + 1) } : FrV),()))
   else none
   else
   if f.line = 5 then
   (adZ e.c f.n).bind fun r5 =>
   if e.now = e.now then
   (aaz e.m 2 r5.1.1 (wu (e.now)) 0).bind fun r6 =>
   some (((⟨false,0,0⟩ : ResV),()),(({ e with m := r6.2.1 } : EnvV),({ f with line := wi (f.line + 1) } : FrV),()))
   else none
   else
   (acP e.c f.n).bind fun r7 =>
   (aaz e.m 2 r7.1.1 1 0).bind fun r8 =>
   some (((⟨false,0,0⟩ : ResV),()),(({ e with m := r8.2.1 } : EnvV),({ f with line := wi (f.line + 1) } : FrV),()))
   else none
   else none
   else none
  else none
 else none
noncomputable abbrev ajD : Con SR1 := ⟨128,[.ref 12,.ref 8],[.val 10],fun x =>abH x.1 x.2.1⟩
noncomputable def am7 : List (Nat × Func) := [(112,Tryz.f112),(114,Tryz.f114),(117,Tryz.f117)]
theorem am8 : CO Tryz.prog ajD := aaC aaB Tryz.func128 [acd,aa1,adC,agD,adb] ⟨abR,aaZ,adu,ahj,acY,trivial⟩ am7 ⟨Tryz.func112,Tryz.func114,Tryz.func117,trivial⟩ (fun _ =>[]) [] fun x =>by kernel_rfl
noncomputable def aiu (e : EnvV) (f : FrV) : Option ((ResV × Unit) × (EnvV × FrV × Unit)) :=
 if f.kind = 0 then
  (aoi e f).bind fun r1 =>
  some ((r1.1.1,()),(r1.2.1,r1.2.2.1,()))
 else
 if f.kind = 1 then
  (atA e f).bind fun r2 =>
  some ((r2.1.1,()),(r2.2.1,r2.2.2.1,()))
 else
 if f.kind = 2 then
  (akq e f).bind fun r3 =>
  some ((r3.1.1,()),(r3.2.1,r3.2.2.1,()))
 else
 if f.kind = 3 then
  (agI f.b).bind fun r4 =>
  if f.a = f.a then
   (aaz e.m 4 f.a r4.1.1 0).bind fun r5 =>
   some (((⟨true,0,0⟩ : ResV),()),(({ e with m := r5.2.1 } : EnvV),f,()))
  else none
 else
 if f.kind = 4 then
  (aft e f).bind fun r6 =>
  some ((r6.1.1,()),(r6.2.1,r6.2.2.1,()))
 else
 if f.kind = 6 then
  (acy e.c f.a).bind fun r7 =>
  (aaz e.m 1 r7.1.1 0 0).bind fun r8 =>
  if r8.1.1 = 0 then
   some (((⟨true,2,0⟩ : ResV),()),(({ e with m := r8.2.1 } : EnvV),({ f with u := r8.1.1 } : FrV),()))
  else
  (ahT r8.1.1).bind fun r9 =>
  some (((⟨false,0,0⟩ : ResV),()),(({ e with m := r8.2.1 } : EnvV),({ f with line := 2,i := r9.1.1,u := r8.1.1 } : FrV),()))
 else
 if f.kind = 7 then
  if f.kind = 7 then
   (aaz e.m 3 1 0 (wu (wi (f.a + 1)))).bind fun r10 =>
   if r10.1.2.1 = true then
   some (((⟨true,1,0⟩ : ResV),()),(({ e with m := r10.2.1 } : EnvV),f,()))
   else
   if f.kind = 8 then
   some (((⟨true,5,0⟩ : ResV),()),(({ e with m := r10.2.1 } : EnvV),f,()))
   else
   some (((⟨false,0,0⟩ : ResV),()),(({ e with m := r10.2.1 } : EnvV),f,()))
  else
  if f.kind = 9 then
   (aaz e.m 2 1 0 0).bind fun r11 =>
   some (((⟨true,0,0⟩ : ResV),()),(({ e with m := r11.2.1 } : EnvV),f,()))
  else
  if f.kind = 10 then
   (agx e f).bind fun r12 =>
   some ((r12.1.1,()),(r12.2.1,r12.2.2.1,()))
  else
  if f.kind = 11 then
   (agv e f).bind fun r13 =>
   some ((r13.1.1,()),(r13.2.1,r13.2.2.1,()))
  else
  if f.kind = 12 then
   if f.kind = 12 then
   (acr e f).bind fun r14 =>
   some ((r14.1.1,()),(r14.2.1,r14.2.2.1,()))
   else
   if f.kind = 16 then
   if f.kind = 16 then
   (abY e f).bind fun r15 =>
   some ((r15.1.1,()),(r15.2.1,r15.2.2.1,()))
   else
   if f.kind = 18 then
   (ab8 e f).bind fun r16 =>
   some ((r16.1.1,()),(r16.2.1,r16.2.2.1,()))
   else
   if f.kind = 19 then
   (ab9 e f).bind fun r17 =>
   some ((r17.1.1,()),(r17.2.1,r17.2.2.1,()))
   else
   if f.kind = 20 then
   (acO e f).bind fun r18 =>
   some ((r18.1.1,()),(r18.2.1,r18.2.2.1,()))
   else
   if f.kind = 21 then
   (aca e f).bind fun r19 =>
   some ((r19.1.1,()),(r19.2.1,r19.2.2.1,()))
   else
   if f.kind = 22 then
   (acb e f).bind fun r20 =>
   some ((r20.1.1,()),(r20.2.1,r20.2.2.1,()))
   else
   if f.kind = 24 then
   (aep e f).bind fun r21 =>
   some ((r21.1.1,()),(r21.2.1,r21.2.2.1,()))
   else
   if f.kind = 26 then
   (abH e f).bind fun r22 =>
   some ((r22.1.1,()),(r22.2.1,r22.2.2.1,()))
   else
   some (((⟨true,4,0⟩ : ResV),()),(e,f,()))
   else
   if f.kind = 17 then
   (abY e f).bind fun r23 =>
   some ((r23.1.1,()),(r23.2.1,r23.2.2.1,()))
   else
   if f.kind = 18 then
   (ab8 e f).bind fun r24 =>
   some ((r24.1.1,()),(r24.2.1,r24.2.2.1,()))
   else
   if f.kind = 19 then
   (ab9 e f).bind fun r25 =>
   some ((r25.1.1,()),(r25.2.1,r25.2.2.1,()))
   else
   if f.kind = 20 then
   (acO e f).bind fun r26 =>
   some ((r26.1.1,()),(r26.2.1,r26.2.2.1,()))
   else
   if f.kind = 21 then
   (aca e f).bind fun r27 =>
   some ((r27.1.1,()),(r27.2.1,r27.2.2.1,()))
   else
   if f.kind = 22 then
   (acb e f).bind fun r28 =>
   some ((r28.1.1,()),(r28.2.1,r28.2.2.1,()))
   else
   if f.kind = 24 then
   (aep e f).bind fun r29 =>
   some ((r29.1.1,()),(r29.2.1,r29.2.2.1,()))
   else
   if f.kind = 26 then
   (abH e f).bind fun r30 =>
   some ((r30.1.1,()),(r30.2.1,r30.2.2.1,()))
   else
   some (((⟨true,4,0⟩ : ResV),()),(e,f,()))
  else
  if f.kind = 13 then
   if f.kind = 13 then
   (acr e f).bind fun r31 =>
   some ((r31.1.1,()),(r31.2.1,r31.2.2.1,()))
   else
   if f.kind = 16 then
   if f.kind = 16 then
   (abY e f).bind fun r32 =>
   some ((r32.1.1,()),(r32.2.1,r32.2.2.1,()))
   else
   if f.kind = 18 then
   (ab8 e f).bind fun r33 =>
   some ((r33.1.1,()),(r33.2.1,r33.2.2.1,()))
   else
   if f.kind = 19 then
   (ab9 e f).bind fun r34 =>
   some ((r34.1.1,()),(r34.2.1,r34.2.2.1,()))
   else
   if f.kind = 20 then
   (acO e f).bind fun r35 =>
   some ((r35.1.1,()),(r35.2.1,r35.2.2.1,()))
   else
   if f.kind = 21 then
   (aca e f).bind fun r36 =>
   some ((r36.1.1,()),(r36.2.1,r36.2.2.1,()))
   else
   if f.kind = 22 then
   (acb e f).bind fun r37 =>
   some ((r37.1.1,()),(r37.2.1,r37.2.2.1,()))
   else
   if f.kind = 24 then
   (aep e f).bind fun r38 =>
   some ((r38.1.1,()),(r38.2.1,r38.2.2.1,()))
   else
   if f.kind = 26 then
   (abH e f).bind fun r39 =>
   some ((r39.1.1,()),(r39.2.1,r39.2.2.1,()))
   else
   some (((⟨true,4,0⟩ : ResV),()),(e,f,()))
   else
   if f.kind = 17 then
   (abY e f).bind fun r40 =>
   some ((r40.1.1,()),(r40.2.1,r40.2.2.1,()))
   else
   if f.kind = 18 then
   (ab8 e f).bind fun r41 =>
   some ((r41.1.1,()),(r41.2.1,r41.2.2.1,()))
   else
   if f.kind = 19 then
   (ab9 e f).bind fun r42 =>
   some ((r42.1.1,()),(r42.2.1,r42.2.2.1,()))
   else
   if f.kind = 20 then
   (acO e f).bind fun r43 =>
   some ((r43.1.1,()),(r43.2.1,r43.2.2.1,()))
   else
   if f.kind = 21 then
   (aca e f).bind fun r44 =>
   some ((r44.1.1,()),(r44.2.1,r44.2.2.1,()))
   else
   if f.kind = 22 then
   (acb e f).bind fun r45 =>
   some ((r45.1.1,()),(r45.2.1,r45.2.2.1,()))
   else
   if f.kind = 24 then
   (aep e f).bind fun r46 =>
   some ((r46.1.1,()),(r46.2.1,r46.2.2.1,()))
   else
   if f.kind = 26 then
   (abH e f).bind fun r47 =>
   some ((r47.1.1,()),(r47.2.1,r47.2.2.1,()))
   else
   some (((⟨true,4,0⟩ : ResV),()),(e,f,()))
  else
  if f.kind = 14 then
   if f.kind = 14 then
   (acr e f).bind fun r48 =>
   some ((r48.1.1,()),(r48.2.1,r48.2.2.1,()))
   else
   if f.kind = 16 then
   if f.kind = 16 then
   (abY e f).bind fun r49 =>
   some ((r49.1.1,()),(r49.2.1,r49.2.2.1,()))
   else
   if f.kind = 18 then
   (ab8 e f).bind fun r50 =>
   some ((r50.1.1,()),(r50.2.1,r50.2.2.1,()))
   else
   if f.kind = 19 then
   (ab9 e f).bind fun r51 =>
   some ((r51.1.1,()),(r51.2.1,r51.2.2.1,()))
   else
   if f.kind = 20 then
   (acO e f).bind fun r52 =>
   some ((r52.1.1,()),(r52.2.1,r52.2.2.1,()))
   else
   if f.kind = 21 then
   (aca e f).bind fun r53 =>
   some ((r53.1.1,()),(r53.2.1,r53.2.2.1,()))
   else
   if f.kind = 22 then
   (acb e f).bind fun r54 =>
   some ((r54.1.1,()),(r54.2.1,r54.2.2.1,()))
   else
   if f.kind = 24 then
   (aep e f).bind fun r55 =>
   some ((r55.1.1,()),(r55.2.1,r55.2.2.1,()))
   else
   if f.kind = 26 then
   (abH e f).bind fun r56 =>
   some ((r56.1.1,()),(r56.2.1,r56.2.2.1,()))
   else
   some (((⟨true,4,0⟩ : ResV),()),(e,f,()))
   else
   if f.kind = 17 then
   (abY e f).bind fun r57 =>
   some ((r57.1.1,()),(r57.2.1,r57.2.2.1,()))
   else
   if f.kind = 18 then
   (ab8 e f).bind fun r58 =>
   some ((r58.1.1,()),(r58.2.1,r58.2.2.1,()))
   else
   if f.kind = 19 then
   (ab9 e f).bind fun r59 =>
   some ((r59.1.1,()),(r59.2.1,r59.2.2.1,()))
   else
   if f.kind = 20 then
   (acO e f).bind fun r60 =>
   some ((r60.1.1,()),(r60.2.1,r60.2.2.1,()))
   else
   if f.kind = 21 then
   (aca e f).bind fun r61 =>
   some ((r61.1.1,()),(r61.2.1,r61.2.2.1,()))
   else
   if f.kind = 22 then
   (acb e f).bind fun r62 =>
   some ((r62.1.1,()),(r62.2.1,r62.2.2.1,()))
   else
   if f.kind = 24 then
   (aep e f).bind fun r63 =>
   some ((r63.1.1,()),(r63.2.1,r63.2.2.1,()))
   else
   if f.kind = 26 then
   (abH e f).bind fun r64 =>
   some ((r64.1.1,()),(r64.2.1,r64.2.2.1,()))
   else
   some (((⟨true,4,0⟩ : ResV),()),(e,f,()))
  else
  if f.kind = 15 then
   (acr e f).bind fun r65 =>
   some ((r65.1.1,()),(r65.2.1,r65.2.2.1,()))
  else
  if f.kind = 16 then
   if f.kind = 16 then
   (abY e f).bind fun r66 =>
   some ((r66.1.1,()),(r66.2.1,r66.2.2.1,()))
   else
   if f.kind = 18 then
   (ab8 e f).bind fun r67 =>
   some ((r67.1.1,()),(r67.2.1,r67.2.2.1,()))
   else
   if f.kind = 19 then
   (ab9 e f).bind fun r68 =>
   some ((r68.1.1,()),(r68.2.1,r68.2.2.1,()))
   else
   if f.kind = 20 then
   (acO e f).bind fun r69 =>
   some ((r69.1.1,()),(r69.2.1,r69.2.2.1,()))
   else
   if f.kind = 21 then
   (aca e f).bind fun r70 =>
   some ((r70.1.1,()),(r70.2.1,r70.2.2.1,()))
   else
   if f.kind = 22 then
   (acb e f).bind fun r71 =>
   some ((r71.1.1,()),(r71.2.1,r71.2.2.1,()))
   else
   if f.kind = 24 then
   (aep e f).bind fun r72 =>
   some ((r72.1.1,()),(r72.2.1,r72.2.2.1,()))
   else
   if f.kind = 26 then
   (abH e f).bind fun r73 =>
   some ((r73.1.1,()),(r73.2.1,r73.2.2.1,()))
   else
   some (((⟨true,4,0⟩ : ResV),()),(e,f,()))
  else
  if f.kind = 17 then
   (abY e f).bind fun r74 =>
   some ((r74.1.1,()),(r74.2.1,r74.2.2.1,()))
  else
  if f.kind = 18 then
   (ab8 e f).bind fun r75 =>
   some ((r75.1.1,()),(r75.2.1,r75.2.2.1,()))
  else
  if f.kind = 19 then
   (ab9 e f).bind fun r76 =>
   some ((r76.1.1,()),(r76.2.1,r76.2.2.1,()))
  else
  if f.kind = 20 then
   (acO e f).bind fun r77 =>
   some ((r77.1.1,()),(r77.2.1,r77.2.2.1,()))
  else
  if f.kind = 21 then
   (aca e f).bind fun r78 =>
   some ((r78.1.1,()),(r78.2.1,r78.2.2.1,()))
  else
  if f.kind = 22 then
   (acb e f).bind fun r79 =>
   some ((r79.1.1,()),(r79.2.1,r79.2.2.1,()))
  else
  if f.kind = 24 then
   (aep e f).bind fun r80 =>
   some ((r80.1.1,()),(r80.2.1,r80.2.2.1,()))
  else
  if f.kind = 26 then
   (abH e f).bind fun r81 =>
   some ((r81.1.1,()),(r81.2.1,r81.2.2.1,()))
  else
  some (((⟨true,4,0⟩ : ResV),()),(e,f,()))
 else
 if f.kind = 8 then
  (aaz e.m 3 1 0 (wu (wi (f.a + 1)))).bind fun r82 =>
  if r82.1.2.1 = true then
   some (((⟨true,1,0⟩ : ResV),()),(({ e with m := r82.2.1 } : EnvV),f,()))
  else
  if f.kind = 8 then
   some (((⟨true,5,0⟩ : ResV),()),(({ e with m := r82.2.1 } : EnvV),f,()))
  else
  some (((⟨false,0,0⟩ : ResV),()),(({ e with m := r82.2.1 } : EnvV),f,()))
 else
 if f.kind = 9 then
  (aaz e.m 2 1 0 0).bind fun r83 =>
  some (((⟨true,0,0⟩ : ResV),()),(({ e with m := r83.2.1 } : EnvV),f,()))
 else
 if f.kind = 10 then
  (agx e f).bind fun r84 =>
  some ((r84.1.1,()),(r84.2.1,r84.2.2.1,()))
 else
 if f.kind = 11 then
  (agv e f).bind fun r85 =>
  some ((r85.1.1,()),(r85.2.1,r85.2.2.1,()))
 else
 if f.kind = 12 then
  if f.kind = 12 then
   (acr e f).bind fun r86 =>
   some ((r86.1.1,()),(r86.2.1,r86.2.2.1,()))
  else
  if f.kind = 16 then
   if f.kind = 16 then
   (abY e f).bind fun r87 =>
   some ((r87.1.1,()),(r87.2.1,r87.2.2.1,()))
   else
   if f.kind = 18 then
   (ab8 e f).bind fun r88 =>
   some ((r88.1.1,()),(r88.2.1,r88.2.2.1,()))
   else
   if f.kind = 19 then
   (ab9 e f).bind fun r89 =>
   some ((r89.1.1,()),(r89.2.1,r89.2.2.1,()))
   else
   if f.kind = 20 then
   (acO e f).bind fun r90 =>
   some ((r90.1.1,()),(r90.2.1,r90.2.2.1,()))
   else
   if f.kind = 21 then
   (aca e f).bind fun r91 =>
   some ((r91.1.1,()),(r91.2.1,r91.2.2.1,()))
   else
   if f.kind = 22 then
   (acb e f).bind fun r92 =>
   some ((r92.1.1,()),(r92.2.1,r92.2.2.1,()))
   else
   if f.kind = 24 then
   (aep e f).bind fun r93 =>
   some ((r93.1.1,()),(r93.2.1,r93.2.2.1,()))
   else
   if f.kind = 26 then
   (abH e f).bind fun r94 =>
   some ((r94.1.1,()),(r94.2.1,r94.2.2.1,()))
   else
   some (((⟨true,4,0⟩ : ResV),()),(e,f,()))
  else
  if f.kind = 17 then
   (abY e f).bind fun r95 =>
   some ((r95.1.1,()),(r95.2.1,r95.2.2.1,()))
  else
  if f.kind = 18 then
   (ab8 e f).bind fun r96 =>
   some ((r96.1.1,()),(r96.2.1,r96.2.2.1,()))
  else
  if f.kind = 19 then
   (ab9 e f).bind fun r97 =>
   some ((r97.1.1,()),(r97.2.1,r97.2.2.1,()))
  else
  if f.kind = 20 then
   (acO e f).bind fun r98 =>
   some ((r98.1.1,()),(r98.2.1,r98.2.2.1,()))
  else
  if f.kind = 21 then
   (aca e f).bind fun r99 =>
   some ((r99.1.1,()),(r99.2.1,r99.2.2.1,()))
  else
  if f.kind = 22 then
   (acb e f).bind fun r100 =>
   some ((r100.1.1,()),(r100.2.1,r100.2.2.1,()))
  else
  if f.kind = 24 then
   (aep e f).bind fun r101 =>
   some ((r101.1.1,()),(r101.2.1,r101.2.2.1,()))
  else
  if f.kind = 26 then
   (abH e f).bind fun r102 =>
   some ((r102.1.1,()),(r102.2.1,r102.2.2.1,()))
  else
  some (((⟨true,4,0⟩ : ResV),()),(e,f,()))
 else
 if f.kind = 13 then
  if f.kind = 13 then
   (acr e f).bind fun r103 =>
   some ((r103.1.1,()),(r103.2.1,r103.2.2.1,()))
  else
  if f.kind = 16 then
   if f.kind = 16 then
   (abY e f).bind fun r104 =>
   some ((r104.1.1,()),(r104.2.1,r104.2.2.1,()))
   else
   if f.kind = 18 then
   (ab8 e f).bind fun r105 =>
   some ((r105.1.1,()),(r105.2.1,r105.2.2.1,()))
   else
   if f.kind = 19 then
   (ab9 e f).bind fun r106 =>
   some ((r106.1.1,()),(r106.2.1,r106.2.2.1,()))
   else
   if f.kind = 20 then
   (acO e f).bind fun r107 =>
   some ((r107.1.1,()),(r107.2.1,r107.2.2.1,()))
   else
   if f.kind = 21 then
   (aca e f).bind fun r108 =>
   some ((r108.1.1,()),(r108.2.1,r108.2.2.1,()))
   else
   if f.kind = 22 then
   (acb e f).bind fun r109 =>
   some ((r109.1.1,()),(r109.2.1,r109.2.2.1,()))
   else
   if f.kind = 24 then
   (aep e f).bind fun r110 =>
   some ((r110.1.1,()),(r110.2.1,r110.2.2.1,()))
   else
   if f.kind = 26 then
   (abH e f).bind fun r111 =>
   some ((r111.1.1,()),(r111.2.1,r111.2.2.1,()))
   else
   some (((⟨true,4,0⟩ : ResV),()),(e,f,()))
  else
  if f.kind = 17 then
   (abY e f).bind fun r112 =>
   some ((r112.1.1,()),(r112.2.1,r112.2.2.1,()))
  else
  if f.kind = 18 then
   (ab8 e f).bind fun r113 =>
   some ((r113.1.1,()),(r113.2.1,r113.2.2.1,()))
  else
  if f.kind = 19 then
   (ab9 e f).bind fun r114 =>
   some ((r114.1.1,()),(r114.2.1,r114.2.2.1,()))
  else
  if f.kind = 20 then
   (acO e f).bind fun r115 =>
   some ((r115.1.1,()),(r115.2.1,r115.2.2.1,()))
  else
  if f.kind = 21 then
   (aca e f).bind fun r116 =>
   some ((r116.1.1,()),(r116.2.1,r116.2.2.1,()))
  else
  if f.kind = 22 then
   (acb e f).bind fun r117 =>
   some ((r117.1.1,()),(r117.2.1,r117.2.2.1,()))
  else
  if f.kind = 24 then
   (aep e f).bind fun r118 =>
   some ((r118.1.1,()),(r118.2.1,r118.2.2.1,()))
  else
  if f.kind = 26 then
   (abH e f).bind fun r119 =>
   some ((r119.1.1,()),(r119.2.1,r119.2.2.1,()))
  else
  some (((⟨true,4,0⟩ : ResV),()),(e,f,()))
 else
 if f.kind = 14 then
  if f.kind = 14 then
   (acr e f).bind fun r120 =>
   some ((r120.1.1,()),(r120.2.1,r120.2.2.1,()))
  else
  if f.kind = 16 then
   if f.kind = 16 then
   (abY e f).bind fun r121 =>
   some ((r121.1.1,()),(r121.2.1,r121.2.2.1,()))
   else
   if f.kind = 18 then
   (ab8 e f).bind fun r122 =>
   some ((r122.1.1,()),(r122.2.1,r122.2.2.1,()))
   else
   if f.kind = 19 then
   (ab9 e f).bind fun r123 =>
   some ((r123.1.1,()),(r123.2.1,r123.2.2.1,()))
   else
   if f.kind = 20 then
   (acO e f).bind fun r124 =>
   some ((r124.1.1,()),(r124.2.1,r124.2.2.1,()))
   else
   if f.kind = 21 then
   (aca e f).bind fun r125 =>
   some ((r125.1.1,()),(r125.2.1,r125.2.2.1,()))
   else
   if f.kind = 22 then
   (acb e f).bind fun r126 =>
   some ((r126.1.1,()),(r126.2.1,r126.2.2.1,()))
   else
   if f.kind = 24 then
   (aep e f).bind fun r127 =>
   some ((r127.1.1,()),(r127.2.1,r127.2.2.1,()))
   else
   if f.kind = 26 then
   (abH e f).bind fun r128 =>
   some ((r128.1.1,()),(r128.2.1,r128.2.2.1,()))
   else
   some (((⟨true,4,0⟩ : ResV),()),(e,f,()))
  else
  if f.kind = 17 then
   (abY e f).bind fun r129 =>
   some ((r129.1.1,()),(r129.2.1,r129.2.2.1,()))
  else
  if f.kind = 18 then
   (ab8 e f).bind fun r130 =>
   some ((r130.1.1,()),(r130.2.1,r130.2.2.1,()))
  else
  if f.kind = 19 then
   (ab9 e f).bind fun r131 =>
   some ((r131.1.1,()),(r131.2.1,r131.2.2.1,()))
  else
  if f.kind = 20 then
   (acO e f).bind fun r132 =>
   some ((r132.1.1,()),(r132.2.1,r132.2.2.1,()))
  else
  if f.kind = 21 then
   (aca e f).bind fun r133 =>
   some ((r133.1.1,()),(r133.2.1,r133.2.2.1,()))
  else
  if f.kind = 22 then
   (acb e f).bind fun r134 =>
   some ((r134.1.1,()),(r134.2.1,r134.2.2.1,()))
  else
  if f.kind = 24 then
   (aep e f).bind fun r135 =>
   some ((r135.1.1,()),(r135.2.1,r135.2.2.1,()))
  else
  if f.kind = 26 then
   (abH e f).bind fun r136 =>
   some ((r136.1.1,()),(r136.2.1,r136.2.2.1,()))
  else
  some (((⟨true,4,0⟩ : ResV),()),(e,f,()))
 else
 if f.kind = 15 then
  (acr e f).bind fun r137 =>
  some ((r137.1.1,()),(r137.2.1,r137.2.2.1,()))
 else
 if f.kind = 16 then
  if f.kind = 16 then
   (abY e f).bind fun r138 =>
   some ((r138.1.1,()),(r138.2.1,r138.2.2.1,()))
  else
  if f.kind = 18 then
   (ab8 e f).bind fun r139 =>
   some ((r139.1.1,()),(r139.2.1,r139.2.2.1,()))
  else
  if f.kind = 19 then
   (ab9 e f).bind fun r140 =>
   some ((r140.1.1,()),(r140.2.1,r140.2.2.1,()))
  else
  if f.kind = 20 then
   (acO e f).bind fun r141 =>
   some ((r141.1.1,()),(r141.2.1,r141.2.2.1,()))
  else
  if f.kind = 21 then
   (aca e f).bind fun r142 =>
   some ((r142.1.1,()),(r142.2.1,r142.2.2.1,()))
  else
  if f.kind = 22 then
   (acb e f).bind fun r143 =>
   some ((r143.1.1,()),(r143.2.1,r143.2.2.1,()))
  else
  if f.kind = 24 then
   (aep e f).bind fun r144 =>
   some ((r144.1.1,()),(r144.2.1,r144.2.2.1,()))
  else
  if f.kind = 26 then
   (abH e f).bind fun r145 =>
   some ((r145.1.1,()),(r145.2.1,r145.2.2.1,()))
  else
  some (((⟨true,4,0⟩ : ResV),()),(e,f,()))
 else
 if f.kind = 17 then
  (abY e f).bind fun r146 =>
  some ((r146.1.1,()),(r146.2.1,r146.2.2.1,()))
 else
 if f.kind = 18 then
  (ab8 e f).bind fun r147 =>
  some ((r147.1.1,()),(r147.2.1,r147.2.2.1,()))
 else
 if f.kind = 19 then
  (ab9 e f).bind fun r148 =>
  some ((r148.1.1,()),(r148.2.1,r148.2.2.1,()))
 else
 if f.kind = 20 then
  (acO e f).bind fun r149 =>
  some ((r149.1.1,()),(r149.2.1,r149.2.2.1,()))
 else
 if f.kind = 21 then
  (aca e f).bind fun r150 =>
  some ((r150.1.1,()),(r150.2.1,r150.2.2.1,()))
 else
 if f.kind = 22 then
  (acb e f).bind fun r151 =>
  some ((r151.1.1,()),(r151.2.1,r151.2.2.1,()))
 else
 if f.kind = 24 then
  (aep e f).bind fun r152 =>
  some ((r152.1.1,()),(r152.2.1,r152.2.2.1,()))
 else
 if f.kind = 26 then
  (abH e f).bind fun r153 =>
  some ((r153.1.1,()),(r153.2.1,r153.2.2.1,()))
 else
 some (((⟨true,4,0⟩ : ResV),()),(e,f,()))
noncomputable abbrev aok : Con SR1 := ⟨84,[.ref 12,.ref 8],[.val 10],fun x =>aiu x.1 x.2.1⟩
noncomputable def aq0 : List (Nat × Func) := [(110,Tryz.f110),(112,Tryz.f112),(114,Tryz.f114),(116,Tryz.f116),(117,Tryz.f117)]
theorem aq1 : CO Tryz.prog aok := aaC aaB Tryz.func84 [aoh,aqW,alM,agH,acd,ahP,adv,akB,ajB,ajy,alK,alS,alL,alN,aog,alO,alQ,aqT,ajD] ⟨aqV,atz,apn,agG,abR,aku,adD,alY,am4,am1,apj,apB,apl,app,aqS,apr,apx,atx,am8,trivial⟩ aq0 ⟨Tryz.func110,Tryz.func112,Tryz.func114,Tryz.func116,Tryz.func117,trivial⟩ (fun _ =>[]) [] fun x =>by kernel_rfl
noncomputable def afu (e : EnvV) (f : FrV) (a : Int) : Option ((ResV × Unit) × (EnvV × FrV × Unit)) :=
 if f.line = 1 then
  if a = 1 then
   some (((⟨false,0,0⟩ : ResV),()),(e,({ f with line := 2 } : FrV),()))
  else
  some (((⟨false,0,0⟩ : ResV),()),(e,({ f with line := 4 } : FrV),()))
 else
 if a = 3 then
  (aay e 19 f.a f.b 0 f.d).bind fun r1 =>
  some (((⟨false,0,0⟩ : ResV),()),(r1.2.1,({ f with line := 4 } : FrV),()))
 else
 some (((⟨false,0,0⟩ : ResV),()),(e,({ f with line := 4 } : FrV),()))
noncomputable abbrev ahQ : Con SR1 := ⟨129,[.ref 12,.ref 8,.sh sI_],[.val 10],fun x =>afu x.1 x.2.1 x.2.2.1⟩
theorem akw : CO Tryz.prog ahQ := aaC aaB Tryz.func129 [aa1] ⟨aaZ,trivial⟩ [] trivial (fun _ =>[]) [] fun x =>by kernel_rfl
noncomputable def aer (e : EnvV) (f : FrV) (a : Int) (b : Int) : Option ((ResV × Unit) × (EnvV × FrV × Unit)) :=
 if f.line = 2 then
  if a = 5 then
   some (((⟨true,5,0⟩ : ResV),()),(e,f,()))
  else
  some (((⟨false,0,0⟩ : ResV),()),(e,({ f with line := 3 } : FrV),()))
 else
 if f.line = 3 then
  if a = 2 then
   some (((⟨false,0,0⟩ : ResV),()),(e,({ f with line := 6,n := b } : FrV),()))
  else
  some (((⟨false,0,0⟩ : ResV),()),(e,({ f with line := 4,n := b } : FrV),()))
 else
 if f.line = 5 then
  if a = 3 then
   some (((⟨false,0,0⟩ : ResV),()),(e,({ f with line := 6,d := f.n } : FrV),()))
  else
  if (wi (f.i + 1)) < e.c.batch then
   some (((⟨false,0,0⟩ : ResV),()),(e,({ f with line := 3,i := wi (f.i + 1),j := f.t } : FrV),()))
  else
  some (((⟨false,0,0⟩ : ResV),()),(e,({ f with line := 6,i := wi (f.i + 1),j := f.t } : FrV),()))
 else
 if f.line = 6 then
  if 0 < f.i then
   some (((⟨false,0,0⟩ : ResV),()),(e,({ f with line := 7 } : FrV),()))
  else
  if 0 ≤ f.d then
   some (((⟨true,1,f.d⟩ : ResV),()),(e,f,()))
  else
  some (((⟨true,2,0⟩ : ResV),()),(e,f,()))
 else
 if 0 ≤ f.d then
  some (((⟨true,1,f.d⟩ : ResV),()),(e,f,()))
 else
 some (((⟨true,0,f.i⟩ : ResV),()),(e,f,()))
noncomputable abbrev agB : Con SR1 := ⟨131,[.ref 12,.ref 8,.sh sI_,.sh sI_],[.val 10],fun x =>aer x.1 x.2.1 x.2.2.1 x.2.2.2.1⟩
noncomputable def ajh : List (Nat × Func) := [(112,Tryz.f112)]
theorem aji : CO Tryz.prog agB := aaC aaB Tryz.func131 [] trivial ajh ⟨Tryz.func112,trivial⟩ (fun _ =>[]) [] fun x =>by kernel_rfl
noncomputable def afv (f : FrV) (a : Int) (b : Int) : Option ((ResV × Unit) × (FrV × Unit)) :=
 if f.line = 1 then
  if a = 2 then
   some (((⟨true,2,0⟩ : ResV),()),(f,()))
  else
  some (((⟨false,0,0⟩ : ResV),()),(({ f with line := 2,n := b } : FrV),()))
 else
 if a = 1 then
  some (((⟨true,1,b⟩ : ResV),()),(f,()))
 else
 some (((⟨false,0,0⟩ : ResV),()),(({ f with line := 1 } : FrV),()))
noncomputable abbrev ahR : Con SR1 := ⟨132,[.ref 8,.sh sI_,.sh sI_],[.val 10],fun x =>afv x.1 x.2.1 x.2.2.1⟩
noncomputable def akx : List (Nat × Func) := [(112,Tryz.f112)]
theorem aky : CO Tryz.prog ahR := aaC aaB Tryz.func132 [] trivial akx ⟨Tryz.func112,trivial⟩ (fun _ =>[]) [] fun x =>by kernel_rfl
noncomputable def agA (e : EnvV) (f : FrV) (a : Int) (b : Int) : Option ((ResV × Unit) × (EnvV × FrV × Unit)) :=
 if 0 ≤ wi (((f.l.length : Nat) : Int) - 1) ∧ wi (((f.l.length : Nat) : Int) - 1) < ((f.l.length : Nat) : Int) then
  if 0 ≤ aae f.l (wi (((f.l.length : Nat) : Int) - 1)) ∧ aae f.l (wi (((f.l.length : Nat) : Int) - 1)) < ((e.recs.length : Nat) : Int) then
   if f.line = 5 then
   agr (
   if 0 ≤ aae f.l (wi (((f.l.length : Nat) : Int) - 1)) ∧ aae f.l (wi (((f.l.length : Nat) : Int) - 1)) < (((ws7 e.recs (aae f.l (wi (((f.l.length : Nat) : Int) - 1)))).length : Nat) : Int) then
   if ((aap (ws7 e.recs (aae f.l (wi (((f.l.length : Nat) : Int) - 1)))) (aae f.l (wi (((f.l.length : Nat) : Int) - 1)))).prog) < 0 then
   if ((aap e.recs (aae f.l (wi (((f.l.length : Nat) : Int) - 1)))).pc) = ((aap (ws7 e.recs (aae f.l (wi (((f.l.length : Nat) : Int) - 1)))) (aae f.l (wi (((f.l.length : Nat) : Int) - 1)))).pc) then
   none
   else none
   else
   if ((e.c.progs.length : Nat) : Int) ≤ ((aap (ws7 e.recs (aae f.l (wi (((f.l.length : Nat) : Int) - 1)))) (aae f.l (wi (((f.l.length : Nat) : Int) - 1)))).prog) then
   if ((aap e.recs (aae f.l (wi (((f.l.length : Nat) : Int) - 1)))).pc) = ((aap (ws7 e.recs (aae f.l (wi (((f.l.length : Nat) : Int) - 1)))) (aae f.l (wi (((f.l.length : Nat) : Int) - 1)))).pc) then
   none
   else none
   else
   if 0 ≤ (aap (ws7 e.recs (aae f.l (wi (((f.l.length : Nat) : Int) - 1)))) (aae f.l (wi (((f.l.length : Nat) : Int) - 1)))).prog ∧ (aap (ws7 e.recs (aae f.l (wi (((f.l.length : Nat) : Int) - 1)))) (aae f.l (wi (((f.l.length : Nat) : Int) - 1)))).prog < ((e.c.progs.length : Nat) : Int) then
   if ((aap e.recs (aae f.l (wi (((f.l.length : Nat) : Int) - 1)))).pc) = ((aap (ws7 e.recs (aae f.l (wi (((f.l.length : Nat) : Int) - 1)))) (aae f.l (wi (((f.l.length : Nat) : Int) - 1)))).pc) then
   if 0 ≤ (aap e.recs (aae f.l (wi (((f.l.length : Nat) : Int) - 1)))).pc ∧ (aap e.recs (aae f.l (wi (((f.l.length : Nat) : Int) - 1)))).pc < (((atL [] e.c.progs ((aap (ws7 e.recs (aae f.l (wi (((f.l.length : Nat) : Int) - 1)))) (aae f.l (wi (((f.l.length : Nat) : Int) - 1)))).prog)).length : Nat) : Int) then
   if ((acv (atL [] e.c.progs ((aap (ws7 e.recs (aae f.l (wi (((f.l.length : Nat) : Int) - 1)))) (aae f.l (wi (((f.l.length : Nat) : Int) - 1)))).prog)) ((aap e.recs (aae f.l (wi (((f.l.length : Nat) : Int) - 1)))).pc)).op) = ((acv (atL [] e.c.progs ((aap (ws7 e.recs (aae f.l (wi (((f.l.length : Nat) : Int) - 1)))) (aae f.l (wi (((f.l.length : Nat) : Int) - 1)))).prog)) ((aap e.recs (aae f.l (wi (((f.l.length : Nat) : Int) - 1)))).pc)).op) then
   if ((acv (atL [] e.c.progs ((aap (ws7 e.recs (aae f.l (wi (((f.l.length : Nat) : Int) - 1)))) (aae f.l (wi (((f.l.length : Nat) : Int) - 1)))).prog)) ((aap e.recs (aae f.l (wi (((f.l.length : Nat) : Int) - 1)))).pc)).a) = ((acv (atL [] e.c.progs ((aap (ws7 e.recs (aae f.l (wi (((f.l.length : Nat) : Int) - 1)))) (aae f.l (wi (((f.l.length : Nat) : Int) - 1)))).prog)) ((aap e.recs (aae f.l (wi (((f.l.length : Nat) : Int) - 1)))).pc)).a) then
   if ((acv (atL [] e.c.progs ((aap (ws7 e.recs (aae f.l (wi (((f.l.length : Nat) : Int) - 1)))) (aae f.l (wi (((f.l.length : Nat) : Int) - 1)))).prog)) ((aap e.recs (aae f.l (wi (((f.l.length : Nat) : Int) - 1)))).pc)).b) = ((acv (atL [] e.c.progs ((aap (ws7 e.recs (aae f.l (wi (((f.l.length : Nat) : Int) - 1)))) (aae f.l (wi (((f.l.length : Nat) : Int) - 1)))).prog)) ((aap e.recs (aae f.l (wi (((f.l.length : Nat) : Int) - 1)))).pc)).b) then
   if ((aap e.recs (aae f.l (wi (((f.l.length : Nat) : Int) - 1)))).pc) = ((aap (ws7 e.recs (aae f.l (wi (((f.l.length : Nat) : Int) - 1)))) (aae f.l (wi (((f.l.length : Nat) : Int) - 1)))).pc) then
   if a = 3 then
   if (((([] : List Int).length + ((aap ((ws7 e.recs (aae f.l (wi (((f.l.length : Nat) : Int) - 1)))).set (aae f.l (wi (((f.l.length : Nat) : Int) - 1))).toNat ({ aap (ws7 e.recs (aae f.l (wi (((f.l.length : Nat) : Int) - 1)))) (aae f.l (wi (((f.l.length : Nat) : Int) - 1))) with pc := wi (((aap (ws7 e.recs (aae f.l (wi (((f.l.length : Nat) : Int) - 1)))) (aae f.l (wi (((f.l.length : Nat) : Int) - 1)))).pc) + 1) } : RecV)) (aae f.l (wi (((f.l.length : Nat) : Int) - 1)))).kids).length : Nat)) : Int) < 1000000000000 then
   if ((((([]) ++ ((aap ((ws7 e.recs (aae f.l (wi (((f.l.length : Nat) : Int) - 1)))).set (aae f.l (wi (((f.l.length : Nat) : Int) - 1))).toNat ({ aap (ws7 e.recs (aae f.l (wi (((f.l.length : Nat) : Int) - 1)))) (aae f.l (wi (((f.l.length : Nat) : Int) - 1))) with pc := wi (((aap (ws7 e.recs (aae f.l (wi (((f.l.length : Nat) : Int) - 1)))) (aae f.l (wi (((f.l.length : Nat) : Int) - 1)))).pc) + 1) } : RecV)) (aae f.l (wi (((f.l.length : Nat) : Int) - 1)))).kids)).length + ([(-1)] : List Int).length : Nat)) : Int) < 1000000000000 then
   (aay ({ e with recs := ((ws7 e.recs (aae f.l (wi (((f.l.length : Nat) : Int) - 1)))).set (aae f.l (wi (((f.l.length : Nat) : Int) - 1))).toNat ({ aap (ws7 e.recs (aae f.l (wi (((f.l.length : Nat) : Int) - 1)))) (aae f.l (wi (((f.l.length : Nat) : Int) - 1))) with pc := wi (((aap (ws7 e.recs (aae f.l (wi (((f.l.length : Nat) : Int) - 1)))) (aae f.l (wi (((f.l.length : Nat) : Int) - 1)))).pc) + 1) } : RecV)).set (aae f.l (wi (((f.l.length : Nat) : Int) - 1))).toNat ({ aap ((ws7 e.recs (aae f.l (wi (((f.l.length : Nat) : Int) - 1)))).set (aae f.l (wi (((f.l.length : Nat) : Int) - 1))).toNat ({ aap (ws7 e.recs (aae f.l (wi (((f.l.length : Nat) : Int) - 1)))) (aae f.l (wi (((f.l.length : Nat) : Int) - 1))) with pc := wi (((aap (ws7 e.recs (aae f.l (wi (((f.l.length : Nat) : Int) - 1)))) (aae f.l (wi (((f.l.length : Nat) : Int) - 1)))).pc) + 1) } : RecV)) (aae f.l (wi (((f.l.length : Nat) : Int) - 1))) with kids := (([]) ++ ((aap ((ws7 e.recs (aae f.l (wi (((f.l.length : Nat) : Int) - 1)))).set (aae f.l (wi (((f.l.length : Nat) : Int) - 1))).toNat ({ aap (ws7 e.recs (aae f.l (wi (((f.l.length : Nat) : Int) - 1)))) (aae f.l (wi (((f.l.length : Nat) : Int) - 1))) with pc := wi (((aap (ws7 e.recs (aae f.l (wi (((f.l.length : Nat) : Int) - 1)))) (aae f.l (wi (((f.l.length : Nat) : Int) - 1)))).pc) + 1) } : RecV)) (aae f.l (wi (((f.l.length : Nat) : Int) - 1)))).kids)) ++ ([(-1)]) } : RecV) } : EnvV) 4 f.a (aae f.l (wi (((f.l.length : Nat) : Int) - 1))) 0 0).bind fun r3 =>
   some (((⟨false,0,0⟩ : ResV),()),(r3.2.1,({ f with line := 1 } : FrV),()))
   else none
   else none
   else
   if (((([] : List Int).length + ((aap ((ws7 e.recs (aae f.l (wi (((f.l.length : Nat) : Int) - 1)))).set (aae f.l (wi (((f.l.length : Nat) : Int) - 1))).toNat ({ aap (ws7 e.recs (aae f.l (wi (((f.l.length : Nat) : Int) - 1)))) (aae f.l (wi (((f.l.length : Nat) : Int) - 1))) with pc := wi (((aap (ws7 e.recs (aae f.l (wi (((f.l.length : Nat) : Int) - 1)))) (aae f.l (wi (((f.l.length : Nat) : Int) - 1)))).pc) + 1) } : RecV)) (aae f.l (wi (((f.l.length : Nat) : Int) - 1)))).kids).length : Nat)) : Int) < 1000000000000 then
   if ((((([]) ++ ((aap ((ws7 e.recs (aae f.l (wi (((f.l.length : Nat) : Int) - 1)))).set (aae f.l (wi (((f.l.length : Nat) : Int) - 1))).toNat ({ aap (ws7 e.recs (aae f.l (wi (((f.l.length : Nat) : Int) - 1)))) (aae f.l (wi (((f.l.length : Nat) : Int) - 1))) with pc := wi (((aap (ws7 e.recs (aae f.l (wi (((f.l.length : Nat) : Int) - 1)))) (aae f.l (wi (((f.l.length : Nat) : Int) - 1)))).pc) + 1) } : RecV)) (aae f.l (wi (((f.l.length : Nat) : Int) - 1)))).kids)).length + ([b] : List Int).length : Nat)) : Int) < 1000000000000 then
   (aeq ((acv (atL [] e.c.progs ((aap (ws7 e.recs (aae f.l (wi (((f.l.length : Nat) : Int) - 1)))) (aae f.l (wi (((f.l.length : Nat) : Int) - 1)))).prog)) ((aap e.recs (aae f.l (wi (((f.l.length : Nat) : Int) - 1)))).pc)).a) (aae f.l (wi (((f.l.length : Nat) : Int) - 1)))).bind fun r4 =>
   if 0 ≤ b ∧ b < (((((ws7 e.recs (aae f.l (wi (((f.l.length : Nat) : Int) - 1)))).set (aae f.l (wi (((f.l.length : Nat) : Int) - 1))).toNat ({ aap (ws7 e.recs (aae f.l (wi (((f.l.length : Nat) : Int) - 1)))) (aae f.l (wi (((f.l.length : Nat) : Int) - 1))) with pc := wi (((aap (ws7 e.recs (aae f.l (wi (((f.l.length : Nat) : Int) - 1)))) (aae f.l (wi (((f.l.length : Nat) : Int) - 1)))).pc) + 1) } : RecV)).set (aae f.l (wi (((f.l.length : Nat) : Int) - 1))).toNat ({ aap ((ws7 e.recs (aae f.l (wi (((f.l.length : Nat) : Int) - 1)))).set (aae f.l (wi (((f.l.length : Nat) : Int) - 1))).toNat ({ aap (ws7 e.recs (aae f.l (wi (((f.l.length : Nat) : Int) - 1)))) (aae f.l (wi (((f.l.length : Nat) : Int) - 1))) with pc := wi (((aap (ws7 e.recs (aae f.l (wi (((f.l.length : Nat) : Int) - 1)))) (aae f.l (wi (((f.l.length : Nat) : Int) - 1)))).pc) + 1) } : RecV)) (aae f.l (wi (((f.l.length : Nat) : Int) - 1))) with kids := (([]) ++ ((aap ((ws7 e.recs (aae f.l (wi (((f.l.length : Nat) : Int) - 1)))).set (aae f.l (wi (((f.l.length : Nat) : Int) - 1))).toNat ({ aap (ws7 e.recs (aae f.l (wi (((f.l.length : Nat) : Int) - 1)))) (aae f.l (wi (((f.l.length : Nat) : Int) - 1))) with pc := wi (((aap (ws7 e.recs (aae f.l (wi (((f.l.length : Nat) : Int) - 1)))) (aae f.l (wi (((f.l.length : Nat) : Int) - 1)))).pc) + 1) } : RecV)) (aae f.l (wi (((f.l.length : Nat) : Int) - 1)))).kids)) ++ ([b]) } : RecV)).length : Nat) : Int) then
   if ((acv (atL [] e.c.progs ((aap (ws7 e.recs (aae f.l (wi (((f.l.length : Nat) : Int) - 1)))) (aae f.l (wi (((f.l.length : Nat) : Int) - 1)))).prog)) ((aap e.recs (aae f.l (wi (((f.l.length : Nat) : Int) - 1)))).pc)).b) = ((acv (atL [] e.c.progs ((aap (ws7 e.recs (aae f.l (wi (((f.l.length : Nat) : Int) - 1)))) (aae f.l (wi (((f.l.length : Nat) : Int) - 1)))).prog)) ((aap e.recs (aae f.l (wi (((f.l.length : Nat) : Int) - 1)))).pc)).b) then
   some (((⟨false,0,0⟩ : ResV),()),(({ e with recs := (((ws7 e.recs (aae f.l (wi (((f.l.length : Nat) : Int) - 1)))).set (aae f.l (wi (((f.l.length : Nat) : Int) - 1))).toNat ({ aap (ws7 e.recs (aae f.l (wi (((f.l.length : Nat) : Int) - 1)))) (aae f.l (wi (((f.l.length : Nat) : Int) - 1))) with pc := wi (((aap (ws7 e.recs (aae f.l (wi (((f.l.length : Nat) : Int) - 1)))) (aae f.l (wi (((f.l.length : Nat) : Int) - 1)))).pc) + 1) } : RecV)).set (aae f.l (wi (((f.l.length : Nat) : Int) - 1))).toNat ({ aap ((ws7 e.recs (aae f.l (wi (((f.l.length : Nat) : Int) - 1)))).set (aae f.l (wi (((f.l.length : Nat) : Int) - 1))).toNat ({ aap (ws7 e.recs (aae f.l (wi (((f.l.length : Nat) : Int) - 1)))) (aae f.l (wi (((f.l.length : Nat) : Int) - 1))) with pc := wi (((aap (ws7 e.recs (aae f.l (wi (((f.l.length : Nat) : Int) - 1)))) (aae f.l (wi (((f.l.length : Nat) : Int) - 1)))).pc) + 1) } : RecV)) (aae f.l (wi (((f.l.length : Nat) : Int) - 1))) with kids := (([]) ++ ((aap ((ws7 e.recs (aae f.l (wi (((f.l.length : Nat) : Int) - 1)))).set (aae f.l (wi (((f.l.length : Nat) : Int) - 1))).toNat ({ aap (ws7 e.recs (aae f.l (wi (((f.l.length : Nat) : Int) - 1)))) (aae f.l (wi (((f.l.length : Nat) : Int) - 1))) with pc := wi (((aap (ws7 e.recs (aae f.l (wi (((f.l.length : Nat) : Int) - 1)))) (aae f.l (wi (((f.l.length : Nat) : Int) - 1)))).pc) + 1) } : RecV)) (aae f.l (wi (((f.l.length : Nat) : Int) - 1)))).kids)) ++ ([b]) } : RecV)).set b.toNat r4.1.1 } : EnvV),({ f with line := 6,d := (acv (atL [] e.c.progs ((aap (ws7 e.recs (aae f.l (wi (((f.l.length : Nat) : Int) - 1)))) (aae f.l (wi (((f.l.length : Nat) : Int) - 1)))).prog)) ((aap e.recs (aae f.l (wi (((f.l.length : Nat) : Int) - 1)))).pc)).b,n := b } : FrV),()))
   else none
   else none
   else none
   else none
   else none
   else none
   else none
   else none
   else none
   else none
   else none
   else none
   ) (
   if ((aap e.recs (aae f.l (wi (((f.l.length : Nat) : Int) - 1)))).pc) = ((aap e.recs (aae f.l (wi (((f.l.length : Nat) : Int) - 1)))).pc) then
   if 0 ≤ aae f.l (wi (((f.l.length : Nat) : Int) - 1)) ∧ aae f.l (wi (((f.l.length : Nat) : Int) - 1)) < (((ws7 e.recs (aae f.l (wi (((f.l.length : Nat) : Int) - 1)))).length : Nat) : Int) then
   if ((aap (ws7 e.recs (aae f.l (wi (((f.l.length : Nat) : Int) - 1)))) (aae f.l (wi (((f.l.length : Nat) : Int) - 1)))).prog) < 0 then
   if ((aap e.recs (aae f.l (wi (((f.l.length : Nat) : Int) - 1)))).pc) = ((aap (ws7 e.recs (aae f.l (wi (((f.l.length : Nat) : Int) - 1)))) (aae f.l (wi (((f.l.length : Nat) : Int) - 1)))).pc) then
   none
   else none
   else
   if ((e.c.progs.length : Nat) : Int) ≤ ((aap (ws7 e.recs (aae f.l (wi (((f.l.length : Nat) : Int) - 1)))) (aae f.l (wi (((f.l.length : Nat) : Int) - 1)))).prog) then
   if ((aap e.recs (aae f.l (wi (((f.l.length : Nat) : Int) - 1)))).pc) = ((aap (ws7 e.recs (aae f.l (wi (((f.l.length : Nat) : Int) - 1)))) (aae f.l (wi (((f.l.length : Nat) : Int) - 1)))).pc) then
   none
   else none
   else
   if 0 ≤ (aap (ws7 e.recs (aae f.l (wi (((f.l.length : Nat) : Int) - 1)))) (aae f.l (wi (((f.l.length : Nat) : Int) - 1)))).prog ∧ (aap (ws7 e.recs (aae f.l (wi (((f.l.length : Nat) : Int) - 1)))) (aae f.l (wi (((f.l.length : Nat) : Int) - 1)))).prog < ((e.c.progs.length : Nat) : Int) then
   if ((aap e.recs (aae f.l (wi (((f.l.length : Nat) : Int) - 1)))).pc) = ((aap (ws7 e.recs (aae f.l (wi (((f.l.length : Nat) : Int) - 1)))) (aae f.l (wi (((f.l.length : Nat) : Int) - 1)))).pc) then
   if 0 ≤ (aap e.recs (aae f.l (wi (((f.l.length : Nat) : Int) - 1)))).pc ∧ (aap e.recs (aae f.l (wi (((f.l.length : Nat) : Int) - 1)))).pc < (((atL [] e.c.progs ((aap (ws7 e.recs (aae f.l (wi (((f.l.length : Nat) : Int) - 1)))) (aae f.l (wi (((f.l.length : Nat) : Int) - 1)))).prog)).length : Nat) : Int) then
   if a = 3 then
   if (((([] : List Int).length + ((aap ((ws7 e.recs (aae f.l (wi (((f.l.length : Nat) : Int) - 1)))).set (aae f.l (wi (((f.l.length : Nat) : Int) - 1))).toNat ({ aap (ws7 e.recs (aae f.l (wi (((f.l.length : Nat) : Int) - 1)))) (aae f.l (wi (((f.l.length : Nat) : Int) - 1))) with pc := wi (((aap (ws7 e.recs (aae f.l (wi (((f.l.length : Nat) : Int) - 1)))) (aae f.l (wi (((f.l.length : Nat) : Int) - 1)))).pc) + 1) } : RecV)) (aae f.l (wi (((f.l.length : Nat) : Int) - 1)))).kids).length : Nat)) : Int) < 1000000000000 then
   if ((((([]) ++ ((aap ((ws7 e.recs (aae f.l (wi (((f.l.length : Nat) : Int) - 1)))).set (aae f.l (wi (((f.l.length : Nat) : Int) - 1))).toNat ({ aap (ws7 e.recs (aae f.l (wi (((f.l.length : Nat) : Int) - 1)))) (aae f.l (wi (((f.l.length : Nat) : Int) - 1))) with pc := wi (((aap (ws7 e.recs (aae f.l (wi (((f.l.length : Nat) : Int) - 1)))) (aae f.l (wi (((f.l.length : Nat) : Int) - 1)))).pc) + 1) } : RecV)) (aae f.l (wi (((f.l.length : Nat) : Int) - 1)))).kids)).length + ([(-1)] : List Int).length : Nat)) : Int) < 1000000000000 then
   (aay ({ e with recs := ((ws7 e.recs (aae f.l (wi (((f.l.length : Nat) : Int) - 1)))).set (aae f.l (wi (((f.l.length : Nat) : Int) - 1))).toNat ({ aap (ws7 e.recs (aae f.l (wi (((f.l.length : Nat) : Int) - 1)))) (aae f.l (wi (((f.l.length : Nat) : Int) - 1))) with pc := wi (((aap (ws7 e.recs (aae f.l (wi (((f.l.length : Nat) : Int) - 1)))) (aae f.l (wi (((f.l.length : Nat) : Int) - 1)))).pc) + 1) } : RecV)).set (aae f.l (wi (((f.l.length : Nat) : Int) - 1))).toNat ({ aap ((ws7 e.recs (aae f.l (wi (((f.l.length : Nat) : Int) - 1)))).set (aae f.l (wi (((f.l.length : Nat) : Int) - 1))).toNat ({ aap (ws7 e.recs (aae f.l (wi (((f.l.length : Nat) : Int) - 1)))) (aae f.l (wi (((f.l.length : Nat) : Int) - 1))) with pc := wi (((aap (ws7 e.recs (aae f.l (wi (((f.l.length : Nat) : Int) - 1)))) (aae f.l (wi (((f.l.length : Nat) : Int) - 1)))).pc) + 1) } : RecV)) (aae f.l (wi (((f.l.length : Nat) : Int) - 1))) with kids := (([]) ++ ((aap ((ws7 e.recs (aae f.l (wi (((f.l.length : Nat) : Int) - 1)))).set (aae f.l (wi (((f.l.length : Nat) : Int) - 1))).toNat ({ aap (ws7 e.recs (aae f.l (wi (((f.l.length : Nat) : Int) - 1)))) (aae f.l (wi (((f.l.length : Nat) : Int) - 1))) with pc := wi (((aap (ws7 e.recs (aae f.l (wi (((f.l.length : Nat) : Int) - 1)))) (aae f.l (wi (((f.l.length : Nat) : Int) - 1)))).pc) + 1) } : RecV)) (aae f.l (wi (((f.l.length : Nat) : Int) - 1)))).kids)) ++ ([(-1)]) } : RecV) } : EnvV) 4 f.a (aae f.l (wi (((f.l.length : Nat) : Int) - 1))) 0 0).bind fun r1 =>
   some (((⟨false,0,0⟩ : ResV),()),(r1.2.1,({ f with line := 1 } : FrV),()))
   else none
   else none
   else
   if (((([] : List Int).length + ((aap ((ws7 e.recs (aae f.l (wi (((f.l.length : Nat) : Int) - 1)))).set (aae f.l (wi (((f.l.length : Nat) : Int) - 1))).toNat ({ aap (ws7 e.recs (aae f.l (wi (((f.l.length : Nat) : Int) - 1)))) (aae f.l (wi (((f.l.length : Nat) : Int) - 1))) with pc := wi (((aap (ws7 e.recs (aae f.l (wi (((f.l.length : Nat) : Int) - 1)))) (aae f.l (wi (((f.l.length : Nat) : Int) - 1)))).pc) + 1) } : RecV)) (aae f.l (wi (((f.l.length : Nat) : Int) - 1)))).kids).length : Nat)) : Int) < 1000000000000 then
   if ((((([]) ++ ((aap ((ws7 e.recs (aae f.l (wi (((f.l.length : Nat) : Int) - 1)))).set (aae f.l (wi (((f.l.length : Nat) : Int) - 1))).toNat ({ aap (ws7 e.recs (aae f.l (wi (((f.l.length : Nat) : Int) - 1)))) (aae f.l (wi (((f.l.length : Nat) : Int) - 1))) with pc := wi (((aap (ws7 e.recs (aae f.l (wi (((f.l.length : Nat) : Int) - 1)))) (aae f.l (wi (((f.l.length : Nat) : Int) - 1)))).pc) + 1) } : RecV)) (aae f.l (wi (((f.l.length : Nat) : Int) - 1)))).kids)).length + ([b] : List Int).length : Nat)) : Int) < 1000000000000 then
   (aeq ((acv (atL [] e.c.progs ((aap (ws7 e.recs (aae f.l (wi (((f.l.length : Nat) : Int) - 1)))) (aae f.l (wi (((f.l.length : Nat) : Int) - 1)))).prog)) ((aap e.recs (aae f.l (wi (((f.l.length : Nat) : Int) - 1)))).pc)).a) (aae f.l (wi (((f.l.length : Nat) : Int) - 1)))).bind fun r2 =>
   if 0 ≤ b ∧ b < (((((ws7 e.recs (aae f.l (wi (((f.l.length : Nat) : Int) - 1)))).set (aae f.l (wi (((f.l.length : Nat) : Int) - 1))).toNat ({ aap (ws7 e.recs (aae f.l (wi (((f.l.length : Nat) : Int) - 1)))) (aae f.l (wi (((f.l.length : Nat) : Int) - 1))) with pc := wi (((aap (ws7 e.recs (aae f.l (wi (((f.l.length : Nat) : Int) - 1)))) (aae f.l (wi (((f.l.length : Nat) : Int) - 1)))).pc) + 1) } : RecV)).set (aae f.l (wi (((f.l.length : Nat) : Int) - 1))).toNat ({ aap ((ws7 e.recs (aae f.l (wi (((f.l.length : Nat) : Int) - 1)))).set (aae f.l (wi (((f.l.length : Nat) : Int) - 1))).toNat ({ aap (ws7 e.recs (aae f.l (wi (((f.l.length : Nat) : Int) - 1)))) (aae f.l (wi (((f.l.length : Nat) : Int) - 1))) with pc := wi (((aap (ws7 e.recs (aae f.l (wi (((f.l.length : Nat) : Int) - 1)))) (aae f.l (wi (((f.l.length : Nat) : Int) - 1)))).pc) + 1) } : RecV)) (aae f.l (wi (((f.l.length : Nat) : Int) - 1))) with kids := (([]) ++ ((aap ((ws7 e.recs (aae f.l (wi (((f.l.length : Nat) : Int) - 1)))).set (aae f.l (wi (((f.l.length : Nat) : Int) - 1))).toNat ({ aap (ws7 e.recs (aae f.l (wi (((f.l.length : Nat) : Int) - 1)))) (aae f.l (wi (((f.l.length : Nat) : Int) - 1))) with pc := wi (((aap (ws7 e.recs (aae f.l (wi (((f.l.length : Nat) : Int) - 1)))) (aae f.l (wi (((f.l.length : Nat) : Int) - 1)))).pc) + 1) } : RecV)) (aae f.l (wi (((f.l.length : Nat) : Int) - 1)))).kids)) ++ ([b]) } : RecV)).length : Nat) : Int) then
   if ((acv (atL [] e.c.progs ((aap (ws7 e.recs (aae f.l (wi (((f.l.length : Nat) : Int) - 1)))) (aae f.l (wi (((f.l.length : Nat) : Int) - 1)))).prog)) ((aap e.recs (aae f.l (wi (((f.l.length : Nat) : Int) - 1)))).pc)).b) = ((acv (atL [] e.c.progs ((aap (ws7 e.recs (aae f.l (wi (((f.l.length : Nat) : Int) - 1)))) (aae f.l (wi (((f.l.length : Nat) : Int) - 1)))).prog)) ((aap e.recs (aae f.l (wi (((f.l.length : Nat) : Int) - 1)))).pc)).b) then
   some (((⟨false,0,0⟩ : ResV),()),(({ e with recs := (((ws7 e.recs (aae f.l (wi (((f.l.length : Nat) : Int) - 1)))).set (aae f.l (wi (((f.l.length : Nat) : Int) - 1))).toNat ({ aap (ws7 e.recs (aae f.l (wi (((f.l.length : Nat) : Int) - 1)))) (aae f.l (wi (((f.l.length : Nat) : Int) - 1))) with pc := wi (((aap (ws7 e.recs (aae f.l (wi (((f.l.length : Nat) : Int) - 1)))) (aae f.l (wi (((f.l.length : Nat) : Int) - 1)))).pc) + 1) } : RecV)).set (aae f.l (wi (((f.l.length : Nat) : Int) - 1))).toNat ({ aap ((ws7 e.recs (aae f.l (wi (((f.l.length : Nat) : Int) - 1)))).set (aae f.l (wi (((f.l.length : Nat) : Int) - 1))).toNat ({ aap (ws7 e.recs (aae f.l (wi (((f.l.length : Nat) : Int) - 1)))) (aae f.l (wi (((f.l.length : Nat) : Int) - 1))) with pc := wi (((aap (ws7 e.recs (aae f.l (wi (((f.l.length : Nat) : Int) - 1)))) (aae f.l (wi (((f.l.length : Nat) : Int) - 1)))).pc) + 1) } : RecV)) (aae f.l (wi (((f.l.length : Nat) : Int) - 1))) with kids := (([]) ++ ((aap ((ws7 e.recs (aae f.l (wi (((f.l.length : Nat) : Int) - 1)))).set (aae f.l (wi (((f.l.length : Nat) : Int) - 1))).toNat ({ aap (ws7 e.recs (aae f.l (wi (((f.l.length : Nat) : Int) - 1)))) (aae f.l (wi (((f.l.length : Nat) : Int) - 1))) with pc := wi (((aap (ws7 e.recs (aae f.l (wi (((f.l.length : Nat) : Int) - 1)))) (aae f.l (wi (((f.l.length : Nat) : Int) - 1)))).pc) + 1) } : RecV)) (aae f.l (wi (((f.l.length : Nat) : Int) - 1)))).kids)) ++ ([b]) } : RecV)).set b.toNat r2.1.1 } : EnvV),({ f with line := 6,d := (acv (atL [] e.c.progs ((aap (ws7 e.recs (aae f.l (wi (((f.l.length : Nat) : Int) - 1)))) (aae f.l (wi (((f.l.length : Nat) : Int) - 1)))).prog)) ((aap e.recs (aae f.l (wi (((f.l.length : Nat) : Int) - 1)))).pc)).b,n := b } : FrV),()))
   else none
   else none
   else none
   else none
   else none
   else none
   else none
   else none
   else none
   )
   else
   if f.line = 6 then
   (aay e 3 f.a f.n (aae f.l (wi (((f.l.length : Nat) : Int) - 1))) f.d).bind fun r5 =>
   some (((⟨false,0,0⟩ : ResV),()),(r5.2.1,({ f with line := 7 } : FrV),()))
   else
   if f.line = 7 then
   if a = 3 then
   some (((⟨false,0,0⟩ : ResV),()),(e,({ f with line := 9 } : FrV),()))
   else
   some (((⟨false,0,0⟩ : ResV),()),(e,({ f with line := 8 } : FrV),()))
   else
   if f.line = 8 then
   some (((⟨false,0,0⟩ : ResV),()),(e,({ f with line := 1 } : FrV),()))
   else
   if f.line = 9 then
   if a = 1 then
   agr (
   if f.n = f.n then
   agr (
   if (((([] : List Int).length + f.l.length : Nat)) : Int) < 1000000000000 then
   if f.n = f.n then
   if ((((([]) ++ f.l).length + ([f.n] : List Int).length : Nat)) : Int) < 1000000000000 then
   some (((⟨false,0,0⟩ : ResV),()),(e,({ f with line := 1,l := (([]) ++ f.l) ++ ([f.n]) } : FrV),()))
   else none
   else none
   else none
   ) (
   if (((([] : List Int).length + f.l.length : Nat)) : Int) < 1000000000000 then
   if f.n = f.n then
   if ((((([]) ++ f.l).length + ([f.n] : List Int).length : Nat)) : Int) < 1000000000000 then
   some (((⟨false,0,0⟩ : ResV),()),(e,({ f with line := 1,l := (([]) ++ f.l) ++ ([f.n]) } : FrV),()))
   else none
   else none
   else none
   )
   else none
   ) (
   if f.n = f.n then
   if (((([] : List Int).length + f.l.length : Nat)) : Int) < 1000000000000 then
   if f.n = f.n then
   if ((((([]) ++ f.l).length + ([f.n] : List Int).length : Nat)) : Int) < 1000000000000 then
   some (((⟨false,0,0⟩ : ResV),()),(e,({ f with line := 1,l := (([]) ++ f.l) ++ ([f.n]) } : FrV),()))
   else none
   else none
   else none
   else none
   )
   else
   some (((⟨false,0,0⟩ : ResV),()),(e,({ f with line := 1 } : FrV),()))
   else
   if f.line = 14 then
   (aay e 7 f.a (aae f.l (wi (((f.l.length : Nat) : Int) - 1))) 0 f.t).bind fun r6 =>
   (adj f).bind fun r7 =>
   some ((r7.1.1,()),(r6.2.1,r7.2.1,()))
   else
   if f.line = 20 then
   if a = 3 then
   some (((⟨false,0,0⟩ : ResV),()),(e,({ f with line := 22,t := b } : FrV),()))
   else
   some (((⟨false,0,0⟩ : ResV),()),(e,({ f with line := 21,t := b } : FrV),()))
   else
   if f.line = 21 then
   (adj f).bind fun r8 =>
   some ((r8.1.1,()),(e,r8.2.1,()))
   else
   if f.line = 22 then
   if a ≠ 1 then
   (adj f).bind fun r9 =>
   some ((r9.1.1,()),(e,r9.2.1,()))
   else
   if 0 ≤ wi (((f.l.length : Nat) : Int) - 1) ∧ wi (((f.l.length : Nat) : Int) - 1) ≤ ((f.l.length : Nat) : Int) then
   agr (
   if f.n = f.n then
   agr (
   if (((([] : List Int).length + (f.l.take (wi (((f.l.length : Nat) : Int) - 1) : Int).toNat).length : Nat)) : Int) < 1000000000000 then
   if f.n = f.n then
   if ((((([]) ++ (f.l.take (wi (((f.l.length : Nat) : Int) - 1) : Int).toNat)).length + ([f.n] : List Int).length : Nat)) : Int) < 1000000000000 then
   some (((⟨false,0,0⟩ : ResV),()),(e,({ f with line := 1,l := (([]) ++ (f.l.take (wi (((f.l.length : Nat) : Int) - 1) : Int).toNat)) ++ ([f.n]) } : FrV),()))
   else none
   else none
   else none
   ) (
   if (((([] : List Int).length + (f.l.take (wi (((f.l.length : Nat) : Int) - 1) : Int).toNat).length : Nat)) : Int) < 1000000000000 then
   if f.n = f.n then
   if ((((([]) ++ (f.l.take (wi (((f.l.length : Nat) : Int) - 1) : Int).toNat)).length + ([f.n] : List Int).length : Nat)) : Int) < 1000000000000 then
   some (((⟨false,0,0⟩ : ResV),()),(e,({ f with line := 1,l := (([]) ++ (f.l.take (wi (((f.l.length : Nat) : Int) - 1) : Int).toNat)) ++ ([f.n]) } : FrV),()))
   else none
   else none
   else none
   )
   else none
   ) (
   if f.n = f.n then
   if (((([] : List Int).length + (f.l.take (wi (((f.l.length : Nat) : Int) - 1) : Int).toNat).length : Nat)) : Int) < 1000000000000 then
   if f.n = f.n then
   if ((((([]) ++ (f.l.take (wi (((f.l.length : Nat) : Int) - 1) : Int).toNat)).length + ([f.n] : List Int).length : Nat)) : Int) < 1000000000000 then
   some (((⟨false,0,0⟩ : ResV),()),(e,({ f with line := 1,l := (([]) ++ (f.l.take (wi (((f.l.length : Nat) : Int) - 1) : Int).toNat)) ++ ([f.n]) } : FrV),()))
   else none
   else none
   else none
   else none
   )
   else none
   else
   some (((⟨false,0,0⟩ : ResV),()),(e,f,()))
  else none
 else none
noncomputable abbrev aix : Con SR1 := ⟨133,[.ref 12,.ref 8,.sh sI_,.sh sI_],[.val 10],fun x =>agA x.1 x.2.1 x.2.2.1 x.2.2.2.1⟩
noncomputable def alT : List (Nat × Func) := [(173,Tryz.f173),(174,Tryz.f174)]
theorem alU : CO Tryz.prog aix := aaC aaB Tryz.func133 [aa1,agy,ait] ⟨aaZ,ahi,ajA,trivial⟩ alT ⟨Tryz.func173,Tryz.func174,trivial⟩ (fun _ =>[]) [] fun x =>by kernel_rfl
noncomputable def adP (e : EnvV) (f : FrV) (a : Int) (b : Int) : Option ((Unit) × (EnvV × FrV × Unit)) :=
 if f.line = 1 then
  if (if 1 < e.c.tasks then e.c.tasks else 1) ≠ 0 then
   some ((()),(e,({ f with line := 2,j := (Int.tmod (wi (f.j + 1)) (if 1 < e.c.tasks then e.c.tasks else 1)) } : FrV),()))
  else none
 else
 if f.line = 2 then
  if a = 1 then
   some ((()),(e,({ f with line := 7,n := b } : FrV),()))
  else
  some ((()),(e,({ f with line := 3,n := b } : FrV),()))
 else
 if f.line = 3 then
  if a = 1 then
   some ((()),(e,({ f with line := 6,n := b } : FrV),()))
  else
  if a = 0 then
   some ((()),(e,({ f with line := 2,n := b } : FrV),()))
  else
  if e.c.workers = 1 then
   some ((()),(e,({ f with line := 8,n := b } : FrV),()))
  else
  some ((()),(e,({ f with line := 4,n := b } : FrV),()))
 else
 if f.line = 4 then
  if a = 1 then
   some ((()),(e,({ f with line := 5,d := (Int.tmod b 64),i := wi (Int.tdiv b 64) } : FrV),()))
  else
  some ((()),(e,({ f with line := 8,d := (Int.tmod b 64),i := wi (Int.tdiv b 64) } : FrV),()))
 else
 if f.line = 5 then
  if a = 1 then
   (aay e 14 f.a b f.i f.d).bind fun r1 =>
   some ((()),(r1.2.1,({ f with line := 6,n := b } : FrV),()))
  else
  if a = 2 then
   some ((()),(e,({ f with line := 9,n := b } : FrV),()))
  else
  some ((()),(e,({ f with line := 1,n := b } : FrV),()))
 else
 if f.line = 6 then
  if a = 1 then
   some ((()),(e,({ f with line := 7 } : FrV),()))
  else
  some ((()),(e,({ f with line := 1 } : FrV),()))
 else
 some ((()),(e,({ f with line := 1 } : FrV),()))
noncomputable abbrev afW : Con SR1 := ⟨134,[.ref 12,.ref 8,.sh sI_,.sh sI_],[],fun x =>adP x.1 x.2.1 x.2.2.1 x.2.2.2.1⟩
theorem aiw : CO Tryz.prog afW := aaC aaB Tryz.func134 [aa1] ⟨aaZ,trivial⟩ [] trivial (fun _ =>[]) [] fun x =>by kernel_rfl
noncomputable def adB (e : EnvV) (f : FrV) : Option ((ResV × Unit) × (EnvV × FrV × Unit)) :=
 if ((e.c.subs.length : Nat) : Int) ≤ (wi (f.i + 1)) then
  some (((⟨true,0,0⟩ : ResV),()),(e,({ f with line := 1,b := 0,i := wi (f.i + 1) } : FrV),()))
 else
 some (((⟨false,0,0⟩ : ResV),()),(e,({ f with line := 1,b := 0,i := wi (f.i + 1) } : FrV),()))
noncomputable abbrev agz : Con SR1 := ⟨178,[.ref 12,.ref 8],[.val 10],fun x =>adB x.1 x.2.1⟩
noncomputable def ajf : List (Nat × Func) := [(112,Tryz.f112)]
theorem ajg : CO Tryz.prog agz := aaC aaB Tryz.func178 [] trivial ajf ⟨Tryz.func112,trivial⟩ (fun _ =>[]) [] fun x =>by kernel_rfl
noncomputable def adQ (e : EnvV) (f : FrV) (a : Int) (b : Int) : Option ((ResV × Unit) × (EnvV × FrV × Unit)) :=
 if 0 ≤ f.i ∧ f.i < ((e.c.subs.length : Nat) : Int) then
  if ((ac1 e.c.subs f.i).prog) = ((ac1 e.c.subs f.i).prog) then
   if ((ac1 e.c.subs f.i).level) = ((ac1 e.c.subs f.i).level) then
   if ((ac1 e.c.subs f.i).deadline) = ((ac1 e.c.subs f.i).deadline) then
   if f.i = f.i then
   if f.line = 1 then
   some (((⟨false,0,0⟩ : ResV),()),(e,({ f with line := 2 } : FrV),()))
   else
   if f.line = 3 then
   if a = 3 then
   (aay e 2 e.c.workers 0 f.i 2).bind fun r1 =>
   some (((⟨false,0,0⟩ : ResV),()),(r1.2.1,({ f with line := 8 } : FrV),()))
   else
   (aeq ((ac1 e.c.subs f.i).prog) (-1)).bind fun r2 =>
   if 0 ≤ b ∧ b < ((e.recs.length : Nat) : Int) then
   some (((⟨false,0,0⟩ : ResV),()),(({ e with recs := e.recs.set b.toNat r2.1.1 } : EnvV),({ f with line := 4,n := b } : FrV),()))
   else none
   else
   if f.line = 6 then
   if a = 0 then
   (aay e 1 e.c.workers f.n f.i ((ac1 e.c.subs f.i).level)).bind fun r3 =>
   some (((⟨false,0,0⟩ : ResV),()),(r3.2.1,({ f with line := 7,b := 1 } : FrV),()))
   else
   some (((⟨false,0,0⟩ : ResV),()),(e,({ f with line := 8 } : FrV),()))
   else
   if f.line = 8 then
   if f.b = 1 then
   some (((⟨false,0,0⟩ : ResV),()),(e,({ f with line := 9 } : FrV),()))
   else
   (adB e f).bind fun r4 =>
   some ((r4.1.1,()),(r4.2.1,r4.2.2.1,()))
   else
   (adB e f).bind fun r5 =>
   some ((r5.1.1,()),(r5.2.1,r5.2.2.1,()))
   else none
   else none
   else none
  else none
 else none
noncomputable abbrev afX : Con SR1 := ⟨135,[.ref 12,.ref 8,.sh sI_,.sh sI_],[.val 10],fun x =>adQ x.1 x.2.1 x.2.2.1 x.2.2.2.1⟩
theorem aiy : CO Tryz.prog afX := aaC aaB Tryz.func135 [aa1,agy,agz] ⟨aaZ,ahi,ajg,trivial⟩ [] trivial (fun _ =>[]) [] fun x =>by kernel_rfl
noncomputable def ajF (e : EnvV) (f : FrV) (a : Int) (b : Int) : Option ((ResV × Unit) × (EnvV × FrV × Unit)) :=
 if f.kind = 5 then
  if f.line = 2 then
   some (((⟨true,a,0⟩ : ResV),()),(e,f,()))
  else
  if a = 3 then
   some (((⟨true,a,0⟩ : ResV),()),(e,f,()))
  else
  some (((⟨false,0,0⟩ : ResV),()),(e,({ f with line := 2 } : FrV),()))
 else
 if f.kind = 6 then
  if f.line = 3 then
   some (((⟨false,0,0⟩ : ResV),()),(e,({ f with line := 1 } : FrV),()))
  else
  if a = 1 then
   some (((⟨true,1,b⟩ : ResV),()),(e,f,()))
  else
  some (((⟨false,0,0⟩ : ResV),()),(e,({ f with line := 3 } : FrV),()))
 else
 if f.kind = 15 then
  some (((⟨true,a,f.t⟩ : ResV),()),(e,f,()))
 else
 if f.kind = 17 then
  (afu e f a).bind fun r1 =>
  some ((r1.1.1,()),(r1.2.1,r1.2.2.1,()))
 else
 if f.kind = 18 then
  if a = 3 then
   (aay e 19 f.a f.b 0 f.t).bind fun r2 =>
   some (((⟨true,1,0⟩ : ResV),()),(r2.2.1,f,()))
  else
  some (((⟨true,1,0⟩ : ResV),()),(e,f,()))
 else
 if f.kind = 22 then
  (aer e f a b).bind fun r3 =>
  some ((r3.1.1,()),(r3.2.1,r3.2.2.1,()))
 else
 if f.kind = 23 then
  (afv f a b).bind fun r4 =>
  some ((r4.1.1,()),(e,r4.2.1,()))
 else
 if f.kind = 24 then
  (agA e f a b).bind fun r5 =>
  some ((r5.1.1,()),(r5.2.1,r5.2.2.1,()))
 else
 if f.kind = 25 then
  (adP e f a b).bind fun r6 =>
  some (((⟨false,0,0⟩ : ResV),()),(r6.2.1,r6.2.2.1,()))
 else
 if f.kind = 26 then
  (adQ e f a b).bind fun r7 =>
  some ((r7.1.1,()),(r7.2.1,r7.2.2.1,()))
 else
 some (((⟨false,0,0⟩ : ResV),()),(e,f,()))
noncomputable abbrev aol : Con SR1 := ⟨85,[.ref 12,.ref 8,.sh sI_,.sh sI_],[.val 10],fun x =>ajF x.1 x.2.1 x.2.2.1 x.2.2.2.1⟩
noncomputable def aq2 : List (Nat × Func) := [(112,Tryz.f112)]
theorem aq3 : CO Tryz.prog aol := aaC aaB Tryz.func85 [ahQ,aa1,agB,ahR,aix,afW,afX] ⟨akw,aaZ,aji,aky,alU,aiw,aiy,trivial⟩ aq2 ⟨Tryz.func112,trivial⟩ (fun _ =>[]) [] fun x =>by kernel_rfl
noncomputable def acj (m : MaV) (e : EnvV) : Option ((Bool × Unit) × (MaV × EnvV × Unit)) :=
 if m.over = true then
  some ((true,()),(m,e,()))
 else
 (lpF (σ := MaV × EnvV × Unit) (β := MaV × EnvV × Unit) (fun self3 x1 =>
  if 0 ≤ wi (((x1.1.f.length : Nat) : Int) - 1) ∧ wi (((x1.1.f.length : Nat) : Int) - 1) < ((x1.1.f.length : Nat) : Int) then
   agr (
   (af5 x1.2.1 (ap6 x1.1.f (wi (((x1.1.f.length : Nat) : Int) - 1)))).bind fun r5 =>
   if (!r5.1.2.1) = true then
   some (({ x1.1 with f := x1.1.f.set (wi (((x1.1.f.length : Nat) : Int) - 1)).toNat r5.2.2.1 } : MaV),r5.2.1,())
   else
   if ((((x1.1.f.set (wi (((x1.1.f.length : Nat) : Int) - 1)).toNat r5.2.2.1).length + ([({ r5.1.1 with line := 1 } : FrV)] : List FrV).length : Nat)) : Int) < 100000000000 then
   self3 (({ x1.1 with f := (x1.1.f.set (wi (((x1.1.f.length : Nat) : Int) - 1)).toNat r5.2.2.1) ++ ([({ r5.1.1 with line := 1 } : FrV)]) } : MaV),r5.2.1,())
   else none
   ) (
   (af5 x1.2.1 (ap6 x1.1.f (wi (((x1.1.f.length : Nat) : Int) - 1)))).bind fun r4 =>
   if (!r4.1.2.1) = true then
   some (({ x1.1 with f := x1.1.f.set (wi (((x1.1.f.length : Nat) : Int) - 1)).toNat r4.2.2.1 } : MaV),r4.2.1,())
   else
   if ((((x1.1.f.set (wi (((x1.1.f.length : Nat) : Int) - 1)).toNat r4.2.2.1).length + ([({ r4.1.1 with line := 1 } : FrV)] : List FrV).length : Nat)) : Int) < 100000000000 then
   self3 (({ x1.1 with f := (x1.1.f.set (wi (((x1.1.f.length : Nat) : Int) - 1)).toNat r4.2.2.1) ++ ([({ r4.1.1 with line := 1 } : FrV)]) } : MaV),r4.2.1,())
   else none
   )
  else none
 ) 18446744073709551616 (m,e,())).bind fun z2 =>
 if 0 ≤ wi (((z2.1.f.length : Nat) : Int) - 1) ∧ wi (((z2.1.f.length : Nat) : Int) - 1) < ((z2.1.f.length : Nat) : Int) then
  agr (
   (aiu z2.2.1 (ap6 z2.1.f (wi (((z2.1.f.length : Nat) : Int) - 1)))).bind fun r12 =>
   (lpF (σ := ResV × MaV × EnvV × Unit) (β := (ResV × MaV × EnvV × Unit) ⊕ ((Bool × Unit) × (MaV × EnvV × Unit))) (fun self15 x13 =>
   if x13.1.done = true then
   if 0 ≤ wi (((x13.2.1.f.length : Nat) : Int) - 1) ∧ wi (((x13.2.1.f.length : Nat) : Int) - 1) ≤ ((x13.2.1.f.length : Nat) : Int) then
   if (((x13.2.1.f.take (wi (((x13.2.1.f.length : Nat) : Int) - 1) : Int).toNat).length : Nat) : Int) = 0 then
   if x13.1.value = x13.1.value then
   if x13.1.code = x13.1.code then
   if x13.1.value = x13.1.value then
   Option.map Sum.inr (
   some ((true,()),(({ x13.1 with f := x13.2.1.f.take (wi (((x13.2.1.f.length : Nat) : Int) - 1) : Int).toNat,over := true } : MaV),x13.2.2.1,()))
   )
   else none
   else none
   else none
   else
   if 0 ≤ wi ((((x13.2.1.f.take (wi (((x13.2.1.f.length : Nat) : Int) - 1) : Int).toNat).length : Nat) : Int) - 1) ∧ wi ((((x13.2.1.f.take (wi (((x13.2.1.f.length : Nat) : Int) - 1) : Int).toNat).length : Nat) : Int) - 1) < (((x13.2.1.f.take (wi (((x13.2.1.f.length : Nat) : Int) - 1) : Int).toNat).length : Nat) : Int) then
   (ajF x13.2.2.1 (ap6 (x13.2.1.f.take (wi (((x13.2.1.f.length : Nat) : Int) - 1) : Int).toNat) (wi ((((x13.2.1.f.take (wi (((x13.2.1.f.length : Nat) : Int) - 1) : Int).toNat).length : Nat) : Int) - 1))) x13.1.code x13.1.value).bind fun r16 =>
   self15 (r16.1.1,({ x13.2.1 with f := (x13.2.1.f.take (wi (((x13.2.1.f.length : Nat) : Int) - 1) : Int).toNat).set (wi ((((x13.2.1.f.take (wi (((x13.2.1.f.length : Nat) : Int) - 1) : Int).toNat).length : Nat) : Int) - 1)).toNat r16.2.2.1 } : MaV),r16.2.1,())
   else none
   else none
   else
   some (Sum.inl (x13.1,x13.2.1,x13.2.2.1,()))
   ) 18446744073709551616 (r12.1.1,({ z2.1 with f := z2.1.f.set (wi (((z2.1.f.length : Nat) : Int) - 1)).toNat r12.2.2.1 } : MaV),r12.2.1,())).bind fun z14 =>match z14 with
   | .inr o17 =>some o17
   | .inl z14 =>
   some ((false,()),(z14.2.1,z14.2.2.1,()))
  ) (
   (aiu z2.2.1 (ap6 z2.1.f (wi (((z2.1.f.length : Nat) : Int) - 1)))).bind fun r6 =>
   (lpF (σ := ResV × MaV × EnvV × Unit) (β := (ResV × MaV × EnvV × Unit) ⊕ ((Bool × Unit) × (MaV × EnvV × Unit))) (fun self9 x7 =>
   if x7.1.done = true then
   if 0 ≤ wi (((x7.2.1.f.length : Nat) : Int) - 1) ∧ wi (((x7.2.1.f.length : Nat) : Int) - 1) ≤ ((x7.2.1.f.length : Nat) : Int) then
   if (((x7.2.1.f.take (wi (((x7.2.1.f.length : Nat) : Int) - 1) : Int).toNat).length : Nat) : Int) = 0 then
   if x7.1.value = x7.1.value then
   if x7.1.code = x7.1.code then
   if x7.1.value = x7.1.value then
   Option.map Sum.inr (
   some ((true,()),(({ x7.1 with f := x7.2.1.f.take (wi (((x7.2.1.f.length : Nat) : Int) - 1) : Int).toNat,over := true } : MaV),x7.2.2.1,()))
   )
   else none
   else none
   else none
   else
   if 0 ≤ wi ((((x7.2.1.f.take (wi (((x7.2.1.f.length : Nat) : Int) - 1) : Int).toNat).length : Nat) : Int) - 1) ∧ wi ((((x7.2.1.f.take (wi (((x7.2.1.f.length : Nat) : Int) - 1) : Int).toNat).length : Nat) : Int) - 1) < (((x7.2.1.f.take (wi (((x7.2.1.f.length : Nat) : Int) - 1) : Int).toNat).length : Nat) : Int) then
   (ajF x7.2.2.1 (ap6 (x7.2.1.f.take (wi (((x7.2.1.f.length : Nat) : Int) - 1) : Int).toNat) (wi ((((x7.2.1.f.take (wi (((x7.2.1.f.length : Nat) : Int) - 1) : Int).toNat).length : Nat) : Int) - 1))) x7.1.code x7.1.value).bind fun r10 =>
   self9 (r10.1.1,({ x7.2.1 with f := (x7.2.1.f.take (wi (((x7.2.1.f.length : Nat) : Int) - 1) : Int).toNat).set (wi ((((x7.2.1.f.take (wi (((x7.2.1.f.length : Nat) : Int) - 1) : Int).toNat).length : Nat) : Int) - 1)).toNat r10.2.2.1 } : MaV),r10.2.1,())
   else none
   else none
   else
   some (Sum.inl (x7.1,x7.2.1,x7.2.2.1,()))
   ) 18446744073709551616 (r6.1.1,({ z2.1 with f := z2.1.f.set (wi (((z2.1.f.length : Nat) : Int) - 1)).toNat r6.2.2.1 } : MaV),r6.2.1,())).bind fun z8 =>match z8 with
   | .inr o11 =>some o11
   | .inl z8 =>
   some ((false,()),(z8.2.1,z8.2.2.1,()))
  )
 else none
noncomputable abbrev aeL : Con SR1 := ⟨61,[.ref 11,.ref 12],[.sh .b],fun x =>acj x.1 x.2.1⟩
theorem ahh : CO Tryz.prog aeL := aaC aaB Tryz.func61 [alP,aok,aol] ⟨apv,aq1,aq3,trivial⟩ [] trivial (fun _ =>[]) [(3,.loop [.ob 0 11,.ob 1 12] 18446744073709551616 0),(8,.loopR [.rg 7 (.own 10),.ob 0 11,.ob 1 12] 18446744073709551616 2)] fun x =>by kernel_rfl
end
section
open Go
def Fit (e : EnvV) : Prop := e.evs.length < 999999999999
theorem acu {e : EnvV} (h : Fit e) (k w t o l : Int) : aay e k w t o l = some ((()),(e.em k w t o l,())) := by
 unfold aay EnvV.em
 unfold Fit at h
 rw [if_pos (by simp; omega)]
theorem aeE {e : EnvV} {m : MemV} (h : Fit e) (k w t o l : Int) : aay { e with m := m } k w t o l = some ((()),(({ e with m := m } : EnvV).em k w t o l,())) := acu (e := { e with m := m }) h k w t o l
theorem aeD {e : EnvV} {m : MemV} {rs : List RecV} (h : Fit e) (k w t o l : Int) : aay { e with m := m,recs := rs } k w t o l = some ((()),(({ e with m := m,recs := rs } : EnvV).em k w t o l,())) := acu (e := { e with m := m,recs := rs }) h k w t o l
theorem avk {x : Int} (h : ¬ x < 1) (h2 : x ≤ 9223372036854775807) : wu x ≠ 0 := by
 have : wu x = x := az2 (by omega) (by omega)
 rw [this]; omega
theorem w2 : wi 2 = 2 := rfl
theorem w3 : wi 3 = 3 := rfl
theorem w4 : wi 4 = 4 := rfl
theorem w5 : wi 5 = 5 := rfl
theorem w6 : wi 6 = 6 := rfl
theorem w7 : wi 7 = 7 := rfl
theorem w8 : wi 8 = 8 := rfl
theorem w9 : wi 9 = 9 := rfl
section
variable {e : EnvV} {f : FrV}
theorem ate (hq : f.q.cap ≤ 9223372036854775807) : akq e f = some (adc (alu e f)) := by
 have hq2 := @avk f.q.cap; unfold akq alu
 simp only [aa6,aa8,aaT,aaV,aa9,aaS,aaU,aav,aaw,aaW,aaJ,abn,aaM,aba,aaG,aaN,abz,aaX,aa2,Option.bind_some,if_true,abc,adc,go,fin,EnvV.ac,EnvV.rd,EnvV.hit,EnvV.em,szV,abW,ab5,acp,abU,adn,EnvV.put,EnvV.rc,acX,EnvV.sub]
 repeat' split
 all_goals first | rfl | omega | (simp_all (config := { maxSteps := 2000000 }) [w2,w3,w4,w5,w6,w7,w8,w9]; done) | (simp_all (config := { maxSteps := 2000000 }) [w2,w3,w4,w5,w6,w7,w8,w9]; omega)
theorem anJ : aft e f = some (adc (amx e f)) := by
 unfold aft amx
 simp only [aa6,aa8,aaT,aaV,aa9,aaS,aaU,aav,aaw,aaW,aaJ,abn,aaM,aba,aaG,aaN,abz,aaX,aa2,Option.bind_some,if_true,abc,adc,go,fin,EnvV.ac,EnvV.rd,EnvV.hit,EnvV.em,szV,abW,ab5,acp,abU,adn,EnvV.put,EnvV.rc,acX,EnvV.sub]
 repeat' split
 all_goals first | rfl | omega | (simp_all (config := { maxSteps := 2000000 }) [w2,w3,w4,w5,w6,w7,w8,w9]; done) | (simp_all (config := { maxSteps := 2000000 }) [w2,w3,w4,w5,w6,w7,w8,w9]; omega)
theorem av4 (hq : f.q.cap ≤ 9223372036854775807) : aoi e f = some (adc (ard e f)) := by
 have hq2 := @avk f.q.cap; unfold aoi ard
 simp only [aa6,aa8,aaT,aaV,aa9,aaS,aaU,aav,aaw,aaW,aaJ,abn,aaM,aba,aaG,aaN,abz,aaX,aa2,Option.bind_some,if_true,abc,adc,go,fin,EnvV.ac,EnvV.rd,EnvV.hit,EnvV.em,szV,abW,ab5,acp,abU,adn,EnvV.put,EnvV.rc,acX,EnvV.sub]
 repeat' split
 all_goals first | rfl | omega | (simp_all (config := { maxSteps := 2000000 }) [w2,w3,w4,w5,w6,w7,w8,w9]; done) | (simp_all (config := { maxSteps := 2000000 }) [w2,w3,w4,w5,w6,w7,w8,w9]; omega)
theorem arU : agx e f = some (adc (aiU e f)) := by
 unfold agx aiU
 simp only [aa6,aa8,aaT,aaV,aa9,aaS,aaU,aav,aaw,aaW,aaJ,abn,aaM,aba,aaG,aaN,abz,aaX,aa2,Option.bind_some,if_true,abc,adc,go,fin,EnvV.ac,EnvV.rd,EnvV.hit,EnvV.em,szV,abW,ab5,acp,abU,adn,EnvV.put,EnvV.rc,acX,EnvV.sub]
 repeat' split
 all_goals first | rfl | omega | (simp_all (config := { maxSteps := 2000000 }) [w2,w3,w4,w5,w6,w7,w8,w9]; done) | (simp_all (config := { maxSteps := 2000000 }) [w2,w3,w4,w5,w6,w7,w8,w9]; omega)
theorem aqL (hE : Fit e) : agv e f = some (adc (air e f)) := by
 unfold agv air
 simp only [aa6,aa8,aaT,aaV,aa9,aaS,aaU,aav,aaw,aaW,aaJ,abn,aaM,aba,aaG,aaN,abz,aaX,aa2,Option.bind_some,if_true,abc,adc,go,fin,EnvV.ac,EnvV.rd,EnvV.hit,EnvV.em,szV,abW,ab5,acp,abU,adn,EnvV.put,EnvV.rc,acX,EnvV.sub,acu,aeE hE,aeD hE]
 by_cases h1 : f.line = 1
 ·simp only [if_pos h1]
  try simp only [h1]
  repeat' split
  all_goals first | rfl | omega | (simp_all (config := { maxSteps := 400000 }) [w2,w3,w4,w5,w6,w7,w8,w9]; done) | (simp_all (config := { maxSteps := 400000 }) [w2,w3,w4,w5,w6,w7,w8,w9]; omega)
 by_cases h2 : f.line = 2
 ·simp only [if_neg h1,if_pos h2]
  try simp only [h2]
  repeat' split
  all_goals first | rfl | omega | (simp_all (config := { maxSteps := 400000 }) [w2,w3,w4,w5,w6,w7,w8,w9]; done) | (simp_all (config := { maxSteps := 400000 }) [w2,w3,w4,w5,w6,w7,w8,w9]; omega)
 by_cases h3 : f.line = 3
 ·simp only [if_neg h1,if_neg h2,if_pos h3]
  try simp only [h3]
  repeat' split
  all_goals first | rfl | omega | (simp_all (config := { maxSteps := 400000 }) [w2,w3,w4,w5,w6,w7,w8,w9]; done) | (simp_all (config := { maxSteps := 400000 }) [w2,w3,w4,w5,w6,w7,w8,w9]; omega)
 by_cases h4 : f.line = 4
 ·simp only [if_neg h1,if_neg h2,if_neg h3,if_pos h4]
  try simp only [h4]
  repeat' split
  all_goals first | rfl | omega | (simp_all (config := { maxSteps := 400000 }) [w2,w3,w4,w5,w6,w7,w8,w9]; done) | (simp_all (config := { maxSteps := 400000 }) [w2,w3,w4,w5,w6,w7,w8,w9]; omega)
 by_cases h5 : f.line = 5
 ·simp only [if_neg h1,if_neg h2,if_neg h3,if_neg h4,if_pos h5]
  try simp only [h5]
  repeat' split
  all_goals first | rfl | omega | (simp_all (config := { maxSteps := 400000 }) [w2,w3,w4,w5,w6,w7,w8,w9]; done) | (simp_all (config := { maxSteps := 400000 }) [w2,w3,w4,w5,w6,w7,w8,w9]; omega)
 by_cases h6 : f.line = 6
 ·simp only [if_neg h1,if_neg h2,if_neg h3,if_neg h4,if_neg h5,if_pos h6]
  try simp only [h6]
  repeat' split
  all_goals first | rfl | omega | (simp_all (config := { maxSteps := 400000 }) [w2,w3,w4,w5,w6,w7,w8,w9]; done) | (simp_all (config := { maxSteps := 400000 }) [w2,w3,w4,w5,w6,w7,w8,w9]; omega)
 by_cases h7 : f.line = 7
 ·simp only [if_neg h1,if_neg h2,if_neg h3,if_neg h4,if_neg h5,if_neg h6,if_pos h7]
  try simp only [h7]
  repeat' split
  all_goals first | rfl | omega | (simp_all (config := { maxSteps := 400000 }) [w2,w3,w4,w5,w6,w7,w8,w9]; done) | (simp_all (config := { maxSteps := 400000 }) [w2,w3,w4,w5,w6,w7,w8,w9]; omega)
 ·simp only [if_neg h1,if_neg h2,if_neg h3,if_neg h4,if_neg h5,if_neg h6,if_neg h7]
  repeat' split
  all_goals first | rfl | omega | (simp_all (config := { maxSteps := 400000 }) [w2,w3,w4,w5,w6,w7,w8,w9]; done) | (simp_all (config := { maxSteps := 400000 }) [w2,w3,w4,w5,w6,w7,w8,w9]; omega)
theorem ath (hE : Fit e) : ab9 e f = some (adc (alw e f)) := by
 unfold ab9 alw
 simp only [aa6,aa8,aaT,aaV,aa9,aaS,aaU,aav,aaw,aaW,aaJ,abn,aaM,aba,aaG,aaN,abz,aaX,aa2,Option.bind_some,if_true,abc,adc,go,fin,EnvV.ac,EnvV.rd,EnvV.hit,EnvV.em,szV,abW,ab5,acp,abU,adn,EnvV.put,EnvV.rc,acX,EnvV.sub,acu,aeE hE,aeD hE]
 repeat' split
 all_goals first | rfl | omega | (simp_all (config := { maxSteps := 2000000 }) [w2,w3,w4,w5,w6,w7,w8,w9]; done) | (simp_all (config := { maxSteps := 2000000 }) [w2,w3,w4,w5,w6,w7,w8,w9]; omega)
theorem avl (hE : Fit e) : acO e f = some (adc (aqi e f)) := by
 unfold acO aqi
 simp only [aa6,aa8,aaT,aaV,aa9,aaS,aaU,aav,aaw,aaW,aaJ,abn,aaM,aba,aaG,aaN,abz,aaX,aa2,Option.bind_some,if_true,abc,adc,go,fin,EnvV.ac,EnvV.rd,EnvV.hit,EnvV.em,szV,abW,ab5,acp,abU,adn,EnvV.put,EnvV.rc,acX,EnvV.sub,acu,aeE hE,aeD hE]
 repeat' split
 all_goals first | rfl | omega | (simp_all (config := { maxSteps := 2000000 }) [w2,w3,w4,w5,w6,w7,w8,w9]; done) | (simp_all (config := { maxSteps := 2000000 }) [w2,w3,w4,w5,w6,w7,w8,w9]; omega)
theorem aux : acb e f = some (adc (ams e f)) := by
 unfold acb ams
 simp only [aa6,aa8,aaT,aaV,aa9,aaS,aaU,aav,aaw,aaW,aaJ,abn,aaM,aba,aaG,aaN,abz,aaX,aa2,Option.bind_some,if_true,abc,adc,go,fin,EnvV.ac,EnvV.rd,EnvV.hit,EnvV.em,szV,abW,ab5,acp,abU,adn,EnvV.put,EnvV.rc,acX,EnvV.sub]
 repeat' split
 all_goals first | rfl | omega | (simp_all (config := { maxSteps := 2000000 }) [w2,w3,w4,w5,w6,w7,w8,w9]; done) | (simp_all (config := { maxSteps := 2000000 }) [w2,w3,w4,w5,w6,w7,w8,w9]; omega)
theorem axI (hq : f.q.cap ≤ 9223372036854775807) : atA e f = some (adc (axJ e f)) := by
 have hq2 := @avk f.q.cap; unfold atA axJ
 simp only [aa6,aa8,aaT,aaV,aa9,aaS,aaU,aav,aaw,aaW,aaJ,abn,aaM,aba,aaG,aaN,abz,aaX,aa2,Option.bind_some,if_true,abc,adc,go,fin,EnvV.ac,EnvV.rd,EnvV.hit,EnvV.em,szV,abW,ab5,acp,abU,adn,EnvV.put,EnvV.rc,acX,EnvV.sub]
 by_cases h1 : f.line = 1
 ·simp only [if_pos h1]
  try simp only [h1]
  repeat' split
  all_goals first | rfl | omega | (simp_all (config := { maxSteps := 400000 }) [w2,w3,w4,w5,w6,w7,w8,w9]; done) | (simp_all (config := { maxSteps := 400000 }) [w2,w3,w4,w5,w6,w7,w8,w9]; omega)
 by_cases h2 : f.line = 2
 ·simp only [if_neg h1,if_pos h2]
  try simp only [h2]
  repeat' split
  all_goals first | rfl | omega | (simp_all (config := { maxSteps := 400000 }) [w2,w3,w4,w5,w6,w7,w8,w9]; done) | (simp_all (config := { maxSteps := 400000 }) [w2,w3,w4,w5,w6,w7,w8,w9]; omega)
 by_cases h3 : f.line = 3
 ·simp only [if_neg h1,if_neg h2,if_pos h3]
  try simp only [h3]
  repeat' split
  all_goals first | rfl | omega | (simp_all (config := { maxSteps := 400000 }) [w2,w3,w4,w5,w6,w7,w8,w9]; done) | (simp_all (config := { maxSteps := 400000 }) [w2,w3,w4,w5,w6,w7,w8,w9]; omega)
 by_cases h4 : f.line = 4
 ·simp only [if_neg h1,if_neg h2,if_neg h3,if_pos h4]
  try simp only [h4]
  repeat' split
  all_goals first | rfl | omega | (simp_all (config := { maxSteps := 400000 }) [w2,w3,w4,w5,w6,w7,w8,w9]; done) | (simp_all (config := { maxSteps := 400000 }) [w2,w3,w4,w5,w6,w7,w8,w9]; omega)
 by_cases h5 : f.line = 5
 ·simp only [if_neg h1,if_neg h2,if_neg h3,if_neg h4,if_pos h5]
  try simp only [h5]
  repeat' split
  all_goals first | rfl | omega | (simp_all (config := { maxSteps := 400000 }) [w2,w3,w4,w5,w6,w7,w8,w9]; done) | (simp_all (config := { maxSteps := 400000 }) [w2,w3,w4,w5,w6,w7,w8,w9]; omega)
 by_cases h8 : f.line = 8
 ·simp only [if_neg h1,if_neg h2,if_neg h3,if_neg h4,if_neg h5,if_pos h8]
  try simp only [h8]
  repeat' split
  all_goals first | rfl | omega | (simp_all (config := { maxSteps := 400000 }) [w2,w3,w4,w5,w6,w7,w8,w9]; done) | (simp_all (config := { maxSteps := 400000 }) [w2,w3,w4,w5,w6,w7,w8,w9]; omega)
 by_cases h6 : f.line = 6
 ·simp only [if_neg h1,if_neg h2,if_neg h3,if_neg h4,if_neg h5,if_neg h8,if_pos h6]
  try simp only [h6]
  repeat' split
  all_goals first | rfl | omega | (simp_all (config := { maxSteps := 400000 }) [w2,w3,w4,w5,w6,w7,w8,w9]; done) | (simp_all (config := { maxSteps := 400000 }) [w2,w3,w4,w5,w6,w7,w8,w9]; omega)
 by_cases h7 : f.line = 7
 ·simp only [if_neg h1,if_neg h2,if_neg h3,if_neg h4,if_neg h5,if_neg h8,if_neg h6,if_pos h7]
  try simp only [h7]
  repeat' split
  all_goals first | rfl | omega | (simp_all (config := { maxSteps := 400000 }) [w2,w3,w4,w5,w6,w7,w8,w9]; done) | (simp_all (config := { maxSteps := 400000 }) [w2,w3,w4,w5,w6,w7,w8,w9]; omega)
 ·simp only [if_neg h1,if_neg h2,if_neg h3,if_neg h4,if_neg h5,if_neg h8,if_neg h6,if_neg h7]
  repeat' split
  all_goals first | rfl | omega | (simp_all (config := { maxSteps := 400000 }) [w2,w3,w4,w5,w6,w7,w8,w9]; done) | (simp_all (config := { maxSteps := 400000 }) [w2,w3,w4,w5,w6,w7,w8,w9]; omega)
theorem auI (hE : Fit e) (hr : (e.recs.length : Int) = e.c.tasks) : akv e f = some (adc (aj1 e f)) := by
 unfold akv aj1
 have hin := @as9 e.c f.b 0
 have hok := @ayO e.m 3 (aaK e.c f.b 0) 1 2
 simp only [aa6,aa8,aaT,aaV,aa9,aaS,aaU,aav,aaw,aaW,aaJ,abn,aaM,aba,aaG,aaN,abz,aaX,aa2,Option.bind_some,if_true,abc,adc,go,fin,EnvV.ac,EnvV.rd,EnvV.hit,EnvV.em,szV,abW,ab5,acp,abU,adn,EnvV.put,EnvV.rc,acX,EnvV.sub,acu,aeE hE,aeD hE]
 by_cases h : (acc e.m 3 (aaK e.c f.b 0) 1 2).1.2 = true
 ·have h1 := hin (hok h).1
  have h2 : 0 ≤ f.b ∧ f.b < (e.recs.length : Int) := by omega
  simp only [anY h2,h,h2,if_true,Bool.not_true,Bool.false_eq_true,if_false,and_self]
  repeat' split
  all_goals first | rfl | omega | (simp_all (config := { maxSteps := 400000 }) [w2,w3,w4,w5,w6,w7,w8,w9]; done) | (simp_all (config := { maxSteps := 400000 }) [w2,w3,w4,w5,w6,w7,w8,w9]; omega)
 ·have h' : (acc e.m 3 (aaK e.c f.b 0) 1 2).1.2 = false := by simpa using h
  simp only [h',Bool.not_false,if_true,Bool.false_eq_true,if_false]
theorem amS (hk : f.kind = 12) : acr e f = some (adc (ag7 e f)) := by
 unfold acr ag7
 simp only [hk,aa6,aa8,aaT,aaV,aa9,aaS,aaU,aav,aaw,aaW,aaJ,abn,aaM,aba,aaG,aaN,abz,aaX,aa2,Option.bind_some,if_true,abc,adc,go,fin,EnvV.ac,EnvV.rd,EnvV.hit,EnvV.em,szV,abW,ab5,acp,abU,adn,EnvV.put,EnvV.rc,acX,EnvV.sub]
 by_cases hT : abP e (wi (acc e.m 6 0 1 0).1.1)
 ·have h1 := hT.1
  have h2 := hT.2.1
  have h3 := hT.2.2
  simp only [hT,h1,h2,h3,not_true,if_true,if_false,false_or]
  repeat' split
  all_goals first | rfl | omega | (simp_all (config := { maxSteps := 400000 }) [w2,w3,w4,w5,w6,w7,w8,w9]; done) | (simp_all (config := { maxSteps := 400000 }) [w2,w3,w4,w5,w6,w7,w8,w9]; omega)
 ·simp only [hT,not_false_iff,true_or,if_true]
  unfold abP at hT
  repeat' split
  all_goals first | rfl | omega | (simp_all (config := { maxSteps := 400000 }) [w2,w3,w4,w5,w6,w7,w8,w9]; done) | (simp_all (config := { maxSteps := 400000 }) [w2,w3,w4,w5,w6,w7,w8,w9]; omega)
theorem amR (hk : f.kind = 14) (hE : Fit e) (hr : (e.recs.length : Int) = e.c.tasks) : acr e f = some (adc (aj1 e f)) := by
 unfold acr
 simp only [hk,auI hE hr,Option.bind_some]
 rfl
theorem ake (hk : f.kind = 13) : acr e f = some (adc (agK e f)) := by
 unfold acr agK
 simp only [hk,show ¬ ((13 : Int) = 12) by decide,show ¬ ((13 : Int) = 14) by decide,if_false,aa6,aa8,aaT,aaV,aa9,aaS,aaU,aav,aaw,aaW,aaJ,abn,aaM,aba,aaG,aaN,abz,aaX,aa2,Option.bind_some,if_true,abc,adc,go,fin,EnvV.ac,EnvV.rd,EnvV.hit,EnvV.em,szV,abW,ab5,acp,abU,adn,EnvV.put,EnvV.rc,acX,EnvV.sub]
 by_cases hT : abP e f.a
 ·have h1 := hT.1
  have h2 := hT.2.1
  have h3 := hT.2.2
  simp only [hT,h1,h2,h3,not_true,if_true,if_false,false_or]
  repeat' split
  all_goals first | rfl | omega | (simp_all (config := { maxSteps := 400000 }) [w2,w3,w4,w5,w6,w7,w8,w9]; done) | (simp_all (config := { maxSteps := 400000 }) [w2,w3,w4,w5,w6,w7,w8,w9]; omega)
 ·simp only [hT,not_false_iff,true_or,if_true]
  unfold abP at hT
  repeat' split
  all_goals first | rfl | omega | (simp_all (config := { maxSteps := 400000 }) [w2,w3,w4,w5,w6,w7,w8,w9]; done) | (simp_all (config := { maxSteps := 400000 }) [w2,w3,w4,w5,w6,w7,w8,w9]; omega)
theorem amQ (hk : f.kind = 15) : acr e f = some (adc (ai2 e f)) := by
 unfold acr ai2
 simp only [hk,show ¬ ((15 : Int) = 12) by decide,show ¬ ((15 : Int) = 14) by decide,show ¬ ((15 : Int) = 13) by decide,if_false,aa6,aa8,aaT,aaV,aa9,aaS,aaU,aav,aaw,aaW,aaJ,abn,aaM,aba,aaG,aaN,abz,aaX,aa2,Option.bind_some,if_true,abc,adc,go,fin,EnvV.ac,EnvV.rd,EnvV.hit,EnvV.em,szV,abW,ab5,acp,abU,adn,EnvV.put,EnvV.rc,acX,EnvV.sub]
 by_cases hT : abP e f.b
 ·have h1 := hT.1
  have h2 := hT.2.1
  have h3 := hT.2.2
  simp only [hT,h1,h2,h3,not_true,if_true,if_false,false_or]
  repeat' split
  all_goals first | rfl | omega | (simp_all (config := { maxSteps := 400000 }) [w2,w3,w4,w5,w6,w7,w8,w9]; done) | (simp_all (config := { maxSteps := 400000 }) [w2,w3,w4,w5,w6,w7,w8,w9]; omega)
 ·simp only [hT,not_false_iff,true_or,if_true]
  unfold abP at hT
  repeat' split
  all_goals first | rfl | omega | (simp_all (config := { maxSteps := 400000 }) [w2,w3,w4,w5,w6,w7,w8,w9]; done) | (simp_all (config := { maxSteps := 400000 }) [w2,w3,w4,w5,w6,w7,w8,w9]; omega)
theorem anP (hk : f.kind = 16) (hE : Fit e) : abY e f = some (adc (alJ e f)) := by
 unfold abY alJ
 simp only [hk,aa6,aa8,aaT,aaV,aa9,aaS,aaU,aav,aaw,aaW,aaJ,abn,aaM,aba,aaG,aaN,abz,aaX,aa2,Option.bind_some,if_true,abc,adc,go,fin,EnvV.ac,EnvV.rd,EnvV.hit,EnvV.em,szV,abW,ab5,acp,abU,adn,EnvV.put,EnvV.rc,acX,EnvV.sub,acu,aeE hE,aeD hE]
 by_cases hT : abP e f.b
 ·have h1 := hT.1
  have h2 := hT.2.1
  have h3 := hT.2.2
  simp only [hT,h1,h2,h3,not_true,if_true,if_false,false_or]
  repeat' split
  all_goals first | rfl | omega | (simp_all (config := { maxSteps := 400000 }) [w2,w3,w4,w5,w6,w7,w8,w9]; done) | (simp_all (config := { maxSteps := 400000 }) [w2,w3,w4,w5,w6,w7,w8,w9]; omega)
 ·simp only [hT,not_false_iff,true_or,if_true]
  unfold abP at hT
  repeat' split
  all_goals first | rfl | omega | (simp_all (config := { maxSteps := 400000 }) [w2,w3,w4,w5,w6,w7,w8,w9]; done) | (simp_all (config := { maxSteps := 400000 }) [w2,w3,w4,w5,w6,w7,w8,w9]; omega)
theorem ap4 (hk : f.kind = 17) : abY e f = some (adc (aqf e f)) := by
 unfold abY aqf
 simp only [hk,show ¬ ((17 : Int) = 16) by decide,if_false,aa6,aa8,aaT,aaV,aa9,aaS,aaU,aav,aaw,aaW,aaJ,abn,aaM,aba,aaG,aaN,abz,aaX,aa2,Option.bind_some,if_true,abc,adc,go,fin,EnvV.ac,EnvV.rd,EnvV.hit,EnvV.em,szV,abW,ab5,acp,abU,adn,EnvV.put,EnvV.rc,acX,EnvV.sub]
 by_cases hT : abP e f.b
 ·have h1 := hT.1
  have h2 := hT.2.1
  have h3 := hT.2.2
  simp only [hT,h1,h2,h3,not_true,if_true,if_false,false_or]
  repeat' split
  all_goals first | rfl | omega | (simp_all (config := { maxSteps := 400000 }) [w2,w3,w4,w5,w6,w7,w8,w9]; done) | (simp_all (config := { maxSteps := 400000 }) [w2,w3,w4,w5,w6,w7,w8,w9]; omega)
 ·simp only [hT,not_false_iff,true_or,if_true]
  unfold abP at hT
  repeat' split
  all_goals first | rfl | omega | (simp_all (config := { maxSteps := 400000 }) [w2,w3,w4,w5,w6,w7,w8,w9]; done) | (simp_all (config := { maxSteps := 400000 }) [w2,w3,w4,w5,w6,w7,w8,w9]; omega)
theorem ata (hE : Fit e) : ab8 e f = some (adc (als e f)) := by
 unfold ab8 als
 simp only [aa6,aa8,aaT,aaV,aa9,aaS,aaU,aav,aaw,aaW,aaJ,abn,aaM,aba,aaG,aaN,abz,aaX,aa2,Option.bind_some,if_true,abc,adc,go,fin,EnvV.ac,EnvV.rd,EnvV.hit,EnvV.em,szV,abW,ab5,acp,abU,adn,EnvV.put,EnvV.rc,acX,EnvV.sub,acu,aeE hE,aeD hE]
 by_cases hT : abP e f.b
 ·have h1 := hT.1
  have h2 := hT.2.1
  have h3 := hT.2.2
  simp only [hT,h1,h2,h3,not_true,if_true,if_false,false_or]
  repeat' split
  all_goals first | rfl | omega | (simp_all (config := { maxSteps := 400000 }) [w2,w3,w4,w5,w6,w7,w8,w9]; done) | (simp_all (config := { maxSteps := 400000 }) [w2,w3,w4,w5,w6,w7,w8,w9]; omega)
 ·simp only [hT,not_false_iff,true_or,if_true]
  unfold abP at hT
  repeat' split
  all_goals first | rfl | omega | (simp_all (config := { maxSteps := 400000 }) [w2,w3,w4,w5,w6,w7,w8,w9]; done) | (simp_all (config := { maxSteps := 400000 }) [w2,w3,w4,w5,w6,w7,w8,w9]; omega)
end
end
end Go.Proofs.YtkmkhldmflebkaaGreat
