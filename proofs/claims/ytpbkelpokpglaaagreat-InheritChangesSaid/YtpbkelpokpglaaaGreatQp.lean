/- The reference: machines. -/
import Derived.Test.YtpbkelpokpglaaaGreatQo
set_option linter.all false
namespace Go.Proofs.YtpbkelpokpglaaaGreat
open Go Go.RowKit
set_option maxRecDepth 100000
noncomputable def r8client (e : EnvV) (f : FrV) : Option ((ResV × Unit) × (EnvV × FrV × Unit)) :=
 if ((e.c.subs.length : Nat) : Int) ≤ f.i then
  some (((⟨true, 0, 0⟩ : ResV), ()), (e, f, ()))
 else
 if 0 ≤ f.i ∧ f.i < ((e.c.subs.length : Nat) : Int) then
  if ((atK4 e.c.subs f.i).prog) = ((atK4 e.c.subs f.i).prog) then
   if ((atK4 e.c.subs f.i).level) = ((atK4 e.c.subs f.i).level) then
    if ((atK4 e.c.subs f.i).deadline) = ((atK4 e.c.subs f.i).deadline) then
     if f.i = f.i then
      if f.line = 2 then
       (r2acc e.m 1 2 0 0).bind fun r1 =>
       if e.c.heap = e.c.heap then
        if e.c.heap ≤ (wi (r1.1.1)) then
         (r8env_emit ({ e with m := r1.2.1 } : EnvV) 2 e.c.workers 0 f.i 1).bind fun r2 =>
         some (((⟨false, 0, 0⟩ : ResV), ()), (r2.2.1, ({ f with line := 8, b := 0 } : FrV), ()))
        else
        some (((⟨false, 0, 0⟩ : ResV), ()), (({ e with m := r1.2.1 } : EnvV), ({ f with line := wi (f.line + 1), b := 0 } : FrV), ()))
       else none
      else
      if f.line = 4 then
       (r6level e.c f.n).bind fun r3 =>
       if ((atK4 e.c.subs f.i).level) = ((atK4 e.c.subs f.i).level) then
        (r2acc e.m 2 r3.1.1 (wu ((atK4 e.c.subs f.i).level)) 0).bind fun r4 =>
        some (((⟨false, 0, 0⟩ : ResV), ()), (({ e with m := r4.2.1 } : EnvV), ({ f with line := wi (f.line + 1) } : FrV), ()))
       else none
      else
      if f.line = 5 then
       (r6since e.c f.n).bind fun r5 =>
       if e.now = e.now then
        (r2acc e.m 2 r5.1.1 (wu (e.now)) 0).bind fun r6 =>
        some (((⟨false, 0, 0⟩ : ResV), ()), (({ e with m := r6.2.1 } : EnvV), ({ f with line := wi (f.line + 1) } : FrV), ()))
       else none
      else
      (r6state e.c f.n).bind fun r7 =>
      (r2acc e.m 2 r7.1.1 1 0).bind fun r8 =>
      some (((⟨false, 0, 0⟩ : ResV), ()), (({ e with m := r8.2.1 } : EnvV), ({ f with line := wi (f.line + 1) } : FrV), ()))
     else none
    else none
   else none
  else none
 else none
noncomputable abbrev r8client_k : Con SR1 := ⟨139, [.ref 12, .ref 8], [.val 10], fun x => r8client x.1 x.2.1⟩
noncomputable def r8client_tb : List (Nat × Func) := [(123, Tryz.f123), (125, Tryz.f125), (128, Tryz.f128)]
theorem r8client_ok : CO Tryz.prog r8client_k := co_fn mixed Tryz.func139 [r2acc_k, r8env_emit_k, r6level_k, r6since_k, r6state_k] ⟨r2acc_ok, r8env_emit_ok, r6level_ok, r6since_ok, r6state_ok, trivial⟩ r8client_tb ⟨Tryz.func123, Tryz.func125, Tryz.func128, trivial⟩ (fun _ => []) [] fun x => by kernel_rfl
noncomputable def r8leaf (e : EnvV) (f : FrV) : Option ((ResV × Unit) × (EnvV × FrV × Unit)) :=
 if f.kind = 0 then
  (r8push e f).bind fun r1 =>
  some ((r1.1.1, ()), (r1.2.1, r1.2.2.1, ()))
 else
 if f.kind = 1 then
  (r8pop e f).bind fun r2 =>
  some ((r2.1.1, ()), (r2.2.1, r2.2.2.1, ()))
 else
 if f.kind = 2 then
  (r8steal e f).bind fun r3 =>
  some ((r3.1.1, ()), (r3.2.1, r3.2.2.1, ()))
 else
 if f.kind = 3 then
  (r1mask f.b).bind fun r4 =>
  if f.a = f.a then
   (r2acc e.m 4 f.a r4.1.1 0).bind fun r5 =>
   some (((⟨true, 0, 0⟩ : ResV), ()), (({ e with m := r5.2.1 } : EnvV), f, ()))
  else none
 else
 if f.kind = 4 then
  (r8clearbit e f).bind fun r6 =>
  some ((r6.1.1, ()), (r6.2.1, r6.2.2.1, ()))
 else
 if f.kind = 6 then
  (r6bitmap e.c f.a).bind fun r7 =>
  (r2acc e.m 1 r7.1.1 0 0).bind fun r8 =>
  if r8.1.1 = 0 then
   some (((⟨true, 2, 0⟩ : ResV), ()), (({ e with m := r8.2.1 } : EnvV), ({ f with u := r8.1.1 } : FrV), ()))
  else
  (r1high r8.1.1).bind fun r9 =>
  some (((⟨false, 0, 0⟩ : ResV), ()), (({ e with m := r8.2.1 } : EnvV), ({ f with line := 2, i := r9.1.1, u := r8.1.1 } : FrV), ()))
 else
 if f.kind = 7 then
  if f.kind = 7 then
   (r2acc e.m 3 1 0 (wu (wi (f.a + 1)))).bind fun r10 =>
   if r10.1.2.1 = true then
    some (((⟨true, 1, 0⟩ : ResV), ()), (({ e with m := r10.2.1 } : EnvV), f, ()))
   else
   if f.kind = 8 then
    some (((⟨true, 5, 0⟩ : ResV), ()), (({ e with m := r10.2.1 } : EnvV), f, ()))
   else
   some (((⟨false, 0, 0⟩ : ResV), ()), (({ e with m := r10.2.1 } : EnvV), f, ()))
  else
  if f.kind = 9 then
   (r2acc e.m 2 1 0 0).bind fun r11 =>
   some (((⟨true, 0, 0⟩ : ResV), ()), (({ e with m := r11.2.1 } : EnvV), f, ()))
  else
  if f.kind = 10 then
   (r8insert e f).bind fun r12 =>
   some ((r12.1.1, ()), (r12.2.1, r12.2.2.1, ()))
  else
  if f.kind = 11 then
   (r8remove e f).bind fun r13 =>
   some ((r13.1.1, ()), (r13.2.1, r13.2.2.1, ()))
  else
  if f.kind = 12 then
   if f.kind = 12 then
    (r8table e f).bind fun r14 =>
    some ((r14.1.1, ()), (r14.2.1, r14.2.2.1, ()))
   else
   if f.kind = 16 then
    if f.kind = 16 then
     (r8boost e f).bind fun r15 =>
     some ((r15.1.1, ()), (r15.2.1, r15.2.2.1, ()))
    else
    if f.kind = 18 then
     (r8sweep e f).bind fun r16 =>
     some ((r16.1.1, ()), (r16.2.1, r16.2.2.1, ()))
    else
    if f.kind = 19 then
     (r8sleep e f).bind fun r17 =>
     some ((r17.1.1, ()), (r17.2.1, r17.2.2.1, ()))
    else
    if f.kind = 20 then
     (r8wake e f).bind fun r18 =>
     some ((r18.1.1, ()), (r18.2.1, r18.2.2.1, ()))
    else
    if f.kind = 21 then
     (r8probe e f).bind fun r19 =>
     some ((r19.1.1, ()), (r19.2.1, r19.2.2.1, ()))
    else
    if f.kind = 22 then
     (r8drain e f).bind fun r20 =>
     some ((r20.1.1, ()), (r20.2.1, r20.2.2.1, ()))
    else
    if f.kind = 24 then
     (r8run e f).bind fun r21 =>
     some ((r21.1.1, ()), (r21.2.1, r21.2.2.1, ()))
    else
    if f.kind = 26 then
     (r8client e f).bind fun r22 =>
     some ((r22.1.1, ()), (r22.2.1, r22.2.2.1, ()))
    else
    some (((⟨true, 4, 0⟩ : ResV), ()), (e, f, ()))
   else
   if f.kind = 17 then
    (r8boost e f).bind fun r23 =>
    some ((r23.1.1, ()), (r23.2.1, r23.2.2.1, ()))
   else
   if f.kind = 18 then
    (r8sweep e f).bind fun r24 =>
    some ((r24.1.1, ()), (r24.2.1, r24.2.2.1, ()))
   else
   if f.kind = 19 then
    (r8sleep e f).bind fun r25 =>
    some ((r25.1.1, ()), (r25.2.1, r25.2.2.1, ()))
   else
   if f.kind = 20 then
    (r8wake e f).bind fun r26 =>
    some ((r26.1.1, ()), (r26.2.1, r26.2.2.1, ()))
   else
   if f.kind = 21 then
    (r8probe e f).bind fun r27 =>
    some ((r27.1.1, ()), (r27.2.1, r27.2.2.1, ()))
   else
   if f.kind = 22 then
    (r8drain e f).bind fun r28 =>
    some ((r28.1.1, ()), (r28.2.1, r28.2.2.1, ()))
   else
   if f.kind = 24 then
    (r8run e f).bind fun r29 =>
    some ((r29.1.1, ()), (r29.2.1, r29.2.2.1, ()))
   else
   if f.kind = 26 then
    (r8client e f).bind fun r30 =>
    some ((r30.1.1, ()), (r30.2.1, r30.2.2.1, ()))
   else
   some (((⟨true, 4, 0⟩ : ResV), ()), (e, f, ()))
  else
  if f.kind = 13 then
   if f.kind = 13 then
    (r8table e f).bind fun r31 =>
    some ((r31.1.1, ()), (r31.2.1, r31.2.2.1, ()))
   else
   if f.kind = 16 then
    if f.kind = 16 then
     (r8boost e f).bind fun r32 =>
     some ((r32.1.1, ()), (r32.2.1, r32.2.2.1, ()))
    else
    if f.kind = 18 then
     (r8sweep e f).bind fun r33 =>
     some ((r33.1.1, ()), (r33.2.1, r33.2.2.1, ()))
    else
    if f.kind = 19 then
     (r8sleep e f).bind fun r34 =>
     some ((r34.1.1, ()), (r34.2.1, r34.2.2.1, ()))
    else
    if f.kind = 20 then
     (r8wake e f).bind fun r35 =>
     some ((r35.1.1, ()), (r35.2.1, r35.2.2.1, ()))
    else
    if f.kind = 21 then
     (r8probe e f).bind fun r36 =>
     some ((r36.1.1, ()), (r36.2.1, r36.2.2.1, ()))
    else
    if f.kind = 22 then
     (r8drain e f).bind fun r37 =>
     some ((r37.1.1, ()), (r37.2.1, r37.2.2.1, ()))
    else
    if f.kind = 24 then
     (r8run e f).bind fun r38 =>
     some ((r38.1.1, ()), (r38.2.1, r38.2.2.1, ()))
    else
    if f.kind = 26 then
     (r8client e f).bind fun r39 =>
     some ((r39.1.1, ()), (r39.2.1, r39.2.2.1, ()))
    else
    some (((⟨true, 4, 0⟩ : ResV), ()), (e, f, ()))
   else
   if f.kind = 17 then
    (r8boost e f).bind fun r40 =>
    some ((r40.1.1, ()), (r40.2.1, r40.2.2.1, ()))
   else
   if f.kind = 18 then
    (r8sweep e f).bind fun r41 =>
    some ((r41.1.1, ()), (r41.2.1, r41.2.2.1, ()))
   else
   if f.kind = 19 then
    (r8sleep e f).bind fun r42 =>
    some ((r42.1.1, ()), (r42.2.1, r42.2.2.1, ()))
   else
   if f.kind = 20 then
    (r8wake e f).bind fun r43 =>
    some ((r43.1.1, ()), (r43.2.1, r43.2.2.1, ()))
   else
   if f.kind = 21 then
    (r8probe e f).bind fun r44 =>
    some ((r44.1.1, ()), (r44.2.1, r44.2.2.1, ()))
   else
   if f.kind = 22 then
    (r8drain e f).bind fun r45 =>
    some ((r45.1.1, ()), (r45.2.1, r45.2.2.1, ()))
   else
   if f.kind = 24 then
    (r8run e f).bind fun r46 =>
    some ((r46.1.1, ()), (r46.2.1, r46.2.2.1, ()))
   else
   if f.kind = 26 then
    (r8client e f).bind fun r47 =>
    some ((r47.1.1, ()), (r47.2.1, r47.2.2.1, ()))
   else
   some (((⟨true, 4, 0⟩ : ResV), ()), (e, f, ()))
  else
  if f.kind = 14 then
   if f.kind = 14 then
    (r8table e f).bind fun r48 =>
    some ((r48.1.1, ()), (r48.2.1, r48.2.2.1, ()))
   else
   if f.kind = 16 then
    if f.kind = 16 then
     (r8boost e f).bind fun r49 =>
     some ((r49.1.1, ()), (r49.2.1, r49.2.2.1, ()))
    else
    if f.kind = 18 then
     (r8sweep e f).bind fun r50 =>
     some ((r50.1.1, ()), (r50.2.1, r50.2.2.1, ()))
    else
    if f.kind = 19 then
     (r8sleep e f).bind fun r51 =>
     some ((r51.1.1, ()), (r51.2.1, r51.2.2.1, ()))
    else
    if f.kind = 20 then
     (r8wake e f).bind fun r52 =>
     some ((r52.1.1, ()), (r52.2.1, r52.2.2.1, ()))
    else
    if f.kind = 21 then
     (r8probe e f).bind fun r53 =>
     some ((r53.1.1, ()), (r53.2.1, r53.2.2.1, ()))
    else
    if f.kind = 22 then
     (r8drain e f).bind fun r54 =>
     some ((r54.1.1, ()), (r54.2.1, r54.2.2.1, ()))
    else
    if f.kind = 24 then
     (r8run e f).bind fun r55 =>
     some ((r55.1.1, ()), (r55.2.1, r55.2.2.1, ()))
    else
    if f.kind = 26 then
     (r8client e f).bind fun r56 =>
     some ((r56.1.1, ()), (r56.2.1, r56.2.2.1, ()))
    else
    some (((⟨true, 4, 0⟩ : ResV), ()), (e, f, ()))
   else
   if f.kind = 17 then
    (r8boost e f).bind fun r57 =>
    some ((r57.1.1, ()), (r57.2.1, r57.2.2.1, ()))
   else
   if f.kind = 18 then
    (r8sweep e f).bind fun r58 =>
    some ((r58.1.1, ()), (r58.2.1, r58.2.2.1, ()))
   else
   if f.kind = 19 then
    (r8sleep e f).bind fun r59 =>
    some ((r59.1.1, ()), (r59.2.1, r59.2.2.1, ()))
   else
   if f.kind = 20 then
    (r8wake e f).bind fun r60 =>
    some ((r60.1.1, ()), (r60.2.1, r60.2.2.1, ()))
   else
   if f.kind = 21 then
    (r8probe e f).bind fun r61 =>
    some ((r61.1.1, ()), (r61.2.1, r61.2.2.1, ()))
   else
   if f.kind = 22 then
    (r8drain e f).bind fun r62 =>
    some ((r62.1.1, ()), (r62.2.1, r62.2.2.1, ()))
   else
   if f.kind = 24 then
    (r8run e f).bind fun r63 =>
    some ((r63.1.1, ()), (r63.2.1, r63.2.2.1, ()))
   else
   if f.kind = 26 then
    (r8client e f).bind fun r64 =>
    some ((r64.1.1, ()), (r64.2.1, r64.2.2.1, ()))
   else
   some (((⟨true, 4, 0⟩ : ResV), ()), (e, f, ()))
  else
  if f.kind = 15 then
   (r8table e f).bind fun r65 =>
   some ((r65.1.1, ()), (r65.2.1, r65.2.2.1, ()))
  else
  if f.kind = 16 then
   if f.kind = 16 then
    (r8boost e f).bind fun r66 =>
    some ((r66.1.1, ()), (r66.2.1, r66.2.2.1, ()))
   else
   if f.kind = 18 then
    (r8sweep e f).bind fun r67 =>
    some ((r67.1.1, ()), (r67.2.1, r67.2.2.1, ()))
   else
   if f.kind = 19 then
    (r8sleep e f).bind fun r68 =>
    some ((r68.1.1, ()), (r68.2.1, r68.2.2.1, ()))
   else
   if f.kind = 20 then
    (r8wake e f).bind fun r69 =>
    some ((r69.1.1, ()), (r69.2.1, r69.2.2.1, ()))
   else
   if f.kind = 21 then
    (r8probe e f).bind fun r70 =>
    some ((r70.1.1, ()), (r70.2.1, r70.2.2.1, ()))
   else
   if f.kind = 22 then
    (r8drain e f).bind fun r71 =>
    some ((r71.1.1, ()), (r71.2.1, r71.2.2.1, ()))
   else
   if f.kind = 24 then
    (r8run e f).bind fun r72 =>
    some ((r72.1.1, ()), (r72.2.1, r72.2.2.1, ()))
   else
   if f.kind = 26 then
    (r8client e f).bind fun r73 =>
    some ((r73.1.1, ()), (r73.2.1, r73.2.2.1, ()))
   else
   some (((⟨true, 4, 0⟩ : ResV), ()), (e, f, ()))
  else
  if f.kind = 17 then
   (r8boost e f).bind fun r74 =>
   some ((r74.1.1, ()), (r74.2.1, r74.2.2.1, ()))
  else
  if f.kind = 18 then
   (r8sweep e f).bind fun r75 =>
   some ((r75.1.1, ()), (r75.2.1, r75.2.2.1, ()))
  else
  if f.kind = 19 then
   (r8sleep e f).bind fun r76 =>
   some ((r76.1.1, ()), (r76.2.1, r76.2.2.1, ()))
  else
  if f.kind = 20 then
   (r8wake e f).bind fun r77 =>
   some ((r77.1.1, ()), (r77.2.1, r77.2.2.1, ()))
  else
  if f.kind = 21 then
   (r8probe e f).bind fun r78 =>
   some ((r78.1.1, ()), (r78.2.1, r78.2.2.1, ()))
  else
  if f.kind = 22 then
   (r8drain e f).bind fun r79 =>
   some ((r79.1.1, ()), (r79.2.1, r79.2.2.1, ()))
  else
  if f.kind = 24 then
   (r8run e f).bind fun r80 =>
   some ((r80.1.1, ()), (r80.2.1, r80.2.2.1, ()))
  else
  if f.kind = 26 then
   (r8client e f).bind fun r81 =>
   some ((r81.1.1, ()), (r81.2.1, r81.2.2.1, ()))
  else
  some (((⟨true, 4, 0⟩ : ResV), ()), (e, f, ()))
 else
 if f.kind = 8 then
  (r2acc e.m 3 1 0 (wu (wi (f.a + 1)))).bind fun r82 =>
  if r82.1.2.1 = true then
   some (((⟨true, 1, 0⟩ : ResV), ()), (({ e with m := r82.2.1 } : EnvV), f, ()))
  else
  if f.kind = 8 then
   some (((⟨true, 5, 0⟩ : ResV), ()), (({ e with m := r82.2.1 } : EnvV), f, ()))
  else
  some (((⟨false, 0, 0⟩ : ResV), ()), (({ e with m := r82.2.1 } : EnvV), f, ()))
 else
 if f.kind = 9 then
  (r2acc e.m 2 1 0 0).bind fun r83 =>
  some (((⟨true, 0, 0⟩ : ResV), ()), (({ e with m := r83.2.1 } : EnvV), f, ()))
 else
 if f.kind = 10 then
  (r8insert e f).bind fun r84 =>
  some ((r84.1.1, ()), (r84.2.1, r84.2.2.1, ()))
 else
 if f.kind = 11 then
  (r8remove e f).bind fun r85 =>
  some ((r85.1.1, ()), (r85.2.1, r85.2.2.1, ()))
 else
 if f.kind = 12 then
  if f.kind = 12 then
   (r8table e f).bind fun r86 =>
   some ((r86.1.1, ()), (r86.2.1, r86.2.2.1, ()))
  else
  if f.kind = 16 then
   if f.kind = 16 then
    (r8boost e f).bind fun r87 =>
    some ((r87.1.1, ()), (r87.2.1, r87.2.2.1, ()))
   else
   if f.kind = 18 then
    (r8sweep e f).bind fun r88 =>
    some ((r88.1.1, ()), (r88.2.1, r88.2.2.1, ()))
   else
   if f.kind = 19 then
    (r8sleep e f).bind fun r89 =>
    some ((r89.1.1, ()), (r89.2.1, r89.2.2.1, ()))
   else
   if f.kind = 20 then
    (r8wake e f).bind fun r90 =>
    some ((r90.1.1, ()), (r90.2.1, r90.2.2.1, ()))
   else
   if f.kind = 21 then
    (r8probe e f).bind fun r91 =>
    some ((r91.1.1, ()), (r91.2.1, r91.2.2.1, ()))
   else
   if f.kind = 22 then
    (r8drain e f).bind fun r92 =>
    some ((r92.1.1, ()), (r92.2.1, r92.2.2.1, ()))
   else
   if f.kind = 24 then
    (r8run e f).bind fun r93 =>
    some ((r93.1.1, ()), (r93.2.1, r93.2.2.1, ()))
   else
   if f.kind = 26 then
    (r8client e f).bind fun r94 =>
    some ((r94.1.1, ()), (r94.2.1, r94.2.2.1, ()))
   else
   some (((⟨true, 4, 0⟩ : ResV), ()), (e, f, ()))
  else
  if f.kind = 17 then
   (r8boost e f).bind fun r95 =>
   some ((r95.1.1, ()), (r95.2.1, r95.2.2.1, ()))
  else
  if f.kind = 18 then
   (r8sweep e f).bind fun r96 =>
   some ((r96.1.1, ()), (r96.2.1, r96.2.2.1, ()))
  else
  if f.kind = 19 then
   (r8sleep e f).bind fun r97 =>
   some ((r97.1.1, ()), (r97.2.1, r97.2.2.1, ()))
  else
  if f.kind = 20 then
   (r8wake e f).bind fun r98 =>
   some ((r98.1.1, ()), (r98.2.1, r98.2.2.1, ()))
  else
  if f.kind = 21 then
   (r8probe e f).bind fun r99 =>
   some ((r99.1.1, ()), (r99.2.1, r99.2.2.1, ()))
  else
  if f.kind = 22 then
   (r8drain e f).bind fun r100 =>
   some ((r100.1.1, ()), (r100.2.1, r100.2.2.1, ()))
  else
  if f.kind = 24 then
   (r8run e f).bind fun r101 =>
   some ((r101.1.1, ()), (r101.2.1, r101.2.2.1, ()))
  else
  if f.kind = 26 then
   (r8client e f).bind fun r102 =>
   some ((r102.1.1, ()), (r102.2.1, r102.2.2.1, ()))
  else
  some (((⟨true, 4, 0⟩ : ResV), ()), (e, f, ()))
 else
 if f.kind = 13 then
  if f.kind = 13 then
   (r8table e f).bind fun r103 =>
   some ((r103.1.1, ()), (r103.2.1, r103.2.2.1, ()))
  else
  if f.kind = 16 then
   if f.kind = 16 then
    (r8boost e f).bind fun r104 =>
    some ((r104.1.1, ()), (r104.2.1, r104.2.2.1, ()))
   else
   if f.kind = 18 then
    (r8sweep e f).bind fun r105 =>
    some ((r105.1.1, ()), (r105.2.1, r105.2.2.1, ()))
   else
   if f.kind = 19 then
    (r8sleep e f).bind fun r106 =>
    some ((r106.1.1, ()), (r106.2.1, r106.2.2.1, ()))
   else
   if f.kind = 20 then
    (r8wake e f).bind fun r107 =>
    some ((r107.1.1, ()), (r107.2.1, r107.2.2.1, ()))
   else
   if f.kind = 21 then
    (r8probe e f).bind fun r108 =>
    some ((r108.1.1, ()), (r108.2.1, r108.2.2.1, ()))
   else
   if f.kind = 22 then
    (r8drain e f).bind fun r109 =>
    some ((r109.1.1, ()), (r109.2.1, r109.2.2.1, ()))
   else
   if f.kind = 24 then
    (r8run e f).bind fun r110 =>
    some ((r110.1.1, ()), (r110.2.1, r110.2.2.1, ()))
   else
   if f.kind = 26 then
    (r8client e f).bind fun r111 =>
    some ((r111.1.1, ()), (r111.2.1, r111.2.2.1, ()))
   else
   some (((⟨true, 4, 0⟩ : ResV), ()), (e, f, ()))
  else
  if f.kind = 17 then
   (r8boost e f).bind fun r112 =>
   some ((r112.1.1, ()), (r112.2.1, r112.2.2.1, ()))
  else
  if f.kind = 18 then
   (r8sweep e f).bind fun r113 =>
   some ((r113.1.1, ()), (r113.2.1, r113.2.2.1, ()))
  else
  if f.kind = 19 then
   (r8sleep e f).bind fun r114 =>
   some ((r114.1.1, ()), (r114.2.1, r114.2.2.1, ()))
  else
  if f.kind = 20 then
   (r8wake e f).bind fun r115 =>
   some ((r115.1.1, ()), (r115.2.1, r115.2.2.1, ()))
  else
  if f.kind = 21 then
   (r8probe e f).bind fun r116 =>
   some ((r116.1.1, ()), (r116.2.1, r116.2.2.1, ()))
  else
  if f.kind = 22 then
   (r8drain e f).bind fun r117 =>
   some ((r117.1.1, ()), (r117.2.1, r117.2.2.1, ()))
  else
  if f.kind = 24 then
   (r8run e f).bind fun r118 =>
   some ((r118.1.1, ()), (r118.2.1, r118.2.2.1, ()))
  else
  if f.kind = 26 then
   (r8client e f).bind fun r119 =>
   some ((r119.1.1, ()), (r119.2.1, r119.2.2.1, ()))
  else
  some (((⟨true, 4, 0⟩ : ResV), ()), (e, f, ()))
 else
 if f.kind = 14 then
  if f.kind = 14 then
   (r8table e f).bind fun r120 =>
   some ((r120.1.1, ()), (r120.2.1, r120.2.2.1, ()))
  else
  if f.kind = 16 then
   if f.kind = 16 then
    (r8boost e f).bind fun r121 =>
    some ((r121.1.1, ()), (r121.2.1, r121.2.2.1, ()))
   else
   if f.kind = 18 then
    (r8sweep e f).bind fun r122 =>
    some ((r122.1.1, ()), (r122.2.1, r122.2.2.1, ()))
   else
   if f.kind = 19 then
    (r8sleep e f).bind fun r123 =>
    some ((r123.1.1, ()), (r123.2.1, r123.2.2.1, ()))
   else
   if f.kind = 20 then
    (r8wake e f).bind fun r124 =>
    some ((r124.1.1, ()), (r124.2.1, r124.2.2.1, ()))
   else
   if f.kind = 21 then
    (r8probe e f).bind fun r125 =>
    some ((r125.1.1, ()), (r125.2.1, r125.2.2.1, ()))
   else
   if f.kind = 22 then
    (r8drain e f).bind fun r126 =>
    some ((r126.1.1, ()), (r126.2.1, r126.2.2.1, ()))
   else
   if f.kind = 24 then
    (r8run e f).bind fun r127 =>
    some ((r127.1.1, ()), (r127.2.1, r127.2.2.1, ()))
   else
   if f.kind = 26 then
    (r8client e f).bind fun r128 =>
    some ((r128.1.1, ()), (r128.2.1, r128.2.2.1, ()))
   else
   some (((⟨true, 4, 0⟩ : ResV), ()), (e, f, ()))
  else
  if f.kind = 17 then
   (r8boost e f).bind fun r129 =>
   some ((r129.1.1, ()), (r129.2.1, r129.2.2.1, ()))
  else
  if f.kind = 18 then
   (r8sweep e f).bind fun r130 =>
   some ((r130.1.1, ()), (r130.2.1, r130.2.2.1, ()))
  else
  if f.kind = 19 then
   (r8sleep e f).bind fun r131 =>
   some ((r131.1.1, ()), (r131.2.1, r131.2.2.1, ()))
  else
  if f.kind = 20 then
   (r8wake e f).bind fun r132 =>
   some ((r132.1.1, ()), (r132.2.1, r132.2.2.1, ()))
  else
  if f.kind = 21 then
   (r8probe e f).bind fun r133 =>
   some ((r133.1.1, ()), (r133.2.1, r133.2.2.1, ()))
  else
  if f.kind = 22 then
   (r8drain e f).bind fun r134 =>
   some ((r134.1.1, ()), (r134.2.1, r134.2.2.1, ()))
  else
  if f.kind = 24 then
   (r8run e f).bind fun r135 =>
   some ((r135.1.1, ()), (r135.2.1, r135.2.2.1, ()))
  else
  if f.kind = 26 then
   (r8client e f).bind fun r136 =>
   some ((r136.1.1, ()), (r136.2.1, r136.2.2.1, ()))
  else
  some (((⟨true, 4, 0⟩ : ResV), ()), (e, f, ()))
 else
 if f.kind = 15 then
  (r8table e f).bind fun r137 =>
  some ((r137.1.1, ()), (r137.2.1, r137.2.2.1, ()))
 else
 if f.kind = 16 then
  if f.kind = 16 then
   (r8boost e f).bind fun r138 =>
   some ((r138.1.1, ()), (r138.2.1, r138.2.2.1, ()))
  else
  if f.kind = 18 then
   (r8sweep e f).bind fun r139 =>
   some ((r139.1.1, ()), (r139.2.1, r139.2.2.1, ()))
  else
  if f.kind = 19 then
   (r8sleep e f).bind fun r140 =>
   some ((r140.1.1, ()), (r140.2.1, r140.2.2.1, ()))
  else
  if f.kind = 20 then
   (r8wake e f).bind fun r141 =>
   some ((r141.1.1, ()), (r141.2.1, r141.2.2.1, ()))
  else
  if f.kind = 21 then
   (r8probe e f).bind fun r142 =>
   some ((r142.1.1, ()), (r142.2.1, r142.2.2.1, ()))
  else
  if f.kind = 22 then
   (r8drain e f).bind fun r143 =>
   some ((r143.1.1, ()), (r143.2.1, r143.2.2.1, ()))
  else
  if f.kind = 24 then
   (r8run e f).bind fun r144 =>
   some ((r144.1.1, ()), (r144.2.1, r144.2.2.1, ()))
  else
  if f.kind = 26 then
   (r8client e f).bind fun r145 =>
   some ((r145.1.1, ()), (r145.2.1, r145.2.2.1, ()))
  else
  some (((⟨true, 4, 0⟩ : ResV), ()), (e, f, ()))
 else
 if f.kind = 17 then
  (r8boost e f).bind fun r146 =>
  some ((r146.1.1, ()), (r146.2.1, r146.2.2.1, ()))
 else
 if f.kind = 18 then
  (r8sweep e f).bind fun r147 =>
  some ((r147.1.1, ()), (r147.2.1, r147.2.2.1, ()))
 else
 if f.kind = 19 then
  (r8sleep e f).bind fun r148 =>
  some ((r148.1.1, ()), (r148.2.1, r148.2.2.1, ()))
 else
 if f.kind = 20 then
  (r8wake e f).bind fun r149 =>
  some ((r149.1.1, ()), (r149.2.1, r149.2.2.1, ()))
 else
 if f.kind = 21 then
  (r8probe e f).bind fun r150 =>
  some ((r150.1.1, ()), (r150.2.1, r150.2.2.1, ()))
 else
 if f.kind = 22 then
  (r8drain e f).bind fun r151 =>
  some ((r151.1.1, ()), (r151.2.1, r151.2.2.1, ()))
 else
 if f.kind = 24 then
  (r8run e f).bind fun r152 =>
  some ((r152.1.1, ()), (r152.2.1, r152.2.2.1, ()))
 else
 if f.kind = 26 then
  (r8client e f).bind fun r153 =>
  some ((r153.1.1, ()), (r153.2.1, r153.2.2.1, ()))
 else
 some (((⟨true, 4, 0⟩ : ResV), ()), (e, f, ()))
noncomputable abbrev r8leaf_k : Con SR1 := ⟨87, [.ref 12, .ref 8], [.val 10], fun x => r8leaf x.1 x.2.1⟩
noncomputable def r8leaf_tb : List (Nat × Func) := [(121, Tryz.f121), (123, Tryz.f123), (125, Tryz.f125), (127, Tryz.f127), (128, Tryz.f128)]
theorem r8leaf_ok : CO Tryz.prog r8leaf_k := co_fn mixed Tryz.func87 [r8push_k, r8pop_k, r8steal_k, r1mask_k, r2acc_k, r8clearbit_k, r6bitmap_k, r1high_k, r8insert_k, r8remove_k, r8table_k, r8boost_k, r8sweep_k, r8sleep_k, r8wake_k, r8probe_k, r8drain_k, r8run_k, r8client_k] ⟨r8push_ok, r8pop_ok, r8steal_ok, r1mask_ok, r2acc_ok, r8clearbit_ok, r6bitmap_ok, r1high_ok, r8insert_ok, r8remove_ok, r8table_ok, r8boost_ok, r8sweep_ok, r8sleep_ok, r8wake_ok, r8probe_ok, r8drain_ok, r8run_ok, r8client_ok, trivial⟩ r8leaf_tb ⟨Tryz.func121, Tryz.func123, Tryz.func125, Tryz.func127, Tryz.func128, trivial⟩ (fun _ => []) [] fun x => by kernel_rfl
noncomputable def r8backwalk (e : EnvV) (f : FrV) (a : Int) : Option ((ResV × Unit) × (EnvV × FrV × Unit)) :=
 if f.line = 1 then
  if a = 1 then
   some (((⟨false, 0, 0⟩ : ResV), ()), (e, ({ f with line := 2 } : FrV), ()))
  else
  some (((⟨false, 0, 0⟩ : ResV), ()), (e, ({ f with line := 4 } : FrV), ()))
 else
 if a = 3 then
  (r8env_emit e 19 f.a f.b 0 f.d).bind fun r1 =>
  some (((⟨false, 0, 0⟩ : ResV), ()), (r1.2.1, ({ f with line := 4 } : FrV), ()))
 else
 some (((⟨false, 0, 0⟩ : ResV), ()), (e, ({ f with line := 4 } : FrV), ()))
noncomputable abbrev r8backwalk_k : Con SR1 := ⟨140, [.ref 12, .ref 8, .sh sI_], [.val 10], fun x => r8backwalk x.1 x.2.1 x.2.2.1⟩
theorem r8backwalk_ok : CO Tryz.prog r8backwalk_k := co_fn mixed Tryz.func140 [r8env_emit_k] ⟨r8env_emit_ok, trivial⟩ [] trivial (fun _ => []) [] fun x => by kernel_rfl
noncomputable def r8backdrain (e : EnvV) (f : FrV) (a : Int) (b : Int) : Option ((ResV × Unit) × (EnvV × FrV × Unit)) :=
 if f.line = 2 then
  if a = 5 then
   some (((⟨true, 5, 0⟩ : ResV), ()), (e, f, ()))
  else
  some (((⟨false, 0, 0⟩ : ResV), ()), (e, ({ f with line := 3 } : FrV), ()))
 else
 if f.line = 3 then
  if a = 2 then
   some (((⟨false, 0, 0⟩ : ResV), ()), (e, ({ f with line := 6, n := b } : FrV), ()))
  else
  some (((⟨false, 0, 0⟩ : ResV), ()), (e, ({ f with line := 4, n := b } : FrV), ()))
 else
 if f.line = 5 then
  if a = 3 then
   some (((⟨false, 0, 0⟩ : ResV), ()), (e, ({ f with line := 6, d := f.n } : FrV), ()))
  else
  if (wi (f.i + 1)) < e.c.batch then
   some (((⟨false, 0, 0⟩ : ResV), ()), (e, ({ f with line := 3, i := wi (f.i + 1), j := f.t } : FrV), ()))
  else
  some (((⟨false, 0, 0⟩ : ResV), ()), (e, ({ f with line := 6, i := wi (f.i + 1), j := f.t } : FrV), ()))
 else
 if f.line = 6 then
  if 0 < f.i then
   some (((⟨false, 0, 0⟩ : ResV), ()), (e, ({ f with line := 7 } : FrV), ()))
  else
  if 0 ≤ f.d then
   some (((⟨true, 1, f.d⟩ : ResV), ()), (e, f, ()))
  else
  some (((⟨true, 2, 0⟩ : ResV), ()), (e, f, ()))
 else
 if 0 ≤ f.d then
  some (((⟨true, 1, f.d⟩ : ResV), ()), (e, f, ()))
 else
 some (((⟨true, 0, f.i⟩ : ResV), ()), (e, f, ()))
noncomputable abbrev r8backdrain_k : Con SR1 := ⟨142, [.ref 12, .ref 8, .sh sI_, .sh sI_], [.val 10], fun x => r8backdrain x.1 x.2.1 x.2.2.1 x.2.2.2.1⟩
noncomputable def r8backdrain_tb : List (Nat × Func) := [(123, Tryz.f123)]
theorem r8backdrain_ok : CO Tryz.prog r8backdrain_k := co_fn mixed Tryz.func142 [] trivial r8backdrain_tb ⟨Tryz.func123, trivial⟩ (fun _ => []) [] fun x => by kernel_rfl
noncomputable def r8backtake (f : FrV) (a : Int) (b : Int) : Option ((ResV × Unit) × (FrV × Unit)) :=
 if f.line = 1 then
  if a = 2 then
   some (((⟨true, 2, 0⟩ : ResV), ()), (f, ()))
  else
  some (((⟨false, 0, 0⟩ : ResV), ()), (({ f with line := 2, n := b } : FrV), ()))
 else
 if a = 1 then
  some (((⟨true, 1, b⟩ : ResV), ()), (f, ()))
 else
 some (((⟨false, 0, 0⟩ : ResV), ()), (({ f with line := 1 } : FrV), ()))
noncomputable abbrev r8backtake_k : Con SR1 := ⟨143, [.ref 8, .sh sI_, .sh sI_], [.val 10], fun x => r8backtake x.1 x.2.1 x.2.2.1⟩
noncomputable def r8backtake_tb : List (Nat × Func) := [(123, Tryz.f123)]
theorem r8backtake_ok : CO Tryz.prog r8backtake_k := co_fn mixed Tryz.func143 [] trivial r8backtake_tb ⟨Tryz.func123, trivial⟩ (fun _ => []) [] fun x => by kernel_rfl
noncomputable def r8backrun (e : EnvV) (f : FrV) (a : Int) (b : Int) : Option ((ResV × Unit) × (EnvV × FrV × Unit)) :=
 if 0 ≤ wi (((f.l.length : Nat) : Int) - 1) ∧ wi (((f.l.length : Nat) : Int) - 1) < ((f.l.length : Nat) : Int) then
  if 0 ≤ atK1 f.l (wi (((f.l.length : Nat) : Int) - 1)) ∧ atK1 f.l (wi (((f.l.length : Nat) : Int) - 1)) < ((e.recs.length : Nat) : Int) then
   if f.line = 5 then
    agr (
     if 0 ≤ atK1 f.l (wi (((f.l.length : Nat) : Int) - 1)) ∧ atK1 f.l (wi (((f.l.length : Nat) : Int) - 1)) < ((e.recs.length : Nat) : Int) then
      if ((atK7 e.recs (atK1 f.l (wi (((f.l.length : Nat) : Int) - 1)))).prog) < 0 then
       if ((atK7 e.recs (atK1 f.l (wi (((f.l.length : Nat) : Int) - 1)))).pc) = ((atK7 e.recs (atK1 f.l (wi (((f.l.length : Nat) : Int) - 1)))).pc) then
        none
       else none
      else
      if ((e.c.progs.length : Nat) : Int) ≤ ((atK7 e.recs (atK1 f.l (wi (((f.l.length : Nat) : Int) - 1)))).prog) then
       if ((atK7 e.recs (atK1 f.l (wi (((f.l.length : Nat) : Int) - 1)))).pc) = ((atK7 e.recs (atK1 f.l (wi (((f.l.length : Nat) : Int) - 1)))).pc) then
        none
       else none
      else
      if 0 ≤ (atK7 e.recs (atK1 f.l (wi (((f.l.length : Nat) : Int) - 1)))).prog ∧ (atK7 e.recs (atK1 f.l (wi (((f.l.length : Nat) : Int) - 1)))).prog < ((e.c.progs.length : Nat) : Int) then
       if ((atK7 e.recs (atK1 f.l (wi (((f.l.length : Nat) : Int) - 1)))).pc) = ((atK7 e.recs (atK1 f.l (wi (((f.l.length : Nat) : Int) - 1)))).pc) then
        if 0 ≤ (atK7 e.recs (atK1 f.l (wi (((f.l.length : Nat) : Int) - 1)))).pc ∧ (atK7 e.recs (atK1 f.l (wi (((f.l.length : Nat) : Int) - 1)))).pc < (((atL [] e.c.progs ((atK7 e.recs (atK1 f.l (wi (((f.l.length : Nat) : Int) - 1)))).prog)).length : Nat) : Int) then
         if ((atK3 (atL [] e.c.progs ((atK7 e.recs (atK1 f.l (wi (((f.l.length : Nat) : Int) - 1)))).prog)) ((atK7 e.recs (atK1 f.l (wi (((f.l.length : Nat) : Int) - 1)))).pc)).op) = ((atK3 (atL [] e.c.progs ((atK7 e.recs (atK1 f.l (wi (((f.l.length : Nat) : Int) - 1)))).prog)) ((atK7 e.recs (atK1 f.l (wi (((f.l.length : Nat) : Int) - 1)))).pc)).op) then
          if ((atK3 (atL [] e.c.progs ((atK7 e.recs (atK1 f.l (wi (((f.l.length : Nat) : Int) - 1)))).prog)) ((atK7 e.recs (atK1 f.l (wi (((f.l.length : Nat) : Int) - 1)))).pc)).a) = ((atK3 (atL [] e.c.progs ((atK7 e.recs (atK1 f.l (wi (((f.l.length : Nat) : Int) - 1)))).prog)) ((atK7 e.recs (atK1 f.l (wi (((f.l.length : Nat) : Int) - 1)))).pc)).a) then
           if ((atK3 (atL [] e.c.progs ((atK7 e.recs (atK1 f.l (wi (((f.l.length : Nat) : Int) - 1)))).prog)) ((atK7 e.recs (atK1 f.l (wi (((f.l.length : Nat) : Int) - 1)))).pc)).b) = ((atK3 (atL [] e.c.progs ((atK7 e.recs (atK1 f.l (wi (((f.l.length : Nat) : Int) - 1)))).prog)) ((atK7 e.recs (atK1 f.l (wi (((f.l.length : Nat) : Int) - 1)))).pc)).b) then
            if ((atK7 e.recs (atK1 f.l (wi (((f.l.length : Nat) : Int) - 1)))).pc) = ((atK7 e.recs (atK1 f.l (wi (((f.l.length : Nat) : Int) - 1)))).pc) then
             if a = 3 then
              if (((([] : List Int).length + ((atK7 (e.recs.set (atK1 f.l (wi (((f.l.length : Nat) : Int) - 1))).toNat ({ atK7 e.recs (atK1 f.l (wi (((f.l.length : Nat) : Int) - 1))) with pc := wi (((atK7 e.recs (atK1 f.l (wi (((f.l.length : Nat) : Int) - 1)))).pc) + 1) } : RecV)) (atK1 f.l (wi (((f.l.length : Nat) : Int) - 1)))).kids).length : Nat)) : Int) < 1000000000000 then
               if ((((([]) ++ ((atK7 (e.recs.set (atK1 f.l (wi (((f.l.length : Nat) : Int) - 1))).toNat ({ atK7 e.recs (atK1 f.l (wi (((f.l.length : Nat) : Int) - 1))) with pc := wi (((atK7 e.recs (atK1 f.l (wi (((f.l.length : Nat) : Int) - 1)))).pc) + 1) } : RecV)) (atK1 f.l (wi (((f.l.length : Nat) : Int) - 1)))).kids)).length + ([(-1)] : List Int).length : Nat)) : Int) < 1000000000000 then
                (r8env_emit ({ e with recs := (e.recs.set (atK1 f.l (wi (((f.l.length : Nat) : Int) - 1))).toNat ({ atK7 e.recs (atK1 f.l (wi (((f.l.length : Nat) : Int) - 1))) with pc := wi (((atK7 e.recs (atK1 f.l (wi (((f.l.length : Nat) : Int) - 1)))).pc) + 1) } : RecV)).set (atK1 f.l (wi (((f.l.length : Nat) : Int) - 1))).toNat ({ atK7 (e.recs.set (atK1 f.l (wi (((f.l.length : Nat) : Int) - 1))).toNat ({ atK7 e.recs (atK1 f.l (wi (((f.l.length : Nat) : Int) - 1))) with pc := wi (((atK7 e.recs (atK1 f.l (wi (((f.l.length : Nat) : Int) - 1)))).pc) + 1) } : RecV)) (atK1 f.l (wi (((f.l.length : Nat) : Int) - 1))) with kids := (([]) ++ ((atK7 (e.recs.set (atK1 f.l (wi (((f.l.length : Nat) : Int) - 1))).toNat ({ atK7 e.recs (atK1 f.l (wi (((f.l.length : Nat) : Int) - 1))) with pc := wi (((atK7 e.recs (atK1 f.l (wi (((f.l.length : Nat) : Int) - 1)))).pc) + 1) } : RecV)) (atK1 f.l (wi (((f.l.length : Nat) : Int) - 1)))).kids)) ++ ([(-1)]) } : RecV) } : EnvV) 4 f.a (atK1 f.l (wi (((f.l.length : Nat) : Int) - 1))) 0 0).bind fun r3 =>
                some (((⟨false, 0, 0⟩ : ResV), ()), (r3.2.1, ({ f with line := 1 } : FrV), ()))
               else none
              else none
             else
             if (((([] : List Int).length + ((atK7 (e.recs.set (atK1 f.l (wi (((f.l.length : Nat) : Int) - 1))).toNat ({ atK7 e.recs (atK1 f.l (wi (((f.l.length : Nat) : Int) - 1))) with pc := wi (((atK7 e.recs (atK1 f.l (wi (((f.l.length : Nat) : Int) - 1)))).pc) + 1) } : RecV)) (atK1 f.l (wi (((f.l.length : Nat) : Int) - 1)))).kids).length : Nat)) : Int) < 1000000000000 then
              if ((((([]) ++ ((atK7 (e.recs.set (atK1 f.l (wi (((f.l.length : Nat) : Int) - 1))).toNat ({ atK7 e.recs (atK1 f.l (wi (((f.l.length : Nat) : Int) - 1))) with pc := wi (((atK7 e.recs (atK1 f.l (wi (((f.l.length : Nat) : Int) - 1)))).pc) + 1) } : RecV)) (atK1 f.l (wi (((f.l.length : Nat) : Int) - 1)))).kids)).length + ([b] : List Int).length : Nat)) : Int) < 1000000000000 then
               (r8fresh ((atK3 (atL [] e.c.progs ((atK7 e.recs (atK1 f.l (wi (((f.l.length : Nat) : Int) - 1)))).prog)) ((atK7 e.recs (atK1 f.l (wi (((f.l.length : Nat) : Int) - 1)))).pc)).a) (atK1 f.l (wi (((f.l.length : Nat) : Int) - 1)))).bind fun r4 =>
               if 0 ≤ b ∧ b < ((((e.recs.set (atK1 f.l (wi (((f.l.length : Nat) : Int) - 1))).toNat ({ atK7 e.recs (atK1 f.l (wi (((f.l.length : Nat) : Int) - 1))) with pc := wi (((atK7 e.recs (atK1 f.l (wi (((f.l.length : Nat) : Int) - 1)))).pc) + 1) } : RecV)).set (atK1 f.l (wi (((f.l.length : Nat) : Int) - 1))).toNat ({ atK7 (e.recs.set (atK1 f.l (wi (((f.l.length : Nat) : Int) - 1))).toNat ({ atK7 e.recs (atK1 f.l (wi (((f.l.length : Nat) : Int) - 1))) with pc := wi (((atK7 e.recs (atK1 f.l (wi (((f.l.length : Nat) : Int) - 1)))).pc) + 1) } : RecV)) (atK1 f.l (wi (((f.l.length : Nat) : Int) - 1))) with kids := (([]) ++ ((atK7 (e.recs.set (atK1 f.l (wi (((f.l.length : Nat) : Int) - 1))).toNat ({ atK7 e.recs (atK1 f.l (wi (((f.l.length : Nat) : Int) - 1))) with pc := wi (((atK7 e.recs (atK1 f.l (wi (((f.l.length : Nat) : Int) - 1)))).pc) + 1) } : RecV)) (atK1 f.l (wi (((f.l.length : Nat) : Int) - 1)))).kids)) ++ ([b]) } : RecV)).length : Nat) : Int) then
                if ((atK3 (atL [] e.c.progs ((atK7 e.recs (atK1 f.l (wi (((f.l.length : Nat) : Int) - 1)))).prog)) ((atK7 e.recs (atK1 f.l (wi (((f.l.length : Nat) : Int) - 1)))).pc)).b) = ((atK3 (atL [] e.c.progs ((atK7 e.recs (atK1 f.l (wi (((f.l.length : Nat) : Int) - 1)))).prog)) ((atK7 e.recs (atK1 f.l (wi (((f.l.length : Nat) : Int) - 1)))).pc)).b) then
                 some (((⟨false, 0, 0⟩ : ResV), ()), (({ e with recs := ((e.recs.set (atK1 f.l (wi (((f.l.length : Nat) : Int) - 1))).toNat ({ atK7 e.recs (atK1 f.l (wi (((f.l.length : Nat) : Int) - 1))) with pc := wi (((atK7 e.recs (atK1 f.l (wi (((f.l.length : Nat) : Int) - 1)))).pc) + 1) } : RecV)).set (atK1 f.l (wi (((f.l.length : Nat) : Int) - 1))).toNat ({ atK7 (e.recs.set (atK1 f.l (wi (((f.l.length : Nat) : Int) - 1))).toNat ({ atK7 e.recs (atK1 f.l (wi (((f.l.length : Nat) : Int) - 1))) with pc := wi (((atK7 e.recs (atK1 f.l (wi (((f.l.length : Nat) : Int) - 1)))).pc) + 1) } : RecV)) (atK1 f.l (wi (((f.l.length : Nat) : Int) - 1))) with kids := (([]) ++ ((atK7 (e.recs.set (atK1 f.l (wi (((f.l.length : Nat) : Int) - 1))).toNat ({ atK7 e.recs (atK1 f.l (wi (((f.l.length : Nat) : Int) - 1))) with pc := wi (((atK7 e.recs (atK1 f.l (wi (((f.l.length : Nat) : Int) - 1)))).pc) + 1) } : RecV)) (atK1 f.l (wi (((f.l.length : Nat) : Int) - 1)))).kids)) ++ ([b]) } : RecV)).set b.toNat r4.1.1 } : EnvV), ({ f with line := 6, d := (atK3 (atL [] e.c.progs ((atK7 e.recs (atK1 f.l (wi (((f.l.length : Nat) : Int) - 1)))).prog)) ((atK7 e.recs (atK1 f.l (wi (((f.l.length : Nat) : Int) - 1)))).pc)).b, n := b } : FrV), ()))
                else none
               else none
              else none
             else none
            else none
           else none
          else none
         else none
        else none
       else none
      else none
     else none
    ) (
     if ((atK7 e.recs (atK1 f.l (wi (((f.l.length : Nat) : Int) - 1)))).pc) = ((atK7 e.recs (atK1 f.l (wi (((f.l.length : Nat) : Int) - 1)))).pc) then
      if 0 ≤ atK1 f.l (wi (((f.l.length : Nat) : Int) - 1)) ∧ atK1 f.l (wi (((f.l.length : Nat) : Int) - 1)) < ((e.recs.length : Nat) : Int) then
       if ((atK7 e.recs (atK1 f.l (wi (((f.l.length : Nat) : Int) - 1)))).prog) < 0 then
        if ((atK7 e.recs (atK1 f.l (wi (((f.l.length : Nat) : Int) - 1)))).pc) = ((atK7 e.recs (atK1 f.l (wi (((f.l.length : Nat) : Int) - 1)))).pc) then
         none
        else none
       else
       if ((e.c.progs.length : Nat) : Int) ≤ ((atK7 e.recs (atK1 f.l (wi (((f.l.length : Nat) : Int) - 1)))).prog) then
        if ((atK7 e.recs (atK1 f.l (wi (((f.l.length : Nat) : Int) - 1)))).pc) = ((atK7 e.recs (atK1 f.l (wi (((f.l.length : Nat) : Int) - 1)))).pc) then
         none
        else none
       else
       if 0 ≤ (atK7 e.recs (atK1 f.l (wi (((f.l.length : Nat) : Int) - 1)))).prog ∧ (atK7 e.recs (atK1 f.l (wi (((f.l.length : Nat) : Int) - 1)))).prog < ((e.c.progs.length : Nat) : Int) then
        if ((atK7 e.recs (atK1 f.l (wi (((f.l.length : Nat) : Int) - 1)))).pc) = ((atK7 e.recs (atK1 f.l (wi (((f.l.length : Nat) : Int) - 1)))).pc) then
         if 0 ≤ (atK7 e.recs (atK1 f.l (wi (((f.l.length : Nat) : Int) - 1)))).pc ∧ (atK7 e.recs (atK1 f.l (wi (((f.l.length : Nat) : Int) - 1)))).pc < (((atL [] e.c.progs ((atK7 e.recs (atK1 f.l (wi (((f.l.length : Nat) : Int) - 1)))).prog)).length : Nat) : Int) then
          if a = 3 then
           if (((([] : List Int).length + ((atK7 (e.recs.set (atK1 f.l (wi (((f.l.length : Nat) : Int) - 1))).toNat ({ atK7 e.recs (atK1 f.l (wi (((f.l.length : Nat) : Int) - 1))) with pc := wi (((atK7 e.recs (atK1 f.l (wi (((f.l.length : Nat) : Int) - 1)))).pc) + 1) } : RecV)) (atK1 f.l (wi (((f.l.length : Nat) : Int) - 1)))).kids).length : Nat)) : Int) < 1000000000000 then
            if ((((([]) ++ ((atK7 (e.recs.set (atK1 f.l (wi (((f.l.length : Nat) : Int) - 1))).toNat ({ atK7 e.recs (atK1 f.l (wi (((f.l.length : Nat) : Int) - 1))) with pc := wi (((atK7 e.recs (atK1 f.l (wi (((f.l.length : Nat) : Int) - 1)))).pc) + 1) } : RecV)) (atK1 f.l (wi (((f.l.length : Nat) : Int) - 1)))).kids)).length + ([(-1)] : List Int).length : Nat)) : Int) < 1000000000000 then
             (r8env_emit ({ e with recs := (e.recs.set (atK1 f.l (wi (((f.l.length : Nat) : Int) - 1))).toNat ({ atK7 e.recs (atK1 f.l (wi (((f.l.length : Nat) : Int) - 1))) with pc := wi (((atK7 e.recs (atK1 f.l (wi (((f.l.length : Nat) : Int) - 1)))).pc) + 1) } : RecV)).set (atK1 f.l (wi (((f.l.length : Nat) : Int) - 1))).toNat ({ atK7 (e.recs.set (atK1 f.l (wi (((f.l.length : Nat) : Int) - 1))).toNat ({ atK7 e.recs (atK1 f.l (wi (((f.l.length : Nat) : Int) - 1))) with pc := wi (((atK7 e.recs (atK1 f.l (wi (((f.l.length : Nat) : Int) - 1)))).pc) + 1) } : RecV)) (atK1 f.l (wi (((f.l.length : Nat) : Int) - 1))) with kids := (([]) ++ ((atK7 (e.recs.set (atK1 f.l (wi (((f.l.length : Nat) : Int) - 1))).toNat ({ atK7 e.recs (atK1 f.l (wi (((f.l.length : Nat) : Int) - 1))) with pc := wi (((atK7 e.recs (atK1 f.l (wi (((f.l.length : Nat) : Int) - 1)))).pc) + 1) } : RecV)) (atK1 f.l (wi (((f.l.length : Nat) : Int) - 1)))).kids)) ++ ([(-1)]) } : RecV) } : EnvV) 4 f.a (atK1 f.l (wi (((f.l.length : Nat) : Int) - 1))) 0 0).bind fun r1 =>
             some (((⟨false, 0, 0⟩ : ResV), ()), (r1.2.1, ({ f with line := 1 } : FrV), ()))
            else none
           else none
          else
          if (((([] : List Int).length + ((atK7 (e.recs.set (atK1 f.l (wi (((f.l.length : Nat) : Int) - 1))).toNat ({ atK7 e.recs (atK1 f.l (wi (((f.l.length : Nat) : Int) - 1))) with pc := wi (((atK7 e.recs (atK1 f.l (wi (((f.l.length : Nat) : Int) - 1)))).pc) + 1) } : RecV)) (atK1 f.l (wi (((f.l.length : Nat) : Int) - 1)))).kids).length : Nat)) : Int) < 1000000000000 then
           if ((((([]) ++ ((atK7 (e.recs.set (atK1 f.l (wi (((f.l.length : Nat) : Int) - 1))).toNat ({ atK7 e.recs (atK1 f.l (wi (((f.l.length : Nat) : Int) - 1))) with pc := wi (((atK7 e.recs (atK1 f.l (wi (((f.l.length : Nat) : Int) - 1)))).pc) + 1) } : RecV)) (atK1 f.l (wi (((f.l.length : Nat) : Int) - 1)))).kids)).length + ([b] : List Int).length : Nat)) : Int) < 1000000000000 then
            (r8fresh ((atK3 (atL [] e.c.progs ((atK7 e.recs (atK1 f.l (wi (((f.l.length : Nat) : Int) - 1)))).prog)) ((atK7 e.recs (atK1 f.l (wi (((f.l.length : Nat) : Int) - 1)))).pc)).a) (atK1 f.l (wi (((f.l.length : Nat) : Int) - 1)))).bind fun r2 =>
            if 0 ≤ b ∧ b < ((((e.recs.set (atK1 f.l (wi (((f.l.length : Nat) : Int) - 1))).toNat ({ atK7 e.recs (atK1 f.l (wi (((f.l.length : Nat) : Int) - 1))) with pc := wi (((atK7 e.recs (atK1 f.l (wi (((f.l.length : Nat) : Int) - 1)))).pc) + 1) } : RecV)).set (atK1 f.l (wi (((f.l.length : Nat) : Int) - 1))).toNat ({ atK7 (e.recs.set (atK1 f.l (wi (((f.l.length : Nat) : Int) - 1))).toNat ({ atK7 e.recs (atK1 f.l (wi (((f.l.length : Nat) : Int) - 1))) with pc := wi (((atK7 e.recs (atK1 f.l (wi (((f.l.length : Nat) : Int) - 1)))).pc) + 1) } : RecV)) (atK1 f.l (wi (((f.l.length : Nat) : Int) - 1))) with kids := (([]) ++ ((atK7 (e.recs.set (atK1 f.l (wi (((f.l.length : Nat) : Int) - 1))).toNat ({ atK7 e.recs (atK1 f.l (wi (((f.l.length : Nat) : Int) - 1))) with pc := wi (((atK7 e.recs (atK1 f.l (wi (((f.l.length : Nat) : Int) - 1)))).pc) + 1) } : RecV)) (atK1 f.l (wi (((f.l.length : Nat) : Int) - 1)))).kids)) ++ ([b]) } : RecV)).length : Nat) : Int) then
             if ((atK3 (atL [] e.c.progs ((atK7 e.recs (atK1 f.l (wi (((f.l.length : Nat) : Int) - 1)))).prog)) ((atK7 e.recs (atK1 f.l (wi (((f.l.length : Nat) : Int) - 1)))).pc)).b) = ((atK3 (atL [] e.c.progs ((atK7 e.recs (atK1 f.l (wi (((f.l.length : Nat) : Int) - 1)))).prog)) ((atK7 e.recs (atK1 f.l (wi (((f.l.length : Nat) : Int) - 1)))).pc)).b) then
              some (((⟨false, 0, 0⟩ : ResV), ()), (({ e with recs := ((e.recs.set (atK1 f.l (wi (((f.l.length : Nat) : Int) - 1))).toNat ({ atK7 e.recs (atK1 f.l (wi (((f.l.length : Nat) : Int) - 1))) with pc := wi (((atK7 e.recs (atK1 f.l (wi (((f.l.length : Nat) : Int) - 1)))).pc) + 1) } : RecV)).set (atK1 f.l (wi (((f.l.length : Nat) : Int) - 1))).toNat ({ atK7 (e.recs.set (atK1 f.l (wi (((f.l.length : Nat) : Int) - 1))).toNat ({ atK7 e.recs (atK1 f.l (wi (((f.l.length : Nat) : Int) - 1))) with pc := wi (((atK7 e.recs (atK1 f.l (wi (((f.l.length : Nat) : Int) - 1)))).pc) + 1) } : RecV)) (atK1 f.l (wi (((f.l.length : Nat) : Int) - 1))) with kids := (([]) ++ ((atK7 (e.recs.set (atK1 f.l (wi (((f.l.length : Nat) : Int) - 1))).toNat ({ atK7 e.recs (atK1 f.l (wi (((f.l.length : Nat) : Int) - 1))) with pc := wi (((atK7 e.recs (atK1 f.l (wi (((f.l.length : Nat) : Int) - 1)))).pc) + 1) } : RecV)) (atK1 f.l (wi (((f.l.length : Nat) : Int) - 1)))).kids)) ++ ([b]) } : RecV)).set b.toNat r2.1.1 } : EnvV), ({ f with line := 6, d := (atK3 (atL [] e.c.progs ((atK7 e.recs (atK1 f.l (wi (((f.l.length : Nat) : Int) - 1)))).prog)) ((atK7 e.recs (atK1 f.l (wi (((f.l.length : Nat) : Int) - 1)))).pc)).b, n := b } : FrV), ()))
             else none
            else none
           else none
          else none
         else none
        else none
       else none
      else none
     else none
    )
   else
   if f.line = 6 then
    (r8env_emit e 3 f.a f.n (atK1 f.l (wi (((f.l.length : Nat) : Int) - 1))) f.d).bind fun r5 =>
    some (((⟨false, 0, 0⟩ : ResV), ()), (r5.2.1, ({ f with line := 7 } : FrV), ()))
   else
   if f.line = 7 then
    if a = 3 then
     some (((⟨false, 0, 0⟩ : ResV), ()), (e, ({ f with line := 9 } : FrV), ()))
    else
    some (((⟨false, 0, 0⟩ : ResV), ()), (e, ({ f with line := 8 } : FrV), ()))
   else
   if f.line = 8 then
    some (((⟨false, 0, 0⟩ : ResV), ()), (e, ({ f with line := 1 } : FrV), ()))
   else
   if f.line = 9 then
    if a = 1 then
     agr (
      if f.n = f.n then
       agr (
        if (((([] : List Int).length + f.l.length : Nat)) : Int) < 1000000000000 then
         if f.n = f.n then
          if ((((([]) ++ f.l).length + ([f.n] : List Int).length : Nat)) : Int) < 1000000000000 then
           some (((⟨false, 0, 0⟩ : ResV), ()), (e, ({ f with line := 1, l := (([]) ++ f.l) ++ ([f.n]) } : FrV), ()))
          else none
         else none
        else none
       ) (
        if (((([] : List Int).length + f.l.length : Nat)) : Int) < 1000000000000 then
         if f.n = f.n then
          if ((((([]) ++ f.l).length + ([f.n] : List Int).length : Nat)) : Int) < 1000000000000 then
           some (((⟨false, 0, 0⟩ : ResV), ()), (e, ({ f with line := 1, l := (([]) ++ f.l) ++ ([f.n]) } : FrV), ()))
          else none
         else none
        else none
       )
      else none
     ) (
      if f.n = f.n then
       if (((([] : List Int).length + f.l.length : Nat)) : Int) < 1000000000000 then
        if f.n = f.n then
         if ((((([]) ++ f.l).length + ([f.n] : List Int).length : Nat)) : Int) < 1000000000000 then
          some (((⟨false, 0, 0⟩ : ResV), ()), (e, ({ f with line := 1, l := (([]) ++ f.l) ++ ([f.n]) } : FrV), ()))
         else none
        else none
       else none
      else none
     )
    else
    some (((⟨false, 0, 0⟩ : ResV), ()), (e, ({ f with line := 1 } : FrV), ()))
   else
   if f.line = 14 then
    (r8env_emit e 7 f.a (atK1 f.l (wi (((f.l.length : Nat) : Int) - 1))) 0 f.t).bind fun r6 =>
    (r8leave f).bind fun r7 =>
    some ((r7.1.1, ()), (r6.2.1, r7.2.1, ()))
   else
   if f.line = 20 then
    if a = 3 then
     some (((⟨false, 0, 0⟩ : ResV), ()), (e, ({ f with line := 22, t := b } : FrV), ()))
    else
    some (((⟨false, 0, 0⟩ : ResV), ()), (e, ({ f with line := 21, t := b } : FrV), ()))
   else
   if f.line = 21 then
    (r8leave f).bind fun r8 =>
    some ((r8.1.1, ()), (e, r8.2.1, ()))
   else
   if f.line = 22 then
    if a ≠ 1 then
     (r8leave f).bind fun r9 =>
     some ((r9.1.1, ()), (e, r9.2.1, ()))
    else
    agr (
     if f.n = f.n then
      agr (
       if 0 ≤ wi (((f.l.length : Nat) : Int) - 1) ∧ wi (((f.l.length : Nat) : Int) - 1) ≤ ((f.l.length : Nat) : Int) then
        if f.n = f.n then
         agr (
          if (((([] : List Int).length + (f.l.take (wi (((f.l.length : Nat) : Int) - 1) : Int).toNat).length : Nat)) : Int) < 1000000000000 then
           if f.n = f.n then
            if ((((([]) ++ (f.l.take (wi (((f.l.length : Nat) : Int) - 1) : Int).toNat)).length + ([f.n] : List Int).length : Nat)) : Int) < 1000000000000 then
             some (((⟨false, 0, 0⟩ : ResV), ()), (e, ({ f with line := 1, l := (([]) ++ (f.l.take (wi (((f.l.length : Nat) : Int) - 1) : Int).toNat)) ++ ([f.n]) } : FrV), ()))
            else none
           else none
          else none
         ) (
          if (((([] : List Int).length + (f.l.take (wi (((f.l.length : Nat) : Int) - 1) : Int).toNat).length : Nat)) : Int) < 1000000000000 then
           if f.n = f.n then
            if ((((([]) ++ (f.l.take (wi (((f.l.length : Nat) : Int) - 1) : Int).toNat)).length + ([f.n] : List Int).length : Nat)) : Int) < 1000000000000 then
             some (((⟨false, 0, 0⟩ : ResV), ()), (e, ({ f with line := 1, l := (([]) ++ (f.l.take (wi (((f.l.length : Nat) : Int) - 1) : Int).toNat)) ++ ([f.n]) } : FrV), ()))
            else none
           else none
          else none
         )
        else none
       else none
      ) (
       if 0 ≤ wi (((f.l.length : Nat) : Int) - 1) ∧ wi (((f.l.length : Nat) : Int) - 1) ≤ ((f.l.length : Nat) : Int) then
        if f.n = f.n then
         if (((([] : List Int).length + (f.l.take (wi (((f.l.length : Nat) : Int) - 1) : Int).toNat).length : Nat)) : Int) < 1000000000000 then
          if f.n = f.n then
           if ((((([]) ++ (f.l.take (wi (((f.l.length : Nat) : Int) - 1) : Int).toNat)).length + ([f.n] : List Int).length : Nat)) : Int) < 1000000000000 then
            some (((⟨false, 0, 0⟩ : ResV), ()), (e, ({ f with line := 1, l := (([]) ++ (f.l.take (wi (((f.l.length : Nat) : Int) - 1) : Int).toNat)) ++ ([f.n]) } : FrV), ()))
           else none
          else none
         else none
        else none
       else none
      )
     else none
    ) (
     agr (
      if 0 ≤ wi (((f.l.length : Nat) : Int) - 1) ∧ wi (((f.l.length : Nat) : Int) - 1) ≤ ((f.l.length : Nat) : Int) then
       if f.n = f.n then
        agr (
         if f.n = f.n then
          agr (
           if (((([] : List Int).length + (f.l.take (wi (((f.l.length : Nat) : Int) - 1) : Int).toNat).length : Nat)) : Int) < 1000000000000 then
            if f.n = f.n then
             if ((((([]) ++ (f.l.take (wi (((f.l.length : Nat) : Int) - 1) : Int).toNat)).length + ([f.n] : List Int).length : Nat)) : Int) < 1000000000000 then
              some (((⟨false, 0, 0⟩ : ResV), ()), (e, ({ f with line := 1, l := (([]) ++ (f.l.take (wi (((f.l.length : Nat) : Int) - 1) : Int).toNat)) ++ ([f.n]) } : FrV), ()))
             else none
            else none
           else none
          ) (
           if (((([] : List Int).length + (f.l.take (wi (((f.l.length : Nat) : Int) - 1) : Int).toNat).length : Nat)) : Int) < 1000000000000 then
            if f.n = f.n then
             if ((((([]) ++ (f.l.take (wi (((f.l.length : Nat) : Int) - 1) : Int).toNat)).length + ([f.n] : List Int).length : Nat)) : Int) < 1000000000000 then
              some (((⟨false, 0, 0⟩ : ResV), ()), (e, ({ f with line := 1, l := (([]) ++ (f.l.take (wi (((f.l.length : Nat) : Int) - 1) : Int).toNat)) ++ ([f.n]) } : FrV), ()))
             else none
            else none
           else none
          )
         else none
        ) (
         if f.n = f.n then
          if (((([] : List Int).length + (f.l.take (wi (((f.l.length : Nat) : Int) - 1) : Int).toNat).length : Nat)) : Int) < 1000000000000 then
           if f.n = f.n then
            if ((((([]) ++ (f.l.take (wi (((f.l.length : Nat) : Int) - 1) : Int).toNat)).length + ([f.n] : List Int).length : Nat)) : Int) < 1000000000000 then
             some (((⟨false, 0, 0⟩ : ResV), ()), (e, ({ f with line := 1, l := (([]) ++ (f.l.take (wi (((f.l.length : Nat) : Int) - 1) : Int).toNat)) ++ ([f.n]) } : FrV), ()))
            else none
           else none
          else none
         else none
        )
       else none
      else none
     ) (
      agr (
       if f.n = f.n then
        if 0 ≤ wi (((f.l.length : Nat) : Int) - 1) ∧ wi (((f.l.length : Nat) : Int) - 1) ≤ ((f.l.length : Nat) : Int) then
         if f.n = f.n then
          if (((([] : List Int).length + (f.l.take (wi (((f.l.length : Nat) : Int) - 1) : Int).toNat).length : Nat)) : Int) < 1000000000000 then
           if f.n = f.n then
            if ((((([]) ++ (f.l.take (wi (((f.l.length : Nat) : Int) - 1) : Int).toNat)).length + ([f.n] : List Int).length : Nat)) : Int) < 1000000000000 then
             some (((⟨false, 0, 0⟩ : ResV), ()), (e, ({ f with line := 1, l := (([]) ++ (f.l.take (wi (((f.l.length : Nat) : Int) - 1) : Int).toNat)) ++ ([f.n]) } : FrV), ()))
            else none
           else none
          else none
         else none
        else none
       else none
      ) (
       if 0 ≤ wi (((f.l.length : Nat) : Int) - 1) ∧ wi (((f.l.length : Nat) : Int) - 1) ≤ ((f.l.length : Nat) : Int) then
        if f.n = f.n then
         if f.n = f.n then
          if (((([] : List Int).length + (f.l.take (wi (((f.l.length : Nat) : Int) - 1) : Int).toNat).length : Nat)) : Int) < 1000000000000 then
           if f.n = f.n then
            if ((((([]) ++ (f.l.take (wi (((f.l.length : Nat) : Int) - 1) : Int).toNat)).length + ([f.n] : List Int).length : Nat)) : Int) < 1000000000000 then
             some (((⟨false, 0, 0⟩ : ResV), ()), (e, ({ f with line := 1, l := (([]) ++ (f.l.take (wi (((f.l.length : Nat) : Int) - 1) : Int).toNat)) ++ ([f.n]) } : FrV), ()))
            else none
           else none
          else none
         else none
        else none
       else none
      )
     )
    )
   else
   some (((⟨false, 0, 0⟩ : ResV), ()), (e, f, ()))
  else none
 else none
noncomputable abbrev r8backrun_k : Con SR1 := ⟨144, [.ref 12, .ref 8, .sh sI_, .sh sI_], [.val 10], fun x => r8backrun x.1 x.2.1 x.2.2.1 x.2.2.2.1⟩
noncomputable def r8backrun_tb : List (Nat × Func) := [(176, Tryz.f176), (177, Tryz.f177)]
theorem r8backrun_ok : CO Tryz.prog r8backrun_k := co_fn mixed Tryz.func144 [r8env_emit_k, r8fresh_k, r8leave_k] ⟨r8env_emit_ok, r8fresh_ok, r8leave_ok, trivial⟩ r8backrun_tb ⟨Tryz.func176, Tryz.func177, trivial⟩ (fun _ => []) [] fun x => by kernel_rfl
end Go.Proofs.YtpbkelpokpglaaaGreat
