/- The reference: machines. -/
import Derived.Test.YtpbkelpokpglaaaGreatQn
set_option linter.all false
namespace Go.Proofs.YtpbkelpokpglaaaGreat
open Go Go.RowKit
set_option maxRecDepth 100000
noncomputable def r8table (e : EnvV) (f : FrV) : Option ((ResV × Unit) × (EnvV × FrV × Unit)) :=
 if f.kind = 12 then
  (r2acc e.m 6 0 1 0).bind fun r1 =>
  if 0 ≤ (wi (r1.1.1)) then
   if (wi (r1.1.1)) < e.c.tasks then
    if (wi (r1.1.1)) < ((e.recs.length : Nat) : Int) then
     some (((⟨true, 1, wi (r1.1.1)⟩ : ResV), ()), (({ e with m := r1.2.1 } : EnvV), f, ()))
    else
    some (((⟨true, 3, 0⟩ : ResV), ()), (({ e with m := r1.2.1 } : EnvV), f, ()))
   else
   some (((⟨true, 3, 0⟩ : ResV), ()), (({ e with m := r1.2.1 } : EnvV), f, ()))
  else
  some (((⟨true, 3, 0⟩ : ResV), ()), (({ e with m := r1.2.1 } : EnvV), f, ()))
 else
 if f.kind = 14 then
  (r8claim e f).bind fun r2 =>
  some ((r2.1.1, ()), (r2.2.1, r2.2.2.1, ()))
 else
 if f.kind = 13 then
  if 0 ≤ f.a then
   if f.a < e.c.tasks then
    if ¬ (f.a < ((e.recs.length : Nat) : Int)) then
     some (((⟨true, 4, 0⟩ : ResV), ()), (e, f, ()))
    else
    if f.kind = 13 then
     if f.line = 1 then
      (r6level e.c f.a).bind fun r3 =>
      if f.b = f.b then
       (r2acc e.m 2 r3.1.1 (wu (f.b)) 0).bind fun r4 =>
       some (((⟨false, 0, 0⟩ : ResV), ()), (({ e with m := r4.2.1 } : EnvV), ({ f with line := wi (f.line + 1) } : FrV), ()))
      else none
     else
     if f.line = 2 then
      (r6since e.c f.a).bind fun r5 =>
      if e.now = e.now then
       (r2acc e.m 2 r5.1.1 (wu (e.now)) 0).bind fun r6 =>
       some (((⟨false, 0, 0⟩ : ResV), ()), (({ e with m := r6.2.1 } : EnvV), ({ f with line := wi (f.line + 1) } : FrV), ()))
      else none
     else
     (r6state e.c f.a).bind fun r7 =>
     (r2acc e.m 2 r7.1.1 1 0).bind fun r8 =>
     some (((⟨true, 0, 0⟩ : ResV), ()), (({ e with m := r8.2.1 } : EnvV), f, ()))
    else
    if f.line = 1 then
     (r6since e.c f.b).bind fun r9 =>
     if e.now = e.now then
      (r2acc e.m 2 r9.1.1 (wu (e.now)) 0).bind fun r10 =>
      some (((⟨false, 0, 0⟩ : ResV), ()), (({ e with m := r10.2.1 } : EnvV), ({ f with line := wi (f.line + 1) } : FrV), ()))
     else none
    else
    if f.line = 2 then
     (r6state e.c f.b).bind fun r11 =>
     (r2acc e.m 2 r11.1.1 1 0).bind fun r12 =>
     some (((⟨false, 0, 0⟩ : ResV), ()), (({ e with m := r12.2.1 } : EnvV), ({ f with line := wi (f.line + 1) } : FrV), ()))
    else
    (r6level e.c f.b).bind fun r13 =>
    (r2acc e.m 1 r13.1.1 0 0).bind fun r14 =>
    some (((⟨false, 0, 0⟩ : ResV), ()), (({ e with m := r14.2.1 } : EnvV), ({ f with line := wi (f.line + 1), t := wi (r14.1.1) } : FrV), ()))
   else
   some (((⟨true, 4, 0⟩ : ResV), ()), (e, f, ()))
  else
  some (((⟨true, 4, 0⟩ : ResV), ()), (e, f, ()))
 else
 if 0 ≤ f.b then
  if f.b < e.c.tasks then
   if ¬ (f.b < ((e.recs.length : Nat) : Int)) then
    some (((⟨true, 4, 0⟩ : ResV), ()), (e, f, ()))
   else
   if f.kind = 13 then
    if f.line = 1 then
     (r6level e.c f.a).bind fun r15 =>
     if f.b = f.b then
      (r2acc e.m 2 r15.1.1 (wu (f.b)) 0).bind fun r16 =>
      some (((⟨false, 0, 0⟩ : ResV), ()), (({ e with m := r16.2.1 } : EnvV), ({ f with line := wi (f.line + 1) } : FrV), ()))
     else none
    else
    if f.line = 2 then
     (r6since e.c f.a).bind fun r17 =>
     if e.now = e.now then
      (r2acc e.m 2 r17.1.1 (wu (e.now)) 0).bind fun r18 =>
      some (((⟨false, 0, 0⟩ : ResV), ()), (({ e with m := r18.2.1 } : EnvV), ({ f with line := wi (f.line + 1) } : FrV), ()))
     else none
    else
    (r6state e.c f.a).bind fun r19 =>
    (r2acc e.m 2 r19.1.1 1 0).bind fun r20 =>
    some (((⟨true, 0, 0⟩ : ResV), ()), (({ e with m := r20.2.1 } : EnvV), f, ()))
   else
   if f.line = 1 then
    (r6since e.c f.b).bind fun r21 =>
    if e.now = e.now then
     (r2acc e.m 2 r21.1.1 (wu (e.now)) 0).bind fun r22 =>
     some (((⟨false, 0, 0⟩ : ResV), ()), (({ e with m := r22.2.1 } : EnvV), ({ f with line := wi (f.line + 1) } : FrV), ()))
    else none
   else
   if f.line = 2 then
    (r6state e.c f.b).bind fun r23 =>
    (r2acc e.m 2 r23.1.1 1 0).bind fun r24 =>
    some (((⟨false, 0, 0⟩ : ResV), ()), (({ e with m := r24.2.1 } : EnvV), ({ f with line := wi (f.line + 1) } : FrV), ()))
   else
   (r6level e.c f.b).bind fun r25 =>
   (r2acc e.m 1 r25.1.1 0 0).bind fun r26 =>
   some (((⟨false, 0, 0⟩ : ResV), ()), (({ e with m := r26.2.1 } : EnvV), ({ f with line := wi (f.line + 1), t := wi (r26.1.1) } : FrV), ()))
  else
  some (((⟨true, 4, 0⟩ : ResV), ()), (e, f, ()))
 else
 some (((⟨true, 4, 0⟩ : ResV), ()), (e, f, ()))
noncomputable abbrev r8table_k : Con SR1 := ⟨131, [.ref 12, .ref 8], [.val 10], fun x => r8table x.1 x.2.1⟩
noncomputable def r8table_tb : List (Nat × Func) := [(165, Tryz.f165), (113, Tryz.f113), (123, Tryz.f123), (169, Tryz.f169), (128, Tryz.f128), (125, Tryz.f125)]
theorem r8table_ok : CO Tryz.prog r8table_k := co_fn mixed Tryz.func131 [r2acc_k, r8claim_k, r6level_k, r6since_k, r6state_k] ⟨r2acc_ok, r8claim_ok, r6level_ok, r6since_ok, r6state_ok, trivial⟩ r8table_tb ⟨Tryz.func165, Tryz.func113, Tryz.func123, Tryz.func169, Tryz.func128, Tryz.func125, trivial⟩ (fun _ => []) [] fun x => by kernel_rfl
noncomputable def r8boost (e : EnvV) (f : FrV) : Option ((ResV × Unit) × (EnvV × FrV × Unit)) :=
 if 0 ≤ f.b then
  if f.b < e.c.tasks then
   if ¬ (f.b < ((e.recs.length : Nat) : Int)) then
    some (((⟨true, 4, 0⟩ : ResV), ()), (e, f, ()))
   else
   if f.d < 0 then
    some (((⟨true, 4, 0⟩ : ResV), ()), (e, f, ()))
   else
   if e.c.levels ≤ f.d then
    some (((⟨true, 4, 0⟩ : ResV), ()), (e, f, ()))
   else
   if f.kind = 16 then
    if f.line = 1 then
     (r6level e.c f.b).bind fun r1 =>
     (r2acc e.m 1 r1.1.1 0 0).bind fun r2 =>
     if f.d ≤ (wi (r2.1.1)) then
      some (((⟨true, 0, 0⟩ : ResV), ()), (({ e with m := r2.2.1 } : EnvV), ({ f with u := r2.1.1 } : FrV), ()))
     else
     some (((⟨false, 0, 0⟩ : ResV), ()), (({ e with m := r2.2.1 } : EnvV), ({ f with line := 2, u := r2.1.1 } : FrV), ()))
    else
    (r6level e.c f.b).bind fun r3 =>
    if f.d = f.d then
     if f.u = f.u then
      (r2acc e.m 3 r3.1.1 f.u (wu (f.d))).bind fun r4 =>
      if r4.1.2.1 = true then
       (r8env_emit ({ e with m := r4.2.1 } : EnvV) 11 f.a f.b 0 f.d).bind fun r5 =>
       some (((⟨true, 1, 0⟩ : ResV), ()), (r5.2.1, f, ()))
      else
      some (((⟨false, 0, 0⟩ : ResV), ()), (({ e with m := r4.2.1 } : EnvV), ({ f with line := 1 } : FrV), ()))
     else none
    else none
   else
   if f.line = 2 then
    (r6state e.c f.b).bind fun r6 =>
    (r2acc e.m 1 r6.1.1 0 0).bind fun r7 =>
    if r7.1.1 = 1 then
     some (((⟨false, 0, 0⟩ : ResV), ()), (({ e with m := r7.2.1 } : EnvV), ({ f with line := 3 } : FrV), ()))
    else
    some (((⟨false, 0, 0⟩ : ResV), ()), (({ e with m := r7.2.1 } : EnvV), ({ f with line := 4 } : FrV), ()))
   else
   (r6waits e.c f.b).bind fun r8 =>
   (r2acc e.m 1 r8.1.1 0 0).bind fun r9 =>
   if r9.1.1 = 0 then
    some (((⟨true, 0, 0⟩ : ResV), ()), (({ e with m := r9.2.1 } : EnvV), f, ()))
   else
   some (((⟨false, 0, 0⟩ : ResV), ()), (({ e with m := r9.2.1 } : EnvV), ({ f with line := 1, b := wi (wu (r9.1.1 - 1)) } : FrV), ()))
  else
  some (((⟨true, 4, 0⟩ : ResV), ()), (e, f, ()))
 else
 some (((⟨true, 4, 0⟩ : ResV), ()), (e, f, ()))
noncomputable abbrev r8boost_k : Con SR1 := ⟨132, [.ref 12, .ref 8], [.val 10], fun x => r8boost x.1 x.2.1⟩
noncomputable def r8boost_tb : List (Nat × Func) := [(113, Tryz.f113), (123, Tryz.f123), (125, Tryz.f125), (127, Tryz.f127)]
theorem r8boost_ok : CO Tryz.prog r8boost_k := co_fn mixed Tryz.func132 [r6level_k, r2acc_k, r8env_emit_k, r6state_k, r6waits_k] ⟨r6level_ok, r2acc_ok, r8env_emit_ok, r6state_ok, r6waits_ok, trivial⟩ r8boost_tb ⟨Tryz.func113, Tryz.func123, Tryz.func125, Tryz.func127, trivial⟩ (fun _ => []) [] fun x => by kernel_rfl
noncomputable def r8sweep (e : EnvV) (f : FrV) : Option ((ResV × Unit) × (EnvV × FrV × Unit)) :=
 if 0 ≤ f.b then
  if f.b < e.c.tasks then
   if ¬ (f.b < ((e.recs.length : Nat) : Int)) then
    some (((⟨true, 0, 0⟩ : ResV), ()), (e, f, ()))
   else
   if e.c.age = 0 then
    some (((⟨true, 0, 0⟩ : ResV), ()), (e, f, ()))
   else
   if f.line = 1 then
    (r6state e.c f.b).bind fun r1 =>
    (r2acc e.m 1 r1.1.1 0 0).bind fun r2 =>
    if r2.1.1 ≠ 1 then
     some (((⟨true, 0, 0⟩ : ResV), ()), (({ e with m := r2.2.1 } : EnvV), f, ()))
    else
    some (((⟨false, 0, 0⟩ : ResV), ()), (({ e with m := r2.2.1 } : EnvV), ({ f with line := wi (f.line + 1) } : FrV), ()))
   else
   if f.line = 2 then
    (r6since e.c f.b).bind fun r3 =>
    if e.c.age = e.c.age then
     if e.now = e.now then
      (r2acc e.m 1 r3.1.1 0 0).bind fun r4 =>
      if e.c.age = e.c.age then
       if e.now = e.now then
        if (wi (e.now - (wi (r4.1.1)))) < e.c.age then
         some (((⟨true, 0, 0⟩ : ResV), ()), (({ e with m := r4.2.1 } : EnvV), f, ()))
        else
        some (((⟨false, 0, 0⟩ : ResV), ()), (({ e with m := r4.2.1 } : EnvV), ({ f with line := wi (f.line + 1) } : FrV), ()))
       else none
      else none
     else none
    else none
   else
   if f.line = 3 then
    (r6level e.c f.b).bind fun r5 =>
    (r2acc e.m 1 r5.1.1 0 0).bind fun r6 =>
    if (wi (e.c.levels - 1)) ≤ (wi (r6.1.1)) then
     some (((⟨true, 0, 0⟩ : ResV), ()), (({ e with m := r6.2.1 } : EnvV), ({ f with t := wi ((wi (r6.1.1)) + 1), u := r6.1.1 } : FrV), ()))
    else
    some (((⟨false, 0, 0⟩ : ResV), ()), (({ e with m := r6.2.1 } : EnvV), ({ f with line := wi (f.line + 1), t := wi ((wi (r6.1.1)) + 1), u := r6.1.1 } : FrV), ()))
   else
   if f.line = 4 then
    (r6level e.c f.b).bind fun r7 =>
    if f.u = f.u then
     if f.u = f.u then
      (r2acc e.m 3 r7.1.1 f.u (wu (f.u + 1))).bind fun r8 =>
      if (!r8.1.2.1) = true then
       some (((⟨true, 4, 0⟩ : ResV), ()), (({ e with m := r8.2.1 } : EnvV), f, ()))
      else
      (r8env_emit ({ e with m := r8.2.1 } : EnvV) 12 f.a f.b 0 f.t).bind fun r9 =>
      some (((⟨false, 0, 0⟩ : ResV), ()), (r9.2.1, ({ f with line := wi (f.line + 1) } : FrV), ()))
     else none
    else none
   else
   (r6since e.c f.b).bind fun r10 =>
   if e.now = e.now then
    (r2acc e.m 2 r10.1.1 (wu (e.now)) 0).bind fun r11 =>
    some (((⟨false, 0, 0⟩ : ResV), ()), (({ e with m := r11.2.1 } : EnvV), ({ f with line := wi (f.line + 1) } : FrV), ()))
   else none
  else
  some (((⟨true, 0, 0⟩ : ResV), ()), (e, f, ()))
 else
 some (((⟨true, 0, 0⟩ : ResV), ()), (e, f, ()))
noncomputable abbrev r8sweep_k : Con SR1 := ⟨133, [.ref 12, .ref 8], [.val 10], fun x => r8sweep x.1 x.2.1⟩
noncomputable def r8sweep_tb : List (Nat × Func) := [(113, Tryz.f113), (123, Tryz.f123), (125, Tryz.f125), (127, Tryz.f127), (128, Tryz.f128)]
theorem r8sweep_ok : CO Tryz.prog r8sweep_k := co_fn mixed Tryz.func133 [r6state_k, r2acc_k, r6since_k, r6level_k, r8env_emit_k] ⟨r6state_ok, r2acc_ok, r6since_ok, r6level_ok, r8env_emit_ok, trivial⟩ r8sweep_tb ⟨Tryz.func113, Tryz.func123, Tryz.func125, Tryz.func127, Tryz.func128, trivial⟩ (fun _ => []) [] fun x => by kernel_rfl
noncomputable def r8sleep (e : EnvV) (f : FrV) : Option ((ResV × Unit) × (EnvV × FrV × Unit)) :=
 (r2draw f.a e.c.classes).bind fun r1 =>
 if e.c.workers = e.c.workers then
  if e.c.levels = e.c.levels then
   if e.c.classes = e.c.classes then
    if e.c.tasks = e.c.tasks then
     if e.c.deque = e.c.deque then
      if e.c.heap = e.c.heap then
       if e.c.batch = e.c.batch then
        if e.c.age = e.c.age then
         if e.c.patience = e.c.patience then
          (r6sleepers e.c r1.1.1).bind fun r2 =>
          if f.line = 1 then
           (r6epoch e.c f.a).bind fun r3 =>
           (r2acc e.m 1 r3.1.1 0 0).bind fun r4 =>
           some (((⟨false, 0, 0⟩ : ResV), ()), (({ e with m := r4.2.1 } : EnvV), ({ f with line := wi (f.line + 1), u := r4.1.1 } : FrV), ()))
          else
          if f.line = 2 then
           (r1mask f.a).bind fun r5 =>
           (r2acc e.m 4 r2.1.1 r5.1.1 0).bind fun r6 =>
           some (((⟨false, 0, 0⟩ : ResV), ()), (({ e with m := r6.2.1 } : EnvV), ({ f with line := wi (f.line + 1) } : FrV), ()))
          else
          if f.line = 3 then
           (r2acc e.m 1 2 0 0).bind fun r7 =>
           if r7.1.1 ≠ 0 then
            some (((⟨false, 0, 0⟩ : ResV), ()), (({ e with m := r7.2.1 } : EnvV), ({ f with line := 7, n := 0 } : FrV), ()))
           else
           some (((⟨false, 0, 0⟩ : ResV), ()), (({ e with m := r7.2.1 } : EnvV), ({ f with line := wi (f.line + 1), n := 0 } : FrV), ()))
          else
          if f.line = 4 then
           (r6bitmap e.c f.n).bind fun r8 =>
           (r2acc e.m 1 r8.1.1 0 0).bind fun r9 =>
           if r9.1.1 ≠ 0 then
            some (((⟨false, 0, 0⟩ : ResV), ()), (({ e with m := r9.2.1 } : EnvV), ({ f with line := 7, n := wi (f.n + 1) } : FrV), ()))
           else
           if (wi (f.n + 1)) < e.c.workers then
            some (((⟨false, 0, 0⟩ : ResV), ()), (({ e with m := r9.2.1 } : EnvV), ({ f with line := 4, n := wi (f.n + 1) } : FrV), ()))
           else
           (r8env_emit ({ e with m := r9.2.1 } : EnvV) 16 f.a 0 0 0).bind fun r10 =>
           some (((⟨false, 0, 0⟩ : ResV), ()), (r10.2.1, ({ f with line := wi (f.line + 1), n := wi (f.n + 1), t := r10.2.1.now } : FrV), ()))
          else
          if f.line = 5 then
           (r6epoch e.c f.a).bind fun r11 =>
           (r2acc e.m 1 r11.1.1 0 0).bind fun r12 =>
           if r12.1.1 ≠ f.u then
            (r8env_emit ({ e with m := r12.2.1 } : EnvV) 17 f.a 0 1 0).bind fun r13 =>
            some (((⟨false, 0, 0⟩ : ResV), ()), (r13.2.1, ({ f with line := wi (f.line + 1) } : FrV), ()))
           else
           if e.c.patience ≤ (wi (e.now - f.t)) then
            (r8env_emit ({ e with m := r12.2.1 } : EnvV) 17 f.a 0 2 0).bind fun r14 =>
            some (((⟨false, 0, 0⟩ : ResV), ()), (r14.2.1, ({ f with line := wi (f.line + 1) } : FrV), ()))
           else
           some (((⟨false, 0, 0⟩ : ResV), ()), (({ e with m := r12.2.1 } : EnvV), ({ f with line := 5 } : FrV), ()))
          else
          (r1mask f.a).bind fun r15 =>
          (r2acc e.m 5 r2.1.1 (cplU r15.1.1) 0).bind fun r16 =>
          if f.line = 6 then
           some (((⟨true, 1, 0⟩ : ResV), ()), (({ e with m := r16.2.1 } : EnvV), f, ()))
          else
          some (((⟨true, 5, 0⟩ : ResV), ()), (({ e with m := r16.2.1 } : EnvV), f, ()))
         else none
        else none
       else none
      else none
     else none
    else none
   else none
  else none
 else none
noncomputable abbrev r8sleep_k : Con SR1 := ⟨134, [.ref 12, .ref 8], [.val 10], fun x => r8sleep x.1 x.2.1⟩
noncomputable def r8sleep_tb : List (Nat × Func) := [(125, Tryz.f125), (121, Tryz.f121), (162, Tryz.f162), (123, Tryz.f123)]
theorem r8sleep_ok : CO Tryz.prog r8sleep_k := co_fn mixed Tryz.func134 [r2draw_k, r6sleepers_k, r6epoch_k, r2acc_k, r1mask_k, r6bitmap_k, r8env_emit_k] ⟨r2draw_ok, r6sleepers_ok, r6epoch_ok, r2acc_ok, r1mask_ok, r6bitmap_ok, r8env_emit_ok, trivial⟩ r8sleep_tb ⟨Tryz.func125, Tryz.func121, Tryz.func162, Tryz.func123, trivial⟩ (fun _ => []) [] fun x => by kernel_rfl
noncomputable def r8wake (e : EnvV) (f : FrV) : Option ((ResV × Unit) × (EnvV × FrV × Unit)) :=
 (r1class f.b e.c.levels e.c.classes).bind fun r1 =>
 if e.c.classes = e.c.classes then
  if f.j = f.j then
   (r2draw (wi (r1.1.1 + f.j)) e.c.classes).bind fun r2 =>
   if f.line = 1 then
    (r6sleepers e.c r2.1.1).bind fun r3 =>
    (r2acc e.m 1 r3.1.1 0 0).bind fun r4 =>
    if r4.1.1 ≠ 0 then
     (r1low r4.1.1).bind fun r5 =>
     some (((⟨false, 0, 0⟩ : ResV), ()), (({ e with m := r4.2.1 } : EnvV), ({ f with line := 2, n := r5.1.1 } : FrV), ()))
    else
    if e.c.classes ≤ (wi (f.j + 1)) then
     some (((⟨true, 2, 0⟩ : ResV), ()), (({ e with m := r4.2.1 } : EnvV), ({ f with j := wi (f.j + 1) } : FrV), ()))
    else
    some (((⟨false, 0, 0⟩ : ResV), ()), (({ e with m := r4.2.1 } : EnvV), ({ f with j := wi (f.j + 1) } : FrV), ()))
   else
   if f.line = 2 then
    (r6sleepers e.c r2.1.1).bind fun r6 =>
    if f.n = f.n then
     (r1mask f.n).bind fun r7 =>
     (r2acc e.m 5 r6.1.1 (cplU r7.1.1) 0).bind fun r8 =>
     (r1bit r8.1.1 f.n).bind fun r9 =>
     if (!r9.1.1) = true then
      some (((⟨true, 4, 0⟩ : ResV), ()), (({ e with m := r8.2.1 } : EnvV), f, ()))
     else
     some (((⟨false, 0, 0⟩ : ResV), ()), (({ e with m := r8.2.1 } : EnvV), ({ f with line := 3 } : FrV), ()))
    else none
   else
   (r6epoch e.c f.n).bind fun r10 =>
   (r2acc e.m 6 r10.1.1 1 0).bind fun r11 =>
   (r8env_emit ({ e with m := r11.2.1 } : EnvV) 18 f.a 0 f.n 0).bind fun r12 =>
   some (((⟨true, 1, f.n⟩ : ResV), ()), (r12.2.1, f, ()))
  else none
 else none
noncomputable abbrev r8wake_k : Con SR1 := ⟨135, [.ref 12, .ref 8], [.val 10], fun x => r8wake x.1 x.2.1⟩
noncomputable def r8wake_tb : List (Nat × Func) := [(125, Tryz.f125), (123, Tryz.f123), (162, Tryz.f162), (165, Tryz.f165)]
theorem r8wake_ok : CO Tryz.prog r8wake_k := co_fn mixed Tryz.func135 [r1class_k, r2draw_k, r6sleepers_k, r2acc_k, r1low_k, r1mask_k, r1bit_k, r6epoch_k, r8env_emit_k] ⟨r1class_ok, r2draw_ok, r6sleepers_ok, r2acc_ok, r1low_ok, r1mask_ok, r1bit_ok, r6epoch_ok, r8env_emit_ok, trivial⟩ r8wake_tb ⟨Tryz.func125, Tryz.func123, Tryz.func162, Tryz.func165, trivial⟩ (fun _ => []) [] fun x => by kernel_rfl
noncomputable def r8probe (e : EnvV) (f : FrV) : Option ((ResV × Unit) × (EnvV × FrV × Unit)) :=
 if f.line = 1 then
  (r2draw e.draw e.c.workers).bind fun r1 =>
  (lpF (σ := Int × Int × Unit) (β := Int × Int × Unit) (fun self4 x2 =>
   if x2.2.1 < e.c.workers then
    if x2.2.1 ≠ f.a then
     self4 (wi (x2.1 + 1), wi (x2.2.1 + 1), ())
    else
    self4 (x2.1, wi (x2.2.1 + 1), ())
   else
   some (x2.1, x2.2.1, ())
  ) 18446744073709551616 (0, 0, ())).bind fun z3 =>
  if z3.1 = 0 then
   some (((⟨true, 2, 0⟩ : ResV), ()), (e, ({ f with line := 2, j := (-1), n := (-1), t := r1.1.1 } : FrV), ()))
  else
  if e.c.workers ≠ 0 then
   if (Int.tmod (wi (r1.1.1 + f.i)) e.c.workers) = f.a then
    if e.c.workers ≠ 0 then
     (r6bitmap e.c (Int.tmod (wi (r1.1.1 + (wi (f.i + 1)))) e.c.workers)).bind fun r5 =>
     (r2acc e.m 1 r5.1.1 0 0).bind fun r6 =>
     (r1high r6.1.1).bind fun r7 =>
     if (-1) < r7.1.1 then
      (lpF (σ := Bool × Int × Unit) (β := Bool × Int × Unit) (fun self10 x8 =>
       if x8.2.1 < e.c.workers then
        if x8.1 = true then
         self10 (true, wi (x8.2.1 + 1), ())
        else
        if e.c.workers ≠ 0 then
         self10 (decide ((Int.tmod (wi (r1.1.1 + x8.2.1)) e.c.workers) ≠ f.a), wi (x8.2.1 + 1), ())
        else none
       else
       some (x8.1, x8.2.1, ())
      ) 18446744073709551616 (false, wi ((wi (f.i + 1)) + 1), ())).bind fun z9 =>
      if z9.1 = true then
       some (((⟨false, 0, 0⟩ : ResV), ()), (({ e with m := r6.2.1 } : EnvV), ({ f with line := 2, i := wi ((wi (f.i + 1)) + 1), j := (Int.tmod (wi (r1.1.1 + (wi (f.i + 1)))) e.c.workers), n := r7.1.1, t := r1.1.1 } : FrV), ()))
      else
      if (Int.tmod (wi (r1.1.1 + (wi (f.i + 1)))) e.c.workers) < 0 then
       some (((⟨true, 2, 0⟩ : ResV), ()), (({ e with m := r6.2.1 } : EnvV), ({ f with line := 2, i := wi ((wi (f.i + 1)) + 1), j := (Int.tmod (wi (r1.1.1 + (wi (f.i + 1)))) e.c.workers), n := r7.1.1, t := r1.1.1 } : FrV), ()))
      else
      some (((⟨true, 1, wi ((wi ((Int.tmod (wi (r1.1.1 + (wi (f.i + 1)))) e.c.workers) * 64)) + r7.1.1)⟩ : ResV), ()), (({ e with m := r6.2.1 } : EnvV), ({ f with line := 2, i := wi ((wi (f.i + 1)) + 1), j := (Int.tmod (wi (r1.1.1 + (wi (f.i + 1)))) e.c.workers), n := r7.1.1, t := r1.1.1 } : FrV), ()))
     else
     (lpF (σ := Bool × Int × Unit) (β := Bool × Int × Unit) (fun self13 x11 =>
      if x11.2.1 < e.c.workers then
       if x11.1 = true then
        self13 (true, wi (x11.2.1 + 1), ())
       else
       if e.c.workers ≠ 0 then
        self13 (decide ((Int.tmod (wi (r1.1.1 + x11.2.1)) e.c.workers) ≠ f.a), wi (x11.2.1 + 1), ())
       else none
      else
      some (x11.1, x11.2.1, ())
     ) 18446744073709551616 (false, wi ((wi (f.i + 1)) + 1), ())).bind fun z12 =>
     if z12.1 = true then
      some (((⟨false, 0, 0⟩ : ResV), ()), (({ e with m := r6.2.1 } : EnvV), ({ f with line := 2, i := wi ((wi (f.i + 1)) + 1), j := (-1), n := (-1), t := r1.1.1 } : FrV), ()))
     else
     some (((⟨true, 2, 0⟩ : ResV), ()), (({ e with m := r6.2.1 } : EnvV), ({ f with line := 2, i := wi ((wi (f.i + 1)) + 1), j := (-1), n := (-1), t := r1.1.1 } : FrV), ()))
    else none
   else
   (r6bitmap e.c (Int.tmod (wi (r1.1.1 + f.i)) e.c.workers)).bind fun r14 =>
   (r2acc e.m 1 r14.1.1 0 0).bind fun r15 =>
   (r1high r15.1.1).bind fun r16 =>
   if (-1) < r16.1.1 then
    (lpF (σ := Bool × Int × Unit) (β := Bool × Int × Unit) (fun self19 x17 =>
     if x17.2.1 < e.c.workers then
      if x17.1 = true then
       self19 (true, wi (x17.2.1 + 1), ())
      else
      if e.c.workers ≠ 0 then
       self19 (decide ((Int.tmod (wi (r1.1.1 + x17.2.1)) e.c.workers) ≠ f.a), wi (x17.2.1 + 1), ())
      else none
     else
     some (x17.1, x17.2.1, ())
    ) 18446744073709551616 (false, wi (f.i + 1), ())).bind fun z18 =>
    if z18.1 = true then
     some (((⟨false, 0, 0⟩ : ResV), ()), (({ e with m := r15.2.1 } : EnvV), ({ f with line := 2, i := wi (f.i + 1), j := (Int.tmod (wi (r1.1.1 + f.i)) e.c.workers), n := r16.1.1, t := r1.1.1 } : FrV), ()))
    else
    if (Int.tmod (wi (r1.1.1 + f.i)) e.c.workers) < 0 then
     some (((⟨true, 2, 0⟩ : ResV), ()), (({ e with m := r15.2.1 } : EnvV), ({ f with line := 2, i := wi (f.i + 1), j := (Int.tmod (wi (r1.1.1 + f.i)) e.c.workers), n := r16.1.1, t := r1.1.1 } : FrV), ()))
    else
    some (((⟨true, 1, wi ((wi ((Int.tmod (wi (r1.1.1 + f.i)) e.c.workers) * 64)) + r16.1.1)⟩ : ResV), ()), (({ e with m := r15.2.1 } : EnvV), ({ f with line := 2, i := wi (f.i + 1), j := (Int.tmod (wi (r1.1.1 + f.i)) e.c.workers), n := r16.1.1, t := r1.1.1 } : FrV), ()))
   else
   (lpF (σ := Bool × Int × Unit) (β := Bool × Int × Unit) (fun self22 x20 =>
    if x20.2.1 < e.c.workers then
     if x20.1 = true then
      self22 (true, wi (x20.2.1 + 1), ())
     else
     if e.c.workers ≠ 0 then
      self22 (decide ((Int.tmod (wi (r1.1.1 + x20.2.1)) e.c.workers) ≠ f.a), wi (x20.2.1 + 1), ())
     else none
    else
    some (x20.1, x20.2.1, ())
   ) 18446744073709551616 (false, wi (f.i + 1), ())).bind fun z21 =>
   if z21.1 = true then
    some (((⟨false, 0, 0⟩ : ResV), ()), (({ e with m := r15.2.1 } : EnvV), ({ f with line := 2, i := wi (f.i + 1), j := (-1), n := (-1), t := r1.1.1 } : FrV), ()))
   else
   some (((⟨true, 2, 0⟩ : ResV), ()), (({ e with m := r15.2.1 } : EnvV), ({ f with line := 2, i := wi (f.i + 1), j := (-1), n := (-1), t := r1.1.1 } : FrV), ()))
  else none
 else
 (lpF (σ := Int × Int × Unit) (β := Int × Int × Unit) (fun self25 x23 =>
  if x23.2.1 < e.c.workers then
   if x23.2.1 ≠ f.a then
    self25 (wi (x23.1 + 1), wi (x23.2.1 + 1), ())
   else
   self25 (x23.1, wi (x23.2.1 + 1), ())
  else
  some (x23.1, x23.2.1, ())
 ) 18446744073709551616 (0, 0, ())).bind fun z24 =>
 if z24.1 = 0 then
  some (((⟨true, 2, 0⟩ : ResV), ()), (e, f, ()))
 else
 if e.c.workers ≠ 0 then
  if (Int.tmod (wi (f.t + f.i)) e.c.workers) = f.a then
   if e.c.workers ≠ 0 then
    (r6bitmap e.c (Int.tmod (wi (f.t + (wi (f.i + 1)))) e.c.workers)).bind fun r26 =>
    (r2acc e.m 1 r26.1.1 0 0).bind fun r27 =>
    (r1high r27.1.1).bind fun r28 =>
    if f.n < r28.1.1 then
     (lpF (σ := Bool × Int × Unit) (β := Bool × Int × Unit) (fun self31 x29 =>
      if x29.2.1 < e.c.workers then
       if x29.1 = true then
        self31 (true, wi (x29.2.1 + 1), ())
       else
       if e.c.workers ≠ 0 then
        self31 (decide ((Int.tmod (wi (f.t + x29.2.1)) e.c.workers) ≠ f.a), wi (x29.2.1 + 1), ())
       else none
      else
      some (x29.1, x29.2.1, ())
     ) 18446744073709551616 (false, wi ((wi (f.i + 1)) + 1), ())).bind fun z30 =>
     if z30.1 = true then
      some (((⟨false, 0, 0⟩ : ResV), ()), (({ e with m := r27.2.1 } : EnvV), ({ f with i := wi ((wi (f.i + 1)) + 1), j := (Int.tmod (wi (f.t + (wi (f.i + 1)))) e.c.workers), n := r28.1.1 } : FrV), ()))
     else
     if (Int.tmod (wi (f.t + (wi (f.i + 1)))) e.c.workers) < 0 then
      some (((⟨true, 2, 0⟩ : ResV), ()), (({ e with m := r27.2.1 } : EnvV), ({ f with i := wi ((wi (f.i + 1)) + 1), j := (Int.tmod (wi (f.t + (wi (f.i + 1)))) e.c.workers), n := r28.1.1 } : FrV), ()))
     else
     some (((⟨true, 1, wi ((wi ((Int.tmod (wi (f.t + (wi (f.i + 1)))) e.c.workers) * 64)) + r28.1.1)⟩ : ResV), ()), (({ e with m := r27.2.1 } : EnvV), ({ f with i := wi ((wi (f.i + 1)) + 1), j := (Int.tmod (wi (f.t + (wi (f.i + 1)))) e.c.workers), n := r28.1.1 } : FrV), ()))
    else
    (lpF (σ := Bool × Int × Unit) (β := Bool × Int × Unit) (fun self34 x32 =>
     if x32.2.1 < e.c.workers then
      if x32.1 = true then
       self34 (true, wi (x32.2.1 + 1), ())
      else
      if e.c.workers ≠ 0 then
       self34 (decide ((Int.tmod (wi (f.t + x32.2.1)) e.c.workers) ≠ f.a), wi (x32.2.1 + 1), ())
      else none
     else
     some (x32.1, x32.2.1, ())
    ) 18446744073709551616 (false, wi ((wi (f.i + 1)) + 1), ())).bind fun z33 =>
    if z33.1 = true then
     some (((⟨false, 0, 0⟩ : ResV), ()), (({ e with m := r27.2.1 } : EnvV), ({ f with i := wi ((wi (f.i + 1)) + 1) } : FrV), ()))
    else
    if f.j < 0 then
     some (((⟨true, 2, 0⟩ : ResV), ()), (({ e with m := r27.2.1 } : EnvV), ({ f with i := wi ((wi (f.i + 1)) + 1) } : FrV), ()))
    else
    some (((⟨true, 1, wi ((wi (f.j * 64)) + f.n)⟩ : ResV), ()), (({ e with m := r27.2.1 } : EnvV), ({ f with i := wi ((wi (f.i + 1)) + 1) } : FrV), ()))
   else none
  else
  (r6bitmap e.c (Int.tmod (wi (f.t + f.i)) e.c.workers)).bind fun r35 =>
  (r2acc e.m 1 r35.1.1 0 0).bind fun r36 =>
  (r1high r36.1.1).bind fun r37 =>
  if f.n < r37.1.1 then
   (lpF (σ := Bool × Int × Unit) (β := Bool × Int × Unit) (fun self40 x38 =>
    if x38.2.1 < e.c.workers then
     if x38.1 = true then
      self40 (true, wi (x38.2.1 + 1), ())
     else
     if e.c.workers ≠ 0 then
      self40 (decide ((Int.tmod (wi (f.t + x38.2.1)) e.c.workers) ≠ f.a), wi (x38.2.1 + 1), ())
     else none
    else
    some (x38.1, x38.2.1, ())
   ) 18446744073709551616 (false, wi (f.i + 1), ())).bind fun z39 =>
   if z39.1 = true then
    some (((⟨false, 0, 0⟩ : ResV), ()), (({ e with m := r36.2.1 } : EnvV), ({ f with i := wi (f.i + 1), j := (Int.tmod (wi (f.t + f.i)) e.c.workers), n := r37.1.1 } : FrV), ()))
   else
   if (Int.tmod (wi (f.t + f.i)) e.c.workers) < 0 then
    some (((⟨true, 2, 0⟩ : ResV), ()), (({ e with m := r36.2.1 } : EnvV), ({ f with i := wi (f.i + 1), j := (Int.tmod (wi (f.t + f.i)) e.c.workers), n := r37.1.1 } : FrV), ()))
   else
   some (((⟨true, 1, wi ((wi ((Int.tmod (wi (f.t + f.i)) e.c.workers) * 64)) + r37.1.1)⟩ : ResV), ()), (({ e with m := r36.2.1 } : EnvV), ({ f with i := wi (f.i + 1), j := (Int.tmod (wi (f.t + f.i)) e.c.workers), n := r37.1.1 } : FrV), ()))
  else
  (lpF (σ := Bool × Int × Unit) (β := Bool × Int × Unit) (fun self43 x41 =>
   if x41.2.1 < e.c.workers then
    if x41.1 = true then
     self43 (true, wi (x41.2.1 + 1), ())
    else
    if e.c.workers ≠ 0 then
     self43 (decide ((Int.tmod (wi (f.t + x41.2.1)) e.c.workers) ≠ f.a), wi (x41.2.1 + 1), ())
    else none
   else
   some (x41.1, x41.2.1, ())
  ) 18446744073709551616 (false, wi (f.i + 1), ())).bind fun z42 =>
  if z42.1 = true then
   some (((⟨false, 0, 0⟩ : ResV), ()), (({ e with m := r36.2.1 } : EnvV), ({ f with i := wi (f.i + 1) } : FrV), ()))
  else
  if f.j < 0 then
   some (((⟨true, 2, 0⟩ : ResV), ()), (({ e with m := r36.2.1 } : EnvV), ({ f with i := wi (f.i + 1) } : FrV), ()))
  else
  some (((⟨true, 1, wi ((wi (f.j * 64)) + f.n)⟩ : ResV), ()), (({ e with m := r36.2.1 } : EnvV), ({ f with i := wi (f.i + 1) } : FrV), ()))
 else none
noncomputable abbrev r8probe_k : Con SR1 := ⟨136, [.ref 12, .ref 8], [.val 10], fun x => r8probe x.1 x.2.1⟩
noncomputable def r8probe_tb : List (Nat × Func) := [(123, Tryz.f123), (125, Tryz.f125)]
theorem r8probe_ok : CO Tryz.prog r8probe_k := co_fn mixed Tryz.func136 [r2draw_k, r6bitmap_k, r2acc_k, r1high_k] ⟨r2draw_ok, r6bitmap_ok, r2acc_ok, r1high_ok, trivial⟩ r8probe_tb ⟨Tryz.func123, Tryz.func125, trivial⟩ (fun _ => []) [(5, .loop [.rg 5 sI_, .rg 6 sI_] 18446744073709551616 0), (21, .loop [.rg 9 .b, .rg 10 sI_] 18446744073709551616 2)] fun x => by kernel_rfl
noncomputable def r8drain (e : EnvV) (f : FrV) : Option ((ResV × Unit) × (EnvV × FrV × Unit)) :=
 if f.line = 1 then
  (r2acc e.m 1 2 0 0).bind fun r1 =>
  if (wi (r1.1.1)) ≤ 0 then
   some (((⟨true, 2, 0⟩ : ResV), ()), (({ e with m := r1.2.1 } : EnvV), f, ()))
  else
  some (((⟨false, 0, 0⟩ : ResV), ()), (({ e with m := r1.2.1 } : EnvV), ({ f with line := 2 } : FrV), ()))
 else
 (r6level e.c f.n).bind fun r2 =>
 (r2acc e.m 1 r2.1.1 0 0).bind fun r3 =>
 some (((⟨false, 0, 0⟩ : ResV), ()), (({ e with m := r3.2.1 } : EnvV), ({ f with line := 5, t := wi (r3.1.1) } : FrV), ()))
noncomputable abbrev r8drain_k : Con SR1 := ⟨137, [.ref 12, .ref 8], [.val 10], fun x => r8drain x.1 x.2.1⟩
noncomputable def r8drain_tb : List (Nat × Func) := [(125, Tryz.f125), (123, Tryz.f123)]
theorem r8drain_ok : CO Tryz.prog r8drain_k := co_fn mixed Tryz.func137 [r2acc_k, r6level_k] ⟨r2acc_ok, r6level_ok, trivial⟩ r8drain_tb ⟨Tryz.func125, Tryz.func123, trivial⟩ (fun _ => []) [] fun x => by kernel_rfl
noncomputable def r8leave (f : FrV) : Option ((ResV × Unit) × (FrV × Unit)) :=
 if 0 ≤ wi (((f.l.length : Nat) : Int) - 1) ∧ wi (((f.l.length : Nat) : Int) - 1) ≤ ((f.l.length : Nat) : Int) then
  if (((f.l.take (wi (((f.l.length : Nat) : Int) - 1) : Int).toNat).length : Nat) : Int) = 0 then
   some (((⟨true, 0, 0⟩ : ResV), ()), (({ f with line := 1, l := f.l.take (wi (((f.l.length : Nat) : Int) - 1) : Int).toNat } : FrV), ()))
  else
  some (((⟨false, 0, 0⟩ : ResV), ()), (({ f with line := 1, l := f.l.take (wi (((f.l.length : Nat) : Int) - 1) : Int).toNat } : FrV), ()))
 else none
noncomputable abbrev r8leave_k : Con SR1 := ⟨180, [.ref 8], [.val 10], fun x => r8leave x.1⟩
noncomputable def r8leave_tb : List (Nat × Func) := [(123, Tryz.f123)]
theorem r8leave_ok : CO Tryz.prog r8leave_k := co_fn mixed Tryz.func180 [] trivial r8leave_tb ⟨Tryz.func123, trivial⟩ (fun _ => []) [] fun x => by kernel_rfl
noncomputable def r8finish (e : EnvV) (f : FrV) (a : Int) : Option ((ResV × Unit) × (EnvV × FrV × Unit)) :=
 if f.line = 17 then
  (r6state e.c a).bind fun r1 =>
  (r2acc e.m 2 r1.1.1 4 0).bind fun r2 =>
  some (((⟨false, 0, 0⟩ : ResV), ()), (({ e with m := r2.2.1 } : EnvV), ({ f with line := 18 } : FrV), ()))
 else
 if f.line = 18 then
  (r6join e.c a).bind fun r3 =>
  (r2acc e.m 3 r3.1.1 0 4294967296).bind fun r4 =>
  (r8env_emit ({ e with m := r4.2.1 } : EnvV) 10 f.a a 0 0).bind fun r5 =>
  if r4.1.2.1 = true then
   (r8leave f).bind fun r6 =>
   some ((r6.1.1, ()), (r5.2.1, r6.2.1, ()))
  else
  some (((⟨false, 0, 0⟩ : ResV), ()), (r5.2.1, ({ f with line := 19 } : FrV), ()))
 else
 (r6join e.c a).bind fun r7 =>
 (r2acc e.m 1 r7.1.1 0 0).bind fun r8 =>
 if 0 ≤ (wi (wu (r8.1.1 - 1))) then
  if (wi (wu (r8.1.1 - 1))) < e.c.tasks then
   if ¬ ((wi (wu (r8.1.1 - 1))) < ((e.recs.length : Nat) : Int)) then
    (r8leave ({ f with n := wi (wu (r8.1.1 - 1)) } : FrV)).bind fun r9 =>
    some ((r9.1.1, ()), (({ e with m := r8.2.1 } : EnvV), r9.2.1, ()))
   else
   some (((⟨false, 0, 0⟩ : ResV), ()), (({ e with m := r8.2.1 } : EnvV), ({ f with line := 20, n := wi (wu (r8.1.1 - 1)) } : FrV), ()))
  else
  (r8leave ({ f with n := wi (wu (r8.1.1 - 1)) } : FrV)).bind fun r10 =>
  some ((r10.1.1, ()), (({ e with m := r8.2.1 } : EnvV), r10.2.1, ()))
 else
 (r8leave ({ f with n := wi (wu (r8.1.1 - 1)) } : FrV)).bind fun r11 =>
 some ((r11.1.1, ()), (({ e with m := r8.2.1 } : EnvV), r11.2.1, ()))
noncomputable abbrev r8finish_k : Con SR1 := ⟨179, [.ref 12, .ref 8, .sh sI_], [.val 10], fun x => r8finish x.1 x.2.1 x.2.2.1⟩
noncomputable def r8finish_tb : List (Nat × Func) := [(128, Tryz.f128), (127, Tryz.f127), (125, Tryz.f125), (113, Tryz.f113)]
theorem r8finish_ok : CO Tryz.prog r8finish_k := co_fn mixed Tryz.func179 [r6state_k, r2acc_k, r6join_k, r8env_emit_k, r8leave_k] ⟨r6state_ok, r2acc_ok, r6join_ok, r8env_emit_ok, r8leave_ok, trivial⟩ r8finish_tb ⟨Tryz.func128, Tryz.func127, Tryz.func125, Tryz.func113, trivial⟩ (fun _ => []) [] fun x => by kernel_rfl
noncomputable def r8run (e : EnvV) (f : FrV) : Option ((ResV × Unit) × (EnvV × FrV × Unit)) :=
 if 0 ≤ wi (((f.l.length : Nat) : Int) - 1) ∧ wi (((f.l.length : Nat) : Int) - 1) < ((f.l.length : Nat) : Int) then
  if f.line = 23 then
   some (((⟨true, 4, 0⟩ : ResV), ()), (e, f, ()))
  else
  if 0 ≤ atK1 f.l (wi (((f.l.length : Nat) : Int) - 1)) ∧ atK1 f.l (wi (((f.l.length : Nat) : Int) - 1)) < ((e.recs.length : Nat) : Int) then
   if f.line = 2 then
    (r6waits e.c (atK1 f.l (wi (((f.l.length : Nat) : Int) - 1)))).bind fun r1 =>
    (r2acc e.m 2 r1.1.1 0 0).bind fun r2 =>
    some (((⟨false, 0, 0⟩ : ResV), ()), (({ e with m := r2.2.1, recs := e.recs.set (atK1 f.l (wi (((f.l.length : Nat) : Int) - 1))).toNat ({ atK7 e.recs (atK1 f.l (wi (((f.l.length : Nat) : Int) - 1))) with waiting := (-1) } : RecV) } : EnvV), ({ f with line := 1 } : FrV), ()))
   else
   if f.line = 3 then
    if ((atK7 e.recs (atK1 f.l (wi (((f.l.length : Nat) : Int) - 1)))).left) = 0 then
     if 0 ≤ atK1 f.l (wi (((f.l.length : Nat) : Int) - 1)) ∧ atK1 f.l (wi (((f.l.length : Nat) : Int) - 1)) < ((e.recs.length : Nat) : Int) then
      if ((atK7 e.recs (atK1 f.l (wi (((f.l.length : Nat) : Int) - 1)))).prog) < 0 then
       if ((atK7 e.recs (atK1 f.l (wi (((f.l.length : Nat) : Int) - 1)))).pc) = ((atK7 e.recs (atK1 f.l (wi (((f.l.length : Nat) : Int) - 1)))).pc) then
        none
       else none
      else
      if ((e.c.progs.length : Nat) : Int) ≤ ((atK7 e.recs (atK1 f.l (wi (((f.l.length : Nat) : Int) - 1)))).prog) then
       if ((atK7 e.recs (atK1 f.l (wi (((f.l.length : Nat) : Int) - 1)))).pc) = ((atK7 e.recs (atK1 f.l (wi (((f.l.length : Nat) : Int) - 1)))).pc) then
        none
       else none
      else
      if 0 ≤ (atK7 e.recs (atK1 f.l (wi (((f.l.length : Nat) : Int) - 1)))).prog ∧ (atK7 e.recs (atK1 f.l (wi (((f.l.length : Nat) : Int) - 1)))).prog < ((e.c.progs.length : Nat) : Int) then
       if ((atK7 e.recs (atK1 f.l (wi (((f.l.length : Nat) : Int) - 1)))).pc) = ((atK7 e.recs (atK1 f.l (wi (((f.l.length : Nat) : Int) - 1)))).pc) then
        if 0 ≤ (atK7 e.recs (atK1 f.l (wi (((f.l.length : Nat) : Int) - 1)))).pc ∧ (atK7 e.recs (atK1 f.l (wi (((f.l.length : Nat) : Int) - 1)))).pc < (((atL [] e.c.progs ((atK7 e.recs (atK1 f.l (wi (((f.l.length : Nat) : Int) - 1)))).prog)).length : Nat) : Int) then
         if ((atK7 ((e.recs.set (atK1 f.l (wi (((f.l.length : Nat) : Int) - 1))).toNat ({ atK7 e.recs (atK1 f.l (wi (((f.l.length : Nat) : Int) - 1))) with left := (atK3 (atL [] e.c.progs ((atK7 e.recs (atK1 f.l (wi (((f.l.length : Nat) : Int) - 1)))).prog)) ((atK7 e.recs (atK1 f.l (wi (((f.l.length : Nat) : Int) - 1)))).pc)).a } : RecV)).set (atK1 f.l (wi (((f.l.length : Nat) : Int) - 1))).toNat ({ atK7 (e.recs.set (atK1 f.l (wi (((f.l.length : Nat) : Int) - 1))).toNat ({ atK7 e.recs (atK1 f.l (wi (((f.l.length : Nat) : Int) - 1))) with left := (atK3 (atL [] e.c.progs ((atK7 e.recs (atK1 f.l (wi (((f.l.length : Nat) : Int) - 1)))).prog)) ((atK7 e.recs (atK1 f.l (wi (((f.l.length : Nat) : Int) - 1)))).pc)).a } : RecV)) (atK1 f.l (wi (((f.l.length : Nat) : Int) - 1))) with left := wi (((atK7 (e.recs.set (atK1 f.l (wi (((f.l.length : Nat) : Int) - 1))).toNat ({ atK7 e.recs (atK1 f.l (wi (((f.l.length : Nat) : Int) - 1))) with left := (atK3 (atL [] e.c.progs ((atK7 e.recs (atK1 f.l (wi (((f.l.length : Nat) : Int) - 1)))).prog)) ((atK7 e.recs (atK1 f.l (wi (((f.l.length : Nat) : Int) - 1)))).pc)).a } : RecV)) (atK1 f.l (wi (((f.l.length : Nat) : Int) - 1)))).left) - 1) } : RecV)) (atK1 f.l (wi (((f.l.length : Nat) : Int) - 1)))).left) = 0 then
          some (((⟨false, 0, 0⟩ : ResV), ()), (({ e with recs := ((e.recs.set (atK1 f.l (wi (((f.l.length : Nat) : Int) - 1))).toNat ({ atK7 e.recs (atK1 f.l (wi (((f.l.length : Nat) : Int) - 1))) with left := (atK3 (atL [] e.c.progs ((atK7 e.recs (atK1 f.l (wi (((f.l.length : Nat) : Int) - 1)))).prog)) ((atK7 e.recs (atK1 f.l (wi (((f.l.length : Nat) : Int) - 1)))).pc)).a } : RecV)).set (atK1 f.l (wi (((f.l.length : Nat) : Int) - 1))).toNat ({ atK7 (e.recs.set (atK1 f.l (wi (((f.l.length : Nat) : Int) - 1))).toNat ({ atK7 e.recs (atK1 f.l (wi (((f.l.length : Nat) : Int) - 1))) with left := (atK3 (atL [] e.c.progs ((atK7 e.recs (atK1 f.l (wi (((f.l.length : Nat) : Int) - 1)))).prog)) ((atK7 e.recs (atK1 f.l (wi (((f.l.length : Nat) : Int) - 1)))).pc)).a } : RecV)) (atK1 f.l (wi (((f.l.length : Nat) : Int) - 1))) with left := wi (((atK7 (e.recs.set (atK1 f.l (wi (((f.l.length : Nat) : Int) - 1))).toNat ({ atK7 e.recs (atK1 f.l (wi (((f.l.length : Nat) : Int) - 1))) with left := (atK3 (atL [] e.c.progs ((atK7 e.recs (atK1 f.l (wi (((f.l.length : Nat) : Int) - 1)))).prog)) ((atK7 e.recs (atK1 f.l (wi (((f.l.length : Nat) : Int) - 1)))).pc)).a } : RecV)) (atK1 f.l (wi (((f.l.length : Nat) : Int) - 1)))).left) - 1) } : RecV)).set (atK1 f.l (wi (((f.l.length : Nat) : Int) - 1))).toNat ({ atK7 ((e.recs.set (atK1 f.l (wi (((f.l.length : Nat) : Int) - 1))).toNat ({ atK7 e.recs (atK1 f.l (wi (((f.l.length : Nat) : Int) - 1))) with left := (atK3 (atL [] e.c.progs ((atK7 e.recs (atK1 f.l (wi (((f.l.length : Nat) : Int) - 1)))).prog)) ((atK7 e.recs (atK1 f.l (wi (((f.l.length : Nat) : Int) - 1)))).pc)).a } : RecV)).set (atK1 f.l (wi (((f.l.length : Nat) : Int) - 1))).toNat ({ atK7 (e.recs.set (atK1 f.l (wi (((f.l.length : Nat) : Int) - 1))).toNat ({ atK7 e.recs (atK1 f.l (wi (((f.l.length : Nat) : Int) - 1))) with left := (atK3 (atL [] e.c.progs ((atK7 e.recs (atK1 f.l (wi (((f.l.length : Nat) : Int) - 1)))).prog)) ((atK7 e.recs (atK1 f.l (wi (((f.l.length : Nat) : Int) - 1)))).pc)).a } : RecV)) (atK1 f.l (wi (((f.l.length : Nat) : Int) - 1))) with left := wi (((atK7 (e.recs.set (atK1 f.l (wi (((f.l.length : Nat) : Int) - 1))).toNat ({ atK7 e.recs (atK1 f.l (wi (((f.l.length : Nat) : Int) - 1))) with left := (atK3 (atL [] e.c.progs ((atK7 e.recs (atK1 f.l (wi (((f.l.length : Nat) : Int) - 1)))).prog)) ((atK7 e.recs (atK1 f.l (wi (((f.l.length : Nat) : Int) - 1)))).pc)).a } : RecV)) (atK1 f.l (wi (((f.l.length : Nat) : Int) - 1)))).left) - 1) } : RecV)) (atK1 f.l (wi (((f.l.length : Nat) : Int) - 1))) with pc := wi (((atK7 ((e.recs.set (atK1 f.l (wi (((f.l.length : Nat) : Int) - 1))).toNat ({ atK7 e.recs (atK1 f.l (wi (((f.l.length : Nat) : Int) - 1))) with left := (atK3 (atL [] e.c.progs ((atK7 e.recs (atK1 f.l (wi (((f.l.length : Nat) : Int) - 1)))).prog)) ((atK7 e.recs (atK1 f.l (wi (((f.l.length : Nat) : Int) - 1)))).pc)).a } : RecV)).set (atK1 f.l (wi (((f.l.length : Nat) : Int) - 1))).toNat ({ atK7 (e.recs.set (atK1 f.l (wi (((f.l.length : Nat) : Int) - 1))).toNat ({ atK7 e.recs (atK1 f.l (wi (((f.l.length : Nat) : Int) - 1))) with left := (atK3 (atL [] e.c.progs ((atK7 e.recs (atK1 f.l (wi (((f.l.length : Nat) : Int) - 1)))).prog)) ((atK7 e.recs (atK1 f.l (wi (((f.l.length : Nat) : Int) - 1)))).pc)).a } : RecV)) (atK1 f.l (wi (((f.l.length : Nat) : Int) - 1))) with left := wi (((atK7 (e.recs.set (atK1 f.l (wi (((f.l.length : Nat) : Int) - 1))).toNat ({ atK7 e.recs (atK1 f.l (wi (((f.l.length : Nat) : Int) - 1))) with left := (atK3 (atL [] e.c.progs ((atK7 e.recs (atK1 f.l (wi (((f.l.length : Nat) : Int) - 1)))).prog)) ((atK7 e.recs (atK1 f.l (wi (((f.l.length : Nat) : Int) - 1)))).pc)).a } : RecV)) (atK1 f.l (wi (((f.l.length : Nat) : Int) - 1)))).left) - 1) } : RecV)) (atK1 f.l (wi (((f.l.length : Nat) : Int) - 1)))).pc) + 1) } : RecV) } : EnvV), ({ f with line := 1 } : FrV), ()))
         else
         some (((⟨false, 0, 0⟩ : ResV), ()), (({ e with recs := (e.recs.set (atK1 f.l (wi (((f.l.length : Nat) : Int) - 1))).toNat ({ atK7 e.recs (atK1 f.l (wi (((f.l.length : Nat) : Int) - 1))) with left := (atK3 (atL [] e.c.progs ((atK7 e.recs (atK1 f.l (wi (((f.l.length : Nat) : Int) - 1)))).prog)) ((atK7 e.recs (atK1 f.l (wi (((f.l.length : Nat) : Int) - 1)))).pc)).a } : RecV)).set (atK1 f.l (wi (((f.l.length : Nat) : Int) - 1))).toNat ({ atK7 (e.recs.set (atK1 f.l (wi (((f.l.length : Nat) : Int) - 1))).toNat ({ atK7 e.recs (atK1 f.l (wi (((f.l.length : Nat) : Int) - 1))) with left := (atK3 (atL [] e.c.progs ((atK7 e.recs (atK1 f.l (wi (((f.l.length : Nat) : Int) - 1)))).prog)) ((atK7 e.recs (atK1 f.l (wi (((f.l.length : Nat) : Int) - 1)))).pc)).a } : RecV)) (atK1 f.l (wi (((f.l.length : Nat) : Int) - 1))) with left := wi (((atK7 (e.recs.set (atK1 f.l (wi (((f.l.length : Nat) : Int) - 1))).toNat ({ atK7 e.recs (atK1 f.l (wi (((f.l.length : Nat) : Int) - 1))) with left := (atK3 (atL [] e.c.progs ((atK7 e.recs (atK1 f.l (wi (((f.l.length : Nat) : Int) - 1)))).prog)) ((atK7 e.recs (atK1 f.l (wi (((f.l.length : Nat) : Int) - 1)))).pc)).a } : RecV)) (atK1 f.l (wi (((f.l.length : Nat) : Int) - 1)))).left) - 1) } : RecV) } : EnvV), ({ f with line := 1 } : FrV), ()))
        else none
       else none
      else none
     else none
    else
    if ((atK7 (e.recs.set (atK1 f.l (wi (((f.l.length : Nat) : Int) - 1))).toNat ({ atK7 e.recs (atK1 f.l (wi (((f.l.length : Nat) : Int) - 1))) with left := wi (((atK7 e.recs (atK1 f.l (wi (((f.l.length : Nat) : Int) - 1)))).left) - 1) } : RecV)) (atK1 f.l (wi (((f.l.length : Nat) : Int) - 1)))).left) = 0 then
     some (((⟨false, 0, 0⟩ : ResV), ()), (({ e with recs := (e.recs.set (atK1 f.l (wi (((f.l.length : Nat) : Int) - 1))).toNat ({ atK7 e.recs (atK1 f.l (wi (((f.l.length : Nat) : Int) - 1))) with left := wi (((atK7 e.recs (atK1 f.l (wi (((f.l.length : Nat) : Int) - 1)))).left) - 1) } : RecV)).set (atK1 f.l (wi (((f.l.length : Nat) : Int) - 1))).toNat ({ atK7 (e.recs.set (atK1 f.l (wi (((f.l.length : Nat) : Int) - 1))).toNat ({ atK7 e.recs (atK1 f.l (wi (((f.l.length : Nat) : Int) - 1))) with left := wi (((atK7 e.recs (atK1 f.l (wi (((f.l.length : Nat) : Int) - 1)))).left) - 1) } : RecV)) (atK1 f.l (wi (((f.l.length : Nat) : Int) - 1))) with pc := wi (((atK7 (e.recs.set (atK1 f.l (wi (((f.l.length : Nat) : Int) - 1))).toNat ({ atK7 e.recs (atK1 f.l (wi (((f.l.length : Nat) : Int) - 1))) with left := wi (((atK7 e.recs (atK1 f.l (wi (((f.l.length : Nat) : Int) - 1)))).left) - 1) } : RecV)) (atK1 f.l (wi (((f.l.length : Nat) : Int) - 1)))).pc) + 1) } : RecV) } : EnvV), ({ f with line := 1 } : FrV), ()))
    else
    some (((⟨false, 0, 0⟩ : ResV), ()), (({ e with recs := e.recs.set (atK1 f.l (wi (((f.l.length : Nat) : Int) - 1))).toNat ({ atK7 e.recs (atK1 f.l (wi (((f.l.length : Nat) : Int) - 1))) with left := wi (((atK7 e.recs (atK1 f.l (wi (((f.l.length : Nat) : Int) - 1)))).left) - 1) } : RecV) } : EnvV), ({ f with line := 1 } : FrV), ()))
   else
   if f.line = 4 then
    some (((⟨false, 0, 0⟩ : ResV), ()), (({ e with recs := e.recs.set (atK1 f.l (wi (((f.l.length : Nat) : Int) - 1))).toNat ({ atK7 e.recs (atK1 f.l (wi (((f.l.length : Nat) : Int) - 1))) with pc := wi (((atK7 e.recs (atK1 f.l (wi (((f.l.length : Nat) : Int) - 1)))).pc) + 1) } : RecV) } : EnvV), ({ f with line := 1 } : FrV), ()))
   else
   if f.line = 10 then
    (r6waits e.c (atK1 f.l (wi (((f.l.length : Nat) : Int) - 1)))).bind fun r3 =>
    if f.j = f.j then
     (r2acc e.m 2 r3.1.1 (wu (wi (f.j + 1))) 0).bind fun r4 =>
     some (((⟨false, 0, 0⟩ : ResV), ()), (({ e with m := r4.2.1, recs := (e.recs.set (atK1 f.l (wi (((f.l.length : Nat) : Int) - 1))).toNat ({ atK7 e.recs (atK1 f.l (wi (((f.l.length : Nat) : Int) - 1))) with pc := wi (((atK7 e.recs (atK1 f.l (wi (((f.l.length : Nat) : Int) - 1)))).pc) + 1) } : RecV)).set (atK1 f.l (wi (((f.l.length : Nat) : Int) - 1))).toNat ({ atK7 (e.recs.set (atK1 f.l (wi (((f.l.length : Nat) : Int) - 1))).toNat ({ atK7 e.recs (atK1 f.l (wi (((f.l.length : Nat) : Int) - 1))) with pc := wi (((atK7 e.recs (atK1 f.l (wi (((f.l.length : Nat) : Int) - 1)))).pc) + 1) } : RecV)) (atK1 f.l (wi (((f.l.length : Nat) : Int) - 1))) with waiting := f.j } : RecV) } : EnvV), ({ f with line := 11 } : FrV), ()))
    else none
   else
   if f.line = 11 then
    (r6state e.c (atK1 f.l (wi (((f.l.length : Nat) : Int) - 1)))).bind fun r5 =>
    (r2acc e.m 2 r5.1.1 3 0).bind fun r6 =>
    some (((⟨false, 0, 0⟩ : ResV), ()), (({ e with m := r6.2.1 } : EnvV), ({ f with line := 12 } : FrV), ()))
   else
   if f.line = 12 then
    (r6join e.c f.j).bind fun r7 =>
    (r2acc e.m 3 r7.1.1 0 (wu (wi ((atK1 f.l (wi (((f.l.length : Nat) : Int) - 1))) + 1)))).bind fun r8 =>
    if r8.1.2.1 = true then
     (r8env_emit ({ e with m := r8.2.1 } : EnvV) 6 f.a (atK1 f.l (wi (((f.l.length : Nat) : Int) - 1))) f.j 0).bind fun r9 =>
     some (((⟨false, 0, 0⟩ : ResV), ()), (r9.2.1, ({ f with line := 13 } : FrV), ()))
    else
    some (((⟨false, 0, 0⟩ : ResV), ()), (({ e with m := r8.2.1 } : EnvV), ({ f with line := 15 } : FrV), ()))
   else
   if f.line = 13 then
    (r6level e.c (atK1 f.l (wi (((f.l.length : Nat) : Int) - 1)))).bind fun r10 =>
    (r2acc e.m 1 r10.1.1 0 0).bind fun r11 =>
    some (((⟨false, 0, 0⟩ : ResV), ()), (({ e with m := r11.2.1 } : EnvV), ({ f with line := 14, t := wi (r11.1.1) } : FrV), ()))
   else
   if f.line = 15 then
    (r6state e.c (atK1 f.l (wi (((f.l.length : Nat) : Int) - 1)))).bind fun r12 =>
    (r2acc e.m 2 r12.1.1 2 0).bind fun r13 =>
    some (((⟨false, 0, 0⟩ : ResV), ()), (({ e with m := r13.2.1 } : EnvV), ({ f with line := 16 } : FrV), ()))
   else
   if f.line = 16 then
    (r6waits e.c (atK1 f.l (wi (((f.l.length : Nat) : Int) - 1)))).bind fun r14 =>
    (r2acc e.m 2 r14.1.1 0 0).bind fun r15 =>
    (r8env_emit ({ e with m := r15.2.1, recs := e.recs.set (atK1 f.l (wi (((f.l.length : Nat) : Int) - 1))).toNat ({ atK7 e.recs (atK1 f.l (wi (((f.l.length : Nat) : Int) - 1))) with waiting := (-1) } : RecV) } : EnvV) 8 f.a (atK1 f.l (wi (((f.l.length : Nat) : Int) - 1))) f.j 0).bind fun r16 =>
    some (((⟨false, 0, 0⟩ : ResV), ()), (r16.2.1, ({ f with line := 1 } : FrV), ()))
   else
   (r8finish e f (atK1 f.l (wi (((f.l.length : Nat) : Int) - 1)))).bind fun r17 =>
   some ((r17.1.1, ()), (r17.2.1, r17.2.2.1, ()))
  else none
 else none
noncomputable abbrev r8run_k : Con SR1 := ⟨138, [.ref 12, .ref 8], [.val 10], fun x => r8run x.1 x.2.1⟩
noncomputable def r8run_tb : List (Nat × Func) := [(176, Tryz.f176), (123, Tryz.f123), (128, Tryz.f128), (177, Tryz.f177), (127, Tryz.f127), (125, Tryz.f125)]
theorem r8run_ok : CO Tryz.prog r8run_k := co_fn mixed Tryz.func138 [r6waits_k, r2acc_k, r6state_k, r6join_k, r8env_emit_k, r6level_k, r8finish_k] ⟨r6waits_ok, r2acc_ok, r6state_ok, r6join_ok, r8env_emit_ok, r6level_ok, r8finish_ok, trivial⟩ r8run_tb ⟨Tryz.func176, Tryz.func123, Tryz.func128, Tryz.func177, Tryz.func127, Tryz.func125, trivial⟩ (fun _ => []) [] fun x => by kernel_rfl
end Go.Proofs.YtpbkelpokpglaaaGreat
