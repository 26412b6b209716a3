/- The reference: machines. The reference: the engine. Scripts and configurations. -/
import Derived.Test.YtpbkelpokpglaaaGreatQp
set_option linter.all false
namespace Go.Proofs.YtpbkelpokpglaaaGreat
section
open Go Go.RowKit
set_option maxRecDepth 100000
noncomputable def r8backworker (e : EnvV) (f : FrV) (a : Int) (b : Int) : Option ((Unit) × (EnvV × FrV × Unit)) :=
 if f.line = 1 then
  if (if 1 < e.c.tasks then e.c.tasks else 1) ≠ 0 then
   some ((()), (e, ({ f with line := 2, j := (Int.tmod (wi (f.j + 1)) (if 1 < e.c.tasks then e.c.tasks else 1)) } : FrV), ()))
  else none
 else
 if f.line = 2 then
  if a = 1 then
   some ((()), (e, ({ f with line := 7, n := b } : FrV), ()))
  else
  some ((()), (e, ({ f with line := 3, n := b } : FrV), ()))
 else
 if f.line = 3 then
  if a = 1 then
   some ((()), (e, ({ f with line := 6, n := b } : FrV), ()))
  else
  if a = 0 then
   some ((()), (e, ({ f with line := 2, n := b } : FrV), ()))
  else
  if e.c.workers = 1 then
   some ((()), (e, ({ f with line := 8, n := b } : FrV), ()))
  else
  some ((()), (e, ({ f with line := 4, n := b } : FrV), ()))
 else
 if f.line = 4 then
  if a = 1 then
   some ((()), (e, ({ f with line := 5, d := (Int.tmod b 64), i := wi (Int.tdiv b 64) } : FrV), ()))
  else
  some ((()), (e, ({ f with line := 8, d := (Int.tmod b 64), i := wi (Int.tdiv b 64) } : FrV), ()))
 else
 if f.line = 5 then
  if a = 1 then
   (r8env_emit e 14 f.a b f.i f.d).bind fun r1 =>
   some ((()), (r1.2.1, ({ f with line := 6, n := b } : FrV), ()))
  else
  if a = 2 then
   some ((()), (e, ({ f with line := 9, n := b } : FrV), ()))
  else
  some ((()), (e, ({ f with line := 1, n := b } : FrV), ()))
 else
 if f.line = 6 then
  if a = 1 then
   some ((()), (e, ({ f with line := 7 } : FrV), ()))
  else
  some ((()), (e, ({ f with line := 1 } : FrV), ()))
 else
 some ((()), (e, ({ f with line := 1 } : FrV), ()))
noncomputable abbrev r8backworker_k : Con SR1 := ⟨145, [.ref 12, .ref 8, .sh sI_, .sh sI_], [], fun x => r8backworker x.1 x.2.1 x.2.2.1 x.2.2.2.1⟩
theorem r8backworker_ok : CO Tryz.prog r8backworker_k := co_fn mixed Tryz.func145 [r8env_emit_k] ⟨r8env_emit_ok, trivial⟩ [] trivial (fun _ => []) [] fun x => by kernel_rfl
noncomputable def r8following (e : EnvV) (f : FrV) : Option ((ResV × Unit) × (EnvV × FrV × Unit)) :=
 if ((e.c.subs.length : Nat) : Int) ≤ (wi (f.i + 1)) then
  some (((⟨true, 0, 0⟩ : ResV), ()), (e, ({ f with line := 1, b := 0, i := wi (f.i + 1) } : FrV), ()))
 else
 some (((⟨false, 0, 0⟩ : ResV), ()), (e, ({ f with line := 1, b := 0, i := wi (f.i + 1) } : FrV), ()))
noncomputable abbrev r8following_k : Con SR1 := ⟨181, [.ref 12, .ref 8], [.val 10], fun x => r8following x.1 x.2.1⟩
noncomputable def r8following_tb : List (Nat × Func) := [(123, Tryz.f123)]
theorem r8following_ok : CO Tryz.prog r8following_k := co_fn mixed Tryz.func181 [] trivial r8following_tb ⟨Tryz.func123, trivial⟩ (fun _ => []) [] fun x => by kernel_rfl
noncomputable def r8backclient (e : EnvV) (f : FrV) (a : Int) (b : Int) : Option ((ResV × Unit) × (EnvV × FrV × Unit)) :=
 if 0 ≤ f.i ∧ f.i < ((e.c.subs.length : Nat) : Int) then
  if ((atK4 e.c.subs f.i).prog) = ((atK4 e.c.subs f.i).prog) then
   if ((atK4 e.c.subs f.i).level) = ((atK4 e.c.subs f.i).level) then
    if ((atK4 e.c.subs f.i).deadline) = ((atK4 e.c.subs f.i).deadline) then
     if f.i = f.i then
      if f.line = 1 then
       some (((⟨false, 0, 0⟩ : ResV), ()), (e, ({ f with line := 2 } : FrV), ()))
      else
      if f.line = 3 then
       if a = 3 then
        (r8env_emit e 2 e.c.workers 0 f.i 2).bind fun r1 =>
        some (((⟨false, 0, 0⟩ : ResV), ()), (r1.2.1, ({ f with line := 8 } : FrV), ()))
       else
       (r8fresh ((atK4 e.c.subs f.i).prog) (-1)).bind fun r2 =>
       if 0 ≤ b ∧ b < ((e.recs.length : Nat) : Int) then
        some (((⟨false, 0, 0⟩ : ResV), ()), (({ e with recs := e.recs.set b.toNat r2.1.1 } : EnvV), ({ f with line := 4, n := b } : FrV), ()))
       else none
      else
      if f.line = 6 then
       if a = 0 then
        (r8env_emit e 1 e.c.workers f.n f.i ((atK4 e.c.subs f.i).level)).bind fun r3 =>
        some (((⟨false, 0, 0⟩ : ResV), ()), (r3.2.1, ({ f with line := 7, b := 1 } : FrV), ()))
       else
       some (((⟨false, 0, 0⟩ : ResV), ()), (e, ({ f with line := 8 } : FrV), ()))
      else
      if f.line = 8 then
       if f.b = 1 then
        some (((⟨false, 0, 0⟩ : ResV), ()), (e, ({ f with line := 9 } : FrV), ()))
       else
       (r8following e f).bind fun r4 =>
       some ((r4.1.1, ()), (r4.2.1, r4.2.2.1, ()))
      else
      (r8following e f).bind fun r5 =>
      some ((r5.1.1, ()), (r5.2.1, r5.2.2.1, ()))
     else none
    else none
   else none
  else none
 else none
noncomputable abbrev r8backclient_k : Con SR1 := ⟨146, [.ref 12, .ref 8, .sh sI_, .sh sI_], [.val 10], fun x => r8backclient x.1 x.2.1 x.2.2.1 x.2.2.2.1⟩
theorem r8backclient_ok : CO Tryz.prog r8backclient_k := co_fn mixed Tryz.func146 [r8env_emit_k, r8fresh_k, r8following_k] ⟨r8env_emit_ok, r8fresh_ok, r8following_ok, trivial⟩ [] trivial (fun _ => []) [] fun x => by kernel_rfl
noncomputable def r8back (e : EnvV) (f : FrV) (a : Int) (b : Int) : Option ((ResV × Unit) × (EnvV × FrV × Unit)) :=
 if f.kind = 5 then
  if f.line = 2 then
   some (((⟨true, a, 0⟩ : ResV), ()), (e, f, ()))
  else
  if a = 3 then
   some (((⟨true, a, 0⟩ : ResV), ()), (e, f, ()))
  else
  some (((⟨false, 0, 0⟩ : ResV), ()), (e, ({ f with line := 2 } : FrV), ()))
 else
 if f.kind = 6 then
  if f.line = 3 then
   some (((⟨false, 0, 0⟩ : ResV), ()), (e, ({ f with line := 1 } : FrV), ()))
  else
  if a = 1 then
   some (((⟨true, 1, b⟩ : ResV), ()), (e, f, ()))
  else
  some (((⟨false, 0, 0⟩ : ResV), ()), (e, ({ f with line := 3 } : FrV), ()))
 else
 if f.kind = 15 then
  some (((⟨true, a, f.t⟩ : ResV), ()), (e, f, ()))
 else
 if f.kind = 17 then
  (r8backwalk e f a).bind fun r1 =>
  some ((r1.1.1, ()), (r1.2.1, r1.2.2.1, ()))
 else
 if f.kind = 18 then
  if a = 3 then
   (r8env_emit e 19 f.a f.b 0 f.t).bind fun r2 =>
   some (((⟨true, 1, 0⟩ : ResV), ()), (r2.2.1, f, ()))
  else
  some (((⟨true, 1, 0⟩ : ResV), ()), (e, f, ()))
 else
 if f.kind = 22 then
  (r8backdrain e f a b).bind fun r3 =>
  some ((r3.1.1, ()), (r3.2.1, r3.2.2.1, ()))
 else
 if f.kind = 23 then
  (r8backtake f a b).bind fun r4 =>
  some ((r4.1.1, ()), (e, r4.2.1, ()))
 else
 if f.kind = 24 then
  (r8backrun e f a b).bind fun r5 =>
  some ((r5.1.1, ()), (r5.2.1, r5.2.2.1, ()))
 else
 if f.kind = 25 then
  (r8backworker e f a b).bind fun r6 =>
  some (((⟨false, 0, 0⟩ : ResV), ()), (r6.2.1, r6.2.2.1, ()))
 else
 if f.kind = 26 then
  (r8backclient e f a b).bind fun r7 =>
  some ((r7.1.1, ()), (r7.2.1, r7.2.2.1, ()))
 else
 some (((⟨false, 0, 0⟩ : ResV), ()), (e, f, ()))
noncomputable abbrev r8back_k : Con SR1 := ⟨88, [.ref 12, .ref 8, .sh sI_, .sh sI_], [.val 10], fun x => r8back x.1 x.2.1 x.2.2.1 x.2.2.2.1⟩
noncomputable def r8back_tb : List (Nat × Func) := [(123, Tryz.f123)]
theorem r8back_ok : CO Tryz.prog r8back_k := co_fn mixed Tryz.func88 [r8backwalk_k, r8env_emit_k, r8backdrain_k, r8backtake_k, r8backrun_k, r8backworker_k, r8backclient_k] ⟨r8backwalk_ok, r8env_emit_ok, r8backdrain_ok, r8backtake_ok, r8backrun_ok, r8backworker_ok, r8backclient_ok, trivial⟩ r8back_tb ⟨Tryz.func123, trivial⟩ (fun _ => []) [] fun x => by kernel_rfl
noncomputable def r8machine_step (m : MaV) (e : EnvV) : Option ((Bool × Unit) × (MaV × EnvV × Unit)) :=
 if m.over = true then
  some ((true, ()), (m, e, ()))
 else
 (lpF (σ := MaV × EnvV × Unit) (β := MaV × EnvV × Unit) (fun self3 x1 =>
  if 0 ≤ wi (((x1.1.f.length : Nat) : Int) - 1) ∧ wi (((x1.1.f.length : Nat) : Int) - 1) < ((x1.1.f.length : Nat) : Int) then
   agr (
    (r8enter x1.2.1 (atK8 x1.1.f (wi (((x1.1.f.length : Nat) : Int) - 1)))).bind fun r5 =>
    if (!r5.1.2.1) = true then
     some (({ x1.1 with f := x1.1.f.set (wi (((x1.1.f.length : Nat) : Int) - 1)).toNat r5.2.2.1 } : MaV), r5.2.1, ())
    else
    if ((((x1.1.f.set (wi (((x1.1.f.length : Nat) : Int) - 1)).toNat r5.2.2.1).length + ([({ r5.1.1 with line := 1 } : FrV)] : List FrV).length : Nat)) : Int) < 100000000000 then
     self3 (({ x1.1 with f := (x1.1.f.set (wi (((x1.1.f.length : Nat) : Int) - 1)).toNat r5.2.2.1) ++ ([({ r5.1.1 with line := 1 } : FrV)]) } : MaV), r5.2.1, ())
    else none
   ) (
    (r8enter x1.2.1 (atK8 x1.1.f (wi (((x1.1.f.length : Nat) : Int) - 1)))).bind fun r4 =>
    if (!r4.1.2.1) = true then
     some (({ x1.1 with f := x1.1.f.set (wi (((x1.1.f.length : Nat) : Int) - 1)).toNat r4.2.2.1 } : MaV), r4.2.1, ())
    else
    if ((((x1.1.f.set (wi (((x1.1.f.length : Nat) : Int) - 1)).toNat r4.2.2.1).length + ([({ r4.1.1 with line := 1 } : FrV)] : List FrV).length : Nat)) : Int) < 100000000000 then
     self3 (({ x1.1 with f := (x1.1.f.set (wi (((x1.1.f.length : Nat) : Int) - 1)).toNat r4.2.2.1) ++ ([({ r4.1.1 with line := 1 } : FrV)]) } : MaV), r4.2.1, ())
    else none
   )
  else none
 ) 18446744073709551616 (m, e, ())).bind fun z2 =>
 if 0 ≤ wi (((z2.1.f.length : Nat) : Int) - 1) ∧ wi (((z2.1.f.length : Nat) : Int) - 1) < ((z2.1.f.length : Nat) : Int) then
  agr (
   (r8leaf z2.2.1 (atK8 z2.1.f (wi (((z2.1.f.length : Nat) : Int) - 1)))).bind fun r12 =>
   (lpF (σ := ResV × MaV × EnvV × Unit) (β := (ResV × MaV × EnvV × Unit) ⊕ ((Bool × Unit) × (MaV × EnvV × Unit))) (fun self15 x13 =>
    if x13.1.done = true then
     if 0 ≤ wi (((x13.2.1.f.length : Nat) : Int) - 1) ∧ wi (((x13.2.1.f.length : Nat) : Int) - 1) ≤ ((x13.2.1.f.length : Nat) : Int) then
      if (((x13.2.1.f.take (wi (((x13.2.1.f.length : Nat) : Int) - 1) : Int).toNat).length : Nat) : Int) = 0 then
       if x13.1.value = x13.1.value then
        if x13.1.code = x13.1.code then
         if x13.1.value = x13.1.value then
          Option.map Sum.inr (
           some ((true, ()), (({ x13.1 with f := x13.2.1.f.take (wi (((x13.2.1.f.length : Nat) : Int) - 1) : Int).toNat, over := true } : MaV), x13.2.2.1, ()))
          )
         else none
        else none
       else none
      else
      if 0 ≤ wi ((((x13.2.1.f.take (wi (((x13.2.1.f.length : Nat) : Int) - 1) : Int).toNat).length : Nat) : Int) - 1) ∧ wi ((((x13.2.1.f.take (wi (((x13.2.1.f.length : Nat) : Int) - 1) : Int).toNat).length : Nat) : Int) - 1) < (((x13.2.1.f.take (wi (((x13.2.1.f.length : Nat) : Int) - 1) : Int).toNat).length : Nat) : Int) then
       (r8back x13.2.2.1 (atK8 (x13.2.1.f.take (wi (((x13.2.1.f.length : Nat) : Int) - 1) : Int).toNat) (wi ((((x13.2.1.f.take (wi (((x13.2.1.f.length : Nat) : Int) - 1) : Int).toNat).length : Nat) : Int) - 1))) x13.1.code x13.1.value).bind fun r16 =>
       self15 (r16.1.1, ({ x13.2.1 with f := (x13.2.1.f.take (wi (((x13.2.1.f.length : Nat) : Int) - 1) : Int).toNat).set (wi ((((x13.2.1.f.take (wi (((x13.2.1.f.length : Nat) : Int) - 1) : Int).toNat).length : Nat) : Int) - 1)).toNat r16.2.2.1 } : MaV), r16.2.1, ())
      else none
     else none
    else
    some (Sum.inl (x13.1, x13.2.1, x13.2.2.1, ()))
   ) 18446744073709551616 (r12.1.1, ({ z2.1 with f := z2.1.f.set (wi (((z2.1.f.length : Nat) : Int) - 1)).toNat r12.2.2.1 } : MaV), r12.2.1, ())).bind fun z14 => match z14 with
   | .inr o17 => some o17
   | .inl z14 =>
   some ((false, ()), (z14.2.1, z14.2.2.1, ()))
  ) (
   (r8leaf z2.2.1 (atK8 z2.1.f (wi (((z2.1.f.length : Nat) : Int) - 1)))).bind fun r6 =>
   (lpF (σ := ResV × MaV × EnvV × Unit) (β := (ResV × MaV × EnvV × Unit) ⊕ ((Bool × Unit) × (MaV × EnvV × Unit))) (fun self9 x7 =>
    if x7.1.done = true then
     if 0 ≤ wi (((x7.2.1.f.length : Nat) : Int) - 1) ∧ wi (((x7.2.1.f.length : Nat) : Int) - 1) ≤ ((x7.2.1.f.length : Nat) : Int) then
      if (((x7.2.1.f.take (wi (((x7.2.1.f.length : Nat) : Int) - 1) : Int).toNat).length : Nat) : Int) = 0 then
       if x7.1.value = x7.1.value then
        if x7.1.code = x7.1.code then
         if x7.1.value = x7.1.value then
          Option.map Sum.inr (
           some ((true, ()), (({ x7.1 with f := x7.2.1.f.take (wi (((x7.2.1.f.length : Nat) : Int) - 1) : Int).toNat, over := true } : MaV), x7.2.2.1, ()))
          )
         else none
        else none
       else none
      else
      if 0 ≤ wi ((((x7.2.1.f.take (wi (((x7.2.1.f.length : Nat) : Int) - 1) : Int).toNat).length : Nat) : Int) - 1) ∧ wi ((((x7.2.1.f.take (wi (((x7.2.1.f.length : Nat) : Int) - 1) : Int).toNat).length : Nat) : Int) - 1) < (((x7.2.1.f.take (wi (((x7.2.1.f.length : Nat) : Int) - 1) : Int).toNat).length : Nat) : Int) then
       (r8back x7.2.2.1 (atK8 (x7.2.1.f.take (wi (((x7.2.1.f.length : Nat) : Int) - 1) : Int).toNat) (wi ((((x7.2.1.f.take (wi (((x7.2.1.f.length : Nat) : Int) - 1) : Int).toNat).length : Nat) : Int) - 1))) x7.1.code x7.1.value).bind fun r10 =>
       self9 (r10.1.1, ({ x7.2.1 with f := (x7.2.1.f.take (wi (((x7.2.1.f.length : Nat) : Int) - 1) : Int).toNat).set (wi ((((x7.2.1.f.take (wi (((x7.2.1.f.length : Nat) : Int) - 1) : Int).toNat).length : Nat) : Int) - 1)).toNat r10.2.2.1 } : MaV), r10.2.1, ())
      else none
     else none
    else
    some (Sum.inl (x7.1, x7.2.1, x7.2.2.1, ()))
   ) 18446744073709551616 (r6.1.1, ({ z2.1 with f := z2.1.f.set (wi (((z2.1.f.length : Nat) : Int) - 1)).toNat r6.2.2.1 } : MaV), r6.2.1, ())).bind fun z8 => match z8 with
   | .inr o11 => some o11
   | .inl z8 =>
   some ((false, ()), (z8.2.1, z8.2.2.1, ()))
  )
 else none
noncomputable abbrev r8machine_step_k : Con SR1 := ⟨58, [.ref 11, .ref 12], [.sh .b], fun x => r8machine_step x.1 x.2.1⟩
theorem r8machine_step_ok : CO Tryz.prog r8machine_step_k := co_fn mixed Tryz.func58 [r8enter_k, r8leaf_k, r8back_k] ⟨r8enter_ok, r8leaf_ok, r8back_ok, trivial⟩ [] trivial (fun _ => []) [(3, .loop [.ob 0 11, .ob 1 12] 18446744073709551616 0), (8, .loopR [.rg 7 (.own 10), .ob 0 11, .ob 1 12] 18446744073709551616 2)] fun x => by kernel_rfl
end
section
open Go Go.RowKit
set_option maxRecDepth 100000
noncomputable def r28do (x : EngV) (v : EntV) : Option ((Unit) × (EngV × Unit)) :=
 if v.kind = 0 then
  (r2draw v.value ((x.m.length : Nat) : Int)).bind fun r1 =>
  if 0 ≤ r1.1.1 ∧ r1.1.1 < ((x.m.length : Nat) : Int) then
   (r8machine_step (atK15 x.m r1.1.1) x.e).bind fun r2 =>
   if x.e.m.count < r2.2.2.1.m.count then
    (lpF (σ := EngV × Unit) (β := EngV × Unit) (fun self5 x3 =>
     if ((x3.1.stamps.length : Nat) : Int) < ((x3.1.e.evs.length : Nat) : Int) then
      if (((x3.1.stamps.length + ([x3.1.n] : List Int).length : Nat)) : Int) < 1000000000000 then
       self5 (({ x3.1 with stamps := x3.1.stamps ++ ([x3.1.n]) } : EngV), ())
      else none
     else
     some (x3.1, ())
    ) 18446744073709551616 (({ x with e := r2.2.2.1, m := x.m.set r1.1.1.toNat r2.2.1, last := r2.2.2.1.m.last } : EngV), ())).bind fun z4 =>
    some ((()), (({ z4.1 with n := wi (z4.1.n + 1) } : EngV), ()))
   else
   (lpF (σ := EngV × Unit) (β := EngV × Unit) (fun self8 x6 =>
    if ((x6.1.stamps.length : Nat) : Int) < ((x6.1.e.evs.length : Nat) : Int) then
     if (((x6.1.stamps.length + ([x6.1.n] : List Int).length : Nat)) : Int) < 1000000000000 then
      self8 (({ x6.1 with stamps := x6.1.stamps ++ ([x6.1.n]) } : EngV), ())
     else none
    else
    some (x6.1, ())
   ) 18446744073709551616 (({ x with e := r2.2.2.1, m := x.m.set r1.1.1.toNat r2.2.1, last := ⟨0, 0, 0, 0⟩ } : EngV), ())).bind fun z7 =>
   some ((()), (({ z7.1 with n := wi (z7.1.n + 1) } : EngV), ()))
  else none
 else
 if v.kind = 1 then
  if x.e.m.count < x.e.m.count then
   (lpF (σ := EngV × Unit) (β := EngV × Unit) (fun self11 x9 =>
    if ((x9.1.stamps.length : Nat) : Int) < ((x9.1.e.evs.length : Nat) : Int) then
     if (((x9.1.stamps.length + ([x9.1.n] : List Int).length : Nat)) : Int) < 1000000000000 then
      self11 (({ x9.1 with stamps := x9.1.stamps ++ ([x9.1.n]) } : EngV), ())
     else none
    else
    some (x9.1, ())
   ) 18446744073709551616 (({ x with e := ({ x.e with now := wi (x.e.now + 1) } : EnvV), last := x.e.m.last } : EngV), ())).bind fun z10 =>
   some ((()), (({ z10.1 with n := wi (z10.1.n + 1) } : EngV), ()))
  else
  (lpF (σ := EngV × Unit) (β := EngV × Unit) (fun self14 x12 =>
   if ((x12.1.stamps.length : Nat) : Int) < ((x12.1.e.evs.length : Nat) : Int) then
    if (((x12.1.stamps.length + ([x12.1.n] : List Int).length : Nat)) : Int) < 1000000000000 then
     self14 (({ x12.1 with stamps := x12.1.stamps ++ ([x12.1.n]) } : EngV), ())
    else none
   else
   some (x12.1, ())
  ) 18446744073709551616 (({ x with e := ({ x.e with now := wi (x.e.now + 1) } : EnvV), last := ⟨0, 0, 0, 0⟩ } : EngV), ())).bind fun z13 =>
  some ((()), (({ z13.1 with n := wi (z13.1.n + 1) } : EngV), ()))
 else
 if v.kind = 2 then
  if x.e.m.count < x.e.m.count then
   (lpF (σ := EngV × Unit) (β := EngV × Unit) (fun self17 x15 =>
    if ((x15.1.stamps.length : Nat) : Int) < ((x15.1.e.evs.length : Nat) : Int) then
     if (((x15.1.stamps.length + ([x15.1.n] : List Int).length : Nat)) : Int) < 1000000000000 then
      self17 (({ x15.1 with stamps := x15.1.stamps ++ ([x15.1.n]) } : EngV), ())
     else none
    else
    some (x15.1, ())
   ) 18446744073709551616 (({ x with e := ({ x.e with draw := v.value } : EnvV), last := x.e.m.last } : EngV), ())).bind fun z16 =>
   some ((()), (({ z16.1 with n := wi (z16.1.n + 1) } : EngV), ()))
  else
  (lpF (σ := EngV × Unit) (β := EngV × Unit) (fun self20 x18 =>
   if ((x18.1.stamps.length : Nat) : Int) < ((x18.1.e.evs.length : Nat) : Int) then
    if (((x18.1.stamps.length + ([x18.1.n] : List Int).length : Nat)) : Int) < 1000000000000 then
     self20 (({ x18.1 with stamps := x18.1.stamps ++ ([x18.1.n]) } : EngV), ())
    else none
   else
   some (x18.1, ())
  ) 18446744073709551616 (({ x with e := ({ x.e with draw := v.value } : EnvV), last := ⟨0, 0, 0, 0⟩ } : EngV), ())).bind fun z19 =>
  some ((()), (({ z19.1 with n := wi (z19.1.n + 1) } : EngV), ()))
 else
 if x.e.m.count < x.e.m.count then
  (lpF (σ := EngV × Unit) (β := EngV × Unit) (fun self23 x21 =>
   if ((x21.1.stamps.length : Nat) : Int) < ((x21.1.e.evs.length : Nat) : Int) then
    if (((x21.1.stamps.length + ([x21.1.n] : List Int).length : Nat)) : Int) < 1000000000000 then
     self23 (({ x21.1 with stamps := x21.1.stamps ++ ([x21.1.n]) } : EngV), ())
    else none
   else
   some (x21.1, ())
  ) 18446744073709551616 (({ x with last := x.e.m.last } : EngV), ())).bind fun z22 =>
  some ((()), (({ z22.1 with n := wi (z22.1.n + 1) } : EngV), ()))
 else
 (lpF (σ := EngV × Unit) (β := EngV × Unit) (fun self26 x24 =>
  if ((x24.1.stamps.length : Nat) : Int) < ((x24.1.e.evs.length : Nat) : Int) then
   if (((x24.1.stamps.length + ([x24.1.n] : List Int).length : Nat)) : Int) < 1000000000000 then
    self26 (({ x24.1 with stamps := x24.1.stamps ++ ([x24.1.n]) } : EngV), ())
   else none
  else
  some (x24.1, ())
 ) 18446744073709551616 (({ x with last := ⟨0, 0, 0, 0⟩ } : EngV), ())).bind fun z25 =>
 some ((()), (({ z25.1 with n := wi (z25.1.n + 1) } : EngV), ()))
noncomputable abbrev r28do_k : Con SR1 := ⟨27, [.ref 16, .val 5], [], fun x => r28do x.1 x.2.1⟩
theorem r28do_ok : CO Tryz.prog r28do_k := co_fn mixed Tryz.func27 [r2draw_k, r8machine_step_k] ⟨r2draw_ok, r8machine_step_ok, trivial⟩ [] trivial (fun _ => []) [(12, .loop [.ob 0 16] 18446744073709551616 1)] fun x => by kernel_rfl
noncomputable def r28run (x : EngV) (l : List EntV) : Option ((Unit) × (EngV × Unit)) :=
 (lpF (σ := Int × EngV × Unit) (β := Int × EngV × Unit) (fun self3 x1 =>
  if x1.1 < ((l.length : Nat) : Int) then
   if 0 ≤ x1.1 ∧ x1.1 < ((l.length : Nat) : Int) then
    (r28do x1.2.1 (atK5 l x1.1)).bind fun r4 =>
    self3 (wi (x1.1 + 1), r4.2.1, ())
   else none
  else
  some (x1.1, x1.2.1, ())
 ) 18446744073709551616 (0, x, ())).bind fun z2 =>
 some ((()), (z2.2.1, ()))
noncomputable abbrev r28run_k : Con SR1 := ⟨10, [.ref 16, .sh (.ro 5)], [], fun x => r28run x.1 x.2.1⟩
theorem r28run_ok : CO Tryz.prog r28run_k := co_fn mixed Tryz.func10 [r28do_k] ⟨r28do_ok, trivial⟩ [] trivial (fun _ => []) [(1, .loop [.rg 4 sI_, .ob 0 16] 18446744073709551616 0)] fun x => by kernel_rfl
noncomputable def r28new (c : Cfg) : Option ((EngV × Unit) × (Unit)) :=
 (r8new c).bind fun r1 =>
 (lpF (σ := Int × EngV × Unit) (β := Int × EngV × Unit) (fun self4 x2 =>
  if x2.1 < c.workers then
   if c.tasks ≠ 0 then
    (r8make (⟨25, 0, ⟨0, 0, 0, 0⟩, x2.1, 0, 0, 0, (Int.tmod x2.1 c.tasks), 0, 0, 0, 0, 0, 0, []⟩ : FrV)).bind fun r5 =>
    if (((x2.2.1.m.length + ([r5.1.1] : List MaV).length : Nat)) : Int) < 100000000000 then
     self4 (wi (x2.1 + 1), ({ x2.2.1 with m := x2.2.1.m ++ ([r5.1.1]) } : EngV), ())
    else none
   else none
  else
  some (x2.1, x2.2.1, ())
 ) 18446744073709551616 (0, (⟨r1.1.1, [], 0, [], ⟨0, 0, 0, 0⟩⟩ : EngV), ())).bind fun z3 =>
 (r8make (⟨26, 0, ⟨0, 0, 0, 0⟩, 0, 0, 0, 0, 0, 0, 0, 0, 0, 0, 0, []⟩ : FrV)).bind fun r6 =>
 if (((z3.2.1.m.length + ([r6.1.1] : List MaV).length : Nat)) : Int) < 100000000000 then
  some ((({ z3.2.1 with m := z3.2.1.m ++ ([r6.1.1]) } : EngV), ()), (()))
 else none
noncomputable abbrev r28new_k : Con SR1 := ⟨9, [.val 13], [.sh (.own 16)], fun x => r28new x.1⟩
theorem r28new_ok : CO Tryz.prog r28new_k := co_fn mixed Tryz.func9 [r8new_k, r8make_k] ⟨r8new_ok, r8make_ok, trivial⟩ [] trivial (fun _ => []) [(3, .loop [.rg 4 sI_, .rg 3 (.own 16)] 18446744073709551616 0)] fun x => by kernel_rfl
end
section
open Go Go.RowKit
set_option maxRecDepth 100000
noncomputable def kpick (m : Int) : Option ((EntV × Unit) × (Unit)) :=
 some (((⟨0, m⟩ : EntV), ()), (()))
noncomputable abbrev kpick_k : Con SR1 := ⟨28, [.sh sI_], [.val 5], fun x => kpick x.1⟩
theorem kpick_ok : CO Tryz.prog kpick_k := co_fn mixed Tryz.func28 [] trivial [] trivial (fun _ => []) [] fun x => by kernel_rfl
noncomputable def knumber (l : List Int) (i : Int) (n : Int) : Option ((Int × Unit) × (Unit)) :=
 if ((l.length : Nat) : Int) = 0 then
  some ((0, ()), (()))
 else
 if ((l.length : Nat) : Int) ≠ 0 then
  if 0 ≤ (Int.tmod i ((l.length : Nat) : Int)) ∧ (Int.tmod i ((l.length : Nat) : Int)) < ((l.length : Nat) : Int) then
   if ((l.length : Nat) : Int) ≠ 0 then
    if (wi (1 + (Int.tmod (wi (Int.tdiv i ((l.length : Nat) : Int))) 7))) ≠ 0 then
     (r2draw (wi (Int.tdiv (atK1 l (Int.tmod i ((l.length : Nat) : Int))) (wi (1 + (Int.tmod (wi (Int.tdiv i ((l.length : Nat) : Int))) 7))))) n).bind fun r1 =>
     some ((r1.1.1, ()), (()))
    else none
   else none
  else none
 else none
noncomputable abbrev knumber_k : Con SR1 := ⟨17, [.sh (.ro 1), .sh sI_, .sh sI_], [.sh sI_], fun x => knumber x.1 x.2.1 x.2.2.1⟩
theorem knumber_ok : CO Tryz.prog knumber_k := co_fn mixed Tryz.func17 [r2draw_k] ⟨r2draw_ok, trivial⟩ [] trivial (fun _ => []) [] fun x => by kernel_rfl
noncomputable def kinsert (l : List EntV) (e : EntV) (at_ : Int) : Option ((List EntV × Unit) × (Unit)) :=
 if 0 ≤ at_ ∧ at_ ≤ ((l.length : Nat) : Int) then
  if (((([] : List EntV).length + (l.take (at_ : Int).toNat).length : Nat)) : Int) < 1000000000000 then
   if ((((([]) ++ (l.take (at_ : Int).toNat)).length + ([e] : List EntV).length : Nat)) : Int) < 1000000000000 then
    if 0 ≤ at_ ∧ at_ ≤ ((l.length : Nat) : Int) then
     if (((((([]) ++ (l.take (at_ : Int).toNat)) ++ ([e])).length + (l.drop (at_ : Int).toNat).length : Nat)) : Int) < 1000000000000 then
      some ((((([]) ++ (l.take (at_ : Int).toNat)) ++ ([e])) ++ (l.drop (at_ : Int).toNat), ()), (()))
     else none
    else none
   else none
  else none
 else none
noncomputable abbrev kinsert_k : Con SR1 := ⟨30, [.sh (.ro 5), .val 5, .sh sI_], [.sh (.row 5)], fun x => kinsert x.1 x.2.1 x.2.2.1⟩
theorem kinsert_ok : CO Tryz.prog kinsert_k := co_fn mixed Tryz.func30 [] trivial [] trivial (fun _ => []) [] fun x => by kernel_rfl
noncomputable def kround (raw : List Int) (at_ : Int) (n : Int) : Option ((List EntV × Unit) × (Unit)) :=
 (lpF (σ := List EntV × Int × Unit) (β := List EntV × Int × Unit) (fun self3 x1 =>
  if x1.2.1 < n then
   (kpick x1.2.1).bind fun r4 =>
   (knumber raw (wi (at_ + x1.2.1)) (wi (x1.2.1 + 1))).bind fun r5 =>
   (kinsert x1.1 r4.1.1 r5.1.1).bind fun r6 =>
   self3 (r6.1.1, wi (x1.2.1 + 1), ())
  else
  some (x1.1, x1.2.1, ())
 ) 18446744073709551616 ([], 0, ())).bind fun z2 =>
 (knumber raw (wi (at_ + n)) (wi (n + 1))).bind fun r7 =>
 (kinsert z2.1 (⟨1, 0⟩ : EntV) r7.1.1).bind fun r8 =>
 (knumber raw (wi ((wi (at_ + n)) + 1)) 3).bind fun r9 =>
 (lpF (σ := List EntV × Int × Unit) (β := List EntV × Int × Unit) (fun self12 x10 =>
  if 0 < x10.2.1 then
   (knumber raw (wi ((wi (at_ + n)) + x10.2.1)) n).bind fun r13 =>
   (kpick r13.1.1).bind fun r14 =>
   (knumber raw (wi (at_ + x10.2.1)) (wi (((x10.1.length : Nat) : Int) + 1))).bind fun r15 =>
   (kinsert x10.1 r14.1.1 r15.1.1).bind fun r16 =>
   self12 (r16.1.1, wi (x10.2.1 - 1), ())
  else
  some (x10.1, x10.2.1, ())
 ) 18446744073709551616 (r8.1.1, r9.1.1, ())).bind fun z11 =>
 some ((z11.1, ()), (()))
noncomputable abbrev kround_k : Con SR1 := ⟨13, [.sh (.ro 1), .sh sI_, .sh sI_], [.sh (.row 5)], fun x => kround x.1 x.2.1 x.2.2.1⟩
theorem kround_ok : CO Tryz.prog kround_k := co_fn mixed Tryz.func13 [kpick_k, knumber_k, kinsert_k] ⟨kpick_ok, knumber_ok, kinsert_ok, trivial⟩ [] trivial (fun _ => []) [(3, .loop [.rg 7 (.row 5), .rg 8 sI_] 18446744073709551616 0), (8, .loop [.rg 7 (.row 5), .rg 9 sI_] 18446744073709551616 2)] fun x => by kernel_rfl
noncomputable def koffers (c : Cfg) : Option ((List EntV × Unit) × (Unit)) :=
 (lpF (σ := List EntV × Int × Unit) (β := List EntV × Int × Unit) (fun self3 x1 =>
  if x1.2.1 < (wi (40 * ((c.subs.length : Nat) : Int))) then
   (kpick c.workers).bind fun r4 =>
   if (((x1.1.length + ([r4.1.1] : List EntV).length : Nat)) : Int) < 1000000000000 then
    self3 (x1.1 ++ ([r4.1.1]), wi (x1.2.1 + 1), ())
   else none
  else
  some (x1.1, x1.2.1, ())
 ) 18446744073709551616 ([], 0, ())).bind fun z2 =>
 some ((z2.1, ()), (()))
noncomputable abbrev koffers_k : Con SR1 := ⟨11, [.val 13], [.sh (.row 5)], fun x => koffers x.1⟩
theorem koffers_ok : CO Tryz.prog koffers_k := co_fn mixed Tryz.func11 [kpick_k] ⟨kpick_ok, trivial⟩ [] trivial (fun _ => []) [(3, .loop [.rg 3 (.row 5), .rg 4 sI_] 18446744073709551616 0)] fun x => by kernel_rfl
noncomputable def r4decode (b : List Int) : Option ((List EntV × Unit) × (Unit)) :=
 (lpF (σ := List EntV × Int × Unit) (β := List EntV × Int × Unit) (fun self3 x1 =>
  if (wi (x1.2.1 + 1)) < ((b.length : Nat) : Int) then
   if ((x1.1.length : Nat) : Int) < 65536 then
    if 0 ≤ x1.2.1 ∧ x1.2.1 < ((b.length : Nat) : Int) then
     if 0 ≤ wi (x1.2.1 + 1) ∧ wi (x1.2.1 + 1) < ((b.length : Nat) : Int) then
      if (atK17 b (wi (x1.2.1 + 1))) = (atK17 b (wi (x1.2.1 + 1))) then
       if (atK17 b x1.2.1) = (atK17 b x1.2.1) then
        if (Int.tmod (wi (atK17 b x1.2.1)) 4) = 1 then
         if (((x1.1.length + ([(⟨(Int.tmod (wi (atK17 b x1.2.1)) 4), 0⟩ : EntV)] : List EntV).length : Nat)) : Int) < 1000000000000 then
          self3 (x1.1 ++ ([(⟨(Int.tmod (wi (atK17 b x1.2.1)) 4), 0⟩ : EntV)]), wi (x1.2.1 + 2), ())
         else none
        else
        if (Int.tmod (wi (atK17 b x1.2.1)) 4) = 3 then
         if (((x1.1.length + ([(⟨(Int.tmod (wi (atK17 b x1.2.1)) 4), 0⟩ : EntV)] : List EntV).length : Nat)) : Int) < 1000000000000 then
          self3 (x1.1 ++ ([(⟨(Int.tmod (wi (atK17 b x1.2.1)) 4), 0⟩ : EntV)]), wi (x1.2.1 + 2), ())
         else none
        else
        if (((x1.1.length + ([(⟨(Int.tmod (wi (atK17 b x1.2.1)) 4), wi (atK17 b (wi (x1.2.1 + 1)))⟩ : EntV)] : List EntV).length : Nat)) : Int) < 1000000000000 then
         self3 (x1.1 ++ ([(⟨(Int.tmod (wi (atK17 b x1.2.1)) 4), wi (atK17 b (wi (x1.2.1 + 1)))⟩ : EntV)]), wi (x1.2.1 + 2), ())
        else none
       else none
      else none
     else none
    else none
   else
   some (x1.1, x1.2.1, ())
  else
  some (x1.1, x1.2.1, ())
 ) 18446744073709551616 ([], 0, ())).bind fun z2 =>
 some ((z2.1, ()), (()))
noncomputable abbrev r4decode_k : Con SR1 := ⟨29, [.sh (.ro 17)], [.sh (.row 5)], fun x => r4decode x.1⟩
theorem r4decode_ok : CO Tryz.prog r4decode_k := co_fn mixed Tryz.func29 [] trivial [] trivial (fun _ => []) [(3, .loop [.rg 3 (.row 5), .rg 4 sI_] 18446744073709551616 0)] fun x => by kernel_rfl
noncomputable def kscript (b : List Int) (n : Int) : Option ((List EntV × Unit) × (Unit)) :=
 (r4decode b).bind fun r1 =>
 if n < ((r1.1.1.length : Nat) : Int) then
  if 0 ≤ n ∧ n ≤ ((r1.1.1.length : Nat) : Int) then
   some ((r1.1.1.take (n : Int).toNat, ()), (()))
  else none
 else
 some ((r1.1.1, ()), (()))
noncomputable abbrev kscript_k : Con SR1 := ⟨12, [.sh (.ro 17), .sh sI_], [.sh (.row 5)], fun x => kscript x.1 x.2.1⟩
theorem kscript_ok : CO Tryz.prog kscript_k := co_fn mixed Tryz.func12 [r4decode_k] ⟨r4decode_ok, trivial⟩ [] trivial (fun _ => []) [] fun x => by kernel_rfl
noncomputable def r5number (r : CodV) (k : Int) : Option ((Int × Unit) × (CodV × Unit)) :=
 if r.at_ < ((r.inn.length : Nat) : Int) then
  if 0 ≤ r.at_ ∧ r.at_ < ((r.inn.length : Nat) : Int) then
   if k ≠ 0 then
    some (((Int.tmod (wi (atK17 r.inn r.at_)) k), ()), (({ r with at_ := wi (r.at_ + 1) } : CodV), ()))
   else none
  else none
 else
 some ((0, ()), (({ r with at_ := wi (r.at_ + 1) } : CodV), ()))
noncomputable abbrev r5number_k : Con SR1 := ⟨54, [.ref 19, .sh sI_], [.sh sI_], fun x => r5number x.1 x.2.1⟩
theorem r5number_ok : CO Tryz.prog r5number_k := co_fn mixed Tryz.func54 [] trivial [] trivial (fun _ => []) [] fun x => by kernel_rfl
noncomputable def r5decode (b : List Int) : Option ((Cfg × Unit) × (Unit)) :=
 (r5number (⟨b, [], 0, false⟩ : CodV) 4).bind fun r1 =>
 (r5number r1.2.1 4).bind fun r2 =>
 (r5number r2.2.1 (if wi (1 + r2.1.1) < 3 then wi (1 + r2.1.1) else 3)).bind fun r3 =>
 (r5number r3.2.1 12).bind fun r4 =>
 (r5number r4.2.1 4).bind fun r5 =>
 (r5number r5.2.1 4).bind fun r6 =>
 (r5number r6.2.1 (wi (1 + r5.1.1))).bind fun r7 =>
 (r5number r7.2.1 6).bind fun r8 =>
 (r5number r8.2.1 8).bind fun r9 =>
 (r5number r9.2.1 4).bind fun r10 =>
 (lpF (σ := Int × CodV × Cfg × Unit) (β := Int × CodV × Cfg × Unit) (fun self13 x11 =>
  if x11.1 < (wi (1 + r10.1.1)) then
   (r5number x11.2.1 6).bind fun r14 =>
   (lpF (σ := List Ins × Int × CodV × Unit) (β := List Ins × Int × CodV × Unit) (fun self17 x15 =>
    if 0 < x15.2.1 then
     (r5number x15.2.2.1 3).bind fun r18 =>
     if r18.1.1 = 0 then
      (r5number r18.2.1 4).bind fun r19 =>
      if (((x15.1.length + ([(⟨r18.1.1, wi (1 + r19.1.1), 0⟩ : Ins)] : List Ins).length : Nat)) : Int) < 1000000000000 then
       self17 (x15.1 ++ ([(⟨r18.1.1, wi (1 + r19.1.1), 0⟩ : Ins)]), wi (x15.2.1 - 1), r19.2.1, ())
      else none
     else
     if r18.1.1 = 1 then
      (r5number r18.2.1 (wi (1 + r10.1.1))).bind fun r20 =>
      (r5number r20.2.1 x11.2.2.1.levels).bind fun r21 =>
      if (((x15.1.length + ([(⟨r18.1.1, r20.1.1, r21.1.1⟩ : Ins)] : List Ins).length : Nat)) : Int) < 1000000000000 then
       self17 (x15.1 ++ ([(⟨r18.1.1, r20.1.1, r21.1.1⟩ : Ins)]), wi (x15.2.1 - 1), r21.2.1, ())
      else none
     else
     (r5number r18.2.1 4).bind fun r22 =>
     if (((x15.1.length + ([(⟨r18.1.1, r22.1.1, 0⟩ : Ins)] : List Ins).length : Nat)) : Int) < 1000000000000 then
      self17 (x15.1 ++ ([(⟨r18.1.1, r22.1.1, 0⟩ : Ins)]), wi (x15.2.1 - 1), r22.2.1, ())
     else none
    else
    some (x15.1, x15.2.1, x15.2.2.1, ())
   ) 18446744073709551616 ([], r14.1.1, r14.2.1, ())).bind fun z16 =>
   if (((x11.2.2.1.progs.length + ([z16.1] : List (List Ins)).length : Nat)) : Int) < 100000000000 then
    self13 (wi (x11.1 + 1), z16.2.2.1, ({ x11.2.2.1 with progs := x11.2.2.1.progs ++ ([z16.1]) } : Cfg), ())
   else none
  else
  some (x11.1, x11.2.1, x11.2.2.1, ())
 ) 18446744073709551616 (0, r10.2.1, (⟨wi (1 + r1.1.1), wi (1 + r2.1.1), wi (1 + r3.1.1), wi (1 + r4.1.1), wi (1 + r5.1.1), wi (1 + r6.1.1), wi (1 + r7.1.1), r8.1.1, wi (1 + r9.1.1), [], []⟩ : Cfg), ())).bind fun z12 =>
 (r5number z12.2.1 6).bind fun r23 =>
 (lpF (σ := Int × CodV × Cfg × Unit) (β := Int × CodV × Cfg × Unit) (fun self26 x24 =>
  if 0 < x24.1 then
   (r5number x24.2.1 (wi (1 + r10.1.1))).bind fun r27 =>
   (r5number r27.2.1 x24.2.2.1.levels).bind fun r28 =>
   (r5number r28.2.1 16).bind fun r29 =>
   if (((x24.2.2.1.subs.length + ([(⟨r27.1.1, r28.1.1, r29.1.1⟩ : Sub)] : List Sub).length : Nat)) : Int) < 1000000000000 then
    self26 (wi (x24.1 - 1), r29.2.1, ({ x24.2.2.1 with subs := x24.2.2.1.subs ++ ([(⟨r27.1.1, r28.1.1, r29.1.1⟩ : Sub)]) } : Cfg), ())
   else none
  else
  some (x24.1, x24.2.1, x24.2.2.1, ())
 ) 18446744073709551616 (r23.1.1, r23.2.1, z12.2.2.1, ())).bind fun z25 =>
 some ((z25.2.2.1, ()), (()))
noncomputable abbrev r5decode_k : Con SR1 := ⟨24, [.sh (.ro 17)], [.val 13], fun x => r5decode x.1⟩
theorem r5decode_ok : CO Tryz.prog r5decode_k := co_fn mixed Tryz.func24 [r5number_k] ⟨r5number_ok, trivial⟩ [] trivial (fun _ => []) [(12, .loop [.rg 6 sI_, .rg 3 (.own 19), .rg 4 (.own 20)] 18446744073709551616 0), (16, .loop [.rg 7 (.row 3), .rg 8 sI_, .rg 3 (.own 19)] 18446744073709551616 2), (29, .loop [.rg 10 sI_, .rg 3 (.own 19), .rg 4 (.own 20)] 18446744073709551616 5)] fun x => by kernel_rfl
noncomputable def kconfig (b : List Int) : Option ((Cfg × Unit) × (Unit)) :=
 (r5decode b).bind fun r1 =>
 some ((r1.1.1, ()), (()))
noncomputable abbrev kconfig_k : Con SR1 := ⟨8, [.sh (.ro 17)], [.val 13], fun x => kconfig x.1⟩
theorem kconfig_ok : CO Tryz.prog kconfig_k := co_fn mixed Tryz.func8 [r5decode_k] ⟨r5decode_ok, trivial⟩ [] trivial (fun _ => []) [] fun x => by kernel_rfl
noncomputable def kshort (b : List Int) (l : List (List Int)) : Option ((Bool × Unit) × (Unit)) :=
 (lpF (σ := Int × Unit) (β := (Int × Unit) ⊕ ((Bool × Unit) × (Unit))) (fun self3 x1 =>
  if x1.1 < ((l.length : Nat) : Int) then
   if 0 ≤ x1.1 ∧ x1.1 < ((l.length : Nat) : Int) then
    if 400 < (((atL [] l x1.1).length : Nat) : Int) then
     Option.map Sum.inr (
      some ((false, ()), (()))
     )
    else
    self3 (wi (x1.1 + 1), ())
   else none
  else
  some (Sum.inl (x1.1, ()))
 ) 18446744073709551616 (0, ())).bind fun z2 => match z2 with
 | .inr o4 => some o4
 | .inl z2 =>
 some ((decide (((b.length : Nat) : Int) ≤ 400), ()), (()))
noncomputable abbrev kshort_k : Con SR1 := ⟨7, [.sh (.ro 17), .sh (.rr 1)], [.sh .b], fun x => kshort x.1 x.2.1⟩
theorem kshort_ok : CO Tryz.prog kshort_k := co_fn mixed Tryz.func7 [] trivial [] trivial (fun _ => []) [(2, .loopR [.rg 5 sI_] 18446744073709551616 0)] fun x => by kernel_rfl
end
end Go.Proofs.YtpbkelpokpglaaaGreat
