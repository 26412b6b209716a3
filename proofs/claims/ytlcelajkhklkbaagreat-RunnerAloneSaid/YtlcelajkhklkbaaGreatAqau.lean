/- RunnerAlone in the evaluator's form. The law RunnerAlone answers true. -/
import Derived.Test.YtlcelajkhklkbaaGreatAqar
import Derived.Test.YtlcelajkhklkbaaGreatAqat
set_option linter.all false
namespace Go.Proofs.YtlcelajkhklkbaaGreat
section
open Go Go.RowKit
set_option maxRecDepth 100000
variable [Tb]
noncomputable def alt (m : MV) (e : EnvP) : Option ((Bool × Unit) × (MV × EnvP × Unit)) :=
 match m with
 | .alloc x => (abm x e).bind fun o => some (o.1, (MV.alloc o.2.1, o.2.2))
 | .publish x => (abe x e).bind fun o => some (o.1, (MV.publish o.2.1, o.2.2))
 | .claim x => (ab8 x e).bind fun o => some (o.1, (MV.claim o.2.1, o.2.2))
 | .attempt x => (ac5 x e).bind fun o => some (o.1, (MV.attempt o.2.1, o.2.2))
 | .release x => (ac4 x e).bind fun o => some (o.1, (MV.release o.2.1, o.2.2))
 | .opush x => (acx x e).bind fun o => some (o.1, (MV.opush o.2.1, o.2.2))
 | .opop x => (aey x e).bind fun o => some (o.1, (MV.opop o.2.1, o.2.2))
 | .steal x => (adu x e).bind fun o => some (o.1, (MV.steal o.2.1, o.2.2))
 | .set x => (acz x e).bind fun o => some (o.1, (MV.set o.2.1, o.2.2))
 | .reset x => (ada x e).bind fun o => some (o.1, (MV.reset o.2.1, o.2.2))
 | .remove x => (ab3 x e).bind fun o => some (o.1, (MV.remove o.2.1, o.2.2))
 | .sleep x => (adV x e).bind fun o => some (o.1, (MV.sleep o.2.1, o.2.2))
 | .wake x => (acq x e).bind fun o => some (o.1, (MV.wake o.2.1, o.2.2))
 | .raise x => (abL x e).bind fun o => some (o.1, (MV.raise o.2.1, o.2.2))
 | .probe x => (adv x e).bind fun o => some (o.1, (MV.probe o.2.1, o.2.2))
 | .lpush x => (abK x e).bind fun o => some (o.1, (MV.lpush o.2.1, o.2.2))
 | .lpop x => (ae1 x e).bind fun o => some (o.1, (MV.lpop o.2.1, o.2.2))
 | .walk x => (abr x e).bind fun o => some (o.1, (MV.walk o.2.1, o.2.2))
 | .take x => (ahJ x e).bind fun o => some (o.1, (MV.take o.2.1, o.2.2))
 | .sweep x => (agb x e).bind fun o => some (o.1, (MV.sweep o.2.1, o.2.2))
 | .enter x => (abo x e).bind fun o => some (o.1, (MV.enter o.2.1, o.2.2))
 | .drain x => (af8 x e).bind fun o => some (o.1, (MV.drain o.2.1, o.2.2))
 | .run x => (aaU x e).bind fun o => some (o.1, (MV.run o.2.1, o.2.2))
 | _ => none
noncomputable abbrev anr : Con SR1 := ⟨1000000000, [.mch, .ref 27], [.sh .b], fun x => alt x.1 x.2.1⟩
theorem aoo : CO Tryz.prog anr := ah1 (S := SR1) (i := 0) (ps := [.ref 27]) (rs := [.sh .b]) (spec := fun m xs => alt m xs.1) fun m xs out h => by
  cases m with
  | alloc x => exact aaj (S := SR1) (ps := [.ref 27]) (rs := [.sh .b]) (c := 34) (mk := MV.alloc) (fun _ => rfl) rfl (fun _ _ _ _ => by kernel_rfl) ach h
  | publish x => exact aaj (S := SR1) (ps := [.ref 27]) (rs := [.sh .b]) (c := 48) (mk := MV.publish) (fun _ => rfl) rfl (fun _ _ _ _ => by kernel_rfl) acr h
  | claim x => exact aaj (S := SR1) (ps := [.ref 27]) (rs := [.sh .b]) (c := 43) (mk := MV.claim) (fun _ => rfl) rfl (fun _ _ _ _ => by kernel_rfl) adc h
  | attempt x => exact aaj (S := SR1) (ps := [.ref 27]) (rs := [.sh .b]) (c := 33) (mk := MV.attempt) (fun _ => rfl) rfl (fun _ _ _ _ => by kernel_rfl) acN h
  | release x => exact aaj (S := SR1) (ps := [.ref 27]) (rs := [.sh .b]) (c := 35) (mk := MV.release) (fun _ => rfl) rfl (fun _ _ _ _ => by kernel_rfl) acM h
  | opush x => exact aaj (S := SR1) (ps := [.ref 27]) (rs := [.sh .b]) (c := 51) (mk := MV.opush) (fun _ => rfl) rfl (fun _ _ _ _ => by kernel_rfl) adD h
  | opop x => exact aaj (S := SR1) (ps := [.ref 27]) (rs := [.sh .b]) (c := 50) (mk := MV.opop) (fun _ => rfl) rfl (fun _ _ _ _ => by kernel_rfl) adX h
  | steal x => exact aaj (S := SR1) (ps := [.ref 27]) (rs := [.sh .b]) (c := 40) (mk := MV.steal) (fun _ => rfl) rfl (fun _ _ _ _ => by kernel_rfl) adb h
  | set x => exact aaj (S := SR1) (ps := [.ref 27]) (rs := [.sh .b]) (c := 52) (mk := MV.set) (fun _ => rfl) rfl (fun _ _ _ _ => by kernel_rfl) adF h
  | reset x => exact aaj (S := SR1) (ps := [.ref 27]) (rs := [.sh .b]) (c := 41) (mk := MV.reset) (fun _ => rfl) rfl (fun _ _ _ _ => by kernel_rfl) acP h
  | remove x => exact aaj (S := SR1) (ps := [.ref 27]) (rs := [.sh .b]) (c := 49) (mk := MV.remove) (fun _ => rfl) rfl (fun _ _ _ _ => by kernel_rfl) ab2 h
  | sleep x => exact aaj (S := SR1) (ps := [.ref 27]) (rs := [.sh .b]) (c := 31) (mk := MV.sleep) (fun _ => rfl) rfl (fun _ _ _ _ => by kernel_rfl) adB h
  | wake x => exact aaj (S := SR1) (ps := [.ref 27]) (rs := [.sh .b]) (c := 36) (mk := MV.wake) (fun _ => rfl) rfl (fun _ _ _ _ => by kernel_rfl) adU h
  | raise x => exact aaj (S := SR1) (ps := [.ref 27]) (rs := [.sh .b]) (c := 53) (mk := MV.raise) (fun _ => rfl) rfl (fun _ _ _ _ => by kernel_rfl) adg h
  | probe x => exact aaj (S := SR1) (ps := [.ref 27]) (rs := [.sh .b]) (c := 44) (mk := MV.probe) (fun _ => rfl) rfl (fun _ _ _ _ => by kernel_rfl) ade h
  | lpush x => exact aaj (S := SR1) (ps := [.ref 27]) (rs := [.sh .b]) (c := 45) (mk := MV.lpush) (fun _ => rfl) rfl (fun _ _ _ _ => by kernel_rfl) aeg h
  | lpop x => exact aaj (S := SR1) (ps := [.ref 27]) (rs := [.sh .b]) (c := 42) (mk := MV.lpop) (fun _ => rfl) rfl (fun _ _ _ _ => by kernel_rfl) aeJ h
  | walk x => exact aaj (S := SR1) (ps := [.ref 27]) (rs := [.sh .b]) (c := 46) (mk := MV.walk) (fun _ => rfl) rfl (fun _ _ _ _ => by kernel_rfl) ahp h
  | take x => exact aaj (S := SR1) (ps := [.ref 27]) (rs := [.sh .b]) (c := 37) (mk := MV.take) (fun _ => rfl) rfl (fun _ _ _ _ => by kernel_rfl) ahI h
  | sweep x => exact aaj (S := SR1) (ps := [.ref 27]) (rs := [.sh .b]) (c := 38) (mk := MV.sweep) (fun _ => rfl) rfl (fun _ _ _ _ => by kernel_rfl) agO h
  | enter x => exact aaj (S := SR1) (ps := [.ref 27]) (rs := [.sh .b]) (c := 47) (mk := MV.enter) (fun _ => rfl) rfl (fun _ _ _ _ => by kernel_rfl) agj h
  | drain x => exact aaj (S := SR1) (ps := [.ref 27]) (rs := [.sh .b]) (c := 39) (mk := MV.drain) (fun _ => rfl) rfl (fun _ _ _ _ => by kernel_rfl) agH h
  | run x => exact aaj (S := SR1) (ps := [.ref 27]) (rs := [.sh .b]) (c := 32) (mk := MV.run) (fun _ => rfl) rfl (fun _ _ _ _ => by kernel_rfl) akT h
  | _ => cases h
noncomputable def alc (m : MV) : Option ((Int × Int × Unit) × (MV × Unit)) :=
 match m with
 | .alloc x => some ((x.o.code, x.o.value, ()), (MV.alloc x, ()))
 | .publish x => some ((x.o.code, x.o.value, ()), (MV.publish x, ()))
 | .claim x => some ((x.o.code, x.o.value, ()), (MV.claim x, ()))
 | .attempt x => some ((x.o.code, x.o.value, ()), (MV.attempt x, ()))
 | .release x => some ((x.o.code, x.o.value, ()), (MV.release x, ()))
 | .opush x => some ((x.o.code, x.o.value, ()), (MV.opush x, ()))
 | .opop x => some ((x.o.code, x.o.value, ()), (MV.opop x, ()))
 | .steal x => some ((x.o.code, x.o.value, ()), (MV.steal x, ()))
 | .set x => some ((x.o.code, x.o.value, ()), (MV.set x, ()))
 | .reset x => some ((x.o.code, x.o.value, ()), (MV.reset x, ()))
 | .remove x => some ((x.o.code, x.o.value, ()), (MV.remove x, ()))
 | .sleep x => some ((x.o.code, x.o.value, ()), (MV.sleep x, ()))
 | .wake x => some ((x.o.code, x.o.value, ()), (MV.wake x, ()))
 | .raise x => some ((x.o.code, x.o.value, ()), (MV.raise x, ()))
 | .probe x => some ((x.o.code, x.o.value, ()), (MV.probe x, ()))
 | .lpush x => some ((x.o.code, x.o.value, ()), (MV.lpush x, ()))
 | .lpop x => some ((x.o.code, x.o.value, ()), (MV.lpop x, ()))
 | .walk x => some ((x.o.code, x.o.value, ()), (MV.walk x, ()))
 | .take x => some ((x.o.code, x.o.value, ()), (MV.take x, ()))
 | .sweep x => some ((x.o.code, x.o.value, ()), (MV.sweep x, ()))
 | .enter x => some ((x.o.code, x.o.value, ()), (MV.enter x, ()))
 | .drain x => some ((x.o.code, x.o.value, ()), (MV.drain x, ()))
 | .run x => some ((x.o.code, x.o.value, ()), (MV.run x, ()))
 | _ => none
noncomputable abbrev aj9 : Con SR1 := ⟨1000000001, [.mch], [.sh sI_, .sh sI_], fun x => alc x.1⟩
theorem alB : CO Tryz.prog aj9 := ah1 (S := SR1) (i := 1) (ps := []) (rs := [.sh sI_, .sh sI_]) (spec := fun m _ => alc m) fun m xs out h => by
  cases m with
  | alloc x => exact aaj (S := SR1) (ps := []) (rs := [.sh sI_, .sh sI_]) (c := 34) (mk := MV.alloc) (f := 129) (sp := fun x => some ((x.1.o.code, x.1.o.value, ()), (x.1, ()))) (fun _ => rfl) rfl (fun _ _ _ _ => by kernel_rfl) (aap [aai] ⟨aag, trivial⟩ fun x => by kernel_rfl) h
  | publish x => exact aaj (S := SR1) (ps := []) (rs := [.sh sI_, .sh sI_]) (c := 48) (mk := MV.publish) (f := 129) (sp := fun x => some ((x.1.o.code, x.1.o.value, ()), (x.1, ()))) (fun _ => rfl) rfl (fun _ _ _ _ => by kernel_rfl) (aap [aai] ⟨aag, trivial⟩ fun x => by kernel_rfl) h
  | claim x => exact aaj (S := SR1) (ps := []) (rs := [.sh sI_, .sh sI_]) (c := 43) (mk := MV.claim) (f := 129) (sp := fun x => some ((x.1.o.code, x.1.o.value, ()), (x.1, ()))) (fun _ => rfl) rfl (fun _ _ _ _ => by kernel_rfl) (aap [aai] ⟨aag, trivial⟩ fun x => by kernel_rfl) h
  | attempt x => exact aaj (S := SR1) (ps := []) (rs := [.sh sI_, .sh sI_]) (c := 33) (mk := MV.attempt) (f := 129) (sp := fun x => some ((x.1.o.code, x.1.o.value, ()), (x.1, ()))) (fun _ => rfl) rfl (fun _ _ _ _ => by kernel_rfl) (aap [aai] ⟨aag, trivial⟩ fun x => by kernel_rfl) h
  | release x => exact aaj (S := SR1) (ps := []) (rs := [.sh sI_, .sh sI_]) (c := 35) (mk := MV.release) (f := 129) (sp := fun x => some ((x.1.o.code, x.1.o.value, ()), (x.1, ()))) (fun _ => rfl) rfl (fun _ _ _ _ => by kernel_rfl) (aap [aai] ⟨aag, trivial⟩ fun x => by kernel_rfl) h
  | opush x => exact aaj (S := SR1) (ps := []) (rs := [.sh sI_, .sh sI_]) (c := 51) (mk := MV.opush) (f := 129) (sp := fun x => some ((x.1.o.code, x.1.o.value, ()), (x.1, ()))) (fun _ => rfl) rfl (fun _ _ _ _ => by kernel_rfl) (aap [aai] ⟨aag, trivial⟩ fun x => by kernel_rfl) h
  | opop x => exact aaj (S := SR1) (ps := []) (rs := [.sh sI_, .sh sI_]) (c := 50) (mk := MV.opop) (f := 129) (sp := fun x => some ((x.1.o.code, x.1.o.value, ()), (x.1, ()))) (fun _ => rfl) rfl (fun _ _ _ _ => by kernel_rfl) (aap [aai] ⟨aag, trivial⟩ fun x => by kernel_rfl) h
  | steal x => exact aaj (S := SR1) (ps := []) (rs := [.sh sI_, .sh sI_]) (c := 40) (mk := MV.steal) (f := 129) (sp := fun x => some ((x.1.o.code, x.1.o.value, ()), (x.1, ()))) (fun _ => rfl) rfl (fun _ _ _ _ => by kernel_rfl) (aap [aai] ⟨aag, trivial⟩ fun x => by kernel_rfl) h
  | set x => exact aaj (S := SR1) (ps := []) (rs := [.sh sI_, .sh sI_]) (c := 52) (mk := MV.set) (f := 129) (sp := fun x => some ((x.1.o.code, x.1.o.value, ()), (x.1, ()))) (fun _ => rfl) rfl (fun _ _ _ _ => by kernel_rfl) (aap [aai] ⟨aag, trivial⟩ fun x => by kernel_rfl) h
  | reset x => exact aaj (S := SR1) (ps := []) (rs := [.sh sI_, .sh sI_]) (c := 41) (mk := MV.reset) (f := 129) (sp := fun x => some ((x.1.o.code, x.1.o.value, ()), (x.1, ()))) (fun _ => rfl) rfl (fun _ _ _ _ => by kernel_rfl) (aap [aai] ⟨aag, trivial⟩ fun x => by kernel_rfl) h
  | remove x => exact aaj (S := SR1) (ps := []) (rs := [.sh sI_, .sh sI_]) (c := 49) (mk := MV.remove) (f := 129) (sp := fun x => some ((x.1.o.code, x.1.o.value, ()), (x.1, ()))) (fun _ => rfl) rfl (fun _ _ _ _ => by kernel_rfl) (aap [aai] ⟨aag, trivial⟩ fun x => by kernel_rfl) h
  | sleep x => exact aaj (S := SR1) (ps := []) (rs := [.sh sI_, .sh sI_]) (c := 31) (mk := MV.sleep) (f := 129) (sp := fun x => some ((x.1.o.code, x.1.o.value, ()), (x.1, ()))) (fun _ => rfl) rfl (fun _ _ _ _ => by kernel_rfl) (aap [aai] ⟨aag, trivial⟩ fun x => by kernel_rfl) h
  | wake x => exact aaj (S := SR1) (ps := []) (rs := [.sh sI_, .sh sI_]) (c := 36) (mk := MV.wake) (f := 129) (sp := fun x => some ((x.1.o.code, x.1.o.value, ()), (x.1, ()))) (fun _ => rfl) rfl (fun _ _ _ _ => by kernel_rfl) (aap [aai] ⟨aag, trivial⟩ fun x => by kernel_rfl) h
  | raise x => exact aaj (S := SR1) (ps := []) (rs := [.sh sI_, .sh sI_]) (c := 53) (mk := MV.raise) (f := 129) (sp := fun x => some ((x.1.o.code, x.1.o.value, ()), (x.1, ()))) (fun _ => rfl) rfl (fun _ _ _ _ => by kernel_rfl) (aap [aai] ⟨aag, trivial⟩ fun x => by kernel_rfl) h
  | probe x => exact aaj (S := SR1) (ps := []) (rs := [.sh sI_, .sh sI_]) (c := 44) (mk := MV.probe) (f := 129) (sp := fun x => some ((x.1.o.code, x.1.o.value, ()), (x.1, ()))) (fun _ => rfl) rfl (fun _ _ _ _ => by kernel_rfl) (aap [aai] ⟨aag, trivial⟩ fun x => by kernel_rfl) h
  | lpush x => exact aaj (S := SR1) (ps := []) (rs := [.sh sI_, .sh sI_]) (c := 45) (mk := MV.lpush) (f := 129) (sp := fun x => some ((x.1.o.code, x.1.o.value, ()), (x.1, ()))) (fun _ => rfl) rfl (fun _ _ _ _ => by kernel_rfl) (aap [aai] ⟨aag, trivial⟩ fun x => by kernel_rfl) h
  | lpop x => exact aaj (S := SR1) (ps := []) (rs := [.sh sI_, .sh sI_]) (c := 42) (mk := MV.lpop) (f := 129) (sp := fun x => some ((x.1.o.code, x.1.o.value, ()), (x.1, ()))) (fun _ => rfl) rfl (fun _ _ _ _ => by kernel_rfl) (aap [aai] ⟨aag, trivial⟩ fun x => by kernel_rfl) h
  | walk x => exact aaj (S := SR1) (ps := []) (rs := [.sh sI_, .sh sI_]) (c := 46) (mk := MV.walk) (f := 129) (sp := fun x => some ((x.1.o.code, x.1.o.value, ()), (x.1, ()))) (fun _ => rfl) rfl (fun _ _ _ _ => by kernel_rfl) (aap [aai] ⟨aag, trivial⟩ fun x => by kernel_rfl) h
  | take x => exact aaj (S := SR1) (ps := []) (rs := [.sh sI_, .sh sI_]) (c := 37) (mk := MV.take) (f := 129) (sp := fun x => some ((x.1.o.code, x.1.o.value, ()), (x.1, ()))) (fun _ => rfl) rfl (fun _ _ _ _ => by kernel_rfl) (aap [aai] ⟨aag, trivial⟩ fun x => by kernel_rfl) h
  | sweep x => exact aaj (S := SR1) (ps := []) (rs := [.sh sI_, .sh sI_]) (c := 38) (mk := MV.sweep) (f := 129) (sp := fun x => some ((x.1.o.code, x.1.o.value, ()), (x.1, ()))) (fun _ => rfl) rfl (fun _ _ _ _ => by kernel_rfl) (aap [aai] ⟨aag, trivial⟩ fun x => by kernel_rfl) h
  | enter x => exact aaj (S := SR1) (ps := []) (rs := [.sh sI_, .sh sI_]) (c := 47) (mk := MV.enter) (f := 129) (sp := fun x => some ((x.1.o.code, x.1.o.value, ()), (x.1, ()))) (fun _ => rfl) rfl (fun _ _ _ _ => by kernel_rfl) (aap [aai] ⟨aag, trivial⟩ fun x => by kernel_rfl) h
  | drain x => exact aaj (S := SR1) (ps := []) (rs := [.sh sI_, .sh sI_]) (c := 39) (mk := MV.drain) (f := 129) (sp := fun x => some ((x.1.o.code, x.1.o.value, ()), (x.1, ()))) (fun _ => rfl) rfl (fun _ _ _ _ => by kernel_rfl) (aap [aai] ⟨aag, trivial⟩ fun x => by kernel_rfl) h
  | run x => exact aaj (S := SR1) (ps := []) (rs := [.sh sI_, .sh sI_]) (c := 32) (mk := MV.run) (f := 129) (sp := fun x => some ((x.1.o.code, x.1.o.value, ()), (x.1, ()))) (fun _ => rfl) rfl (fun _ _ _ _ => by kernel_rfl) (aap [aai] ⟨aag, trivial⟩ fun x => by kernel_rfl) h
  | _ => cases h
noncomputable def ajj (y0 : Int) (y1 : Int) : Option ((MV × Unit) × (Unit)) :=
 some ((MV.run (⟨⟨false, 0, 0⟩, y0, [y1], 0, MV.nil, 0, 0, 0, 0⟩ : (RunV MV)), ()), (()))
noncomputable abbrev aiN : Con SR1 := ⟨9, [.sh sI_, .sh sI_], [.sh .mach], fun x => ajj x.1 x.2.1⟩
theorem akE : CO Tryz.prog aiN := aas aar Tryz.func9 [] trivial [] trivial (fun _ => []) [] fun x => by kernel_rfl
noncomputable def abk (y0 : EnvP) (y1 : MV) (y2 : Int) : Option ((Int × Int × Int × Unit) × (EnvP × MV × Unit)) :=
 if (SR1.spl y1).isNone = true then
  some (((-1), 0, 0, ()), (y0, y1, ()))
 else
 (lpF (σ := Int × EnvP × MV × Unit) (β := (Int × EnvP × MV × Unit) ⊕ ((Int × Int × Int × Unit) × (EnvP × MV × Unit))) (fun self3 x1 =>
  if x1.1 < y2 then
   (alt x1.2.2.1 x1.2.1).bind fun r4 =>
   if r4.1.1 = true then
   (alc r4.2.1).bind fun r5 =>
   Option.map Sum.inr (
   some ((r5.1.1, r5.1.2.1, wi (x1.1 + 1), ()), (r4.2.2.1, r5.2.1, ()))
   )
   else
   self3 (wi (x1.1 + 1), r4.2.2.1, r4.2.1, ())
  else
  some (Sum.inl (x1.1, x1.2.1, x1.2.2.1, ()))
 ) 18446744073709551616 (0, y0, y1, ())).bind fun z2 => match z2 with
 | .inr o6 => some o6
 | .inl z2 =>
 some (((-1), 0, z2.1, ()), (z2.2.1, z2.2.2.1, ()))
noncomputable abbrev acX : Con SR1 := ⟨11, [.ref 27, .mch, .sh sI_], [.sh sI_, .sh sI_, .sh sI_], fun x => abk x.1 x.2.1 x.2.2.1⟩
theorem ad5 : CO Tryz.prog acX := aas aar Tryz.func11 [anr, aj9] ⟨aoo, alB, trivial⟩ [] trivial (fun _ => []) [(3, .loopR [.rg 8 sI_, .ob 0 27, .ma 1] 18446744073709551616 0)] fun x => by kernel_rfl
noncomputable def aa4 (y0 : Cfg) : Option ((EnvP × Bool × Unit) × (Unit)) :=
 (agB y0).bind fun r1 =>
 if r1.1.2.1 ≠ 0 then
  none
 else
 (aeY).bind fun r2 =>
 (abk r1.1.1 r2.1.1 5).bind fun r3 =>
 (afP 0 0).bind fun r4 =>
 (abk r3.2.1 r4.1.1 5).bind fun r5 =>
 (acD 0 0).bind fun r6 =>
 (abk r5.2.1 r6.1.1 5).bind fun r7 =>
 some ((r7.2.1, true, ()), (()))
noncomputable abbrev acZ : Con SR1 := ⟨8, [.val 13], [.sh (.own 27), .sh .b], fun x => aa4 x.1⟩
theorem ad7 : CO Tryz.prog acZ := aas aar Tryz.func8 [akI, afl, acX, af1, aev] ⟨anP, ahh, ad5, ahK, aeX, trivial⟩ [] trivial (fun _ => []) [] fun x => by kernel_rfl
noncomputable def abl (y0 : List Ins) (y1 : List Ins) (y2 : Int) : Option ((Cfg × Unit) × (Unit)) :=
 (as4 ([])).bind fun r1 =>
 some ((({ r1.1.1 with levels := 2, tasks := 12, deque := y2, progs := [y0, y1] } : Cfg), ()), (()))
noncomputable abbrev acY : Con SR1 := ⟨7, [.sh (.ro 3), .sh (.ro 3), .sh sI_], [.val 13], fun x => abl x.1 x.2.1 x.2.2.1⟩
theorem ad6 : CO Tryz.prog acY := aas aar Tryz.func7 [ao1] ⟨arH, trivial⟩ [] trivial (fun _ => []) [] fun x => by kernel_rfl
noncomputable def aeM (y0 : Cfg) : Option ((Int × Unit) × (Unit)) :=
 some ((wi ((wi ((wi (4 + y0.heap)) + y0.classes)) + (wi (2 * y0.workers))), ()), (()))
noncomputable abbrev ad4 : Con SR1 := ⟨45, [.val 13], [.sh sI_], fun x => aeM x.1⟩
theorem agR : CO Tryz.prog ad4 := aas aar Tryz.func45 [] trivial [] trivial (fun _ => []) [] fun x => by kernel_rfl
noncomputable def afj (y0 : Int) (y1 : Int) (y2 : Int) (y3 : Int) : Option ((Int × Unit) × (Unit)) :=
 if y1 < 0 then
  some (((-1), ()), (()))
 else
 if y2 ≤ y1 then
  some (((-1), ()), (()))
 else
 some ((wi (y0 + (wi (y1 * y3))), ()), (()))
noncomputable abbrev aes : Con SR1 := ⟨49, [.sh sI_, .sh sI_, .sh sI_, .sh sI_], [.sh sI_], fun x => afj x.1 x.2.1 x.2.2.1 x.2.2.2.1⟩
theorem aht : CO Tryz.prog aes := aas aar Tryz.func49 [] trivial [] trivial (fun _ => []) [] fun x => by kernel_rfl
noncomputable def afO (y0 : Cfg) (y1 : Int) (y2 : Int) : Option ((Int × Unit) × (Unit)) :=
 (aeM y0).bind fun r1 =>
 if y0.tasks = y0.tasks then
  if y0.deque = y0.deque then
   if y0.levels = y0.levels then
   if y0.workers = y0.workers then
   (afj (wi (r1.1.1 + (wi ((wi (y0.workers * y0.levels)) * (wi (2 + y0.deque)))))) y1 y0.tasks 5).bind fun r2 =>
   if r2.1.1 < 0 then
   some (((-1), ()), (()))
   else
   some ((wi (r2.1.1 + y2), ()), (()))
   else none
   else none
  else none
 else none
noncomputable abbrev aeL : Con SR1 := ⟨34, [.val 13, .sh sI_, .sh sI_], [.sh sI_], fun x => afO x.1 x.2.1 x.2.2.1⟩
theorem ahF : CO Tryz.prog aeL := aas aar Tryz.func34 [ad4, aes] ⟨agR, aht, trivial⟩ [] trivial (fun _ => []) [] fun x => by kernel_rfl
noncomputable def abO (y0 : Cfg) (y1 : Int) : Option ((Int × Unit) × (Unit)) :=
 (afO y0 y1 0).bind fun r1 =>
 some ((r1.1.1, ()), (()))
noncomputable abbrev acW : Con SR1 := ⟨16, [.val 13, .sh sI_], [.sh sI_], fun x => abO x.1 x.2.1⟩
theorem ad3 : CO Tryz.prog acW := aas aar Tryz.func16 [aeL] ⟨ahF, trivial⟩ [] trivial (fun _ => []) [] fun x => by kernel_rfl
noncomputable def adG  : Option ((Bool × Unit) × (Unit)) :=
 (abl ([]) ([]) 2).bind fun r1 =>
 (aa4 r1.1.1).bind fun r2 =>
 (abl ([(⟨1, 1, 1⟩ : Ins), (⟨2, 0, 0⟩ : Ins)]) ([]) 2).bind fun r3 =>
 (aa4 r3.1.1).bind fun r4 =>
 if (!r2.1.2.1) = true then
  some ((false, ()), (()))
 else
 if (!r4.1.2.1) = true then
  some ((false, ()), (()))
 else
 (ajj 0 0).bind fun r5 =>
 (abk r2.1.1 r5.1.1 99).bind fun r6 =>
 (ajj 0 0).bind fun r7 =>
 (abk r4.1.1 r7.1.1 99).bind fun r8 =>
 if r6.1.1 = 0 then
  if r6.1.2.2.1 = 2 then
   if r8.1.1 = 0 then
   if r8.1.2.2.1 = 16 then
   if ((r8.2.1.evs.length : Nat) : Int) = 4 then
   if 0 ≤ (3 : Int) ∧ (3 : Int) < ((r8.2.1.evs.length : Nat) : Int) then
   if ((ax5 r8.2.1.evs 3).kind) = 7 then
   (abO r8.2.1.c 0).bind fun r9 =>
   if r9.1.1 < 0 then
   some ((false, ()), (()))
   else
   if ((r8.2.1.m.cells.length : Nat) : Int) ≤ r9.1.1 then
   some ((false, ()), (()))
   else
   if 0 ≤ r9.1.1 ∧ r9.1.1 < ((r8.2.1.m.cells.length : Nat) : Int) then
   some ((decide ((afD r8.2.1.m.cells r9.1.1) = 3), ()), (()))
   else none
   else
   some ((false, ()), (()))
   else none
   else
   some ((false, ()), (()))
   else
   some ((false, ()), (()))
   else
   some ((false, ()), (()))
  else
  some ((false, ()), (()))
 else
 some ((false, ()), (()))
noncomputable abbrev aet : Con SR1 := ⟨10, [], [.sh .b], fun x => adG ⟩
noncomputable def ahu : List (Nat × Func) := [(15, Tryz.f15)]
theorem ahv : CO Tryz.prog aet := aas aar Tryz.func10 [acY, acZ, aiN, acX, acW] ⟨ad6, ad7, akE, ad5, ad3, trivial⟩ ahu ⟨Tryz.func15, trivial⟩ (fun _ => []) [] fun x => by kernel_rfl
noncomputable def abt (y0 : List Int) : Option ((List Ins × Unit) × (Unit)) :=
 (lpF (σ := List Ins × Int × Unit) (β := List Ins × Int × Unit) (fun self3 x1 =>
  if x1.2.1 < ((y0.length : Nat) : Int) then
   if x1.2.1 < 6 then
   if 0 ≤ x1.2.1 ∧ x1.2.1 < ((y0.length : Nat) : Int) then
   if (wi ((Int.tmod (agM y0 x1.2.1) 3))) = 0 then
   if 0 ≤ x1.2.1 ∧ x1.2.1 < ((y0.length : Nat) : Int) then
   if (((x1.1.length + ([(⟨wi ((Int.tmod (agM y0 x1.2.1) 3)), wi (1 + (wi ((Int.tmod (IntKind.u8.wrap (Int.tdiv (agM y0 x1.2.1) 3)) 4)))), 0⟩ : Ins)] : List Ins).length : Nat)) : Int) < 1000000000000 then
   self3 (x1.1 ++ ([(⟨wi ((Int.tmod (agM y0 x1.2.1) 3)), wi (1 + (wi ((Int.tmod (IntKind.u8.wrap (Int.tdiv (agM y0 x1.2.1) 3)) 4)))), 0⟩ : Ins)]), wi (x1.2.1 + 1), ())
   else none
   else none
   else
   if (wi ((Int.tmod (agM y0 x1.2.1) 3))) = 1 then
   if 0 ≤ x1.2.1 ∧ x1.2.1 < ((y0.length : Nat) : Int) then
   if (agM y0 x1.2.1) = (agM y0 x1.2.1) then
   if (((x1.1.length + ([(⟨wi ((Int.tmod (agM y0 x1.2.1) 3)), 1, wi ((Int.tmod (IntKind.u8.wrap (Int.tdiv (agM y0 x1.2.1) 3)) 2))⟩ : Ins)] : List Ins).length : Nat)) : Int) < 1000000000000 then
   self3 (x1.1 ++ ([(⟨wi ((Int.tmod (agM y0 x1.2.1) 3)), 1, wi ((Int.tmod (IntKind.u8.wrap (Int.tdiv (agM y0 x1.2.1) 3)) 2))⟩ : Ins)]), wi (x1.2.1 + 1), ())
   else none
   else none
   else none
   else
   if 0 ≤ x1.2.1 ∧ x1.2.1 < ((y0.length : Nat) : Int) then
   if (((x1.1.length + ([(⟨wi ((Int.tmod (agM y0 x1.2.1) 3)), wi ((Int.tmod (IntKind.u8.wrap (Int.tdiv (agM y0 x1.2.1) 3)) 3)), 0⟩ : Ins)] : List Ins).length : Nat)) : Int) < 1000000000000 then
   self3 (x1.1 ++ ([(⟨wi ((Int.tmod (agM y0 x1.2.1) 3)), wi ((Int.tmod (IntKind.u8.wrap (Int.tdiv (agM y0 x1.2.1) 3)) 3)), 0⟩ : Ins)]), wi (x1.2.1 + 1), ())
   else none
   else none
   else none
   else
   some (x1.1, x1.2.1, ())
  else
  some (x1.1, x1.2.1, ())
 ) 18446744073709551616 ([], 0, ())).bind fun z2 =>
 some ((z2.1, ()), (()))
noncomputable abbrev adR : Con SR1 := ⟨6, [.sh (.ro 17)], [.sh (.row 3)], fun x => abt x.1⟩
theorem agh : CO Tryz.prog adR := aas aar Tryz.func6 [] trivial [] trivial (fun _ => []) [(3, .loop [.rg 3 (.row 3), .rg 4 sI_] 18446744073709551616 0)] fun x => by kernel_rfl
noncomputable def ab7 (y0 : List Int) (y1 : List Int) (y2 : Int) : Option ((Bool × Unit) × (Unit)) :=
 (abt y1).bind fun r1 =>
 (lpF (σ := List Ins × Int × Unit) (β := List Ins × Int × Unit) (fun self4 x2 =>
  if x2.2.1 < ((r1.1.1.length : Nat) : Int) then
   if 0 ≤ x2.2.1 ∧ x2.2.1 < ((r1.1.1.length : Nat) : Int) then
   if ((abb r1.1.1 x2.2.1).op) ≠ 1 then
   if (((x2.1.length + ([abb r1.1.1 x2.2.1] : List Ins).length : Nat)) : Int) < 1000000000000 then
   self4 (x2.1 ++ ([abb r1.1.1 x2.2.1]), wi (x2.2.1 + 1), ())
   else none
   else
   self4 (x2.1, wi (x2.2.1 + 1), ())
   else none
  else
  some (x2.1, x2.2.1, ())
 ) 18446744073709551616 ([], 0, ())).bind fun z3 =>
 (abt y0).bind fun r5 =>
 (abl r5.1.1 z3.1 (wi (1 + (wi ((Int.tmod y2 3)))))).bind fun r6 =>
 (aa4 r6.1.1).bind fun r7 =>
 (ajj 0 0).bind fun r8 =>
 (adG).bind fun r9 =>
 if (!r9.1.1) = true then
  some ((false, ()), (()))
 else
 if (!r7.1.2.1) = true then
  some ((false, ()), (()))
 else
 if (SR1.spl r8.1.1).isNone = true then
  some ((false, ()), (()))
 else
 (aih r6.1.1).bind fun r10 =>
 if r10.1.1 ≠ 0 then
  some ((false, ()), (()))
 else
 (lpF (σ := Int × EnvP × MV × Unit) (β := (Int × EnvP × MV × Unit) ⊕ ((Bool × Unit) × (Unit))) (fun self13 x11 =>
  if x11.1 < 1000 then
   (alt x11.2.2.1 x11.2.1).bind fun r14 =>
   if (!r14.1.1) = true then
   (abP r14.2.1).bind fun r15 =>
   if ((r15.1.1.length : Nat) : Int) = 0 then
   Option.map Sum.inr (
   some ((false, ()), (()))
   )
   else
   self13 (wi (x11.1 + 1), r14.2.2.1, r15.2.1, ())
   else
   some (Sum.inl (x11.1, r14.2.2.1, r14.2.1, ()))
  else
  some (Sum.inl (x11.1, x11.2.1, x11.2.2.1, ()))
 ) 18446744073709551616 (0, r7.1.1, r8.1.1, ())).bind fun z12 => match z12 with
 | .inr o16 => some o16
 | .inl z12 =>
 (alc z12.2.2.1).bind fun r17 =>
 if (((([(⟨1, 1, 0, 0, 0⟩ : Ev)] : List Ev).length + z12.2.1.evs.length : Nat)) : Int) < 1000000000000 then
  (ab1 ({ r6.1.1 with subs := [(⟨0, 0, 0⟩ : Sub)] } : Cfg) (([(⟨1, 1, 0, 0, 0⟩ : Ev)]) ++ z12.2.1.evs)).bind fun r18 =>
  if r17.1.1 ≠ 0 then
   some ((false, ()), (()))
  else
  (abP r17.2.1).bind fun r19 =>
  if ((r19.1.1.length : Nat) : Int) ≠ 0 then
   some ((false, ()), (()))
  else
  if r18.1.2.1 ≠ (((([(⟨1, 1, 0, 0, 0⟩ : Ev)]) ++ z12.2.1.evs).length : Nat) : Int) then
   some ((false, ()), (()))
  else
  if ((r18.1.1.length : Nat) : Int) = 0 then
   some ((false, ()), (()))
  else
  ((
   (abO ({ r6.1.1 with subs := [(⟨0, 0, 0⟩ : Sub)] } : Cfg) 0).bind fun r20 =>
   if r20.1.1 < 0 then
   some (0, (z12.2.1.c.workers, z12.2.1.c.levels, z12.2.1.c.classes, z12.2.1.c.tasks, z12.2.1.c.deque, z12.2.1.c.heap, z12.2.1.c.batch, z12.2.1.c.age, z12.2.1.c.patience, z12.2.1.c.progs, z12.2.1.c.subs, z12.2.1.l.workers, z12.2.1.l.levels, z12.2.1.l.classes, z12.2.1.l.tasks, z12.2.1.l.deque, z12.2.1.l.heap, z12.2.1.l.sleepers, z12.2.1.l.epochs, z12.2.1.l.bitmaps, z12.2.1.l.queues, z12.2.1.l.table, z12.2.1.m, z12.2.1.k, z12.2.1.recs, ()), ())
   else
   if ((z12.2.1.m.cells.length : Nat) : Int) ≤ r20.1.1 then
   some (0, (z12.2.1.c.workers, z12.2.1.c.levels, z12.2.1.c.classes, z12.2.1.c.tasks, z12.2.1.c.deque, z12.2.1.c.heap, z12.2.1.c.batch, z12.2.1.c.age, z12.2.1.c.patience, z12.2.1.c.progs, z12.2.1.c.subs, z12.2.1.l.workers, z12.2.1.l.levels, z12.2.1.l.classes, z12.2.1.l.tasks, z12.2.1.l.deque, z12.2.1.l.heap, z12.2.1.l.sleepers, z12.2.1.l.epochs, z12.2.1.l.bitmaps, z12.2.1.l.queues, z12.2.1.l.table, z12.2.1.m, z12.2.1.k, z12.2.1.recs, ()), ())
   else
   if 0 ≤ r20.1.1 ∧ r20.1.1 < ((z12.2.1.m.cells.length : Nat) : Int) then
   some (afD z12.2.1.m.cells r20.1.1, (z12.2.1.c.workers, z12.2.1.c.levels, z12.2.1.c.classes, z12.2.1.c.tasks, z12.2.1.c.deque, z12.2.1.c.heap, z12.2.1.c.batch, z12.2.1.c.age, z12.2.1.c.patience, z12.2.1.c.progs, z12.2.1.c.subs, z12.2.1.l.workers, z12.2.1.l.levels, z12.2.1.l.classes, z12.2.1.l.tasks, z12.2.1.l.deque, z12.2.1.l.heap, z12.2.1.l.sleepers, z12.2.1.l.epochs, z12.2.1.l.bitmaps, z12.2.1.l.queues, z12.2.1.l.table, z12.2.1.m, z12.2.1.k, z12.2.1.recs, ()), ())
   else none
  ) : Option (Int × (Int × Int × Int × Int × Int × Int × Int × Int × Int × List (List Ins) × List Sub × Int × Int × Int × Int × Int × Int × Int × Int × Int × Int × Int × MemV × ClkV × List RecP × Unit) × Unit)).bind fun z21 =>
  if z21.1 = 4 then
   if 0 ≤ (0 : Int) ∧ (0 : Int) < ((r18.1.1.length : Nat) : Int) then
   if (aaf r18.1.1 0) = 4 then
   some ((true, ()), (()))
   else
   if z21.1 = 3 then
   if 0 ≤ (0 : Int) ∧ (0 : Int) < ((r18.1.1.length : Nat) : Int) then
   some ((decide ((aaf r18.1.1 0) = 3), ()), (()))
   else none
   else
   some ((false, ()), (()))
   else none
  else
  if z21.1 = 3 then
   if 0 ≤ (0 : Int) ∧ (0 : Int) < ((r18.1.1.length : Nat) : Int) then
   some ((decide ((aaf r18.1.1 0) = 3), ()), (()))
   else none
  else
  some ((false, ()), (()))
 else none
noncomputable abbrev afk : Con SR1 := ⟨4, [.sh (.ro 17), .sh (.ro 17), .sh (.i .u8)], [.sh .b], fun x => ab7 x.1 x.2.1 x.2.2.1⟩
noncomputable def aeU : List (Nat × Func) := [(15, Tryz.f15)]
theorem aeV : CO Tryz.prog afk := aas aar Tryz.func4 [adR, acY, acZ, aiN, aet, akc, anr, agW, aj9, aeN, acW] ⟨agh, ad6, ad7, akE, ahv, alF, aoo, amF, alB, ahG, ad3, trivial⟩ aeU ⟨Tryz.func15, trivial⟩ (fun _ => []) [(3, .loop [.rg 7 (.row 3), .rg 24 sI_] 18446744073709551616 0), (14, .loopR [.rg 14 sI_, .rg 11 (.own 27), .ma 21] 18446744073709551616 2), (25, .cut [.rg 20 sU_, .cx 25 [.inl sI_, .inl sI_, .inl sI_, .inl sI_, .inl sI_, .inl sI_, .inl sI_, .inl sI_, .inl sI_, .inl (.rr 3), .inl (.ro 4), .inl sI_, .inl sI_, .inl sI_, .inl sI_, .inl sI_, .inl sI_, .inl sI_, .inl sI_, .inl sI_, .inl sI_, .inl sI_, .inl (.own 9), .inl (.own 25), .inl (.row 26), .inr (.sl 30)]] [0, 1, 3, 4, 6, 16, 17, 18, 21, 28, 30, 31, 32, 34])] fun x => by kernel_rfl
end
section
open Go Go.RowKit
set_option maxRecDepth 1000000
variable [Tb]
theorem anj {l : List Int} (hl : ∀ x ∈ l, 0 ≤ x ∧ x ≤ 255) : abi (abt l) fun o => apo o.1.1 := by
  unfold abt
  refine abi.bind (P := fun z => apo z.1) (af6 (fun x => x.2.1 = (x.1.length : Int) ∧ apo x.1) (fun x => 7 - x.1.length) (fun self x ⟨q0, q1, q2⟩ ih => ?_) _ _ ⟨rfl, Nat.zero_le _, fun y hy => by cases hy⟩ (by show 7 - 0 < _; decide)) fun z hz => .some_ hz
  have e1 : wi (x.2.1 + 1) = x.2.1 + 1 := acp (abc (by omega))
  rw [e1]
  refine abi.ite (fun h1 => abi.ite (fun h6 => ?_) fun _ => .some_ ⟨q1, q2⟩) fun _ => .some_ ⟨q1, q2⟩
  have hin : 0 ≤ x.2.1 ∧ x.2.1 < ((l.length : Nat) : Int) := ⟨by omega, h1⟩
  have nx : ∀ u : Ins, ((u.op = 0 ∧ (1 ≤ u.a ∧ u.a ≤ 4) ∧ u.b = 0) ∨ (u.op = 1 ∧ u.a = 1 ∧ (u.b = 0 ∨ u.b = 1)) ∨ (u.op = 2 ∧ (0 ≤ u.a ∧ u.a ≤ 2) ∧ u.b = 0)) → abi (self (x.1 ++ [u], x.2.1 + 1, ())) fun z => apo z.1 := fun u hu =>
    ih _ ⟨by show x.2.1 + 1 = _; rw [List.length_append, List.length_singleton]; omega, by rw [List.length_append, List.length_singleton]; omega, fun y hy => by
      rcases List.mem_append.1 hy with h | h
      · exact q2 y h
      · rw [List.mem_singleton] at h; subst h; exact hu⟩ (by show 7 - (x.1 ++ [u]).length < 7 - x.1.length; rw [List.length_append, List.length_singleton]; omega)
  have hg : ∀ u : Ins, (((x.1.length + ([u] : List Ins).length : Nat)) : Int) < 1000000000000 := fun u => by rw [List.length_singleton]; omega
  have hb := hl _ (avo (d := dfR 17) hin)
  have hb : 0 ≤ agM l x.2.1 ∧ agM l x.2.1 ≤ 255 := hb
  generalize agM l x.2.1 = v at hb
  have t1 : 0 ≤ Int.tdiv v 3 := Int.tdiv_nonneg hb.1 (by decide)
  have t2 : Int.tdiv v 3 ≤ v := Int.tdiv_le_self 3 hb.1
  have w1 : IntKind.u8.wrap (Int.tdiv v 3) = Int.tdiv v 3 := by
    show Int.emod _ 256 = _
    exact Int.emod_eq_of_lt t1 (by omega)
  have m3 := aj3 (a := v) (b := 3) (by decide) hb.1
  have d4 := aj3 (a := Int.tdiv v 3) (b := 4) (by decide) t1
  have d3 := aj3 (a := Int.tdiv v 3) (b := 3) (by decide) t1
  have d2 := aj3 (a := Int.tdiv v 3) (b := 2) (by decide) t1
  have e3 : wi (Int.tmod v 3) = Int.tmod v 3 := acp (abc (by omega))
  have f4 : wi (1 + wi (Int.tmod (Int.tdiv v 3) 4)) = 1 + Int.tmod (Int.tdiv v 3) 4 := by
    rw [acp (x := Int.tmod (Int.tdiv v 3) 4) (abc (by omega)), acp (abc (by omega))]
  have f3 : wi (Int.tmod (Int.tdiv v 3) 3) = Int.tmod (Int.tdiv v 3) 3 := acp (abc (by omega))
  have f2 : wi (Int.tmod (Int.tdiv v 3) 2) = Int.tmod (Int.tdiv v 3) 2 := acp (abc (by omega))
  rw [w1, e3, f4, f3, f2]
  generalize Int.tmod v 3 = a at m3
  generalize Int.tmod (Int.tdiv v 3) 4 = b4 at d4
  generalize Int.tmod (Int.tdiv v 3) 3 = b3 at d3
  generalize Int.tmod (Int.tdiv v 3) 2 = b2 at d2
  refine abi.guard hin fun _ => abi.ite (fun h0 => abi.guard hin fun _ => abi.guard (hg _) fun _ => nx _ (.inl ⟨h0, (by show 1 ≤ 1 + b4 ∧ 1 + b4 ≤ 4; omega), rfl⟩)) fun h0 => ?_
  refine abi.ite (fun hs => abi.guard hin fun _ => abi.guard rfl fun _ => abi.guard (hg _) fun _ => nx _ (.inr (.inl ⟨hs, rfl, (by show b2 = 0 ∨ b2 = 1; omega)⟩))) fun hs => abi.guard hin fun _ => abi.guard (hg _) fun _ => nx _ (.inr (.inr ⟨(by show a = 2; omega), (by show 0 ≤ b3 ∧ b3 ≤ 2; omega), rfl⟩))
theorem amx {c : Cfg} {p q : List Ins} {d : Nat} {ss : List Sub} (hc : c = ⟨1, 2, 1, 12, (d : Int), 1, 1, 0, 1, [p, q], ss⟩) (hs : ss = [] ∨ ss = [⟨0, 0, 0⟩]) (hd : d = 1 ∨ d = 2 ∨ d = 3) (hp : apo p) (hq : av1 q) : ab5 c = 0 := by
  have h1 : p.all (ahx 2 2) = true := List.all_eq_true.2 fun x hx => by
    unfold ahx
    rcases hp.2 x hx with ⟨a, b, c⟩ | ⟨a, b, c⟩ | ⟨a, b, c⟩
    · rw [if_pos a]
      simp only [inB, c, Bool.and_eq_true, decide_eq_true_eq, beq_self_eq_true, and_true]
      omega
    · rw [if_neg (by omega), if_pos a]
      simp only [inB, Bool.and_eq_true, decide_eq_true_eq]
      omega
    · rw [if_neg (by omega), if_neg (by omega), if_pos a]
      simp only [inB, c, Bool.and_eq_true, decide_eq_true_eq, beq_self_eq_true, and_true]
      omega
  have h2 : q.all (ahx 2 2) = true := List.all_eq_true.2 fun x hx => by
    unfold ahx
    rcases hq.2 x hx with ⟨a, b, c⟩ | ⟨a, b, c⟩
    · rw [if_pos a]
      simp only [inB, c, Bool.and_eq_true, decide_eq_true_eq, beq_self_eq_true, and_true]
      omega
    · rw [if_neg (by omega), if_neg (by omega), if_pos a]
      simp only [inB, c, Bool.and_eq_true, decide_eq_true_eq, beq_self_eq_true, and_true]
      omega
  have l1 := hp.1
  have l2 := hq.1
  have h3 : aaO 2 2 [p, q] = 0 := by
    have h3 : aaO 2 2 [q] = 0 := by
      unfold aaO
      rw [if_neg (by omega), if_pos h2]
      rfl
    unfold aaO
    rw [if_neg (by omega), if_pos h1]
    exact h3
  subst hc
  have h4 : abR ⟨1, 2, 1, 12, (d : Int), 1, 1, 0, 1, [p, q], ss⟩ = 0 := by
    show (if !inB (2 : Int) 1 32 then 2 else aaO 2 2 [p, q]) = 0
    rw [h3]; rfl
  show (if !ahn ⟨1, 2, 1, 12, (d : Int), 1, 1, 0, 1, [p, q], ss⟩ then 1 else if abR ⟨1, 2, 1, 12, (d : Int), 1, 1, 0, 1, [p, q], ss⟩ ≠ 0 then abR ⟨1, 2, 1, 12, (d : Int), 1, 1, 0, 1, [p, q], ss⟩ else adH ⟨1, 2, 1, 12, (d : Int), 1, 1, 0, 1, [p, q], ss⟩) = 0
  rw [h4]
  rcases hs with rfl | rfl <;> rcases hd with rfl | rfl | rfl <;> rfl
def azi (p q : List Ins) (d : Nat) : EnvP := ⟨ai3 p q (d : Int), ajO d, ⟨[1] ++ List.replicate (11 + 2 * d) 0 ++ [2] ++ List.replicate 59 0, ⟨3, 12 + 2 * (d : Int), 1, 2⟩, 5⟩, ⟨0, 0⟩, ⟨0, -1, 0, 0, -1, [], true⟩ :: List.replicate 11 ⟨0, -1, 0, 0, -1, [], false⟩, [⟨5, 0, 0, 0, 0⟩]⟩
section
variable {p q : List Ins} {d : Nat}
theorem aqp (hd : d = 1 ∨ d = 2 ∨ d = 3) : abl p q (d : Int) = some ((ai3 p q (d : Int), ()), ()) := by
  rcases hd with rfl | rfl | rfl <;> (show _ = _; kernel_rfl)
theorem aqq (hd : d = 1 ∨ d = 2 ∨ d = 3) (h : ab5 (ai3 p q (d : Int)) = 0) : aa4 (ai3 p q (d : Int)) = some ((azi p q d, true, ()), ()) := by
  unfold aa4
  rw [ay1 h, abM]
  clear h
  rcases hd with rfl | rfl | rfl <;> (show _ = _; kernel_rfl)
theorem aqr : adG = some ((true, ()), ()) := by kernel_rfl
theorem aqn (hd : d = 1 ∨ d = 2 ∨ d = 3) : abO (cJ p q (d : Int)) 0 = some ((TA d, ()), ()) := by
  rcases hd with rfl | rfl | rfl <;> (show _ = _; kernel_rfl)
theorem aAc {e : EnvP} (h : ∀ x ∈ e.m.cells, 0 ≤ x) (a : Int) : 0 ≤ e.gt a := by
  show 0 ≤ e.m.gt a
  unfold MemV.gt
  split
  · rename_i ha; exact h _ (avo (d := dfR 0) ha)
  · exact Int.le_refl _
theorem avs (hd : d = 1 ∨ d = 2 ∨ d = 3) : FA d 0 (fun t => if t = 0 then 2 else 0) (fun _ => 0) (fun _ => 0) (fun _ => 0) (azi p q d) := by
  refine ⟨hd, ?_, rfl, rfl, aAc fun x hx => ?_, ?_, ?_, fun t ht => ?_, fun t ht => ?_, fun t ht => ?_, fun t ht => ?_⟩
  · rcases hd with rfl | rfl | rfl <;> rfl
  · have hx : x ∈ [1] ++ List.replicate (11 + 2 * d) 0 ++ [2] ++ List.replicate 59 0 := hx
    simp only [List.mem_append, List.mem_singleton, List.mem_replicate] at hx
    omega
  · rcases hd with rfl | rfl | rfl <;> (show _ = _; kernel_rfl)
  · rcases hd with rfl | rfl | rfl <;> (show _ = _; kernel_rfl)
  all_goals rcases hd with rfl | rfl | rfl <;> rcases t with _ | _ | _ | _ | _ | _ | _ | _ | _ | _ | _ | _ | t
  all_goals first | exact absurd ht (by omega) | (clear ht; show _ = _; kernel_rfl)
theorem avq (hd : d = 1 ∨ d = 2 ∨ d = 3) : PA p q d (azv 0) (azi p q d) (muN p 0 0) := by
  obtain ⟨s0, h1, h2⟩ := ave p q (d : Int)
  refine PA.next (k := 0) (ks := []) (pc := 0) (left := 0) (m := 0) ⟨avs hd, rfl, rfl, fun i u hu => (by cases hu), fun _ _ _ => rfl, rfl, rfl, fun _ _ => ⟨Int.le_refl _, by decide⟩, fun _ _ _ => rfl⟩ ⟨Nat.zero_le _, .inl rfl⟩ (Nat.le_refl _) .nil rfl ⟨s0, h1, h2⟩
theorem avr (hd : d = 1 ∨ d = 2 ∨ d = 3) : EOk 1 (azi p q d) := by
  refine ⟨?_, ?_, ?_, ?_, Nat.le_refl _, fun r hr => ?_⟩
  · show 0 ≤ (d : Int) ∧ (d : Int) ≤ 65535; omega
  · rfl
  · rfl
  · show (1 : Int) ≤ 1; decide
  · have hr : r ∈ (⟨0, -1, 0, 0, -1, [], true⟩ : RecP) :: List.replicate 11 ⟨0, -1, 0, 0, -1, [], false⟩ := hr
    rcases List.mem_cons.1 hr with rfl | hr
    · exact Nat.zero_le _
    · rw [(List.mem_replicate.1 hr).2]; exact Nat.zero_le _
variable {e : EnvP} {r : RunS} {μ : Nat}
theorem ayx (H : PA p q d r e μ) : e.c = ai3 p q (d : Int) ∧ e.l = ajO d := by
  cases H with
  | next C => exact ⟨C.c, C.f.l⟩
  | s2 _ C => exact ⟨C.c, C.f.l⟩
  | s3 _ _ C => exact ⟨C.c, C.f.l⟩
  | s5 _ C => exact ⟨C.c, C.f.l⟩
  | s4 _ C => exact ⟨C.c, C.f.l⟩
  | kid F _ c => exact ⟨c, F.l⟩
  | kidf F _ c => exact ⟨c, F.l⟩
  | j2 C => exact ⟨C.c, C.f.l⟩
  | j3 C => exact ⟨C.c, C.f.l⟩
  | j4 F c => exact ⟨c, F.l⟩
  | j5 F c => exact ⟨c, F.l⟩
  | j5b F c => exact ⟨c, F.l⟩
  | j6 C => exact ⟨C.c, C.f.l⟩
  | j7 C => exact ⟨C.c, C.f.l⟩
  | f2 C => exact ⟨C.c, C.f.l⟩
theorem awY (H : PA p q d r e μ) : 1 ≤ r.stack.length ∧ r.stack.length ≤ 2 := by
  cases H <;> exact ⟨Nat.le_add_left .., Nat.le_of_ble_eq_true rfl⟩
theorem ayw (H : PA p q d r e μ) : SOk r.stack := ⟨fun h => by have := (awY H).1; rw [h] at this; exact absurd this (by decide), by have := (awY H).2; omega⟩
end
theorem axe {x : RunV MV} (h : ogS x = ⟨true, 0, 0⟩) : x.o = ⟨true, 0, 0⟩ ∧ x.stack = [] := by
  unfold ogS at h
  by_cases h4 : x.o.code = 4
  · rw [if_pos h4] at h
    rw [h] at h4
    exact absurd h4 (by decide)
  · rw [if_neg h4] at h
    by_cases hs : x.stack.isEmpty = true
    · rw [if_pos hs] at h
      exact ⟨h, List.isEmpty_iff.1 hs⟩
    · rw [if_neg hs] at h
      cases h
theorem apn {c : Cfg} {l : List Ev} {s0 s : SaV} (hc : ab5 c = 0) (h1 : abj c = some ((s0, ()), ())) (h2 : afM l s0 = some s) (hl : l.length ≤ 1000000000) (ht : s.tasks.length ≤ 1000000) : abi (acf c l) fun o => o.1.1 = s.tasks.map (·.view) ∧ o.1.2.1 = (l.length : Int) := by
  have hat : ∀ i : Nat, (h : i < l.length) → ax5 l (i : Int) = l[i] := fun i h => by
    have a1 := aej (d := (dfR 2 : Ev)) (xs := l) (i := (i : Int)) ⟨by omega, Int.ofNat_lt.2 h⟩
    have a2 : l[((i : Nat) : Int).toNat]? = some l[i] := by simp [h]
    exact Option.some.inj (a1.symm.trans a2)
  have fst : ∀ (i : Nat) (x : SaV), (h : i < l.length) → afM (l.drop i) x = some s → ∃ x', aal x l[i] = some ((true, ()), (x', ())) ∧ afM (l.drop (i + 1)) x' = some s := fun i x h hf => by
    rw [List.drop_eq_getElem_cons h] at hf
    have hf : ((aal x l[i]).bind fun o => if o.1.1 = true then afM (l.drop (i + 1)) o.2.1 else none) = some s := hf
    cases hd : aal x l[i] with
    | none => rw [hd] at hf; cases hf
    | some o =>
      rw [hd, abM] at hf
      by_cases ho : o.1.1 = true
      · rw [if_pos ho] at hf
        obtain ⟨⟨b, u⟩, x', u'⟩ := o
        obtain rfl : b = true := ho
        exact ⟨x', rfl, hf⟩
      · rw [if_neg ho] at hf; cases hf
  unfold acf aih
  rw [hc, abM]
  refine abi.ite (fun h => absurd rfl h) fun _ => ?_
  rw [h1, abM]
  refine abi.bind (P := fun z => z.1 = (l.length : Int) ∧ z.2.1 = 0) (af6 (fun x => x.1 = (l.length : Int) ∧ x.2.1 = 0 ∧ ∃ i : Nat, x.2.2.1 = (i : Int) ∧ i ≤ l.length ∧ afM (l.drop i) x.2.2.2.1 = some s) (fun x => ((l.length : Int) - x.2.2.1).toNat) (fun self x ⟨q0, q1, i, q2, q3, q4⟩ ih => ?_) _ _ ⟨rfl, rfl, 0, rfl, Nat.zero_le _, (by show afM (l.drop 0) s0 = some s; rw [List.drop_zero]; exact h2)⟩ (by show ((l.length : Int) - 0).toNat < _; omega)) fun z4 ⟨hz1, hz2⟩ => ?_
  rotate_left
  · obtain ⟨x1, x2, x3, x4, u⟩ := x
    obtain rfl : x3 = (i : Int) := q2
    have q4 : afM (l.drop i) x4 = some s := q4
    have e1 : wi ((i : Int) + 1) = ((i + 1 : Nat) : Int) := acp (abc (by omega))
    refine abi.ite (fun h => ?_) fun _ => .some_ ⟨q0, q1⟩
    have hi : i < l.length := Int.ofNat_lt.1 h
    refine abi.guard ⟨by show (0 : Int) ≤ (i : Int); omega, h⟩ fun _ => ?_
    obtain ⟨x', d1, d2⟩ := fst i x4 hi q4
    show abi ((aal x4 (ax5 l (i : Int))).bind _) _
    rw [hat i hi, d1, abM]
    refine abi.ite (fun h => by cases h) fun _ => ?_
    show abi (self (x1, x2, wi ((i : Int) + 1), x', ())) _
    rw [e1]
    exact ih _ ⟨q0, q1, i + 1, rfl, hi, d2⟩ (by show ((l.length : Int) - ((i + 1 : Nat) : Int)).toNat < ((l.length : Int) - (i : Int)).toNat; omega)
  rw [abM, hz1]
  refine abi.bind (P := fun z => z.2.1 = s) (af6 (fun x => ∃ i : Nat, x.1 = (i : Int) ∧ i ≤ l.length ∧ afM (l.drop i) x.2.1 = some s) (fun x => ((l.length : Int) - x.1).toNat) (fun self x ⟨i, q2, q3, q4⟩ ih => ?_) _ _ ⟨0, rfl, Nat.zero_le _, (by show afM (l.drop 0) s0 = some s; rw [List.drop_zero]; exact h2)⟩ (by show ((l.length : Int) - 0).toNat < _; omega)) fun z9 hz9 => ?_
  rotate_left
  · obtain ⟨x3, x4, u⟩ := x
    obtain rfl : x3 = (i : Int) := q2
    have q4 : afM (l.drop i) x4 = some s := q4
    have e1 : wi ((i : Int) + 1) = ((i + 1 : Nat) : Int) := acp (abc (by omega))
    refine abi.ite (fun h => ?_) fun h => .some_ ?_
    · have hi : i < l.length := Int.ofNat_lt.1 h
      refine abi.guard ⟨by show (0 : Int) ≤ (i : Int); omega, h⟩ fun _ => ?_
      obtain ⟨x', d1, d2⟩ := fst i x4 hi q4
      show abi ((aal x4 (ax5 l (i : Int))).bind _) _
      rw [hat i hi, d1, abM]
      show abi (self (wi ((i : Int) + 1), x', ())) _
      rw [e1]
      exact ih _ ⟨i + 1, rfl, hi, d2⟩ (by show ((l.length : Int) - ((i + 1 : Nat) : Int)).toNat < ((l.length : Int) - (i : Int)).toNat; omega)
    · have h : ¬ (i : Int) < ((l.length : Nat) : Int) := h
      obtain rfl : i = l.length := by omega
      rw [List.drop_length] at q4
      exact Option.some.inj q4
  rw [hz9]
  refine abi.bind (P := fun z => z.1 = s.tasks.map (·.view)) (af6 (fun x => ∃ i : Nat, x.2.1 = (i : Int) ∧ i ≤ s.tasks.length ∧ x.2.2.1 = s ∧ x.1 = (s.tasks.take i).map (·.view)) (fun x => ((s.tasks.length : Int) - x.2.1).toNat) (fun self x ⟨i, q2, q3, q4, q5⟩ ih => ?_) _ _ ⟨0, rfl, Nat.zero_le _, rfl, rfl⟩ (by show ((s.tasks.length : Int) - 0).toNat < _; omega)) fun z13 hz13 => .some_ ⟨hz13, rfl⟩
  obtain ⟨x1, x2, x3, u⟩ := x
  obtain rfl : x2 = (i : Int) := q2
  obtain rfl : x3 = s := q4
  obtain rfl : x1 = (x3.tasks.take i).map (·.view) := q5
  have e1 : wi ((i : Int) + 1) = ((i + 1 : Nat) : Int) := acp (abc (by omega))
  refine abi.ite (fun h => ?_) fun h => .some_ ?_
  · have hi : i < x3.tasks.length := Int.ofNat_lt.1 h
    have ha : aaa x3.tasks (i : Int) = x3.tasks[i] := by
      have a1 := aej (d := (dfR 63 : TkV)) (xs := x3.tasks) (i := (i : Int)) ⟨by omega, Int.ofNat_lt.2 hi⟩
      have a2 : x3.tasks[((i : Nat) : Int).toNat]? = some x3.tasks[i] := by simp [hi]
      exact Option.some.inj (a1.symm.trans a2)
    refine abi.guard ⟨by show (0 : Int) ≤ (i : Int); omega, h⟩ fun _ => abi.guard ?_ fun _ => ?_
    · show (((List.map _ (x3.tasks.take i)).length + 1 : Nat) : Int) < _
      rw [List.length_map, List.length_take]; omega
    · show abi (self ((x3.tasks.take i).map (·.view) ++ [(aaa x3.tasks (i : Int)).view], wi ((i : Int) + 1), x3, ())) _
      rw [e1, ha]
      refine ih _ ⟨i + 1, rfl, hi, rfl, ?_⟩ (by show ((x3.tasks.length : Int) - ((i + 1 : Nat) : Int)).toNat < ((x3.tasks.length : Int) - (i : Int)).toNat; omega)
      show (x3.tasks.take i).map (·.view) ++ [(x3.tasks[i]).view] = _
      rw [List.take_add_one, List.getElem?_eq_getElem hi, List.map_append]
      rfl
  · have h : ¬ (i : Int) < ((x3.tasks.length : Nat) : Int) := h
    obtain rfl : i = x3.tasks.length := by omega
    show (x3.tasks.take x3.tasks.length).map (·.view) = _
    rw [List.take_length]
theorem aqo {c : Cfg} {l : List Ev} {s0 s : SaV} {ph : Int} {tk : TkV} {ts : List TkV} (hc : ab5 c = 0) (h1 : abj c = some ((s0, ()), ())) (h2 : afM l s0 = some s) (hl : l.length ≤ 1000000000) (ht : s.tasks.length ≤ 1000000) (hs : s.tasks = tk :: ts) (hp : tk.view.phase = ph) : abi (ab1 c l) fun o => o.1.2.1 = (l.length : Int) ∧ 0 < o.1.1.length ∧ aaf o.1.1 0 = ph := by
  unfold ab1
  refine (apn hc h1 h2 hl ht).bind fun r1 ⟨r2, r3⟩ => ?_
  obtain ⟨⟨vs, n, er, u⟩, u'⟩ := r1
  obtain rfl : vs = s.tasks.map (·.view) := r2
  obtain rfl : n = (l.length : Int) := r3
  refine abi.bind (P := fun z => 0 < z.1.length ∧ aaf z.1 0 = ph) (af6 (fun x => ∃ i : Nat, x.2.1 = (i : Int) ∧ i ≤ s.tasks.length ∧ x.1.length = i ∧ (0 < i → aaf x.1 0 = ph)) (fun x => ((s.tasks.length : Int) - x.2.1).toNat) (fun self x ⟨i, q2, q3, q4, q5⟩ ih => ?_) _ _ ⟨0, rfl, Nat.zero_le _, rfl, fun h => absurd h (by decide)⟩ (by show ((s.tasks.length : Int) - 0).toNat < _; omega)) fun z hz => .some_ ⟨rfl, hz⟩
  obtain ⟨x1, x2, u2⟩ := x
  obtain rfl : x2 = (i : Int) := q2
  have q4 : x1.length = i := q4
  have q5 : 0 < i → aaf x1 0 = ph := q5
  have e1 : wi ((i : Int) + 1) = ((i + 1 : Nat) : Int) := acp (abc (by omega))
  have hlen : (s.tasks.map (·.view)).length = s.tasks.length := List.length_map ..
  refine abi.ite (fun h => ?_) fun h => .some_ ?_
  · have hi : i < s.tasks.length := by have h : (i : Int) < (((s.tasks.map (·.view)).length : Nat) : Int) := h; rw [hlen] at h; omega
    refine abi.guard ⟨by show (0 : Int) ≤ (i : Int); omega, h⟩ fun _ => abi.guard (by show ((x1.length + 1 : Nat) : Int) < _; omega) fun _ => ?_
    show abi (self (x1 ++ [(avp (s.tasks.map (·.view)) (i : Int)).phase], wi ((i : Int) + 1), ())) _
    rw [e1]
    refine ih _ ⟨i + 1, rfl, hi, by rw [List.length_append, q4]; rfl, fun _ => ?_⟩ (by show ((s.tasks.length : Int) - ((i + 1 : Nat) : Int)).toNat < ((s.tasks.length : Int) - (i : Int)).toNat; omega)
    show ((x1 ++ [(avp (s.tasks.map (·.view)) (i : Int)).phase])[(0 : Int).toNat]?).getD _ = ph
    by_cases h0 : i = 0
    · subst h0
      obtain rfl : x1 = [] := List.eq_nil_of_length_eq_zero q4
      rw [hs]
      exact hp
    · rw [List.getElem?_append_left (by show 0 < _; omega)]
      exact q5 (by omega)
  · have h : ¬ (i : Int) < (((s.tasks.map (·.view)).length : Nat) : Int) := h
    rw [hlen] at h
    have hpos : 0 < s.tasks.length := by rw [hs]; exact Nat.succ_pos _
    exact ⟨by show 0 < x1.length; omega, q5 (by omega)⟩
theorem atZ {l1 l2 : List Int} {v : Int} (hl1 : ∀ x ∈ l1, 0 ≤ x ∧ x ≤ 255) (hl2 : ∀ x ∈ l2, 0 ≤ x ∧ x ≤ 255) (hv : 0 ≤ v ∧ v ≤ 255) : abi (ab7 l1 l2 v) fun o => o.1.1 = true := by
  unfold ab7
  refine (anj hl2).bind fun r1 hr1 => ?_
  refine abi.bind (P := fun z => av1 z.1) (af6 (fun x => (0 ≤ x.2.1 ∧ (x.1.length : Int) ≤ x.2.1 ∧ x.2.1 ≤ (r1.1.1.length : Int)) ∧ ∀ i ∈ x.1, (i.op = 0 ∧ (1 ≤ i.a ∧ i.a ≤ 4) ∧ i.b = 0) ∨ (i.op = 2 ∧ (0 ≤ i.a ∧ i.a ≤ 2) ∧ i.b = 0)) (fun x => ((r1.1.1.length : Int) - x.2.1).toNat) (fun self x ⟨q1, q2⟩ ih => ?_) _ _ ⟨⟨Int.le_refl _, Int.le_refl _, by show (0 : Int) ≤ _; omega⟩, fun i hi => by cases hi⟩ (by have := hr1.1; show ((r1.1.1.length : Int) - 0).toNat < _; omega)) fun z3 hq => ?_
  rotate_left
  · have h6 := hr1.1
    obtain ⟨x1, x2, u⟩ := x
    have q1 : 0 ≤ x2 ∧ (x1.length : Int) ≤ x2 ∧ x2 ≤ (r1.1.1.length : Int) := q1
    have e1 : wi (x2 + 1) = x2 + 1 := acp (abc (by omega))
    refine abi.ite (fun h => ?_) fun _ => .some_ ⟨by show x1.length ≤ 6; omega, q2⟩
    have hin : 0 ≤ x2 ∧ x2 < ((r1.1.1.length : Nat) : Int) := ⟨q1.1, h⟩
    refine abi.guard hin fun _ => abi.ite (fun h1 => abi.guard (by show ((x1.length + 1 : Nat) : Int) < _; omega) fun _ => ?_) fun _ => ?_
    · show abi (self (x1 ++ [abb r1.1.1 x2], wi (x2 + 1), ())) _
      rw [e1]
      refine ih _ ⟨⟨by show 0 ≤ x2 + 1; omega, by show ((x1 ++ [abb r1.1.1 x2]).length : Int) ≤ x2 + 1; rw [List.length_append, List.length_singleton]; omega, by show x2 + 1 ≤ _; omega⟩, fun i hi => ?_⟩ (by show ((r1.1.1.length : Int) - (x2 + 1)).toNat < ((r1.1.1.length : Int) - x2).toNat; omega)
      rcases List.mem_append.1 hi with hi | hi
      · exact q2 i hi
      · rw [List.mem_singleton] at hi
        have hm := hr1.2 _ (avo (d := dfR 3) hin)
        have hm : ((abb r1.1.1 x2).op = 0 ∧ _) ∨ _ := hm
        rw [hi]
        rcases hm with hm | hm | hm
        · exact .inl hm
        · exact absurd hm.1 h1
        · exact .inr hm
    · show abi (self (x1, wi (x2 + 1), ())) _
      rw [e1]
      exact ih _ ⟨⟨by show 0 ≤ x2 + 1; omega, by show (x1.length : Int) ≤ x2 + 1; omega, by show x2 + 1 ≤ _; omega⟩, q2⟩ (by show ((r1.1.1.length : Int) - (x2 + 1)).toNat < ((r1.1.1.length : Int) - x2).toNat; omega)
  obtain ⟨q, zi, zu⟩ := z3
  have hq : av1 q := hq
  refine (anj hl1).bind fun r5 hp => ?_
  obtain ⟨⟨p, u5⟩, u5'⟩ := r5
  have hp : apo p := hp
  have m3 := aj3 (a := v) (b := 3) (by decide) hv.1
  obtain ⟨d, hdv, hd⟩ : ∃ d : Nat, wi (1 + wi (Int.tmod v 3)) = (d : Int) ∧ (d = 1 ∨ d = 2 ∨ d = 3) := by
    refine ⟨(1 + Int.tmod v 3).toNat, ?_, by omega⟩
    rw [acp (x := Int.tmod v 3) (abc (by omega)), acp (abc (by omega))]
    omega
  have hc1 : ab5 (ai3 p q (d : Int)) = 0 := amx rfl (.inl rfl) hd hp hq
  have hc2 : ab5 (cJ p q (d : Int)) = 0 := amx rfl (.inr rfl) hd hp hq
  show abi ((abl p q (wi (1 + wi (Int.tmod v 3)))).bind _) _
  rw [hdv, aqp hd, abM]
  show abi ((aa4 (ai3 p q (d : Int))).bind _) _
  rw [aqq hd hc1, abM]
  show abi (Option.bind (some ((MV.run (aot (ajO d) 0 (azv 0)), ()), ())) _) _
  rw [abM, aqr, abM]
  refine abi.ite (fun k => by cases k) fun _ => abi.ite (fun k => by cases k) fun _ => abi.ite (fun k => by cases k) fun _ => ?_
  show abi ((aih (ai3 p q (d : Int))).bind _) _
  unfold aih
  rw [hc1, abM]
  refine abi.ite (fun k => absurd rfl k) fun _ => ?_
  have hmu : muN p 0 0 ≤ 400 := by
    have := hp.1
    unfold muN; rw [if_pos rfl]; omega
  show abi ((lpF _ 18446744073709551616 (0, azi p q d, MV.run (aot (ajO d) 0 (azv 0)), ())).bind _) _
  refine abi.bind (P := fun z => ∃ i e' x', z = .inl (i, e', MV.run x', ()) ∧ ogS x' = ⟨true, 0, 0⟩ ∧ aAT p q d e' ∧ e'.evs.length ≤ 1000000) (af6 (fun x => 0 ≤ x.1 ∧ ∃ (r : RunS) (μ K : Nat), x.2.2.1 = .run (aot (ajO d) 0 r) ∧ PA p q d r x.2.1 μ ∧ EOk K x.2.1 ∧ 1 ≤ K ∧ (K : Int) ≤ 1 + 3 * x.1 ∧ x.1 + (μ : Int) ≤ 400) (fun x => (1000 - x.1).toNat) (fun self x ⟨q0, r, μ, K, q1, q2, q3, q4, q5, q6⟩ ih => ?_) _ _ ⟨Int.le_refl _, azv 0, muN p 0 0, 1, rfl, avq hd, avr hd, Nat.le_refl _, by show (1 : Int) ≤ 1 + 3 * 0; decide, by show (0 : Int) + (muN p 0 0 : Nat) ≤ 400; omega⟩ (by show (1000 - (0 : Int)).toNat < _; decide)) fun z12 ⟨i, e', x', hz, ho, hE, hev⟩ => ?_
  rotate_left
  · obtain ⟨i, e, w, u⟩ := x
    have q0 : 0 ≤ i := q0
    have q5 : (K : Int) ≤ 1 + 3 * i := q5
    have q6 : i + μ ≤ 400 := q6
    obtain rfl : w = .run (aot (ajO d) 0 r) := q1
    have q2 : PA p q d r e μ := q2
    have q3 : EOk K e := q3
    have e1 : wi (i + 1) = i + 1 := acp (abc (by omega))
    refine abi.ite (fun _ => ?_) fun h => absurd (show i < 1000 by omega) h
    show abi ((alt (.run (aot (ajO d) 0 r)) e).bind _) _
    have hsim := awJ (w := 0) q3 (by omega) r (ayw q2)
    have hnx := q3.step (aym (w := 0) q3 r)
    rw [(ayx q2).2] at hsim
    rcases awX hp hq q2 with ⟨r', e', μ', h1, h2, h3⟩ | ⟨e', h1, h2⟩
    · rw [h1] at hsim hnx
      have hsim : aaU (aot (ajO d) 0 r) e = some ((false, ()), (aot (ajO d) 0 r', e', ())) := hsim
      have hsd : alt (.run (aot (ajO d) 0 r)) e = some ((false, ()), (.run (aot (ajO d) 0 r'), e', ())) := by
        show (aaU _ _).bind _ = _
        rw [hsim]; rfl
      have hst := awY h3
      have hrs : abP (.run (aot (ajO d) 0 r')) = some ((r'.stack, ()), (.run (aot (ajO d) 0 r'), ())) := by
        unfold abP
        rw [if_pos (by show r'.stack.length ≤ 1000000; omega)]
        rfl
      rw [hsd, abM]
      refine abi.ite (fun _ => ?_) fun h => absurd rfl h
      show abi ((abP (.run (aot (ajO d) 0 r'))).bind _) _
      rw [hrs, abM]
      refine abi.ite (fun h => absurd h (by show ¬ ((r'.stack.length : Nat) : Int) = 0; omega)) fun _ => ?_
      show abi (self (wi (i + 1), e', .run (aot (ajO d) 0 r'), ())) _
      rw [e1]
      exact ih _ ⟨by show 0 ≤ i + 1; omega, r', μ', K + 2 + 1, rfl, h3, hnx, by omega, by show ((K + 2 + 1 : Nat) : Int) ≤ 1 + 3 * (i + 1); omega, by show i + 1 + (μ' : Int) ≤ 400; omega⟩ (by show (1000 - (i + 1)).toNat < (1000 - i).toNat; omega)
    · rw [h1] at hsim hnx
      obtain ⟨x', hx1, hx2⟩ := hsim
      have hsd : alt (.run (aot (ajO d) 0 r)) e = some ((true, ()), (.run x', e', ())) := by
        show (aaU _ _).bind _ = _
        rw [hx1]; rfl
      rw [hsd, abM]
      refine abi.ite (fun h => by cases h) fun _ => .some_ ⟨i, e', x', rfl, hx2, h2, ?_⟩
      have := hnx.ev
      show e'.evs.length ≤ 1000000
      have : e'.evs.length ≤ K + 2 + 1 := this
      omega
  subst hz
  obtain ⟨xo, xs⟩ := axe ho
  obtain ⟨c1, c2, c3, z, ph, wk, ot, pc, kids, ks, w, hz34, hg, hph, hks, s0, f1, f2⟩ := hE
  subst hph
  show abi (Option.bind (some ((x'.o.code, x'.o.value, ()), (MV.run x', ()))) _) _
  rw [abM]
  refine abi.guard (by show ((1 + e'.evs.length : Nat) : Int) < _; omega) fun _ => ?_
  show abi ((ab1 (cJ p q (d : Int)) (⟨1, 1, 0, 0, 0⟩ :: e'.evs)).bind _) _
  refine (aqo hc2 f1 f2 (by show e'.evs.length + 1 ≤ _; omega) (by show (ks ++ List.replicate (11 - ks.length) tkA).length + 1 ≤ _; rw [List.length_append, List.length_replicate]; omega) rfl (ph := ph) rfl).bind fun r18 ⟨j1, j2, j3⟩ => ?_
  refine abi.ite (fun k => absurd (show x'.o.code = 0 by rw [xo]) k) fun _ => ?_
  have hrs : abP (.run x') = some (([], ()), (.run x', ())) := by
    have hs : aiL (.run x') = [] := xs
    unfold abP
    rw [hs]; rfl
  show abi ((abP (.run x')).bind _) _
  rw [hrs, abM]
  refine abi.ite (fun k => absurd rfl k) fun _ => abi.ite (fun k => absurd j1 k) fun _ => abi.ite (fun k => absurd k (by omega)) fun _ => ?_
  have hT : TA d = 12 + 2 * (d : Int) := rfl
  refine abi.bind (P := fun y => y.1 = ph) ?_ fun y hy => ?_
  · show abi ((abO (cJ p q (d : Int)) 0).bind _) _
    rw [aqn hd, abM]
    refine abi.ite (fun k => absurd k (by show ¬ TA d < 0; omega)) fun _ => abi.ite (fun k => absurd k (by show ¬ ((e'.m.cells.length : Nat) : Int) ≤ TA d; omega)) fun _ => abi.guard (by show 0 ≤ TA d ∧ TA d < ((e'.m.cells.length : Nat) : Int); omega) fun _ => .some_ ?_
    have hg : e'.m.gt (TA d) = ph := hg
    unfold MemV.gt at hg
    rw [if_pos (by omega)] at hg
    exact hg
  · have hin : 0 ≤ (0 : Int) ∧ (0 : Int) < ((r18.1.1.length : Nat) : Int) := by omega
    rcases hz34 with rfl | rfl
    · refine abi.ite (fun k => absurd (hy.symm.trans k) (by decide)) fun _ => abi.ite (fun _ => abi.guard hin fun _ => .some_ ?_) fun k => absurd hy k
      exact decide_eq_true j3
    · exact abi.ite (fun _ => abi.guard hin fun _ => abi.ite (fun _ => .some_ rfl) fun k => absurd j3 k) fun k => absurd hy k
end
end Go.Proofs.YtlcelajkhklkbaaGreat
