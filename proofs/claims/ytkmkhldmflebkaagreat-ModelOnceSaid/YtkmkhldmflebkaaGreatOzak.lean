/- The reference: machines. -/
import Derived.Test.YtkmkhldmflebkaaGreatOzaj
set_option linter.all false
namespace Go.Proofs.YtkmkhldmflebkaaGreat
open Go Go.RowKit
set_option maxRecDepth 100000
variable [Tb]
noncomputable def agv (e : EnvV) (f : FrV) : Option ((ResV × Unit) × (EnvV × FrV × Unit)) :=
 (aid f.u).bind fun r1 =>
 if f.line = 1 then
  (aaz e.m 1 2 0 0).bind fun r2 =>
  if (wi (r2.1.1)) ≤ 0 then
   some (((⟨true,2,0⟩ : ResV),()),(({ e with m := r2.2.1 } : EnvV),({ f with n := wi (r2.1.1) } : FrV),()))
  else
  some (((⟨false,0,0⟩ : ResV),()),(({ e with m := r2.2.1 } : EnvV),({ f with line := wi (f.line + 1),n := wi (r2.1.1) } : FrV),()))
 else
 if f.line = 2 then
  (aeM e.c 0).bind fun r3 =>
  (aaz e.m 1 r3.1.1 0 0).bind fun r4 =>
  some (((⟨false,0,0⟩ : ResV),()),(({ e with m := r4.2.1 } : EnvV),({ f with line := wi (f.line + 1),u := r4.1.1 } : FrV),()))
 else
 if f.line = 3 then
  (aeM e.c (wi (f.n - 1))).bind fun r5 =>
  (aaz e.m 1 r5.1.1 0 0).bind fun r6 =>
  some (((⟨false,0,0⟩ : ResV),()),(({ e with m := r6.2.1 } : EnvV),({ f with line := wi (f.line + 1),v := r6.1.1 } : FrV),()))
 else
 if f.line = 4 then
  (aaz e.m 2 2 (wu (wi (f.n - 1))) 0).bind fun r7 =>
  (aay ({ e with m := r7.2.1 } : EnvV) 13 f.a r1.1.2.2.1 0 0).bind fun r8 =>
  if f.n = 1 then
   some (((⟨true,1,r1.1.2.2.1⟩ : ResV),()),(r8.2.1,f,()))
  else
  if 1 < (wi (f.n - 1)) then
   some (((⟨false,0,0⟩ : ResV),()),(r8.2.1,({ f with line := 5,i := 0 } : FrV),()))
  else
  some (((⟨false,0,0⟩ : ResV),()),(r8.2.1,({ f with line := 8,i := 0 } : FrV),()))
 else
 if f.line = 5 then
  (aeM e.c (wi ((wi (2 * f.i)) + 1))).bind fun r9 =>
  (aaz e.m 1 r9.1.1 0 0).bind fun r10 =>
  if (wi (f.n - 1)) ≤ (wi ((wi (2 * f.i)) + 2)) then
   (abc ({ f with j := wi ((wi (2 * f.i)) + 1),w := r10.1.1 } : FrV)).bind fun r11 =>
   some (((⟨false,0,0⟩ : ResV),()),(({ e with m := r10.2.1 } : EnvV),({ r11.2.1 with line := r11.1.1 } : FrV),()))
  else
  some (((⟨false,0,0⟩ : ResV),()),(({ e with m := r10.2.1 } : EnvV),({ f with line := wi (f.line + 1),j := wi ((wi (2 * f.i)) + 1),w := r10.1.1 } : FrV),()))
 else
 if f.line = 6 then
  (aeM e.c (wi ((wi (2 * f.i)) + 2))).bind fun r12 =>
  (aaz e.m 1 r12.1.1 0 0).bind fun r13 =>
  if r13.1.1 < f.w then
   (abc ({ f with j := wi ((wi (2 * f.i)) + 2),w := r13.1.1 } : FrV)).bind fun r14 =>
   some (((⟨false,0,0⟩ : ResV),()),(({ e with m := r13.2.1 } : EnvV),({ r14.2.1 with line := r14.1.1 } : FrV),()))
  else
  (abc f).bind fun r15 =>
  some (((⟨false,0,0⟩ : ResV),()),(({ e with m := r13.2.1 } : EnvV),({ r15.2.1 with line := r15.1.1 } : FrV),()))
 else
 if f.line = 7 then
  (aeM e.c f.i).bind fun r16 =>
  if f.w = f.w then
   (aaz e.m 2 r16.1.1 f.w 0).bind fun r17 =>
   if (wi ((wi (2 * f.j)) + 1)) < (wi (f.n - 1)) then
   some (((⟨false,0,0⟩ : ResV),()),(({ e with m := r17.2.1 } : EnvV),({ f with line := 5,i := f.j } : FrV),()))
   else
   some (((⟨false,0,0⟩ : ResV),()),(({ e with m := r17.2.1 } : EnvV),({ f with line := 8,i := f.j } : FrV),()))
  else none
 else
 (aeM e.c f.i).bind fun r18 =>
 if f.v = f.v then
  (aaz e.m 2 r18.1.1 f.v 0).bind fun r19 =>
  some (((⟨true,1,r1.1.2.2.1⟩ : ResV),()),(({ e with m := r19.2.1 } : EnvV),f,()))
 else none
noncomputable abbrev ajy : Con SR1 := ⟨119,[.ref 12,.ref 8],[.val 10],fun x =>agv x.1 x.2.1⟩
noncomputable def am0 : List (Nat × Func) := [(114,Tryz.f114),(112,Tryz.f112),(117,Tryz.f117),(161,Tryz.f161)]
theorem am1 : CO Tryz.prog ajy := aaC aaB Tryz.func119 [ajN,acd,akz,aa1,ajz] ⟨anf,abR,alV,aaZ,am2,trivial⟩ am0 ⟨Tryz.func114,Tryz.func112,Tryz.func117,Tryz.func161,trivial⟩ (fun _ =>[]) [] fun x =>by kernel_rfl
noncomputable def akv (e : EnvV) (f : FrV) : Option ((ResV × Unit) × (EnvV × FrV × Unit)) :=
 (acP e.c f.b).bind fun r1 =>
 (aaz e.m 3 r1.1.1 1 2).bind fun r2 =>
 if (!r2.1.2.1) = true then
  (aay ({ e with m := r2.2.1 } : EnvV) 15 f.a f.b 0 0).bind fun r3 =>
  some (((⟨true,4,0⟩ : ResV),()),(r3.2.1,f,()))
 else
 if 0 ≤ f.b ∧ f.b < ((e.recs.length : Nat) : Int) then
  if (aap e.recs f.b).started = true then
   if 0 ≤ f.b ∧ f.b < (((ws7 e.recs f.b).length : Nat) : Int) then
   (aay ({ e with m := r2.2.1,recs := (ws7 e.recs f.b).set f.b.toNat ({ aap (ws7 e.recs f.b) f.b with started := true } : RecV) } : EnvV) 9 f.a f.b 0 0).bind fun r4 =>
   some (((⟨true,1,f.b⟩ : ResV),()),(r4.2.1,f,()))
   else none
  else
  if 0 ≤ f.b ∧ f.b < (((ws7 e.recs f.b).length : Nat) : Int) then
   (aay ({ e with m := r2.2.1,recs := (ws7 e.recs f.b).set f.b.toNat ({ aap (ws7 e.recs f.b) f.b with started := true } : RecV) } : EnvV) 5 f.a f.b 0 0).bind fun r5 =>
   some (((⟨true,1,f.b⟩ : ResV),()),(r5.2.1,f,()))
  else none
 else none
noncomputable abbrev alR : Con SR1 := ⟨163,[.ref 12,.ref 8],[.val 10],fun x =>akv x.1 x.2.1⟩
noncomputable def apy : List (Nat × Func) := [(116,Tryz.f116),(112,Tryz.f112)]
theorem apz : CO Tryz.prog alR := aaC aaB Tryz.func163 [adb,acd,aa1] ⟨acY,abR,aaZ,trivial⟩ apy ⟨Tryz.func116,Tryz.func112,trivial⟩ (fun _ =>[]) [] fun x =>by kernel_rfl
noncomputable def acr (e : EnvV) (f : FrV) : Option ((ResV × Unit) × (EnvV × FrV × Unit)) :=
 if f.kind = 12 then
  (aaz e.m 6 0 1 0).bind fun r1 =>
  if 0 ≤ (wi (r1.1.1)) then
   if (wi (r1.1.1)) < e.c.tasks then
   if (wi (r1.1.1)) < ((e.recs.length : Nat) : Int) then
   some (((⟨true,1,wi (r1.1.1)⟩ : ResV),()),(({ e with m := r1.2.1 } : EnvV),f,()))
   else
   some (((⟨true,3,0⟩ : ResV),()),(({ e with m := r1.2.1 } : EnvV),f,()))
   else
   some (((⟨true,3,0⟩ : ResV),()),(({ e with m := r1.2.1 } : EnvV),f,()))
  else
  some (((⟨true,3,0⟩ : ResV),()),(({ e with m := r1.2.1 } : EnvV),f,()))
 else
 if f.kind = 14 then
  (akv e f).bind fun r2 =>
  some ((r2.1.1,()),(r2.2.1,r2.2.2.1,()))
 else
 if f.kind = 13 then
  if 0 ≤ f.a then
   if f.a < e.c.tasks then
   if ¬ (f.a < ((e.recs.length : Nat) : Int)) then
   some (((⟨true,4,0⟩ : ResV),()),(e,f,()))
   else
   if f.kind = 13 then
   if f.line = 1 then
   (acQ e.c f.a).bind fun r3 =>
   if f.b = f.b then
   (aaz e.m 2 r3.1.1 (wu (f.b)) 0).bind fun r4 =>
   some (((⟨false,0,0⟩ : ResV),()),(({ e with m := r4.2.1 } : EnvV),({ f with line := wi (f.line + 1) } : FrV),()))
   else none
   else
   if f.line = 2 then
   (adZ e.c f.a).bind fun r5 =>
   if e.now = e.now then
   (aaz e.m 2 r5.1.1 (wu (e.now)) 0).bind fun r6 =>
   some (((⟨false,0,0⟩ : ResV),()),(({ e with m := r6.2.1 } : EnvV),({ f with line := wi (f.line + 1) } : FrV),()))
   else none
   else
   (acP e.c f.a).bind fun r7 =>
   (aaz e.m 2 r7.1.1 1 0).bind fun r8 =>
   some (((⟨true,0,0⟩ : ResV),()),(({ e with m := r8.2.1 } : EnvV),f,()))
   else
   if f.line = 1 then
   (adZ e.c f.b).bind fun r9 =>
   if e.now = e.now then
   (aaz e.m 2 r9.1.1 (wu (e.now)) 0).bind fun r10 =>
   some (((⟨false,0,0⟩ : ResV),()),(({ e with m := r10.2.1 } : EnvV),({ f with line := wi (f.line + 1) } : FrV),()))
   else none
   else
   if f.line = 2 then
   (acP e.c f.b).bind fun r11 =>
   (aaz e.m 2 r11.1.1 1 0).bind fun r12 =>
   some (((⟨false,0,0⟩ : ResV),()),(({ e with m := r12.2.1 } : EnvV),({ f with line := wi (f.line + 1) } : FrV),()))
   else
   (acQ e.c f.b).bind fun r13 =>
   (aaz e.m 1 r13.1.1 0 0).bind fun r14 =>
   some (((⟨false,0,0⟩ : ResV),()),(({ e with m := r14.2.1 } : EnvV),({ f with line := wi (f.line + 1),t := wi (r14.1.1) } : FrV),()))
   else
   some (((⟨true,4,0⟩ : ResV),()),(e,f,()))
  else
  some (((⟨true,4,0⟩ : ResV),()),(e,f,()))
 else
 if 0 ≤ f.b then
  if f.b < e.c.tasks then
   if ¬ (f.b < ((e.recs.length : Nat) : Int)) then
   some (((⟨true,4,0⟩ : ResV),()),(e,f,()))
   else
   if f.kind = 13 then
   if f.line = 1 then
   (acQ e.c f.a).bind fun r15 =>
   if f.b = f.b then
   (aaz e.m 2 r15.1.1 (wu (f.b)) 0).bind fun r16 =>
   some (((⟨false,0,0⟩ : ResV),()),(({ e with m := r16.2.1 } : EnvV),({ f with line := wi (f.line + 1) } : FrV),()))
   else none
   else
   if f.line = 2 then
   (adZ e.c f.a).bind fun r17 =>
   if e.now = e.now then
   (aaz e.m 2 r17.1.1 (wu (e.now)) 0).bind fun r18 =>
   some (((⟨false,0,0⟩ : ResV),()),(({ e with m := r18.2.1 } : EnvV),({ f with line := wi (f.line + 1) } : FrV),()))
   else none
   else
   (acP e.c f.a).bind fun r19 =>
   (aaz e.m 2 r19.1.1 1 0).bind fun r20 =>
   some (((⟨true,0,0⟩ : ResV),()),(({ e with m := r20.2.1 } : EnvV),f,()))
   else
   if f.line = 1 then
   (adZ e.c f.b).bind fun r21 =>
   if e.now = e.now then
   (aaz e.m 2 r21.1.1 (wu (e.now)) 0).bind fun r22 =>
   some (((⟨false,0,0⟩ : ResV),()),(({ e with m := r22.2.1 } : EnvV),({ f with line := wi (f.line + 1) } : FrV),()))
   else none
   else
   if f.line = 2 then
   (acP e.c f.b).bind fun r23 =>
   (aaz e.m 2 r23.1.1 1 0).bind fun r24 =>
   some (((⟨false,0,0⟩ : ResV),()),(({ e with m := r24.2.1 } : EnvV),({ f with line := wi (f.line + 1) } : FrV),()))
   else
   (acQ e.c f.b).bind fun r25 =>
   (aaz e.m 1 r25.1.1 0 0).bind fun r26 =>
   some (((⟨false,0,0⟩ : ResV),()),(({ e with m := r26.2.1 } : EnvV),({ f with line := wi (f.line + 1),t := wi (r26.1.1) } : FrV),()))
  else
  some (((⟨true,4,0⟩ : ResV),()),(e,f,()))
 else
 some (((⟨true,4,0⟩ : ResV),()),(e,f,()))
noncomputable abbrev alK : Con SR1 := ⟨120,[.ref 12,.ref 8],[.val 10],fun x =>acr x.1 x.2.1⟩
noncomputable def aph : List (Nat × Func) := [(158,Tryz.f158),(102,Tryz.f102),(112,Tryz.f112),(164,Tryz.f164),(117,Tryz.f117),(114,Tryz.f114)]
theorem apj : CO Tryz.prog alK := aaC aaB Tryz.func120 [acd,alR,adC,agD,adb] ⟨abR,apz,adu,ahj,acY,trivial⟩ aph ⟨Tryz.func158,Tryz.func102,Tryz.func112,Tryz.func164,Tryz.func117,Tryz.func114,trivial⟩ (fun _ =>[]) [] fun x =>by kernel_rfl
noncomputable def abY (e : EnvV) (f : FrV) : Option ((ResV × Unit) × (EnvV × FrV × Unit)) :=
 if 0 ≤ f.b then
  if f.b < e.c.tasks then
   if ¬ (f.b < ((e.recs.length : Nat) : Int)) then
   some (((⟨true,4,0⟩ : ResV),()),(e,f,()))
   else
   if f.d < 0 then
   some (((⟨true,4,0⟩ : ResV),()),(e,f,()))
   else
   if e.c.levels ≤ f.d then
   some (((⟨true,4,0⟩ : ResV),()),(e,f,()))
   else
   if f.kind = 16 then
   if f.line = 1 then
   (acQ e.c f.b).bind fun r1 =>
   (aaz e.m 1 r1.1.1 0 0).bind fun r2 =>
   if f.d ≤ (wi (r2.1.1)) then
   some (((⟨true,0,0⟩ : ResV),()),(({ e with m := r2.2.1 } : EnvV),({ f with u := r2.1.1 } : FrV),()))
   else
   some (((⟨false,0,0⟩ : ResV),()),(({ e with m := r2.2.1 } : EnvV),({ f with line := 2,u := r2.1.1 } : FrV),()))
   else
   (acQ e.c f.b).bind fun r3 =>
   if f.d = f.d then
   if f.u = f.u then
   (aaz e.m 3 r3.1.1 f.u (wu (f.d))).bind fun r4 =>
   if r4.1.2.1 = true then
   (aay ({ e with m := r4.2.1 } : EnvV) 11 f.a f.b 0 f.d).bind fun r5 =>
   some (((⟨true,1,0⟩ : ResV),()),(r5.2.1,f,()))
   else
   some (((⟨false,0,0⟩ : ResV),()),(({ e with m := r4.2.1 } : EnvV),({ f with line := 1 } : FrV),()))
   else none
   else none
   else
   if f.line = 2 then
   (acP e.c f.b).bind fun r6 =>
   (aaz e.m 1 r6.1.1 0 0).bind fun r7 =>
   if r7.1.1 = 1 then
   some (((⟨false,0,0⟩ : ResV),()),(({ e with m := r7.2.1 } : EnvV),({ f with line := 3 } : FrV),()))
   else
   some (((⟨false,0,0⟩ : ResV),()),(({ e with m := r7.2.1 } : EnvV),({ f with line := 4 } : FrV),()))
   else
   (af6 e.c f.b).bind fun r8 =>
   (aaz e.m 1 r8.1.1 0 0).bind fun r9 =>
   if r9.1.1 = 0 then
   some (((⟨true,0,0⟩ : ResV),()),(({ e with m := r9.2.1 } : EnvV),f,()))
   else
   some (((⟨false,0,0⟩ : ResV),()),(({ e with m := r9.2.1 } : EnvV),({ f with line := 1,b := wi (wu (r9.1.1 - 1)) } : FrV),()))
  else
  some (((⟨true,4,0⟩ : ResV),()),(e,f,()))
 else
 some (((⟨true,4,0⟩ : ResV),()),(e,f,()))
noncomputable abbrev alS : Con SR1 := ⟨121,[.ref 12,.ref 8],[.val 10],fun x =>abY x.1 x.2.1⟩
noncomputable def apA : List (Nat × Func) := [(102,Tryz.f102),(112,Tryz.f112),(114,Tryz.f114),(116,Tryz.f116)]
theorem apB : CO Tryz.prog alS := aaC aaB Tryz.func121 [adC,acd,aa1,adb,aiz] ⟨adu,abR,aaZ,acY,ajG,trivial⟩ apA ⟨Tryz.func102,Tryz.func112,Tryz.func114,Tryz.func116,trivial⟩ (fun _ =>[]) [] fun x =>by kernel_rfl
noncomputable def ab8 (e : EnvV) (f : FrV) : Option ((ResV × Unit) × (EnvV × FrV × Unit)) :=
 if 0 ≤ f.b then
  if f.b < e.c.tasks then
   if ¬ (f.b < ((e.recs.length : Nat) : Int)) then
   some (((⟨true,0,0⟩ : ResV),()),(e,f,()))
   else
   if e.c.age = 0 then
   some (((⟨true,0,0⟩ : ResV),()),(e,f,()))
   else
   if f.line = 1 then
   (acP e.c f.b).bind fun r1 =>
   (aaz e.m 1 r1.1.1 0 0).bind fun r2 =>
   if r2.1.1 ≠ 1 then
   some (((⟨true,0,0⟩ : ResV),()),(({ e with m := r2.2.1 } : EnvV),f,()))
   else
   some (((⟨false,0,0⟩ : ResV),()),(({ e with m := r2.2.1 } : EnvV),({ f with line := wi (f.line + 1) } : FrV),()))
   else
   if f.line = 2 then
   (adZ e.c f.b).bind fun r3 =>
   if e.c.age = e.c.age then
   if e.now = e.now then
   (aaz e.m 1 r3.1.1 0 0).bind fun r4 =>
   if e.c.age = e.c.age then
   if e.now = e.now then
   if (wi (e.now - (wi (r4.1.1)))) < e.c.age then
   some (((⟨true,0,0⟩ : ResV),()),(({ e with m := r4.2.1 } : EnvV),f,()))
   else
   some (((⟨false,0,0⟩ : ResV),()),(({ e with m := r4.2.1 } : EnvV),({ f with line := wi (f.line + 1) } : FrV),()))
   else none
   else none
   else none
   else none
   else
   if f.line = 3 then
   (acQ e.c f.b).bind fun r5 =>
   (aaz e.m 1 r5.1.1 0 0).bind fun r6 =>
   if (wi (e.c.levels - 1)) ≤ (wi (r6.1.1)) then
   some (((⟨true,0,0⟩ : ResV),()),(({ e with m := r6.2.1 } : EnvV),({ f with t := wi ((wi (r6.1.1)) + 1),u := r6.1.1 } : FrV),()))
   else
   some (((⟨false,0,0⟩ : ResV),()),(({ e with m := r6.2.1 } : EnvV),({ f with line := wi (f.line + 1),t := wi ((wi (r6.1.1)) + 1),u := r6.1.1 } : FrV),()))
   else
   if f.line = 4 then
   (acQ e.c f.b).bind fun r7 =>
   if f.u = f.u then
   if f.u = f.u then
   (aaz e.m 3 r7.1.1 f.u (wu (f.u + 1))).bind fun r8 =>
   if (!r8.1.2.1) = true then
   some (((⟨true,4,0⟩ : ResV),()),(({ e with m := r8.2.1 } : EnvV),f,()))
   else
   (aay ({ e with m := r8.2.1 } : EnvV) 12 f.a f.b 0 f.t).bind fun r9 =>
   some (((⟨false,0,0⟩ : ResV),()),(r9.2.1,({ f with line := wi (f.line + 1) } : FrV),()))
   else none
   else none
   else
   (adZ e.c f.b).bind fun r10 =>
   if e.now = e.now then
   (aaz e.m 2 r10.1.1 (wu (e.now)) 0).bind fun r11 =>
   some (((⟨false,0,0⟩ : ResV),()),(({ e with m := r11.2.1 } : EnvV),({ f with line := wi (f.line + 1) } : FrV),()))
   else none
  else
  some (((⟨true,0,0⟩ : ResV),()),(e,f,()))
 else
 some (((⟨true,0,0⟩ : ResV),()),(e,f,()))
noncomputable abbrev alL : Con SR1 := ⟨122,[.ref 12,.ref 8],[.val 10],fun x =>ab8 x.1 x.2.1⟩
noncomputable def apk : List (Nat × Func) := [(102,Tryz.f102),(112,Tryz.f112),(114,Tryz.f114),(116,Tryz.f116),(117,Tryz.f117)]
theorem apl : CO Tryz.prog alL := aaC aaB Tryz.func122 [adb,acd,agD,adC,aa1] ⟨acY,abR,ahj,adu,aaZ,trivial⟩ apk ⟨Tryz.func102,Tryz.func112,Tryz.func114,Tryz.func116,Tryz.func117,trivial⟩ (fun _ =>[]) [] fun x =>by kernel_rfl
noncomputable def ab9 (e : EnvV) (f : FrV) : Option ((ResV × Unit) × (EnvV × FrV × Unit)) :=
 (agF f.a e.c.classes).bind fun r1 =>
 if e.c.workers = e.c.workers then
  if e.c.levels = e.c.levels then
   if e.c.classes = e.c.classes then
   if e.c.tasks = e.c.tasks then
   if e.c.deque = e.c.deque then
   if e.c.heap = e.c.heap then
   if e.c.batch = e.c.batch then
   if e.c.age = e.c.age then
   if e.c.patience = e.c.patience then
   (adt e.c r1.1.1).bind fun r2 =>
   if f.line = 1 then
   (ahk e.c f.a).bind fun r3 =>
   (aaz e.m 1 r3.1.1 0 0).bind fun r4 =>
   some (((⟨false,0,0⟩ : ResV),()),(({ e with m := r4.2.1 } : EnvV),({ f with line := wi (f.line + 1),u := r4.1.1 } : FrV),()))
   else
   if f.line = 2 then
   (agI f.a).bind fun r5 =>
   (aaz e.m 4 r2.1.1 r5.1.1 0).bind fun r6 =>
   some (((⟨false,0,0⟩ : ResV),()),(({ e with m := r6.2.1 } : EnvV),({ f with line := wi (f.line + 1) } : FrV),()))
   else
   if f.line = 3 then
   (aaz e.m 1 2 0 0).bind fun r7 =>
   if r7.1.1 ≠ 0 then
   some (((⟨false,0,0⟩ : ResV),()),(({ e with m := r7.2.1 } : EnvV),({ f with line := 7,n := 0 } : FrV),()))
   else
   some (((⟨false,0,0⟩ : ResV),()),(({ e with m := r7.2.1 } : EnvV),({ f with line := wi (f.line + 1),n := 0 } : FrV),()))
   else
   if f.line = 4 then
   (acy e.c f.n).bind fun r8 =>
   (aaz e.m 1 r8.1.1 0 0).bind fun r9 =>
   if r9.1.1 ≠ 0 then
   some (((⟨false,0,0⟩ : ResV),()),(({ e with m := r9.2.1 } : EnvV),({ f with line := 7,n := wi (f.n + 1) } : FrV),()))
   else
   if (wi (f.n + 1)) < e.c.workers then
   some (((⟨false,0,0⟩ : ResV),()),(({ e with m := r9.2.1 } : EnvV),({ f with line := 4,n := wi (f.n + 1) } : FrV),()))
   else
   (aay ({ e with m := r9.2.1 } : EnvV) 16 f.a 0 0 0).bind fun r10 =>
   some (((⟨false,0,0⟩ : ResV),()),(r10.2.1,({ f with line := wi (f.line + 1),n := wi (f.n + 1),t := r10.2.1.now } : FrV),()))
   else
   if f.line = 5 then
   (ahk e.c f.a).bind fun r11 =>
   (aaz e.m 1 r11.1.1 0 0).bind fun r12 =>
   if r12.1.1 ≠ f.u then
   (aay ({ e with m := r12.2.1 } : EnvV) 17 f.a 0 1 0).bind fun r13 =>
   some (((⟨false,0,0⟩ : ResV),()),(r13.2.1,({ f with line := wi (f.line + 1) } : FrV),()))
   else
   if e.c.patience ≤ (wi (e.now - f.t)) then
   (aay ({ e with m := r12.2.1 } : EnvV) 17 f.a 0 2 0).bind fun r14 =>
   some (((⟨false,0,0⟩ : ResV),()),(r14.2.1,({ f with line := wi (f.line + 1) } : FrV),()))
   else
   some (((⟨false,0,0⟩ : ResV),()),(({ e with m := r12.2.1 } : EnvV),({ f with line := 5 } : FrV),()))
   else
   (agI f.a).bind fun r15 =>
   (aaz e.m 5 r2.1.1 (auB r15.1.1) 0).bind fun r16 =>
   if f.line = 6 then
   some (((⟨true,1,0⟩ : ResV),()),(({ e with m := r16.2.1 } : EnvV),f,()))
   else
   some (((⟨true,5,0⟩ : ResV),()),(({ e with m := r16.2.1 } : EnvV),f,()))
   else none
   else none
   else none
   else none
   else none
   else none
   else none
  else none
 else none
noncomputable abbrev alN : Con SR1 := ⟨123,[.ref 12,.ref 8],[.val 10],fun x =>ab9 x.1 x.2.1⟩
noncomputable def apo : List (Nat × Func) := [(114,Tryz.f114),(110,Tryz.f110),(155,Tryz.f155),(112,Tryz.f112)]
theorem app : CO Tryz.prog alN := aaC aaB Tryz.func123 [afy,ae6,aiB,acd,agH,adv,aa1] ⟨ae8,agC,ajJ,abR,agG,adD,aaZ,trivial⟩ apo ⟨Tryz.func114,Tryz.func110,Tryz.func155,Tryz.func112,trivial⟩ (fun _ =>[]) [] fun x =>by kernel_rfl
noncomputable def acO (e : EnvV) (f : FrV) : Option ((ResV × Unit) × (EnvV × FrV × Unit)) :=
 (akC f.b e.c.levels e.c.classes).bind fun r1 =>
 if e.c.classes = e.c.classes then
  if f.j = f.j then
   (agF (wi (r1.1.1 + f.j)) e.c.classes).bind fun r2 =>
   if f.line = 1 then
   (adt e.c r2.1.1).bind fun r3 =>
   (aaz e.m 1 r3.1.1 0 0).bind fun r4 =>
   if r4.1.1 ≠ 0 then
   (atK r4.1.1).bind fun r5 =>
   some (((⟨false,0,0⟩ : ResV),()),(({ e with m := r4.2.1 } : EnvV),({ f with line := 2,n := r5.1.1 } : FrV),()))
   else
   if e.c.classes ≤ (wi (f.j + 1)) then
   some (((⟨true,2,0⟩ : ResV),()),(({ e with m := r4.2.1 } : EnvV),({ f with j := wi (f.j + 1) } : FrV),()))
   else
   some (((⟨false,0,0⟩ : ResV),()),(({ e with m := r4.2.1 } : EnvV),({ f with j := wi (f.j + 1) } : FrV),()))
   else
   if f.line = 2 then
   (adt e.c r2.1.1).bind fun r6 =>
   if f.n = f.n then
   (agI f.n).bind fun r7 =>
   (aaz e.m 5 r6.1.1 (auB r7.1.1) 0).bind fun r8 =>
   (al0 r8.1.1 f.n).bind fun r9 =>
   if (!r9.1.1) = true then
   some (((⟨true,4,0⟩ : ResV),()),(({ e with m := r8.2.1 } : EnvV),f,()))
   else
   some (((⟨false,0,0⟩ : ResV),()),(({ e with m := r8.2.1 } : EnvV),({ f with line := 3 } : FrV),()))
   else none
   else
   (ahk e.c f.n).bind fun r10 =>
   (aaz e.m 6 r10.1.1 1 0).bind fun r11 =>
   (aay ({ e with m := r11.2.1 } : EnvV) 18 f.a 0 f.n 0).bind fun r12 =>
   some (((⟨true,1,f.n⟩ : ResV),()),(r12.2.1,f,()))
  else none
 else none
noncomputable abbrev aog : Con SR1 := ⟨124,[.ref 12,.ref 8],[.val 10],fun x =>acO x.1 x.2.1⟩
noncomputable def aqR : List (Nat × Func) := [(114,Tryz.f114),(112,Tryz.f112),(155,Tryz.f155),(158,Tryz.f158)]
theorem aqS : CO Tryz.prog aog := aaC aaB Tryz.func124 [alZ,afy,ae6,acd,arb,agH,akE,aiB,aa1] ⟨apF,ae8,agC,abR,atJ,agG,akD,ajJ,aaZ,trivial⟩ aqR ⟨Tryz.func114,Tryz.func112,Tryz.func155,Tryz.func158,trivial⟩ (fun _ =>[]) [] fun x =>by kernel_rfl
noncomputable def aca (e : EnvV) (f : FrV) : Option ((ResV × Unit) × (EnvV × FrV × Unit)) :=
 if f.line = 1 then
  (agF e.draw e.c.workers).bind fun r1 =>
  (lpF (σ := Int × Int × Unit) (β := Int × Int × Unit) (fun self4 x2 =>
   if x2.2.1 < e.c.workers then
   if x2.2.1 ≠ f.a then
   self4 (wi (x2.1 + 1),wi (x2.2.1 + 1),())
   else
   self4 (x2.1,wi (x2.2.1 + 1),())
   else
   some (x2.1,x2.2.1,())
  ) 18446744073709551616 (0,0,())).bind fun z3 =>
  if z3.1 = 0 then
   some (((⟨true,2,0⟩ : ResV),()),(e,({ f with line := 2,j := (-1),n := (-1),t := r1.1.1 } : FrV),()))
  else
  if e.c.workers ≠ 0 then
   if (Int.tmod (wi (r1.1.1 + f.i)) e.c.workers) = f.a then
   if e.c.workers ≠ 0 then
   (acy e.c (Int.tmod (wi (r1.1.1 + (wi (f.i + 1)))) e.c.workers)).bind fun r5 =>
   (aaz e.m 1 r5.1.1 0 0).bind fun r6 =>
   (ahT r6.1.1).bind fun r7 =>
   if (-1) < r7.1.1 then
   (lpF (σ := Bool × Int × Unit) (β := Bool × Int × Unit) (fun self10 x8 =>
   if x8.2.1 < e.c.workers then
   if x8.1 = true then
   self10 (true,wi (x8.2.1 + 1),())
   else
   if e.c.workers ≠ 0 then
   self10 (decide ((Int.tmod (wi (r1.1.1 + x8.2.1)) e.c.workers) ≠ f.a),wi (x8.2.1 + 1),())
   else none
   else
   some (x8.1,x8.2.1,())
   ) 18446744073709551616 (false,wi ((wi (f.i + 1)) + 1),())).bind fun z9 =>
   if z9.1 = true then
   some (((⟨false,0,0⟩ : ResV),()),(({ e with m := r6.2.1 } : EnvV),({ f with line := 2,i := wi ((wi (f.i + 1)) + 1),j := (Int.tmod (wi (r1.1.1 + (wi (f.i + 1)))) e.c.workers),n := r7.1.1,t := r1.1.1 } : FrV),()))
   else
   if (Int.tmod (wi (r1.1.1 + (wi (f.i + 1)))) e.c.workers) < 0 then
   some (((⟨true,2,0⟩ : ResV),()),(({ e with m := r6.2.1 } : EnvV),({ f with line := 2,i := wi ((wi (f.i + 1)) + 1),j := (Int.tmod (wi (r1.1.1 + (wi (f.i + 1)))) e.c.workers),n := r7.1.1,t := r1.1.1 } : FrV),()))
   else
   some (((⟨true,1,wi ((wi ((Int.tmod (wi (r1.1.1 + (wi (f.i + 1)))) e.c.workers) * 64)) + r7.1.1)⟩ : ResV),()),(({ e with m := r6.2.1 } : EnvV),({ f with line := 2,i := wi ((wi (f.i + 1)) + 1),j := (Int.tmod (wi (r1.1.1 + (wi (f.i + 1)))) e.c.workers),n := r7.1.1,t := r1.1.1 } : FrV),()))
   else
   (lpF (σ := Bool × Int × Unit) (β := Bool × Int × Unit) (fun self13 x11 =>
   if x11.2.1 < e.c.workers then
   if x11.1 = true then
   self13 (true,wi (x11.2.1 + 1),())
   else
   if e.c.workers ≠ 0 then
   self13 (decide ((Int.tmod (wi (r1.1.1 + x11.2.1)) e.c.workers) ≠ f.a),wi (x11.2.1 + 1),())
   else none
   else
   some (x11.1,x11.2.1,())
   ) 18446744073709551616 (false,wi ((wi (f.i + 1)) + 1),())).bind fun z12 =>
   if z12.1 = true then
   some (((⟨false,0,0⟩ : ResV),()),(({ e with m := r6.2.1 } : EnvV),({ f with line := 2,i := wi ((wi (f.i + 1)) + 1),j := (-1),n := (-1),t := r1.1.1 } : FrV),()))
   else
   some (((⟨true,2,0⟩ : ResV),()),(({ e with m := r6.2.1 } : EnvV),({ f with line := 2,i := wi ((wi (f.i + 1)) + 1),j := (-1),n := (-1),t := r1.1.1 } : FrV),()))
   else none
   else
   (acy e.c (Int.tmod (wi (r1.1.1 + f.i)) e.c.workers)).bind fun r14 =>
   (aaz e.m 1 r14.1.1 0 0).bind fun r15 =>
   (ahT r15.1.1).bind fun r16 =>
   if (-1) < r16.1.1 then
   (lpF (σ := Bool × Int × Unit) (β := Bool × Int × Unit) (fun self19 x17 =>
   if x17.2.1 < e.c.workers then
   if x17.1 = true then
   self19 (true,wi (x17.2.1 + 1),())
   else
   if e.c.workers ≠ 0 then
   self19 (decide ((Int.tmod (wi (r1.1.1 + x17.2.1)) e.c.workers) ≠ f.a),wi (x17.2.1 + 1),())
   else none
   else
   some (x17.1,x17.2.1,())
   ) 18446744073709551616 (false,wi (f.i + 1),())).bind fun z18 =>
   if z18.1 = true then
   some (((⟨false,0,0⟩ : ResV),()),(({ e with m := r15.2.1 } : EnvV),({ f with line := 2,i := wi (f.i + 1),j := (Int.tmod (wi (r1.1.1 + f.i)) e.c.workers),n := r16.1.1,t := r1.1.1 } : FrV),()))
   else
   if (Int.tmod (wi (r1.1.1 + f.i)) e.c.workers) < 0 then
   some (((⟨true,2,0⟩ : ResV),()),(({ e with m := r15.2.1 } : EnvV),({ f with line := 2,i := wi (f.i + 1),j := (Int.tmod (wi (r1.1.1 + f.i)) e.c.workers),n := r16.1.1,t := r1.1.1 } : FrV),()))
   else
   some (((⟨true,1,wi ((wi ((Int.tmod (wi (r1.1.1 + f.i)) e.c.workers) * 64)) + r16.1.1)⟩ : ResV),()),(({ e with m := r15.2.1 } : EnvV),({ f with line := 2,i := wi (f.i + 1),j := (Int.tmod (wi (r1.1.1 + f.i)) e.c.workers),n := r16.1.1,t := r1.1.1 } : FrV),()))
   else
   (lpF (σ := Bool × Int × Unit) (β := Bool × Int × Unit) (fun self22 x20 =>
   if x20.2.1 < e.c.workers then
   if x20.1 = true then
   self22 (true,wi (x20.2.1 + 1),())
   else
   if e.c.workers ≠ 0 then
   self22 (decide ((Int.tmod (wi (r1.1.1 + x20.2.1)) e.c.workers) ≠ f.a),wi (x20.2.1 + 1),())
   else none
   else
   some (x20.1,x20.2.1,())
   ) 18446744073709551616 (false,wi (f.i + 1),())).bind fun z21 =>
   if z21.1 = true then
   some (((⟨false,0,0⟩ : ResV),()),(({ e with m := r15.2.1 } : EnvV),({ f with line := 2,i := wi (f.i + 1),j := (-1),n := (-1),t := r1.1.1 } : FrV),()))
   else
   some (((⟨true,2,0⟩ : ResV),()),(({ e with m := r15.2.1 } : EnvV),({ f with line := 2,i := wi (f.i + 1),j := (-1),n := (-1),t := r1.1.1 } : FrV),()))
  else none
 else
 (lpF (σ := Int × Int × Unit) (β := Int × Int × Unit) (fun self25 x23 =>
  if x23.2.1 < e.c.workers then
   if x23.2.1 ≠ f.a then
   self25 (wi (x23.1 + 1),wi (x23.2.1 + 1),())
   else
   self25 (x23.1,wi (x23.2.1 + 1),())
  else
  some (x23.1,x23.2.1,())
 ) 18446744073709551616 (0,0,())).bind fun z24 =>
 if z24.1 = 0 then
  some (((⟨true,2,0⟩ : ResV),()),(e,f,()))
 else
 if e.c.workers ≠ 0 then
  if (Int.tmod (wi (f.t + f.i)) e.c.workers) = f.a then
   if e.c.workers ≠ 0 then
   (acy e.c (Int.tmod (wi (f.t + (wi (f.i + 1)))) e.c.workers)).bind fun r26 =>
   (aaz e.m 1 r26.1.1 0 0).bind fun r27 =>
   (ahT r27.1.1).bind fun r28 =>
   if f.n < r28.1.1 then
   (lpF (σ := Bool × Int × Unit) (β := Bool × Int × Unit) (fun self31 x29 =>
   if x29.2.1 < e.c.workers then
   if x29.1 = true then
   self31 (true,wi (x29.2.1 + 1),())
   else
   if e.c.workers ≠ 0 then
   self31 (decide ((Int.tmod (wi (f.t + x29.2.1)) e.c.workers) ≠ f.a),wi (x29.2.1 + 1),())
   else none
   else
   some (x29.1,x29.2.1,())
   ) 18446744073709551616 (false,wi ((wi (f.i + 1)) + 1),())).bind fun z30 =>
   if z30.1 = true then
   some (((⟨false,0,0⟩ : ResV),()),(({ e with m := r27.2.1 } : EnvV),({ f with i := wi ((wi (f.i + 1)) + 1),j := (Int.tmod (wi (f.t + (wi (f.i + 1)))) e.c.workers),n := r28.1.1 } : FrV),()))
   else
   if (Int.tmod (wi (f.t + (wi (f.i + 1)))) e.c.workers) < 0 then
   some (((⟨true,2,0⟩ : ResV),()),(({ e with m := r27.2.1 } : EnvV),({ f with i := wi ((wi (f.i + 1)) + 1),j := (Int.tmod (wi (f.t + (wi (f.i + 1)))) e.c.workers),n := r28.1.1 } : FrV),()))
   else
   some (((⟨true,1,wi ((wi ((Int.tmod (wi (f.t + (wi (f.i + 1)))) e.c.workers) * 64)) + r28.1.1)⟩ : ResV),()),(({ e with m := r27.2.1 } : EnvV),({ f with i := wi ((wi (f.i + 1)) + 1),j := (Int.tmod (wi (f.t + (wi (f.i + 1)))) e.c.workers),n := r28.1.1 } : FrV),()))
   else
   (lpF (σ := Bool × Int × Unit) (β := Bool × Int × Unit) (fun self34 x32 =>
   if x32.2.1 < e.c.workers then
   if x32.1 = true then
   self34 (true,wi (x32.2.1 + 1),())
   else
   if e.c.workers ≠ 0 then
   self34 (decide ((Int.tmod (wi (f.t + x32.2.1)) e.c.workers) ≠ f.a),wi (x32.2.1 + 1),())
   else none
   else
   some (x32.1,x32.2.1,())
   ) 18446744073709551616 (false,wi ((wi (f.i + 1)) + 1),())).bind fun z33 =>
   if z33.1 = true then
   some (((⟨false,0,0⟩ : ResV),()),(({ e with m := r27.2.1 } : EnvV),({ f with i := wi ((wi (f.i + 1)) + 1) } : FrV),()))
   else
   if f.j < 0 then
   some (((⟨true,2,0⟩ : ResV),()),(({ e with m := r27.2.1 } : EnvV),({ f with i := wi ((wi (f.i + 1)) + 1) } : FrV),()))
   else
   some (((⟨true,1,wi ((wi (f.j * 64)) + f.n)⟩ : ResV),()),(({ e with m := r27.2.1 } : EnvV),({ f with i := wi ((wi (f.i + 1)) + 1) } : FrV),()))
   else none
  else
  (acy e.c (Int.tmod (wi (f.t + f.i)) e.c.workers)).bind fun r35 =>
  (aaz e.m 1 r35.1.1 0 0).bind fun r36 =>
  (ahT r36.1.1).bind fun r37 =>
  if f.n < r37.1.1 then
   (lpF (σ := Bool × Int × Unit) (β := Bool × Int × Unit) (fun self40 x38 =>
   if x38.2.1 < e.c.workers then
   if x38.1 = true then
   self40 (true,wi (x38.2.1 + 1),())
   else
   if e.c.workers ≠ 0 then
   self40 (decide ((Int.tmod (wi (f.t + x38.2.1)) e.c.workers) ≠ f.a),wi (x38.2.1 + 1),())
   else none
   else
   some (x38.1,x38.2.1,())
   ) 18446744073709551616 (false,wi (f.i + 1),())).bind fun z39 =>
   if z39.1 = true then
   some (((⟨false,0,0⟩ : ResV),()),(({ e with m := r36.2.1 } : EnvV),({ f with i := wi (f.i + 1),j := (Int.tmod (wi (f.t + f.i)) e.c.workers),n := r37.1.1 } : FrV),()))
   else
   if (Int.tmod (wi (f.t + f.i)) e.c.workers) < 0 then
   some (((⟨true,2,0⟩ : ResV),()),(({ e with m := r36.2.1 } : EnvV),({ f with i := wi (f.i + 1),j := (Int.tmod (wi (f.t + f.i)) e.c.workers),n := r37.1.1 } : FrV),()))
   else
   some (((⟨true,1,wi ((wi ((Int.tmod (wi (f.t + f.i)) e.c.workers) * 64)) + r37.1.1)⟩ : ResV),()),(({ e with m := r36.2.1 } : EnvV),({ f with i := wi (f.i + 1),j := (Int.tmod (wi (f.t + f.i)) e.c.workers),n := r37.1.1 } : FrV),()))
  else
  (lpF (σ := Bool × Int × Unit) (β := Bool × Int × Unit) (fun self43 x41 =>
   if x41.2.1 < e.c.workers then
   if x41.1 = true then
   self43 (true,wi (x41.2.1 + 1),())
   else
   if e.c.workers ≠ 0 then
   self43 (decide ((Int.tmod (wi (f.t + x41.2.1)) e.c.workers) ≠ f.a),wi (x41.2.1 + 1),())
   else none
   else
   some (x41.1,x41.2.1,())
  ) 18446744073709551616 (false,wi (f.i + 1),())).bind fun z42 =>
  if z42.1 = true then
   some (((⟨false,0,0⟩ : ResV),()),(({ e with m := r36.2.1 } : EnvV),({ f with i := wi (f.i + 1) } : FrV),()))
  else
  if f.j < 0 then
   some (((⟨true,2,0⟩ : ResV),()),(({ e with m := r36.2.1 } : EnvV),({ f with i := wi (f.i + 1) } : FrV),()))
  else
  some (((⟨true,1,wi ((wi (f.j * 64)) + f.n)⟩ : ResV),()),(({ e with m := r36.2.1 } : EnvV),({ f with i := wi (f.i + 1) } : FrV),()))
 else none
noncomputable abbrev alO : Con SR1 := ⟨125,[.ref 12,.ref 8],[.val 10],fun x =>aca x.1 x.2.1⟩
noncomputable def apq : List (Nat × Func) := [(112,Tryz.f112),(114,Tryz.f114)]
theorem apr : CO Tryz.prog alO := aaC aaB Tryz.func125 [afy,adv,acd,akB] ⟨ae8,adD,abR,alY,trivial⟩ apq ⟨Tryz.func112,Tryz.func114,trivial⟩ (fun _ =>[]) [(5,.loop [.rg 5 sI_,.rg 6 sI_] 18446744073709551616 0),(21,.loop [.rg 9 .b,.rg 10 sI_] 18446744073709551616 2)] fun x =>by kernel_rfl
noncomputable def acb (e : EnvV) (f : FrV) : Option ((ResV × Unit) × (EnvV × FrV × Unit)) :=
 if f.line = 1 then
  (aaz e.m 1 2 0 0).bind fun r1 =>
  if (wi (r1.1.1)) ≤ 0 then
   some (((⟨true,2,0⟩ : ResV),()),(({ e with m := r1.2.1 } : EnvV),f,()))
  else
  some (((⟨false,0,0⟩ : ResV),()),(({ e with m := r1.2.1 } : EnvV),({ f with line := 2 } : FrV),()))
 else
 (acQ e.c f.n).bind fun r2 =>
 (aaz e.m 1 r2.1.1 0 0).bind fun r3 =>
 some (((⟨false,0,0⟩ : ResV),()),(({ e with m := r3.2.1 } : EnvV),({ f with line := 5,t := wi (r3.1.1) } : FrV),()))
noncomputable abbrev alQ : Con SR1 := ⟨126,[.ref 12,.ref 8],[.val 10],fun x =>acb x.1 x.2.1⟩
noncomputable def apw : List (Nat × Func) := [(114,Tryz.f114),(112,Tryz.f112)]
theorem apx : CO Tryz.prog alQ := aaC aaB Tryz.func126 [acd,adC] ⟨abR,adu,trivial⟩ apw ⟨Tryz.func114,Tryz.func112,trivial⟩ (fun _ =>[]) [] fun x =>by kernel_rfl
noncomputable def adj (f : FrV) : Option ((ResV × Unit) × (FrV × Unit)) :=
 if 0 ≤ wi (((f.l.length : Nat) : Int) - 1) ∧ wi (((f.l.length : Nat) : Int) - 1) ≤ ((f.l.length : Nat) : Int) then
  if (((f.l.take (wi (((f.l.length : Nat) : Int) - 1) : Int).toNat).length : Nat) : Int) = 0 then
   some (((⟨true,0,0⟩ : ResV),()),(({ f with line := 1,l := f.l.take (wi (((f.l.length : Nat) : Int) - 1) : Int).toNat } : FrV),()))
  else
  some (((⟨false,0,0⟩ : ResV),()),(({ f with line := 1,l := f.l.take (wi (((f.l.length : Nat) : Int) - 1) : Int).toNat } : FrV),()))
 else none
noncomputable abbrev ait : Con SR1 := ⟨177,[.ref 8],[.val 10],fun x =>adj x.1⟩
noncomputable def apt : List (Nat × Func) := [(112,Tryz.f112)]
theorem ajA : CO Tryz.prog ait := aaC aaB Tryz.func177 [] trivial apt ⟨Tryz.func112,trivial⟩ (fun _ =>[]) [] fun x =>by kernel_rfl
noncomputable def ah9 (e : EnvV) (f : FrV) (a : Int) : Option ((ResV × Unit) × (EnvV × FrV × Unit)) :=
 if f.line = 17 then
  (acP e.c a).bind fun r1 =>
  (aaz e.m 2 r1.1.1 4 0).bind fun r2 =>
  some (((⟨false,0,0⟩ : ResV),()),(({ e with m := r2.2.1 } : EnvV),({ f with line := 18 } : FrV),()))
 else
 if f.line = 18 then
  (ajI e.c a).bind fun r3 =>
  (aaz e.m 3 r3.1.1 0 4294967296).bind fun r4 =>
  (aay ({ e with m := r4.2.1 } : EnvV) 10 f.a a 0 0).bind fun r5 =>
  if r4.1.2.1 = true then
   (adj f).bind fun r6 =>
   some ((r6.1.1,()),(r5.2.1,r6.2.1,()))
  else
  some (((⟨false,0,0⟩ : ResV),()),(r5.2.1,({ f with line := 19 } : FrV),()))
 else
 (ajI e.c a).bind fun r7 =>
 (aaz e.m 1 r7.1.1 0 0).bind fun r8 =>
 if 0 ≤ (wi (wu (r8.1.1 - 1))) then
  if (wi (wu (r8.1.1 - 1))) < e.c.tasks then
   if ¬ ((wi (wu (r8.1.1 - 1))) < ((e.recs.length : Nat) : Int)) then
   (adj ({ f with n := wi (wu (r8.1.1 - 1)) } : FrV)).bind fun r9 =>
   some ((r9.1.1,()),(({ e with m := r8.2.1 } : EnvV),r9.2.1,()))
   else
   some (((⟨false,0,0⟩ : ResV),()),(({ e with m := r8.2.1 } : EnvV),({ f with line := 20,n := wi (wu (r8.1.1 - 1)) } : FrV),()))
  else
  (adj ({ f with n := wi (wu (r8.1.1 - 1)) } : FrV)).bind fun r10 =>
  some ((r10.1.1,()),(({ e with m := r8.2.1 } : EnvV),r10.2.1,()))
 else
 (adj ({ f with n := wi (wu (r8.1.1 - 1)) } : FrV)).bind fun r11 =>
 some ((r11.1.1,()),(({ e with m := r8.2.1 } : EnvV),r11.2.1,()))
noncomputable abbrev ajC : Con SR1 := ⟨176,[.ref 12,.ref 8,.sh sI_],[.val 10],fun x =>ah9 x.1 x.2.1 x.2.2.1⟩
noncomputable def am5 : List (Nat × Func) := [(117,Tryz.f117),(116,Tryz.f116),(114,Tryz.f114),(102,Tryz.f102)]
theorem am6 : CO Tryz.prog ajC := aaC aaB Tryz.func176 [adb,acd,akA,aa1,ait] ⟨acY,abR,alW,aaZ,ajA,trivial⟩ am5 ⟨Tryz.func117,Tryz.func116,Tryz.func114,Tryz.func102,trivial⟩ (fun _ =>[]) [] fun x =>by kernel_rfl
noncomputable def aep (e : EnvV) (f : FrV) : Option ((ResV × Unit) × (EnvV × FrV × Unit)) :=
 if 0 ≤ wi (((f.l.length : Nat) : Int) - 1) ∧ wi (((f.l.length : Nat) : Int) - 1) < ((f.l.length : Nat) : Int) then
  if f.line = 23 then
   some (((⟨true,4,0⟩ : ResV),()),(e,f,()))
  else
  if 0 ≤ aae f.l (wi (((f.l.length : Nat) : Int) - 1)) ∧ aae f.l (wi (((f.l.length : Nat) : Int) - 1)) < ((e.recs.length : Nat) : Int) then
   if f.line = 2 then
   (af6 e.c (aae f.l (wi (((f.l.length : Nat) : Int) - 1)))).bind fun r1 =>
   (aaz e.m 2 r1.1.1 0 0).bind fun r2 =>
   some (((⟨false,0,0⟩ : ResV),()),(({ e with m := r2.2.1,recs := e.recs.set (aae f.l (wi (((f.l.length : Nat) : Int) - 1))).toNat ({ aap e.recs (aae f.l (wi (((f.l.length : Nat) : Int) - 1))) with waiting := (-1) } : RecV) } : EnvV),({ f with line := 1 } : FrV),()))
   else
   if f.line = 3 then
   if ((aap e.recs (aae f.l (wi (((f.l.length : Nat) : Int) - 1)))).left) = 0 then
   if 0 ≤ aae f.l (wi (((f.l.length : Nat) : Int) - 1)) ∧ aae f.l (wi (((f.l.length : Nat) : Int) - 1)) < (((ws7 e.recs (aae f.l (wi (((f.l.length : Nat) : Int) - 1)))).length : Nat) : Int) then
   if ((aap (ws7 e.recs (aae f.l (wi (((f.l.length : Nat) : Int) - 1)))) (aae f.l (wi (((f.l.length : Nat) : Int) - 1)))).prog) < 0 then
   if ((aap e.recs (aae f.l (wi (((f.l.length : Nat) : Int) - 1)))).pc) = ((aap (ws7 e.recs (aae f.l (wi (((f.l.length : Nat) : Int) - 1)))) (aae f.l (wi (((f.l.length : Nat) : Int) - 1)))).pc) then
   none
   else none
   else
   if ((e.c.progs.length : Nat) : Int) ≤ ((aap (ws7 e.recs (aae f.l (wi (((f.l.length : Nat) : Int) - 1)))) (aae f.l (wi (((f.l.length : Nat) : Int) - 1)))).prog) then
   if ((aap e.recs (aae f.l (wi (((f.l.length : Nat) : Int) - 1)))).pc) = ((aap (ws7 e.recs (aae f.l (wi (((f.l.length : Nat) : Int) - 1)))) (aae f.l (wi (((f.l.length : Nat) : Int) - 1)))).pc) then
   none
   else none
   else
   if 0 ≤ (aap (ws7 e.recs (aae f.l (wi (((f.l.length : Nat) : Int) - 1)))) (aae f.l (wi (((f.l.length : Nat) : Int) - 1)))).prog ∧ (aap (ws7 e.recs (aae f.l (wi (((f.l.length : Nat) : Int) - 1)))) (aae f.l (wi (((f.l.length : Nat) : Int) - 1)))).prog < ((e.c.progs.length : Nat) : Int) then
   if ((aap e.recs (aae f.l (wi (((f.l.length : Nat) : Int) - 1)))).pc) = ((aap (ws7 e.recs (aae f.l (wi (((f.l.length : Nat) : Int) - 1)))) (aae f.l (wi (((f.l.length : Nat) : Int) - 1)))).pc) then
   if 0 ≤ (aap e.recs (aae f.l (wi (((f.l.length : Nat) : Int) - 1)))).pc ∧ (aap e.recs (aae f.l (wi (((f.l.length : Nat) : Int) - 1)))).pc < (((atL [] e.c.progs ((aap (ws7 e.recs (aae f.l (wi (((f.l.length : Nat) : Int) - 1)))) (aae f.l (wi (((f.l.length : Nat) : Int) - 1)))).prog)).length : Nat) : Int) then
   if ((aap (((ws7 e.recs (aae f.l (wi (((f.l.length : Nat) : Int) - 1)))).set (aae f.l (wi (((f.l.length : Nat) : Int) - 1))).toNat ({ aap (ws7 e.recs (aae f.l (wi (((f.l.length : Nat) : Int) - 1)))) (aae f.l (wi (((f.l.length : Nat) : Int) - 1))) with left := (acv (atL [] e.c.progs ((aap (ws7 e.recs (aae f.l (wi (((f.l.length : Nat) : Int) - 1)))) (aae f.l (wi (((f.l.length : Nat) : Int) - 1)))).prog)) ((aap e.recs (aae f.l (wi (((f.l.length : Nat) : Int) - 1)))).pc)).a } : RecV)).set (aae f.l (wi (((f.l.length : Nat) : Int) - 1))).toNat ({ aap ((ws7 e.recs (aae f.l (wi (((f.l.length : Nat) : Int) - 1)))).set (aae f.l (wi (((f.l.length : Nat) : Int) - 1))).toNat ({ aap (ws7 e.recs (aae f.l (wi (((f.l.length : Nat) : Int) - 1)))) (aae f.l (wi (((f.l.length : Nat) : Int) - 1))) with left := (acv (atL [] e.c.progs ((aap (ws7 e.recs (aae f.l (wi (((f.l.length : Nat) : Int) - 1)))) (aae f.l (wi (((f.l.length : Nat) : Int) - 1)))).prog)) ((aap e.recs (aae f.l (wi (((f.l.length : Nat) : Int) - 1)))).pc)).a } : RecV)) (aae f.l (wi (((f.l.length : Nat) : Int) - 1))) with left := wi (((aap ((ws7 e.recs (aae f.l (wi (((f.l.length : Nat) : Int) - 1)))).set (aae f.l (wi (((f.l.length : Nat) : Int) - 1))).toNat ({ aap (ws7 e.recs (aae f.l (wi (((f.l.length : Nat) : Int) - 1)))) (aae f.l (wi (((f.l.length : Nat) : Int) - 1))) with left := (acv (atL [] e.c.progs ((aap (ws7 e.recs (aae f.l (wi (((f.l.length : Nat) : Int) - 1)))) (aae f.l (wi (((f.l.length : Nat) : Int) - 1)))).prog)) ((aap e.recs (aae f.l (wi (((f.l.length : Nat) : Int) - 1)))).pc)).a } : RecV)) (aae f.l (wi (((f.l.length : Nat) : Int) - 1)))).left) - 1) } : RecV)) (aae f.l (wi (((f.l.length : Nat) : Int) - 1)))).left) = 0 then
   some (((⟨false,0,0⟩ : ResV),()),(({ e with recs := (((ws7 e.recs (aae f.l (wi (((f.l.length : Nat) : Int) - 1)))).set (aae f.l (wi (((f.l.length : Nat) : Int) - 1))).toNat ({ aap (ws7 e.recs (aae f.l (wi (((f.l.length : Nat) : Int) - 1)))) (aae f.l (wi (((f.l.length : Nat) : Int) - 1))) with left := (acv (atL [] e.c.progs ((aap (ws7 e.recs (aae f.l (wi (((f.l.length : Nat) : Int) - 1)))) (aae f.l (wi (((f.l.length : Nat) : Int) - 1)))).prog)) ((aap e.recs (aae f.l (wi (((f.l.length : Nat) : Int) - 1)))).pc)).a } : RecV)).set (aae f.l (wi (((f.l.length : Nat) : Int) - 1))).toNat ({ aap ((ws7 e.recs (aae f.l (wi (((f.l.length : Nat) : Int) - 1)))).set (aae f.l (wi (((f.l.length : Nat) : Int) - 1))).toNat ({ aap (ws7 e.recs (aae f.l (wi (((f.l.length : Nat) : Int) - 1)))) (aae f.l (wi (((f.l.length : Nat) : Int) - 1))) with left := (acv (atL [] e.c.progs ((aap (ws7 e.recs (aae f.l (wi (((f.l.length : Nat) : Int) - 1)))) (aae f.l (wi (((f.l.length : Nat) : Int) - 1)))).prog)) ((aap e.recs (aae f.l (wi (((f.l.length : Nat) : Int) - 1)))).pc)).a } : RecV)) (aae f.l (wi (((f.l.length : Nat) : Int) - 1))) with left := wi (((aap ((ws7 e.recs (aae f.l (wi (((f.l.length : Nat) : Int) - 1)))).set (aae f.l (wi (((f.l.length : Nat) : Int) - 1))).toNat ({ aap (ws7 e.recs (aae f.l (wi (((f.l.length : Nat) : Int) - 1)))) (aae f.l (wi (((f.l.length : Nat) : Int) - 1))) with left := (acv (atL [] e.c.progs ((aap (ws7 e.recs (aae f.l (wi (((f.l.length : Nat) : Int) - 1)))) (aae f.l (wi (((f.l.length : Nat) : Int) - 1)))).prog)) ((aap e.recs (aae f.l (wi (((f.l.length : Nat) : Int) - 1)))).pc)).a } : RecV)) (aae f.l (wi (((f.l.length : Nat) : Int) - 1)))).left) - 1) } : RecV)).set (aae f.l (wi (((f.l.length : Nat) : Int) - 1))).toNat ({ aap (((ws7 e.recs (aae f.l (wi (((f.l.length : Nat) : Int) - 1)))).set (aae f.l (wi (((f.l.length : Nat) : Int) - 1))).toNat ({ aap (ws7 e.recs (aae f.l (wi (((f.l.length : Nat) : Int) - 1)))) (aae f.l (wi (((f.l.length : Nat) : Int) - 1))) with left := (acv (atL [] e.c.progs ((aap (ws7 e.recs (aae f.l (wi (((f.l.length : Nat) : Int) - 1)))) (aae f.l (wi (((f.l.length : Nat) : Int) - 1)))).prog)) ((aap e.recs (aae f.l (wi (((f.l.length : Nat) : Int) - 1)))).pc)).a } : RecV)).set (aae f.l (wi (((f.l.length : Nat) : Int) - 1))).toNat ({ aap ((ws7 e.recs (aae f.l (wi (((f.l.length : Nat) : Int) - 1)))).set (aae f.l (wi (((f.l.length : Nat) : Int) - 1))).toNat ({ aap (ws7 e.recs (aae f.l (wi (((f.l.length : Nat) : Int) - 1)))) (aae f.l (wi (((f.l.length : Nat) : Int) - 1))) with left := (acv (atL [] e.c.progs ((aap (ws7 e.recs (aae f.l (wi (((f.l.length : Nat) : Int) - 1)))) (aae f.l (wi (((f.l.length : Nat) : Int) - 1)))).prog)) ((aap e.recs (aae f.l (wi (((f.l.length : Nat) : Int) - 1)))).pc)).a } : RecV)) (aae f.l (wi (((f.l.length : Nat) : Int) - 1))) with left := wi (((aap ((ws7 e.recs (aae f.l (wi (((f.l.length : Nat) : Int) - 1)))).set (aae f.l (wi (((f.l.length : Nat) : Int) - 1))).toNat ({ aap (ws7 e.recs (aae f.l (wi (((f.l.length : Nat) : Int) - 1)))) (aae f.l (wi (((f.l.length : Nat) : Int) - 1))) with left := (acv (atL [] e.c.progs ((aap (ws7 e.recs (aae f.l (wi (((f.l.length : Nat) : Int) - 1)))) (aae f.l (wi (((f.l.length : Nat) : Int) - 1)))).prog)) ((aap e.recs (aae f.l (wi (((f.l.length : Nat) : Int) - 1)))).pc)).a } : RecV)) (aae f.l (wi (((f.l.length : Nat) : Int) - 1)))).left) - 1) } : RecV)) (aae f.l (wi (((f.l.length : Nat) : Int) - 1))) with pc := wi (((aap (((ws7 e.recs (aae f.l (wi (((f.l.length : Nat) : Int) - 1)))).set (aae f.l (wi (((f.l.length : Nat) : Int) - 1))).toNat ({ aap (ws7 e.recs (aae f.l (wi (((f.l.length : Nat) : Int) - 1)))) (aae f.l (wi (((f.l.length : Nat) : Int) - 1))) with left := (acv (atL [] e.c.progs ((aap (ws7 e.recs (aae f.l (wi (((f.l.length : Nat) : Int) - 1)))) (aae f.l (wi (((f.l.length : Nat) : Int) - 1)))).prog)) ((aap e.recs (aae f.l (wi (((f.l.length : Nat) : Int) - 1)))).pc)).a } : RecV)).set (aae f.l (wi (((f.l.length : Nat) : Int) - 1))).toNat ({ aap ((ws7 e.recs (aae f.l (wi (((f.l.length : Nat) : Int) - 1)))).set (aae f.l (wi (((f.l.length : Nat) : Int) - 1))).toNat ({ aap (ws7 e.recs (aae f.l (wi (((f.l.length : Nat) : Int) - 1)))) (aae f.l (wi (((f.l.length : Nat) : Int) - 1))) with left := (acv (atL [] e.c.progs ((aap (ws7 e.recs (aae f.l (wi (((f.l.length : Nat) : Int) - 1)))) (aae f.l (wi (((f.l.length : Nat) : Int) - 1)))).prog)) ((aap e.recs (aae f.l (wi (((f.l.length : Nat) : Int) - 1)))).pc)).a } : RecV)) (aae f.l (wi (((f.l.length : Nat) : Int) - 1))) with left := wi (((aap ((ws7 e.recs (aae f.l (wi (((f.l.length : Nat) : Int) - 1)))).set (aae f.l (wi (((f.l.length : Nat) : Int) - 1))).toNat ({ aap (ws7 e.recs (aae f.l (wi (((f.l.length : Nat) : Int) - 1)))) (aae f.l (wi (((f.l.length : Nat) : Int) - 1))) with left := (acv (atL [] e.c.progs ((aap (ws7 e.recs (aae f.l (wi (((f.l.length : Nat) : Int) - 1)))) (aae f.l (wi (((f.l.length : Nat) : Int) - 1)))).prog)) ((aap e.recs (aae f.l (wi (((f.l.length : Nat) : Int) - 1)))).pc)).a } : RecV)) (aae f.l (wi (((f.l.length : Nat) : Int) - 1)))).left) - 1) } : RecV)) (aae f.l (wi (((f.l.length : Nat) : Int) - 1)))).pc) + 1) } : RecV) } : EnvV),({ f with line := 1 } : FrV),()))
   else
   some (((⟨false,0,0⟩ : ResV),()),(({ e with recs := ((ws7 e.recs (aae f.l (wi (((f.l.length : Nat) : Int) - 1)))).set (aae f.l (wi (((f.l.length : Nat) : Int) - 1))).toNat ({ aap (ws7 e.recs (aae f.l (wi (((f.l.length : Nat) : Int) - 1)))) (aae f.l (wi (((f.l.length : Nat) : Int) - 1))) with left := (acv (atL [] e.c.progs ((aap (ws7 e.recs (aae f.l (wi (((f.l.length : Nat) : Int) - 1)))) (aae f.l (wi (((f.l.length : Nat) : Int) - 1)))).prog)) ((aap e.recs (aae f.l (wi (((f.l.length : Nat) : Int) - 1)))).pc)).a } : RecV)).set (aae f.l (wi (((f.l.length : Nat) : Int) - 1))).toNat ({ aap ((ws7 e.recs (aae f.l (wi (((f.l.length : Nat) : Int) - 1)))).set (aae f.l (wi (((f.l.length : Nat) : Int) - 1))).toNat ({ aap (ws7 e.recs (aae f.l (wi (((f.l.length : Nat) : Int) - 1)))) (aae f.l (wi (((f.l.length : Nat) : Int) - 1))) with left := (acv (atL [] e.c.progs ((aap (ws7 e.recs (aae f.l (wi (((f.l.length : Nat) : Int) - 1)))) (aae f.l (wi (((f.l.length : Nat) : Int) - 1)))).prog)) ((aap e.recs (aae f.l (wi (((f.l.length : Nat) : Int) - 1)))).pc)).a } : RecV)) (aae f.l (wi (((f.l.length : Nat) : Int) - 1))) with left := wi (((aap ((ws7 e.recs (aae f.l (wi (((f.l.length : Nat) : Int) - 1)))).set (aae f.l (wi (((f.l.length : Nat) : Int) - 1))).toNat ({ aap (ws7 e.recs (aae f.l (wi (((f.l.length : Nat) : Int) - 1)))) (aae f.l (wi (((f.l.length : Nat) : Int) - 1))) with left := (acv (atL [] e.c.progs ((aap (ws7 e.recs (aae f.l (wi (((f.l.length : Nat) : Int) - 1)))) (aae f.l (wi (((f.l.length : Nat) : Int) - 1)))).prog)) ((aap e.recs (aae f.l (wi (((f.l.length : Nat) : Int) - 1)))).pc)).a } : RecV)) (aae f.l (wi (((f.l.length : Nat) : Int) - 1)))).left) - 1) } : RecV) } : EnvV),({ f with line := 1 } : FrV),()))
   else none
   else none
   else none
   else none
   else
   if ((aap (e.recs.set (aae f.l (wi (((f.l.length : Nat) : Int) - 1))).toNat ({ aap e.recs (aae f.l (wi (((f.l.length : Nat) : Int) - 1))) with left := wi (((aap e.recs (aae f.l (wi (((f.l.length : Nat) : Int) - 1)))).left) - 1) } : RecV)) (aae f.l (wi (((f.l.length : Nat) : Int) - 1)))).left) = 0 then
   some (((⟨false,0,0⟩ : ResV),()),(({ e with recs := (e.recs.set (aae f.l (wi (((f.l.length : Nat) : Int) - 1))).toNat ({ aap e.recs (aae f.l (wi (((f.l.length : Nat) : Int) - 1))) with left := wi (((aap e.recs (aae f.l (wi (((f.l.length : Nat) : Int) - 1)))).left) - 1) } : RecV)).set (aae f.l (wi (((f.l.length : Nat) : Int) - 1))).toNat ({ aap (e.recs.set (aae f.l (wi (((f.l.length : Nat) : Int) - 1))).toNat ({ aap e.recs (aae f.l (wi (((f.l.length : Nat) : Int) - 1))) with left := wi (((aap e.recs (aae f.l (wi (((f.l.length : Nat) : Int) - 1)))).left) - 1) } : RecV)) (aae f.l (wi (((f.l.length : Nat) : Int) - 1))) with pc := wi (((aap (e.recs.set (aae f.l (wi (((f.l.length : Nat) : Int) - 1))).toNat ({ aap e.recs (aae f.l (wi (((f.l.length : Nat) : Int) - 1))) with left := wi (((aap e.recs (aae f.l (wi (((f.l.length : Nat) : Int) - 1)))).left) - 1) } : RecV)) (aae f.l (wi (((f.l.length : Nat) : Int) - 1)))).pc) + 1) } : RecV) } : EnvV),({ f with line := 1 } : FrV),()))
   else
   some (((⟨false,0,0⟩ : ResV),()),(({ e with recs := e.recs.set (aae f.l (wi (((f.l.length : Nat) : Int) - 1))).toNat ({ aap e.recs (aae f.l (wi (((f.l.length : Nat) : Int) - 1))) with left := wi (((aap e.recs (aae f.l (wi (((f.l.length : Nat) : Int) - 1)))).left) - 1) } : RecV) } : EnvV),({ f with line := 1 } : FrV),()))
   else
   if f.line = 4 then
   some (((⟨false,0,0⟩ : ResV),()),(({ e with recs := e.recs.set (aae f.l (wi (((f.l.length : Nat) : Int) - 1))).toNat ({ aap e.recs (aae f.l (wi (((f.l.length : Nat) : Int) - 1))) with pc := wi (((aap e.recs (aae f.l (wi (((f.l.length : Nat) : Int) - 1)))).pc) + 1) } : RecV) } : EnvV),({ f with line := 1 } : FrV),()))
   else
   if f.line = 10 then
   (af6 e.c (aae f.l (wi (((f.l.length : Nat) : Int) - 1)))).bind fun r3 =>
   if f.j = f.j then
   (aaz e.m 2 r3.1.1 (wu (wi (f.j + 1))) 0).bind fun r4 =>
   some (((⟨false,0,0⟩ : ResV),()),(({ e with m := r4.2.1,recs := (e.recs.set (aae f.l (wi (((f.l.length : Nat) : Int) - 1))).toNat ({ aap e.recs (aae f.l (wi (((f.l.length : Nat) : Int) - 1))) with pc := wi (((aap e.recs (aae f.l (wi (((f.l.length : Nat) : Int) - 1)))).pc) + 1) } : RecV)).set (aae f.l (wi (((f.l.length : Nat) : Int) - 1))).toNat ({ aap (e.recs.set (aae f.l (wi (((f.l.length : Nat) : Int) - 1))).toNat ({ aap e.recs (aae f.l (wi (((f.l.length : Nat) : Int) - 1))) with pc := wi (((aap e.recs (aae f.l (wi (((f.l.length : Nat) : Int) - 1)))).pc) + 1) } : RecV)) (aae f.l (wi (((f.l.length : Nat) : Int) - 1))) with waiting := f.j } : RecV) } : EnvV),({ f with line := 11 } : FrV),()))
   else none
   else
   if f.line = 11 then
   (acP e.c (aae f.l (wi (((f.l.length : Nat) : Int) - 1)))).bind fun r5 =>
   (aaz e.m 2 r5.1.1 3 0).bind fun r6 =>
   some (((⟨false,0,0⟩ : ResV),()),(({ e with m := r6.2.1 } : EnvV),({ f with line := 12 } : FrV),()))
   else
   if f.line = 12 then
   (ajI e.c f.j).bind fun r7 =>
   (aaz e.m 3 r7.1.1 0 (wu (wi ((aae f.l (wi (((f.l.length : Nat) : Int) - 1))) + 1)))).bind fun r8 =>
   if r8.1.2.1 = true then
   (aay ({ e with m := r8.2.1 } : EnvV) 6 f.a (aae f.l (wi (((f.l.length : Nat) : Int) - 1))) f.j 0).bind fun r9 =>
   some (((⟨false,0,0⟩ : ResV),()),(r9.2.1,({ f with line := 13 } : FrV),()))
   else
   some (((⟨false,0,0⟩ : ResV),()),(({ e with m := r8.2.1 } : EnvV),({ f with line := 15 } : FrV),()))
   else
   if f.line = 13 then
   (acQ e.c (aae f.l (wi (((f.l.length : Nat) : Int) - 1)))).bind fun r10 =>
   (aaz e.m 1 r10.1.1 0 0).bind fun r11 =>
   some (((⟨false,0,0⟩ : ResV),()),(({ e with m := r11.2.1 } : EnvV),({ f with line := 14,t := wi (r11.1.1) } : FrV),()))
   else
   if f.line = 15 then
   (acP e.c (aae f.l (wi (((f.l.length : Nat) : Int) - 1)))).bind fun r12 =>
   (aaz e.m 2 r12.1.1 2 0).bind fun r13 =>
   some (((⟨false,0,0⟩ : ResV),()),(({ e with m := r13.2.1 } : EnvV),({ f with line := 16 } : FrV),()))
   else
   if f.line = 16 then
   (af6 e.c (aae f.l (wi (((f.l.length : Nat) : Int) - 1)))).bind fun r14 =>
   (aaz e.m 2 r14.1.1 0 0).bind fun r15 =>
   (aay ({ e with m := r15.2.1,recs := e.recs.set (aae f.l (wi (((f.l.length : Nat) : Int) - 1))).toNat ({ aap e.recs (aae f.l (wi (((f.l.length : Nat) : Int) - 1))) with waiting := (-1) } : RecV) } : EnvV) 8 f.a (aae f.l (wi (((f.l.length : Nat) : Int) - 1))) f.j 0).bind fun r16 =>
   some (((⟨false,0,0⟩ : ResV),()),(r16.2.1,({ f with line := 1 } : FrV),()))
   else
   (ah9 e f (aae f.l (wi (((f.l.length : Nat) : Int) - 1)))).bind fun r17 =>
   some ((r17.1.1,()),(r17.2.1,r17.2.2.1,()))
  else none
 else none
noncomputable abbrev aqT : Con SR1 := ⟨127,[.ref 12,.ref 8],[.val 10],fun x =>aep x.1 x.2.1⟩
noncomputable def atw : List (Nat × Func) := [(173,Tryz.f173),(112,Tryz.f112),(117,Tryz.f117),(174,Tryz.f174),(116,Tryz.f116),(114,Tryz.f114)]
theorem atx : CO Tryz.prog aqT := aaC aaB Tryz.func127 [aiz,acd,adb,akA,aa1,adC,ajC] ⟨ajG,abR,acY,alW,aaZ,adu,am6,trivial⟩ atw ⟨Tryz.func173,Tryz.func112,Tryz.func117,Tryz.func174,Tryz.func116,Tryz.func114,trivial⟩ (fun _ =>[]) [] fun x =>by kernel_rfl
end Go.Proofs.YtkmkhldmflebkaaGreat
