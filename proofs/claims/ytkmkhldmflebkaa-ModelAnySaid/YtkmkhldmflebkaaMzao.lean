/- The model of the program in the evaluator's form. The model of the program in the evaluator's form. -/
import Derived.Test.YtkmkhldmflebkaaMzak
import Derived.Test.YtkmkhldmflebkaaMzan
set_option linter.all false
namespace Go.Proofs.Ytkmkhldmflebkaa
section
open Go Go.RowKit
set_option maxRecDepth 100000
variable [Tb]
noncomputable def agi (y0 : Int) : Option ((Bool × Unit) × (Unit)) :=
 some ((decide (y0 ≠ y0), ()), (()))
noncomputable abbrev aid : Con SR1 := ⟨90, [.sh sI_], [.sh .b], fun x => agi x.1⟩
theorem akq : CO Try.prog aid := abC abx Try.func90 [] trivial [] trivial (fun _ => []) [] fun x => by kernel_rfl
noncomputable def adt (y0 : Int) (y1 : Int) : Option ((Int × Unit) × (Unit)) :=
 (agi y0).bind fun r1 =>
 (agi y1).bind fun r2 =>
 if r1.1.1 = true then
  if r2.1.1 = true then
   some ((0, ()), (()))
  else
  some (((-1), ()), (()))
 else
 if r2.1.1 = true then
  some ((1, ()), (()))
 else
 if y0 < y1 then
  some (((-1), ()), (()))
 else
 if y1 < y0 then
  some ((1, ()), (()))
 else
 some ((0, ()), (()))
noncomputable abbrev agY : Con SR1 := ⟨87, [.sh sI_, .sh sI_], [.sh sI_], fun x => adt x.1 x.2.1⟩
theorem aiV : CO Try.prog agY := abC abx Try.func87 [aid] ⟨akq, trivial⟩ [] trivial (fun _ => []) [] fun x => by kernel_rfl
noncomputable def aoR (y0 : List Int) : Option ((Int × Unit) × (Unit)) :=
 (lpF (σ := Int × Unit) (β := (Int × Unit) ⊕ ((Int × Unit) × (Unit))) (fun self3 x1 =>
  if x1.1 < ((y0.length : Nat) : Int) then
   if 0 ≤ x1.1 ∧ x1.1 < ((y0.length : Nat) : Int) then
   if (aaQ y0 x1.1) ≠ 0 then
   Option.map Sum.inr (
   some ((aaQ y0 x1.1, ()), (()))
   )
   else
   self3 (wi (x1.1 + 1), ())
   else none
  else
  some (Sum.inl (x1.1, ()))
 ) 18446744073709551616 (0, ())).bind fun z2 => match z2 with
 | .inr o4 => some o4
 | .inl z2 =>
 some ((0, ()), (()))
noncomputable abbrev anj : Con SR1 := ⟨86, [.sh (.ro 1)], [.sh sI_], fun x => aoR x.1⟩
theorem aoP : CO Try.prog anj := abC abx Try.func86 [] trivial [] trivial (fun _ => []) [(3, .loopR [.rg 8 sI_] 18446744073709551616 0)] fun x => by kernel_rfl
noncomputable def acl (y0 : KyV) (y1 : KyV) : Option ((Int × Unit) × (Unit)) :=
 (adt y0.deadline y1.deadline).bind fun r1 =>
 if y1.task = y1.task then
  if y0.task = y0.task then
   if y1.arrival = y1.arrival then
   if y0.arrival = y0.arrival then
   (adt y0.arrival y1.arrival).bind fun r2 =>
   if y1.task = y1.task then
   if y0.task = y0.task then
   (adt y0.task y1.task).bind fun r3 =>
   (aoR ([r1.1.1, r2.1.1, r3.1.1])).bind fun r4 =>
   some ((r4.1.1, ()), (()))
   else none
   else none
   else none
   else none
  else none
 else none
noncomputable abbrev afJ : Con SR1 := ⟨75, [.val 68, .val 68], [.sh sI_], fun x => acl x.1 x.2.1⟩
theorem ahp : CO Try.prog afJ := abC abx Try.func75 [agY, anj] ⟨aiV, aoP, trivial⟩ [] trivial (fun _ => []) [] fun x => by kernel_rfl
noncomputable def aaw (y0 : CtP) (y1 : Cfg) (y2 : Ev) : Option ((Bool × Unit) × (CtP × Unit)) :=
 if y2.kind = 1 then
  ((
   if y2.other < 0 then
   some (true, y0, ())
   else
   if ((y1.subs.length : Nat) : Int) ≤ y2.other then
   some (true, y0, ())
   else
   some (decide (y1.heap ≤ ((y0.keys.length : Nat) : Int)), y0, ())
  ) : Option (Bool × CtP × Unit)).bind fun z1 =>
  if z1.1 = true then
   some ((false, ()), (z1.2.1, ()))
  else
  if 0 ≤ y2.other ∧ y2.other < ((y1.subs.length : Nat) : Int) then
   if y2.task = y2.task then
   if z1.2.1.count = z1.2.1.count then
   if ((acz y1.subs y2.other).deadline) = ((acz y1.subs y2.other).deadline) then
   if y2.other = y2.other then
   ((
   (lpF (σ := Int × Int × Unit) (β := Int × Int × Unit) (fun self4 x2 =>
   if x2.1 < x2.2.1 then
   if 0 ≤ wi (Int.fdiv (wu (wi (x2.1 + x2.2.1))) (2 ^ min (1 : Int).toNat IntKind.u64.bits)) ∧ wi (Int.fdiv (wu (wi (x2.1 + x2.2.1))) (2 ^ min (1 : Int).toNat IntKind.u64.bits)) < ((z1.2.1.keys.length : Nat) : Int) then
   (acl (adi z1.2.1.keys (wi (Int.fdiv (wu (wi (x2.1 + x2.2.1))) (2 ^ min (1 : Int).toNat IntKind.u64.bits)))) (⟨(acz y1.subs y2.other).deadline, z1.2.1.count, y2.task⟩ : KyV)).bind fun r5 =>
   if r5.1.1 < 0 then
   self4 (wi ((wi (Int.fdiv (wu (wi (x2.1 + x2.2.1))) (2 ^ min (1 : Int).toNat IntKind.u64.bits))) + 1), x2.2.1, ())
   else
   self4 (x2.1, wi (Int.fdiv (wu (wi (x2.1 + x2.2.1))) (2 ^ min (1 : Int).toNat IntKind.u64.bits)), ())
   else none
   else
   some (x2.1, x2.2.1, ())
   ) 18446744073709551616 (0, ((z1.2.1.keys.length : Nat) : Int), ())).bind fun z3 =>
   if z3.1 < ((z1.2.1.keys.length : Nat) : Int) then
   if 0 ≤ z3.1 ∧ z3.1 < ((z1.2.1.keys.length : Nat) : Int) then
   (acl (adi z1.2.1.keys z3.1) (⟨(acz y1.subs y2.other).deadline, z1.2.1.count, y2.task⟩ : KyV)).bind fun r6 =>
   some (z3.1, ())
   else none
   else
   some (z3.1, ())
   ) : Option (Int × Unit)).bind fun z7 =>
   (afb z1.2.1.keys z7.1 ([(⟨(acz y1.subs y2.other).deadline, z1.2.1.count, y2.task⟩ : KyV)])).bind fun r8 =>
   some ((true, ()), ((⟨r8.1.1, wi (z1.2.1.count + 1)⟩ : CtP), ()))
   else none
   else none
   else none
   else none
  else none
 else
 if y2.kind = 13 then
  ((
   if ((y0.keys.length : Nat) : Int) = 0 then
   some (true, y0, ())
   else
   if 0 ≤ (0 : Int) ∧ (0 : Int) < ((y0.keys.length : Nat) : Int) then
   some (decide (((adi y0.keys 0).task) ≠ y2.task), y0, ())
   else none
  ) : Option (Bool × CtP × Unit)).bind fun z9 =>
  if z9.1 = true then
   some ((false, ()), (z9.2.1, ()))
  else
  if 0 ≤ (1 : Int) ∧ (1 : Int) ≤ ((z9.2.1.keys.length : Nat) : Int) then
   some ((true, ()), ((⟨z9.2.1.keys.drop ((1 : Int) : Int).toNat, z9.2.1.count⟩ : CtP), ()))
  else none
 else
 if y2.kind = 2 then
  if y2.level ≠ 1 then
   some ((true, ()), (y0, ()))
  else
  some ((decide (((y0.keys.length : Nat) : Int) = y1.heap), ()), (y0, ()))
 else
 some ((true, ()), (y0, ()))
noncomputable abbrev adL : Con SR1 := ⟨54, [.ref 69, .val 13, .val 2], [.sh .b], fun x => aaw x.1 x.2.1 x.2.2.1⟩
noncomputable def afx : List (Nat × Func) := [(74, Try.f74)]
theorem afy : CO Try.prog adL := abC abx Try.func54 [afJ, afY] ⟨ahp, ajB, trivial⟩ afx ⟨Try.func74, trivial⟩ (fun f => (get [(74, [(3, .loop [.rg 9 sI_, .rg 10 sI_] 18446744073709551616 0)])] f).getD []) [(4, .cut [.rg 34 .b, .ob 0 69] [10, 11, 17, 18]), (7, .cut [.rg 8 sI_] [0, 10, 11, 17, 18, 36, 37, 44]), (11, .cut [.rg 95 .b, .ob 0 69] [10, 11, 17, 18])] fun x => by kernel_rfl
noncomputable def aai (y0 : SyP) (y1 : Ev) : Option ((Bool × Unit) × (SyP × Unit)) :=
 if y1.kind < 1 then
  some ((false, ()), (y0, ()))
 else
 if ((([(⟨true, false, false, true, true, false⟩ : UseV), (⟨false, false, false, true, false, true⟩ : UseV), (⟨true, true, false, false, true, false⟩ : UseV), (⟨true, false, false, false, false, false⟩ : UseV), (⟨true, false, false, false, false, false⟩ : UseV), (⟨true, true, false, false, false, false⟩ : UseV), (⟨true, false, false, false, true, false⟩ : UseV), (⟨true, true, false, false, false, false⟩ : UseV), (⟨true, false, false, false, false, false⟩ : UseV), (⟨true, false, false, false, false, false⟩ : UseV), (⟨true, false, false, false, true, false⟩ : UseV), (⟨true, false, false, false, true, false⟩ : UseV), (⟨true, false, false, false, false, false⟩ : UseV), (⟨true, false, true, false, true, false⟩ : UseV), (⟨true, false, false, false, false, false⟩ : UseV), (⟨false, false, false, false, false, false⟩ : UseV), (⟨false, false, false, true, false, false⟩ : UseV), (⟨false, false, true, false, false, false⟩ : UseV), (⟨true, false, false, false, true, false⟩ : UseV)] : List UseV).length : Nat) : Int) < y1.kind then
  some ((false, ()), (y0, ()))
 else
 if 0 ≤ wi (y1.kind - 1) ∧ wi (y1.kind - 1) < ((([(⟨true, false, false, true, true, false⟩ : UseV), (⟨false, false, false, true, false, true⟩ : UseV), (⟨true, true, false, false, true, false⟩ : UseV), (⟨true, false, false, false, false, false⟩ : UseV), (⟨true, false, false, false, false, false⟩ : UseV), (⟨true, true, false, false, false, false⟩ : UseV), (⟨true, false, false, false, true, false⟩ : UseV), (⟨true, true, false, false, false, false⟩ : UseV), (⟨true, false, false, false, false, false⟩ : UseV), (⟨true, false, false, false, false, false⟩ : UseV), (⟨true, false, false, false, true, false⟩ : UseV), (⟨true, false, false, false, true, false⟩ : UseV), (⟨true, false, false, false, false, false⟩ : UseV), (⟨true, false, true, false, true, false⟩ : UseV), (⟨true, false, false, false, false, false⟩ : UseV), (⟨false, false, false, false, false, false⟩ : UseV), (⟨false, false, false, true, false, false⟩ : UseV), (⟨false, false, true, false, false, false⟩ : UseV), (⟨true, false, false, false, true, false⟩ : UseV)] : List UseV).length : Nat) : Int) then
  ((
   if (!((ajO ([(⟨true, false, false, true, true, false⟩ : UseV), (⟨false, false, false, true, false, true⟩ : UseV), (⟨true, true, false, false, true, false⟩ : UseV), (⟨true, false, false, false, false, false⟩ : UseV), (⟨true, false, false, false, false, false⟩ : UseV), (⟨true, true, false, false, false, false⟩ : UseV), (⟨true, false, false, false, true, false⟩ : UseV), (⟨true, true, false, false, false, false⟩ : UseV), (⟨true, false, false, false, false, false⟩ : UseV), (⟨true, false, false, false, false, false⟩ : UseV), (⟨true, false, false, false, true, false⟩ : UseV), (⟨true, false, false, false, true, false⟩ : UseV), (⟨true, false, false, false, false, false⟩ : UseV), (⟨true, false, true, false, true, false⟩ : UseV), (⟨true, false, false, false, false, false⟩ : UseV), (⟨false, false, false, false, false, false⟩ : UseV), (⟨false, false, false, true, false, false⟩ : UseV), (⟨false, false, true, false, false, false⟩ : UseV), (⟨true, false, false, false, true, false⟩ : UseV)]) (wi (y1.kind - 1))).task)) = true then
   if ¬ (y1.task = 0) then
   some (true, y0, ())
   else
   if (!((ajO ([(⟨true, false, false, true, true, false⟩ : UseV), (⟨false, false, false, true, false, true⟩ : UseV), (⟨true, true, false, false, true, false⟩ : UseV), (⟨true, false, false, false, false, false⟩ : UseV), (⟨true, false, false, false, false, false⟩ : UseV), (⟨true, true, false, false, false, false⟩ : UseV), (⟨true, false, false, false, true, false⟩ : UseV), (⟨true, true, false, false, false, false⟩ : UseV), (⟨true, false, false, false, false, false⟩ : UseV), (⟨true, false, false, false, false, false⟩ : UseV), (⟨true, false, false, false, true, false⟩ : UseV), (⟨true, false, false, false, true, false⟩ : UseV), (⟨true, false, false, false, false, false⟩ : UseV), (⟨true, false, true, false, true, false⟩ : UseV), (⟨true, false, false, false, false, false⟩ : UseV), (⟨false, false, false, false, false, false⟩ : UseV), (⟨false, false, false, true, false, false⟩ : UseV), (⟨false, false, true, false, false, false⟩ : UseV), (⟨true, false, false, false, true, false⟩ : UseV)]) (wi (y1.kind - 1))).raw)) = true then
   if (!((ajO ([(⟨true, false, false, true, true, false⟩ : UseV), (⟨false, false, false, true, false, true⟩ : UseV), (⟨true, true, false, false, true, false⟩ : UseV), (⟨true, false, false, false, false, false⟩ : UseV), (⟨true, false, false, false, false, false⟩ : UseV), (⟨true, true, false, false, false, false⟩ : UseV), (⟨true, false, false, false, true, false⟩ : UseV), (⟨true, true, false, false, false, false⟩ : UseV), (⟨true, false, false, false, false, false⟩ : UseV), (⟨true, false, false, false, false, false⟩ : UseV), (⟨true, false, false, false, true, false⟩ : UseV), (⟨true, false, false, false, true, false⟩ : UseV), (⟨true, false, false, false, false, false⟩ : UseV), (⟨true, false, true, false, true, false⟩ : UseV), (⟨true, false, false, false, false, false⟩ : UseV), (⟨false, false, false, false, false, false⟩ : UseV), (⟨false, false, false, true, false, false⟩ : UseV), (⟨false, false, true, false, false, false⟩ : UseV), (⟨true, false, false, false, true, false⟩ : UseV)]) (wi (y1.kind - 1))).level)) = true then
   some (decide (¬ (y1.level = 0)), y0, ())
   else
   if 0 ≤ y1.level then
   some (decide (¬ (y1.level < y0.c.levels)), y0, ())
   else
   some (true, y0, ())
   else
   some (false, y0, ())
   else
   if 0 ≤ y1.task then
   if ¬ (y1.task < y0.c.tasks) then
   some (true, y0, ())
   else
   if (!((ajO ([(⟨true, false, false, true, true, false⟩ : UseV), (⟨false, false, false, true, false, true⟩ : UseV), (⟨true, true, false, false, true, false⟩ : UseV), (⟨true, false, false, false, false, false⟩ : UseV), (⟨true, false, false, false, false, false⟩ : UseV), (⟨true, true, false, false, false, false⟩ : UseV), (⟨true, false, false, false, true, false⟩ : UseV), (⟨true, true, false, false, false, false⟩ : UseV), (⟨true, false, false, false, false, false⟩ : UseV), (⟨true, false, false, false, false, false⟩ : UseV), (⟨true, false, false, false, true, false⟩ : UseV), (⟨true, false, false, false, true, false⟩ : UseV), (⟨true, false, false, false, false, false⟩ : UseV), (⟨true, false, true, false, true, false⟩ : UseV), (⟨true, false, false, false, false, false⟩ : UseV), (⟨false, false, false, false, false, false⟩ : UseV), (⟨false, false, false, true, false, false⟩ : UseV), (⟨false, false, true, false, false, false⟩ : UseV), (⟨true, false, false, false, true, false⟩ : UseV)]) (wi (y1.kind - 1))).raw)) = true then
   if (!((ajO ([(⟨true, false, false, true, true, false⟩ : UseV), (⟨false, false, false, true, false, true⟩ : UseV), (⟨true, true, false, false, true, false⟩ : UseV), (⟨true, false, false, false, false, false⟩ : UseV), (⟨true, false, false, false, false, false⟩ : UseV), (⟨true, true, false, false, false, false⟩ : UseV), (⟨true, false, false, false, true, false⟩ : UseV), (⟨true, true, false, false, false, false⟩ : UseV), (⟨true, false, false, false, false, false⟩ : UseV), (⟨true, false, false, false, false, false⟩ : UseV), (⟨true, false, false, false, true, false⟩ : UseV), (⟨true, false, false, false, true, false⟩ : UseV), (⟨true, false, false, false, false, false⟩ : UseV), (⟨true, false, true, false, true, false⟩ : UseV), (⟨true, false, false, false, false, false⟩ : UseV), (⟨false, false, false, false, false, false⟩ : UseV), (⟨false, false, false, true, false, false⟩ : UseV), (⟨false, false, true, false, false, false⟩ : UseV), (⟨true, false, false, false, true, false⟩ : UseV)]) (wi (y1.kind - 1))).level)) = true then
   some (decide (¬ (y1.level = 0)), y0, ())
   else
   if 0 ≤ y1.level then
   some (decide (¬ (y1.level < y0.c.levels)), y0, ())
   else
   some (true, y0, ())
   else
   some (false, y0, ())
   else
   some (true, y0, ())
  ) : Option (Bool × SyP × Unit)).bind fun z1 =>
  if z1.1 = true then
   some ((false, ()), (z1.2.1, ()))
  else
  if (ajO ([(⟨true, false, false, true, true, false⟩ : UseV), (⟨false, false, false, true, false, true⟩ : UseV), (⟨true, true, false, false, true, false⟩ : UseV), (⟨true, false, false, false, false, false⟩ : UseV), (⟨true, false, false, false, false, false⟩ : UseV), (⟨true, true, false, false, false, false⟩ : UseV), (⟨true, false, false, false, true, false⟩ : UseV), (⟨true, true, false, false, false, false⟩ : UseV), (⟨true, false, false, false, false, false⟩ : UseV), (⟨true, false, false, false, false, false⟩ : UseV), (⟨true, false, false, false, true, false⟩ : UseV), (⟨true, false, false, false, true, false⟩ : UseV), (⟨true, false, false, false, false, false⟩ : UseV), (⟨true, false, true, false, true, false⟩ : UseV), (⟨true, false, false, false, false, false⟩ : UseV), (⟨false, false, false, false, false, false⟩ : UseV), (⟨false, false, false, true, false, false⟩ : UseV), (⟨false, false, true, false, false, false⟩ : UseV), (⟨true, false, false, false, true, false⟩ : UseV)]) (wi (y1.kind - 1))).ow = true then
   ((
   if 0 ≤ y1.other then
   some (decide (¬ (y1.other < z1.2.1.c.workers)), z1.2.1, ())
   else
   some (true, z1.2.1, ())
   ) : Option (Bool × SyP × Unit)).bind fun z2 =>
   if z2.1 = true then
   some ((false, ()), (z2.2.1, ()))
   else
   if y1.kind = 1 then
   if y1.kind = 1 then
   some ((decide (y1.worker = z2.2.1.c.workers), ()), (z2.2.1, ()))
   else
   if y1.kind = 18 then
   if 0 ≤ y1.worker then
   some ((decide (y1.worker ≤ z2.2.1.c.workers), ()), (z2.2.1, ()))
   else
   some ((false, ()), (z2.2.1, ()))
   else
   if 0 ≤ y1.worker then
   some ((decide (y1.worker < z2.2.1.c.workers), ()), (z2.2.1, ()))
   else
   some ((false, ()), (z2.2.1, ()))
   else
   if y1.kind = 2 then
   some ((decide (y1.worker = z2.2.1.c.workers), ()), (z2.2.1, ()))
   else
   if y1.kind = 18 then
   if 0 ≤ y1.worker then
   some ((decide (y1.worker ≤ z2.2.1.c.workers), ()), (z2.2.1, ()))
   else
   some ((false, ()), (z2.2.1, ()))
   else
   if 0 ≤ y1.worker then
   some ((decide (y1.worker < z2.2.1.c.workers), ()), (z2.2.1, ()))
   else
   some ((false, ()), (z2.2.1, ()))
  else
  if (!((ajO ([(⟨true, false, false, true, true, false⟩ : UseV), (⟨false, false, false, true, false, true⟩ : UseV), (⟨true, true, false, false, true, false⟩ : UseV), (⟨true, false, false, false, false, false⟩ : UseV), (⟨true, false, false, false, false, false⟩ : UseV), (⟨true, true, false, false, false, false⟩ : UseV), (⟨true, false, false, false, true, false⟩ : UseV), (⟨true, true, false, false, false, false⟩ : UseV), (⟨true, false, false, false, false, false⟩ : UseV), (⟨true, false, false, false, false, false⟩ : UseV), (⟨true, false, false, false, true, false⟩ : UseV), (⟨true, false, false, false, true, false⟩ : UseV), (⟨true, false, false, false, false, false⟩ : UseV), (⟨true, false, true, false, true, false⟩ : UseV), (⟨true, false, false, false, false, false⟩ : UseV), (⟨false, false, false, false, false, false⟩ : UseV), (⟨false, false, false, true, false, false⟩ : UseV), (⟨false, false, true, false, false, false⟩ : UseV), (⟨true, false, false, false, true, false⟩ : UseV)]) (wi (y1.kind - 1))).other)) = true then
   ((
   if (!((ajO ([(⟨true, false, false, true, true, false⟩ : UseV), (⟨false, false, false, true, false, true⟩ : UseV), (⟨true, true, false, false, true, false⟩ : UseV), (⟨true, false, false, false, false, false⟩ : UseV), (⟨true, false, false, false, false, false⟩ : UseV), (⟨true, true, false, false, false, false⟩ : UseV), (⟨true, false, false, false, true, false⟩ : UseV), (⟨true, true, false, false, false, false⟩ : UseV), (⟨true, false, false, false, false, false⟩ : UseV), (⟨true, false, false, false, false, false⟩ : UseV), (⟨true, false, false, false, true, false⟩ : UseV), (⟨true, false, false, false, true, false⟩ : UseV), (⟨true, false, false, false, false, false⟩ : UseV), (⟨true, false, true, false, true, false⟩ : UseV), (⟨true, false, false, false, false, false⟩ : UseV), (⟨false, false, false, false, false, false⟩ : UseV), (⟨false, false, false, true, false, false⟩ : UseV), (⟨false, false, true, false, false, false⟩ : UseV), (⟨true, false, false, false, true, false⟩ : UseV)]) (wi (y1.kind - 1))).ot)) = true then
   some (decide (¬ (y1.other = 0)), z1.2.1, ())
   else
   if 0 ≤ y1.other then
   some (decide (¬ (y1.other < z1.2.1.c.tasks)), z1.2.1, ())
   else
   some (true, z1.2.1, ())
   ) : Option (Bool × SyP × Unit)).bind fun z3 =>
   if z3.1 = true then
   some ((false, ()), (z3.2.1, ()))
   else
   if y1.kind = 1 then
   if y1.kind = 1 then
   some ((decide (y1.worker = z3.2.1.c.workers), ()), (z3.2.1, ()))
   else
   if y1.kind = 18 then
   if 0 ≤ y1.worker then
   some ((decide (y1.worker ≤ z3.2.1.c.workers), ()), (z3.2.1, ()))
   else
   some ((false, ()), (z3.2.1, ()))
   else
   if 0 ≤ y1.worker then
   some ((decide (y1.worker < z3.2.1.c.workers), ()), (z3.2.1, ()))
   else
   some ((false, ()), (z3.2.1, ()))
   else
   if y1.kind = 2 then
   some ((decide (y1.worker = z3.2.1.c.workers), ()), (z3.2.1, ()))
   else
   if y1.kind = 18 then
   if 0 ≤ y1.worker then
   some ((decide (y1.worker ≤ z3.2.1.c.workers), ()), (z3.2.1, ()))
   else
   some ((false, ()), (z3.2.1, ()))
   else
   if 0 ≤ y1.worker then
   some ((decide (y1.worker < z3.2.1.c.workers), ()), (z3.2.1, ()))
   else
   some ((false, ()), (z3.2.1, ()))
  else
  if y1.kind = 1 then
   if y1.kind = 1 then
   some ((decide (y1.worker = z1.2.1.c.workers), ()), (z1.2.1, ()))
   else
   if y1.kind = 18 then
   if 0 ≤ y1.worker then
   some ((decide (y1.worker ≤ z1.2.1.c.workers), ()), (z1.2.1, ()))
   else
   some ((false, ()), (z1.2.1, ()))
   else
   if 0 ≤ y1.worker then
   some ((decide (y1.worker < z1.2.1.c.workers), ()), (z1.2.1, ()))
   else
   some ((false, ()), (z1.2.1, ()))
  else
  if y1.kind = 2 then
   some ((decide (y1.worker = z1.2.1.c.workers), ()), (z1.2.1, ()))
  else
  if y1.kind = 18 then
   if 0 ≤ y1.worker then
   some ((decide (y1.worker ≤ z1.2.1.c.workers), ()), (z1.2.1, ()))
   else
   some ((false, ()), (z1.2.1, ()))
  else
  if 0 ≤ y1.worker then
   some ((decide (y1.worker < z1.2.1.c.workers), ()), (z1.2.1, ()))
  else
  some ((false, ()), (z1.2.1, ()))
 else none
noncomputable abbrev adO : Con SR1 := ⟨27, [.ref 72, .val 2], [.sh .b], fun x => aai x.1 x.2.1⟩
noncomputable def afB : List (Nat × Func) := [(51, Try.f51), (52, Try.f52), (53, Try.f53)]
theorem afC : CO Try.prog adO := abC abx Try.func27 [] trivial afB ⟨Try.func51, Try.func52, Try.func53, trivial⟩ (fun _ => []) [(6, .cut [.rg 52 .b, .ob 0 72] [6, 7, 8, 9]), (9, .cut [.rg 64 .b, .ob 0 72] [6, 7, 8, 9]), (12, .cut [.rg 79 .b, .ob 0 72] [6, 7, 8, 9])] fun x => by kernel_rfl
noncomputable def abv (y0 : TkP) (y1 : Int) : Option ((Int × Unit) × (TkP × Unit)) :=
 if y1 < 0 then
  some (((-1), ()), (y0, ()))
 else
 if ((y0.kids.length : Nat) : Int) ≤ y1 then
  some (((-1), ()), (y0, ()))
 else
 if 0 ≤ y1 ∧ y1 < ((y0.kids.length : Nat) : Int) then
  some ((aaQ y0.kids y1, ()), (y0, ()))
 else none
noncomputable abbrev adh : Con SR1 := ⟨77, [.ref 70, .sh sI_], [.sh sI_], fun x => abv x.1 x.2.1⟩
theorem aek : CO Try.prog adh := abC abx Try.func77 [] trivial [] trivial (fun _ => []) [] fun x => by kernel_rfl
noncomputable def aaz (y0 : TkP) : Option ((Ins × Bool × Unit) × (TkP × Unit)) :=
 (lpF (σ := Ins × TkP × Unit) (β := (Ins × TkP × Unit) ⊕ ((Ins × Bool × Unit) × (TkP × Unit))) (fun self3 x1 =>
  if x1.2.1.at_ < ((x1.2.1.prog.length : Nat) : Int) then
   if 0 ≤ x1.2.1.at_ ∧ x1.2.1.at_ < ((x1.2.1.prog.length : Nat) : Int) then
   if ((adQ x1.2.1.prog x1.2.1.at_).op) = ((adQ x1.2.1.prog x1.2.1.at_).op) then
   if ((adQ x1.2.1.prog x1.2.1.at_).a) = ((adQ x1.2.1.prog x1.2.1.at_).a) then
   if ((adQ x1.2.1.prog x1.2.1.at_).b) = ((adQ x1.2.1.prog x1.2.1.at_).b) then
   if x1.2.1.at_ = x1.2.1.at_ then
   if ((adQ x1.2.1.prog x1.2.1.at_).op) = 1 then
   Option.map Sum.inr (
   some ((adQ x1.2.1.prog x1.2.1.at_, true, ()), (x1.2.1, ()))
   )
   else
   if ((adQ x1.2.1.prog x1.2.1.at_).op) = 2 then
   (abv x1.2.1 ((adQ x1.2.1.prog x1.2.1.at_).a)).bind fun r4 =>
   if r4.1.1 ≠ (-1) then
   Option.map Sum.inr (
   some ((adQ x1.2.1.prog x1.2.1.at_, true, ()), (r4.2.1, ()))
   )
   else
   self3 (x1.1, ({ r4.2.1 with at_ := wi (r4.2.1.at_ + 1) } : TkP), ())
   else
   self3 (x1.1, ({ x1.2.1 with at_ := wi (x1.2.1.at_ + 1) } : TkP), ())
   else none
   else none
   else none
   else none
   else none
  else
  some (Sum.inl (x1.1, x1.2.1, ()))
 ) 18446744073709551616 ((⟨0, 0, 0⟩ : Ins), y0, ())).bind fun z2 => match z2 with
 | .inr o5 => some o5
 | .inl z2 =>
 some (((⟨0, 0, 0⟩ : Ins), false, ()), (z2.2.1, ()))
noncomputable abbrev ad2 : Con SR1 := ⟨58, [.ref 70], [.val 3, .sh .b], fun x => aaz x.1⟩
theorem afT : CO Try.prog ad2 := abC abx Try.func58 [adh] ⟨aek, trivial⟩ [] trivial (fun _ => []) [(1, .loopR [.rg 2 (.own 3), .ob 0 70] 18446744073709551616 0)] fun x => by kernel_rfl
noncomputable def acP (y0 : SyP) (y1 : Ev) : Option ((Bool × Unit) × (SyP × Unit)) :=
 (aai y0 y1).bind fun r1 =>
 if (!r1.1.1) = true then
  some ((false, ()), (r1.2.1, ()))
 else
 if 0 ≤ y1.worker ∧ y1.worker < ((r1.2.1.works.length : Nat) : Int) then
  if ((aad r1.2.1.works y1.worker).sleeps) ≠ (decide (y1.kind = 17)) then
   some ((false, ()), (({ r1.2.1 with works := r1.2.1.works.set y1.worker.toNat (aad r1.2.1.works y1.worker) } : SyP), ()))
  else
  if y1.kind = 12 then
   if 0 ≤ y1.task ∧ y1.task < ((r1.2.1.tasks.length : Nat) : Int) then
   if r1.2.1.c.age < 1 then
   some ((false, ()), (({ r1.2.1 with works := r1.2.1.works.set y1.worker.toNat (aad r1.2.1.works y1.worker) } : SyP), ()))
   else
   (aaG (aad (r1.2.1.works.set y1.worker.toNat (aad r1.2.1.works y1.worker)) y1.worker)).bind fun r2 =>
   if (!r2.1.1) = true then
   some ((false, ()), (({ r1.2.1 with works := (r1.2.1.works.set y1.worker.toNat (aad r1.2.1.works y1.worker)).set y1.worker.toNat r2.2.1 } : SyP), ()))
   else
   if ((aab r1.2.1.tasks y1.task).ph) = 0 then
   some ((false, ()), (({ r1.2.1 with tasks := r1.2.1.tasks.set y1.task.toNat (aab r1.2.1.tasks y1.task), works := (r1.2.1.works.set y1.worker.toNat (aad r1.2.1.works y1.worker)).set y1.worker.toNat r2.2.1 } : SyP), ()))
   else
   if y1.level ≠ (wi (((aab r1.2.1.tasks y1.task).lv) + 1)) then
   some ((false, ()), (({ r1.2.1 with tasks := r1.2.1.tasks.set y1.task.toNat (aab r1.2.1.tasks y1.task), works := (r1.2.1.works.set y1.worker.toNat (aad r1.2.1.works y1.worker)).set y1.worker.toNat r2.2.1 } : SyP), ()))
   else
   some ((true, ()), (({ r1.2.1 with tasks := r1.2.1.tasks.set y1.task.toNat ({ aab r1.2.1.tasks y1.task with lv := y1.level } : TkP), works := ((r1.2.1.works.set y1.worker.toNat (aad r1.2.1.works y1.worker)).set y1.worker.toNat r2.2.1).set y1.worker.toNat ({ aad ((r1.2.1.works.set y1.worker.toNat (aad r1.2.1.works y1.worker)).set y1.worker.toNat r2.2.1) y1.worker with last := y1 } : WkP) } : SyP), ()))
   else none
  else
   if y1.kind = 11 then
   if 0 ≤ y1.task ∧ y1.task < ((r1.2.1.tasks.length : Nat) : Int) then
   if (!((aad r1.2.1.works y1.worker).walks)) = true then
   some ((false, ()), (({ r1.2.1 with works := r1.2.1.works.set y1.worker.toNat (aad r1.2.1.works y1.worker) } : SyP), ()))
   else
   if 0 ≤ y1.task ∧ y1.task < ((r1.2.1.tasks.length : Nat) : Int) then
   (lpF (σ := Int × Unit) (β := (Int × Unit) ⊕ ((Bool × Unit) × (SyP × Unit))) (fun self5 x3 =>
   if x3.1 ≠ (-1) then
   if x3.1 = ((aad r1.2.1.works y1.worker).walk) then
   Option.map Sum.inr (
   if y1.level ≤ ((aab r1.2.1.tasks y1.task).lv) then
   some ((false, ()), (({ r1.2.1 with tasks := r1.2.1.tasks.set y1.task.toNat (aab r1.2.1.tasks y1.task), works := r1.2.1.works.set y1.worker.toNat (aad r1.2.1.works y1.worker) } : SyP), ()))
   else
   if 0 ≤ (aad (r1.2.1.works.set y1.worker.toNat (aad r1.2.1.works y1.worker)) y1.worker).walk ∧ (aad (r1.2.1.works.set y1.worker.toNat (aad r1.2.1.works y1.worker)) y1.worker).walk < (((r1.2.1.tasks.set y1.task.toNat (aab r1.2.1.tasks y1.task)).length : Nat) : Int) then
   if ((aab (r1.2.1.tasks.set y1.task.toNat (aab r1.2.1.tasks y1.task)) ((aad (r1.2.1.works.set y1.worker.toNat (aad r1.2.1.works y1.worker)) y1.worker).walk)).lv) < y1.level then
   some ((false, ()), (({ r1.2.1 with tasks := (r1.2.1.tasks.set y1.task.toNat (aab r1.2.1.tasks y1.task)).set ((aad (r1.2.1.works.set y1.worker.toNat (aad r1.2.1.works y1.worker)) y1.worker).walk).toNat (aab (r1.2.1.tasks.set y1.task.toNat (aab r1.2.1.tasks y1.task)) ((aad (r1.2.1.works.set y1.worker.toNat (aad r1.2.1.works y1.worker)) y1.worker).walk)), works := (r1.2.1.works.set y1.worker.toNat (aad r1.2.1.works y1.worker)).set y1.worker.toNat (aad (r1.2.1.works.set y1.worker.toNat (aad r1.2.1.works y1.worker)) y1.worker) } : SyP), ()))
   else
   if ((aad (r1.2.1.works.set y1.worker.toNat (aad r1.2.1.works y1.worker)) y1.worker).up) ≠ (-1) then
   if ((aad (r1.2.1.works.set y1.worker.toNat (aad r1.2.1.works y1.worker)) y1.worker).up) ≠ y1.level then
   some ((false, ()), (({ r1.2.1 with tasks := (r1.2.1.tasks.set y1.task.toNat (aab r1.2.1.tasks y1.task)).set ((aad (r1.2.1.works.set y1.worker.toNat (aad r1.2.1.works y1.worker)) y1.worker).walk).toNat (aab (r1.2.1.tasks.set y1.task.toNat (aab r1.2.1.tasks y1.task)) ((aad (r1.2.1.works.set y1.worker.toNat (aad r1.2.1.works y1.worker)) y1.worker).walk)), works := (r1.2.1.works.set y1.worker.toNat (aad r1.2.1.works y1.worker)).set y1.worker.toNat (aad (r1.2.1.works.set y1.worker.toNat (aad r1.2.1.works y1.worker)) y1.worker) } : SyP), ()))
   else
   if y1.level = y1.level then
   some ((true, ()), (({ r1.2.1 with tasks := ((r1.2.1.tasks.set y1.task.toNat (aab r1.2.1.tasks y1.task)).set ((aad (r1.2.1.works.set y1.worker.toNat (aad r1.2.1.works y1.worker)) y1.worker).walk).toNat (aab (r1.2.1.tasks.set y1.task.toNat (aab r1.2.1.tasks y1.task)) ((aad (r1.2.1.works.set y1.worker.toNat (aad r1.2.1.works y1.worker)) y1.worker).walk))).set y1.task.toNat ({ aab ((r1.2.1.tasks.set y1.task.toNat (aab r1.2.1.tasks y1.task)).set ((aad (r1.2.1.works.set y1.worker.toNat (aad r1.2.1.works y1.worker)) y1.worker).walk).toNat (aab (r1.2.1.tasks.set y1.task.toNat (aab r1.2.1.tasks y1.task)) ((aad (r1.2.1.works.set y1.worker.toNat (aad r1.2.1.works y1.worker)) y1.worker).walk))) y1.task with lv := y1.level } : TkP), works := (r1.2.1.works.set y1.worker.toNat (aad r1.2.1.works y1.worker)).set y1.worker.toNat ({ aad (r1.2.1.works.set y1.worker.toNat (aad r1.2.1.works y1.worker)) y1.worker with up := y1.level, last := y1 } : WkP) } : SyP), ()))
   else none
   else
   if y1.level = y1.level then
   some ((true, ()), (({ r1.2.1 with tasks := ((r1.2.1.tasks.set y1.task.toNat (aab r1.2.1.tasks y1.task)).set ((aad (r1.2.1.works.set y1.worker.toNat (aad r1.2.1.works y1.worker)) y1.worker).walk).toNat (aab (r1.2.1.tasks.set y1.task.toNat (aab r1.2.1.tasks y1.task)) ((aad (r1.2.1.works.set y1.worker.toNat (aad r1.2.1.works y1.worker)) y1.worker).walk))).set y1.task.toNat ({ aab ((r1.2.1.tasks.set y1.task.toNat (aab r1.2.1.tasks y1.task)).set ((aad (r1.2.1.works.set y1.worker.toNat (aad r1.2.1.works y1.worker)) y1.worker).walk).toNat (aab (r1.2.1.tasks.set y1.task.toNat (aab r1.2.1.tasks y1.task)) ((aad (r1.2.1.works.set y1.worker.toNat (aad r1.2.1.works y1.worker)) y1.worker).walk))) y1.task with lv := y1.level } : TkP), works := (r1.2.1.works.set y1.worker.toNat (aad r1.2.1.works y1.worker)).set y1.worker.toNat ({ aad (r1.2.1.works.set y1.worker.toNat (aad r1.2.1.works y1.worker)) y1.worker with up := y1.level, last := y1 } : WkP) } : SyP), ()))
   else none
   else none
   )
   else
   if 0 ≤ x3.1 ∧ x3.1 < ((r1.2.1.tasks.length : Nat) : Int) then
   self5 ((aab r1.2.1.tasks x3.1).pa, ())
   else none
   else
   some (Sum.inl (x3.1, ()))
   ) 18446744073709551616 ((aab r1.2.1.tasks y1.task).pa, ())).bind fun z4 => match z4 with
   | .inr o6 => some o6
   | .inl z4 =>
   some ((false, ()), (({ r1.2.1 with works := r1.2.1.works.set y1.worker.toNat (aad r1.2.1.works y1.worker) } : SyP), ()))
   else none
   else none
   else
   if y1.kind = 10 then
   (aaO (aad (r1.2.1.works.set y1.worker.toNat (aad r1.2.1.works y1.worker)) y1.worker)).bind fun r7 =>
   if y1.task = y1.task then
   if r7.1.1 ≠ y1.task then
   some ((false, ()), (({ r1.2.1 with works := (r1.2.1.works.set y1.worker.toNat (aad r1.2.1.works y1.worker)).set y1.worker.toNat r7.2.1 } : SyP), ()))
   else
   if 0 ≤ y1.task ∧ y1.task < ((r1.2.1.tasks.length : Nat) : Int) then
   agr (
   (aaz (aab r1.2.1.tasks y1.task)).bind fun r9 =>
   if y1.task = y1.task then
   if r9.1.2.1 = true then
   some ((false, ()), (({ r1.2.1 with tasks := r1.2.1.tasks.set y1.task.toNat r9.2.1, works := (r1.2.1.works.set y1.worker.toNat (aad r1.2.1.works y1.worker)).set y1.worker.toNat r7.2.1 } : SyP), ()))
   else
   if 0 ≤ y1.task ∧ y1.task < (((r1.2.1.tasks.set y1.task.toNat r9.2.1).length : Nat) : Int) then
   if 0 ≤ wi (((((aad ((r1.2.1.works.set y1.worker.toNat (aad r1.2.1.works y1.worker)).set y1.worker.toNat r7.2.1) y1.worker).stack).length : Nat) : Int) - 1) ∧ wi (((((aad ((r1.2.1.works.set y1.worker.toNat (aad r1.2.1.works y1.worker)).set y1.worker.toNat r7.2.1) y1.worker).stack).length : Nat) : Int) - 1) ≤ ((((aad ((r1.2.1.works.set y1.worker.toNat (aad r1.2.1.works y1.worker)).set y1.worker.toNat r7.2.1) y1.worker).stack).length : Nat) : Int) then
   some ((true, ()), (({ r1.2.1 with tasks := (r1.2.1.tasks.set y1.task.toNat r9.2.1).set y1.task.toNat ({ aab (r1.2.1.tasks.set y1.task.toNat r9.2.1) y1.task with ph := 4 } : TkP), works := ((r1.2.1.works.set y1.worker.toNat (aad r1.2.1.works y1.worker)).set y1.worker.toNat r7.2.1).set y1.worker.toNat ({ aad ((r1.2.1.works.set y1.worker.toNat (aad r1.2.1.works y1.worker)).set y1.worker.toNat r7.2.1) y1.worker with stack := ((aad ((r1.2.1.works.set y1.worker.toNat (aad r1.2.1.works y1.worker)).set y1.worker.toNat r7.2.1) y1.worker).stack).take (wi (((((aad ((r1.2.1.works.set y1.worker.toNat (aad r1.2.1.works y1.worker)).set y1.worker.toNat r7.2.1) y1.worker).stack).length : Nat) : Int) - 1) : Int).toNat, last := y1 } : WkP) } : SyP), ()))
   else none
   else none
   else none
   ) (
   if y1.task = y1.task then
   (aaz (aab r1.2.1.tasks y1.task)).bind fun r8 =>
   if r8.1.2.1 = true then
   some ((false, ()), (({ r1.2.1 with tasks := r1.2.1.tasks.set y1.task.toNat r8.2.1, works := (r1.2.1.works.set y1.worker.toNat (aad r1.2.1.works y1.worker)).set y1.worker.toNat r7.2.1 } : SyP), ()))
   else
   if 0 ≤ y1.task ∧ y1.task < (((r1.2.1.tasks.set y1.task.toNat r8.2.1).length : Nat) : Int) then
   if 0 ≤ wi (((((aad ((r1.2.1.works.set y1.worker.toNat (aad r1.2.1.works y1.worker)).set y1.worker.toNat r7.2.1) y1.worker).stack).length : Nat) : Int) - 1) ∧ wi (((((aad ((r1.2.1.works.set y1.worker.toNat (aad r1.2.1.works y1.worker)).set y1.worker.toNat r7.2.1) y1.worker).stack).length : Nat) : Int) - 1) ≤ ((((aad ((r1.2.1.works.set y1.worker.toNat (aad r1.2.1.works y1.worker)).set y1.worker.toNat r7.2.1) y1.worker).stack).length : Nat) : Int) then
   some ((true, ()), (({ r1.2.1 with tasks := (r1.2.1.tasks.set y1.task.toNat r8.2.1).set y1.task.toNat ({ aab (r1.2.1.tasks.set y1.task.toNat r8.2.1) y1.task with ph := 4 } : TkP), works := ((r1.2.1.works.set y1.worker.toNat (aad r1.2.1.works y1.worker)).set y1.worker.toNat r7.2.1).set y1.worker.toNat ({ aad ((r1.2.1.works.set y1.worker.toNat (aad r1.2.1.works y1.worker)).set y1.worker.toNat r7.2.1) y1.worker with stack := ((aad ((r1.2.1.works.set y1.worker.toNat (aad r1.2.1.works y1.worker)).set y1.worker.toNat r7.2.1) y1.worker).stack).take (wi (((((aad ((r1.2.1.works.set y1.worker.toNat (aad r1.2.1.works y1.worker)).set y1.worker.toNat r7.2.1) y1.worker).stack).length : Nat) : Int) - 1) : Int).toNat, last := y1 } : WkP) } : SyP), ()))
   else none
   else none
   else none
   )
   else none
   else none
   else
   if y1.kind = 9 then
   if 0 ≤ y1.task ∧ y1.task < ((r1.2.1.tasks.length : Nat) : Int) then
   if ((aab r1.2.1.tasks y1.task).ph) ≠ 3 then
   some ((false, ()), (({ r1.2.1 with tasks := r1.2.1.tasks.set y1.task.toNat (aab r1.2.1.tasks y1.task), works := r1.2.1.works.set y1.worker.toNat (aad r1.2.1.works y1.worker) } : SyP), ()))
   else
   if 0 ≤ (aab r1.2.1.tasks y1.task).wt ∧ (aab r1.2.1.tasks y1.task).wt < (((r1.2.1.tasks.set y1.task.toNat (aab r1.2.1.tasks y1.task)).length : Nat) : Int) then
   if ((aab (r1.2.1.tasks.set y1.task.toNat (aab r1.2.1.tasks y1.task)) ((aab r1.2.1.tasks y1.task).wt)).ph) ≠ 4 then
   some ((false, ()), (({ r1.2.1 with tasks := (r1.2.1.tasks.set y1.task.toNat (aab r1.2.1.tasks y1.task)).set ((aab r1.2.1.tasks y1.task).wt).toNat (aab (r1.2.1.tasks.set y1.task.toNat (aab r1.2.1.tasks y1.task)) ((aab r1.2.1.tasks y1.task).wt)), works := r1.2.1.works.set y1.worker.toNat (aad r1.2.1.works y1.worker) } : SyP), ()))
   else
   (aaG (aad (r1.2.1.works.set y1.worker.toNat (aad r1.2.1.works y1.worker)) y1.worker)).bind fun r10 =>
   if (!r10.1.1) = true then
   if ((aad ((r1.2.1.works.set y1.worker.toNat (aad r1.2.1.works y1.worker)).set y1.worker.toNat r10.2.1) y1.worker).last.kind) ≠ 10 then
   some ((false, ()), (({ r1.2.1 with tasks := (r1.2.1.tasks.set y1.task.toNat (aab r1.2.1.tasks y1.task)).set ((aab r1.2.1.tasks y1.task).wt).toNat (aab (r1.2.1.tasks.set y1.task.toNat (aab r1.2.1.tasks y1.task)) ((aab r1.2.1.tasks y1.task).wt)), works := ((r1.2.1.works.set y1.worker.toNat (aad r1.2.1.works y1.worker)).set y1.worker.toNat r10.2.1).set y1.worker.toNat (aad ((r1.2.1.works.set y1.worker.toNat (aad r1.2.1.works y1.worker)).set y1.worker.toNat r10.2.1) y1.worker) } : SyP), ()))
   else
   if ((aad ((r1.2.1.works.set y1.worker.toNat (aad r1.2.1.works y1.worker)).set y1.worker.toNat r10.2.1) y1.worker).last.task) ≠ ((aab ((r1.2.1.tasks.set y1.task.toNat (aab r1.2.1.tasks y1.task)).set ((aab r1.2.1.tasks y1.task).wt).toNat (aab (r1.2.1.tasks.set y1.task.toNat (aab r1.2.1.tasks y1.task)) ((aab r1.2.1.tasks y1.task).wt))) y1.task).wt) then
   some ((false, ()), (({ r1.2.1 with tasks := ((r1.2.1.tasks.set y1.task.toNat (aab r1.2.1.tasks y1.task)).set ((aab r1.2.1.tasks y1.task).wt).toNat (aab (r1.2.1.tasks.set y1.task.toNat (aab r1.2.1.tasks y1.task)) ((aab r1.2.1.tasks y1.task).wt))).set y1.task.toNat (aab ((r1.2.1.tasks.set y1.task.toNat (aab r1.2.1.tasks y1.task)).set ((aab r1.2.1.tasks y1.task).wt).toNat (aab (r1.2.1.tasks.set y1.task.toNat (aab r1.2.1.tasks y1.task)) ((aab r1.2.1.tasks y1.task).wt))) y1.task), works := ((r1.2.1.works.set y1.worker.toNat (aad r1.2.1.works y1.worker)).set y1.worker.toNat r10.2.1).set y1.worker.toNat (aad ((r1.2.1.works.set y1.worker.toNat (aad r1.2.1.works y1.worker)).set y1.worker.toNat r10.2.1) y1.worker) } : SyP), ()))
   else
   if 0 ≤ y1.task ∧ y1.task < (((((r1.2.1.tasks.set y1.task.toNat (aab r1.2.1.tasks y1.task)).set ((aab r1.2.1.tasks y1.task).wt).toNat (aab (r1.2.1.tasks.set y1.task.toNat (aab r1.2.1.tasks y1.task)) ((aab r1.2.1.tasks y1.task).wt))).set y1.task.toNat (aab ((r1.2.1.tasks.set y1.task.toNat (aab r1.2.1.tasks y1.task)).set ((aab r1.2.1.tasks y1.task).wt).toNat (aab (r1.2.1.tasks.set y1.task.toNat (aab r1.2.1.tasks y1.task)) ((aab r1.2.1.tasks y1.task).wt))) y1.task)).length : Nat) : Int) then
   if 0 ≤ y1.task ∧ y1.task < ((((((r1.2.1.tasks.set y1.task.toNat (aab r1.2.1.tasks y1.task)).set ((aab r1.2.1.tasks y1.task).wt).toNat (aab (r1.2.1.tasks.set y1.task.toNat (aab r1.2.1.tasks y1.task)) ((aab r1.2.1.tasks y1.task).wt))).set y1.task.toNat (aab ((r1.2.1.tasks.set y1.task.toNat (aab r1.2.1.tasks y1.task)).set ((aab r1.2.1.tasks y1.task).wt).toNat (aab (r1.2.1.tasks.set y1.task.toNat (aab r1.2.1.tasks y1.task)) ((aab r1.2.1.tasks y1.task).wt))) y1.task)).set y1.task.toNat ({ aab (((r1.2.1.tasks.set y1.task.toNat (aab r1.2.1.tasks y1.task)).set ((aab r1.2.1.tasks y1.task).wt).toNat (aab (r1.2.1.tasks.set y1.task.toNat (aab r1.2.1.tasks y1.task)) ((aab r1.2.1.tasks y1.task).wt))).set y1.task.toNat (aab ((r1.2.1.tasks.set y1.task.toNat (aab r1.2.1.tasks y1.task)).set ((aab r1.2.1.tasks y1.task).wt).toNat (aab (r1.2.1.tasks.set y1.task.toNat (aab r1.2.1.tasks y1.task)) ((aab r1.2.1.tasks y1.task).wt))) y1.task)) y1.task with ph := 2 } : TkP)).length : Nat) : Int) then
   if (((((aad ((r1.2.1.works.set y1.worker.toNat (aad r1.2.1.works y1.worker)).set y1.worker.toNat r10.2.1) y1.worker).stack).length + ([y1.task] : List Int).length : Nat)) : Int) < 1000000000000 then
   some ((true, ()), (({ r1.2.1 with tasks := ((((r1.2.1.tasks.set y1.task.toNat (aab r1.2.1.tasks y1.task)).set ((aab r1.2.1.tasks y1.task).wt).toNat (aab (r1.2.1.tasks.set y1.task.toNat (aab r1.2.1.tasks y1.task)) ((aab r1.2.1.tasks y1.task).wt))).set y1.task.toNat (aab ((r1.2.1.tasks.set y1.task.toNat (aab r1.2.1.tasks y1.task)).set ((aab r1.2.1.tasks y1.task).wt).toNat (aab (r1.2.1.tasks.set y1.task.toNat (aab r1.2.1.tasks y1.task)) ((aab r1.2.1.tasks y1.task).wt))) y1.task)).set y1.task.toNat ({ aab (((r1.2.1.tasks.set y1.task.toNat (aab r1.2.1.tasks y1.task)).set ((aab r1.2.1.tasks y1.task).wt).toNat (aab (r1.2.1.tasks.set y1.task.toNat (aab r1.2.1.tasks y1.task)) ((aab r1.2.1.tasks y1.task).wt))).set y1.task.toNat (aab ((r1.2.1.tasks.set y1.task.toNat (aab r1.2.1.tasks y1.task)).set ((aab r1.2.1.tasks y1.task).wt).toNat (aab (r1.2.1.tasks.set y1.task.toNat (aab r1.2.1.tasks y1.task)) ((aab r1.2.1.tasks y1.task).wt))) y1.task)) y1.task with ph := 2 } : TkP)).set y1.task.toNat ({ aab ((((r1.2.1.tasks.set y1.task.toNat (aab r1.2.1.tasks y1.task)).set ((aab r1.2.1.tasks y1.task).wt).toNat (aab (r1.2.1.tasks.set y1.task.toNat (aab r1.2.1.tasks y1.task)) ((aab r1.2.1.tasks y1.task).wt))).set y1.task.toNat (aab ((r1.2.1.tasks.set y1.task.toNat (aab r1.2.1.tasks y1.task)).set ((aab r1.2.1.tasks y1.task).wt).toNat (aab (r1.2.1.tasks.set y1.task.toNat (aab r1.2.1.tasks y1.task)) ((aab r1.2.1.tasks y1.task).wt))) y1.task)).set y1.task.toNat ({ aab (((r1.2.1.tasks.set y1.task.toNat (aab r1.2.1.tasks y1.task)).set ((aab r1.2.1.tasks y1.task).wt).toNat (aab (r1.2.1.tasks.set y1.task.toNat (aab r1.2.1.tasks y1.task)) ((aab r1.2.1.tasks y1.task).wt))).set y1.task.toNat (aab ((r1.2.1.tasks.set y1.task.toNat (aab r1.2.1.tasks y1.task)).set ((aab r1.2.1.tasks y1.task).wt).toNat (aab (r1.2.1.tasks.set y1.task.toNat (aab r1.2.1.tasks y1.task)) ((aab r1.2.1.tasks y1.task).wt))) y1.task)) y1.task with ph := 2 } : TkP)) y1.task with wt := (-1) } : TkP), works := ((r1.2.1.works.set y1.worker.toNat (aad r1.2.1.works y1.worker)).set y1.worker.toNat r10.2.1).set y1.worker.toNat ({ aad ((r1.2.1.works.set y1.worker.toNat (aad r1.2.1.works y1.worker)).set y1.worker.toNat r10.2.1) y1.worker with stack := ((aad ((r1.2.1.works.set y1.worker.toNat (aad r1.2.1.works y1.worker)).set y1.worker.toNat r10.2.1) y1.worker).stack) ++ ([y1.task]), last := y1 } : WkP) } : SyP), ()))
   else none
   else none
   else none
   else
   if 0 ≤ y1.task ∧ y1.task < ((((r1.2.1.tasks.set y1.task.toNat (aab r1.2.1.tasks y1.task)).set ((aab r1.2.1.tasks y1.task).wt).toNat (aab (r1.2.1.tasks.set y1.task.toNat (aab r1.2.1.tasks y1.task)) ((aab r1.2.1.tasks y1.task).wt))).length : Nat) : Int) then
   if 0 ≤ y1.task ∧ y1.task < (((((r1.2.1.tasks.set y1.task.toNat (aab r1.2.1.tasks y1.task)).set ((aab r1.2.1.tasks y1.task).wt).toNat (aab (r1.2.1.tasks.set y1.task.toNat (aab r1.2.1.tasks y1.task)) ((aab r1.2.1.tasks y1.task).wt))).set y1.task.toNat ({ aab ((r1.2.1.tasks.set y1.task.toNat (aab r1.2.1.tasks y1.task)).set ((aab r1.2.1.tasks y1.task).wt).toNat (aab (r1.2.1.tasks.set y1.task.toNat (aab r1.2.1.tasks y1.task)) ((aab r1.2.1.tasks y1.task).wt))) y1.task with ph := 2 } : TkP)).length : Nat) : Int) then
   if (((((aad ((r1.2.1.works.set y1.worker.toNat (aad r1.2.1.works y1.worker)).set y1.worker.toNat r10.2.1) y1.worker).stack).length + ([y1.task] : List Int).length : Nat)) : Int) < 1000000000000 then
   some ((true, ()), (({ r1.2.1 with tasks := (((r1.2.1.tasks.set y1.task.toNat (aab r1.2.1.tasks y1.task)).set ((aab r1.2.1.tasks y1.task).wt).toNat (aab (r1.2.1.tasks.set y1.task.toNat (aab r1.2.1.tasks y1.task)) ((aab r1.2.1.tasks y1.task).wt))).set y1.task.toNat ({ aab ((r1.2.1.tasks.set y1.task.toNat (aab r1.2.1.tasks y1.task)).set ((aab r1.2.1.tasks y1.task).wt).toNat (aab (r1.2.1.tasks.set y1.task.toNat (aab r1.2.1.tasks y1.task)) ((aab r1.2.1.tasks y1.task).wt))) y1.task with ph := 2 } : TkP)).set y1.task.toNat ({ aab (((r1.2.1.tasks.set y1.task.toNat (aab r1.2.1.tasks y1.task)).set ((aab r1.2.1.tasks y1.task).wt).toNat (aab (r1.2.1.tasks.set y1.task.toNat (aab r1.2.1.tasks y1.task)) ((aab r1.2.1.tasks y1.task).wt))).set y1.task.toNat ({ aab ((r1.2.1.tasks.set y1.task.toNat (aab r1.2.1.tasks y1.task)).set ((aab r1.2.1.tasks y1.task).wt).toNat (aab (r1.2.1.tasks.set y1.task.toNat (aab r1.2.1.tasks y1.task)) ((aab r1.2.1.tasks y1.task).wt))) y1.task with ph := 2 } : TkP)) y1.task with wt := (-1) } : TkP), works := ((r1.2.1.works.set y1.worker.toNat (aad r1.2.1.works y1.worker)).set y1.worker.toNat r10.2.1).set y1.worker.toNat ({ aad ((r1.2.1.works.set y1.worker.toNat (aad r1.2.1.works y1.worker)).set y1.worker.toNat r10.2.1) y1.worker with stack := ((aad ((r1.2.1.works.set y1.worker.toNat (aad r1.2.1.works y1.worker)).set y1.worker.toNat r10.2.1) y1.worker).stack) ++ ([y1.task]), last := y1 } : WkP) } : SyP), ()))
   else none
   else none
   else none
   else none
   else none
   else
   if y1.kind = 8 then
   (aaO (aad (r1.2.1.works.set y1.worker.toNat (aad r1.2.1.works y1.worker)) y1.worker)).bind fun r11 =>
   if y1.task = y1.task then
   if r11.1.1 ≠ y1.task then
   some ((false, ()), (({ r1.2.1 with works := (r1.2.1.works.set y1.worker.toNat (aad r1.2.1.works y1.worker)).set y1.worker.toNat r11.2.1 } : SyP), ()))
   else
   if 0 ≤ y1.task ∧ y1.task < ((r1.2.1.tasks.length : Nat) : Int) then
   (aaz (aab r1.2.1.tasks y1.task)).bind fun r12 =>
   if r12.1.2.1 = true then
   if r12.1.1.op = 2 then
   (abv (aab (r1.2.1.tasks.set y1.task.toNat r12.2.1) y1.task) r12.1.1.a).bind fun r13 =>
   if y1.other = y1.other then
   if ¬ (r13.1.1 = y1.other) then
   some ((false, ()), (({ r1.2.1 with tasks := (r1.2.1.tasks.set y1.task.toNat r12.2.1).set y1.task.toNat r13.2.1, works := (r1.2.1.works.set y1.worker.toNat (aad r1.2.1.works y1.worker)).set y1.worker.toNat r11.2.1 } : SyP), ()))
   else
   if 0 ≤ y1.other ∧ y1.other < ((((r1.2.1.tasks.set y1.task.toNat r12.2.1).set y1.task.toNat r13.2.1).length : Nat) : Int) then
   if ((aab ((r1.2.1.tasks.set y1.task.toNat r12.2.1).set y1.task.toNat r13.2.1) y1.other).ph) ≠ 4 then
   some ((false, ()), (({ r1.2.1 with tasks := ((r1.2.1.tasks.set y1.task.toNat r12.2.1).set y1.task.toNat r13.2.1).set y1.other.toNat (aab ((r1.2.1.tasks.set y1.task.toNat r12.2.1).set y1.task.toNat r13.2.1) y1.other), works := (r1.2.1.works.set y1.worker.toNat (aad r1.2.1.works y1.worker)).set y1.worker.toNat r11.2.1 } : SyP), ()))
   else
   if 0 ≤ y1.task ∧ y1.task < (((((r1.2.1.tasks.set y1.task.toNat r12.2.1).set y1.task.toNat r13.2.1).set y1.other.toNat (aab ((r1.2.1.tasks.set y1.task.toNat r12.2.1).set y1.task.toNat r13.2.1) y1.other)).length : Nat) : Int) then
   if 0 ≤ y1.task ∧ y1.task < ((((((r1.2.1.tasks.set y1.task.toNat r12.2.1).set y1.task.toNat r13.2.1).set y1.other.toNat (aab ((r1.2.1.tasks.set y1.task.toNat r12.2.1).set y1.task.toNat r13.2.1) y1.other)).set y1.task.toNat (aab (((r1.2.1.tasks.set y1.task.toNat r12.2.1).set y1.task.toNat r13.2.1).set y1.other.toNat (aab ((r1.2.1.tasks.set y1.task.toNat r12.2.1).set y1.task.toNat r13.2.1) y1.other)) y1.task)).length : Nat) : Int) then
   some ((true, ()), (({ r1.2.1 with tasks := ((((r1.2.1.tasks.set y1.task.toNat r12.2.1).set y1.task.toNat r13.2.1).set y1.other.toNat (aab ((r1.2.1.tasks.set y1.task.toNat r12.2.1).set y1.task.toNat r13.2.1) y1.other)).set y1.task.toNat (aab (((r1.2.1.tasks.set y1.task.toNat r12.2.1).set y1.task.toNat r13.2.1).set y1.other.toNat (aab ((r1.2.1.tasks.set y1.task.toNat r12.2.1).set y1.task.toNat r13.2.1) y1.other)) y1.task)).set y1.task.toNat ({ aab ((((r1.2.1.tasks.set y1.task.toNat r12.2.1).set y1.task.toNat r13.2.1).set y1.other.toNat (aab ((r1.2.1.tasks.set y1.task.toNat r12.2.1).set y1.task.toNat r13.2.1) y1.other)).set y1.task.toNat (aab (((r1.2.1.tasks.set y1.task.toNat r12.2.1).set y1.task.toNat r13.2.1).set y1.other.toNat (aab ((r1.2.1.tasks.set y1.task.toNat r12.2.1).set y1.task.toNat r13.2.1) y1.other)) y1.task)) y1.task with at_ := wi (((aab (((r1.2.1.tasks.set y1.task.toNat r12.2.1).set y1.task.toNat r13.2.1).set y1.other.toNat (aab ((r1.2.1.tasks.set y1.task.toNat r12.2.1).set y1.task.toNat r13.2.1) y1.other)) y1.task).at_) + 1) } : TkP), works := ((r1.2.1.works.set y1.worker.toNat (aad r1.2.1.works y1.worker)).set y1.worker.toNat r11.2.1).set y1.worker.toNat ({ aad ((r1.2.1.works.set y1.worker.toNat (aad r1.2.1.works y1.worker)).set y1.worker.toNat r11.2.1) y1.worker with last := y1 } : WkP) } : SyP), ()))
   else none
   else none
   else none
   else none
   else
   some ((false, ()), (({ r1.2.1 with tasks := r1.2.1.tasks.set y1.task.toNat r12.2.1, works := (r1.2.1.works.set y1.worker.toNat (aad r1.2.1.works y1.worker)).set y1.worker.toNat r11.2.1 } : SyP), ()))
   else
   some ((false, ()), (({ r1.2.1 with tasks := r1.2.1.tasks.set y1.task.toNat r12.2.1, works := (r1.2.1.works.set y1.worker.toNat (aad r1.2.1.works y1.worker)).set y1.worker.toNat r11.2.1 } : SyP), ()))
   else none
   else none
   else
   if y1.kind = 7 then
   if (!((aad r1.2.1.works y1.worker).walks)) = true then
   some ((false, ()), (({ r1.2.1 with works := r1.2.1.works.set y1.worker.toNat (aad r1.2.1.works y1.worker) } : SyP), ()))
   else
   if ((aad r1.2.1.works y1.worker).walk) ≠ y1.task then
   some ((false, ()), (({ r1.2.1 with works := r1.2.1.works.set y1.worker.toNat (aad r1.2.1.works y1.worker) } : SyP), ()))
   else
   if y1.level < ((aad r1.2.1.works y1.worker).low) then
   some ((false, ()), (({ r1.2.1 with works := r1.2.1.works.set y1.worker.toNat (aad r1.2.1.works y1.worker) } : SyP), ()))
   else
   if 0 ≤ y1.task ∧ y1.task < ((r1.2.1.tasks.length : Nat) : Int) then
   if ((aab r1.2.1.tasks y1.task).lv) < y1.level then
   some ((false, ()), (({ r1.2.1 with tasks := r1.2.1.tasks.set y1.task.toNat (aab r1.2.1.tasks y1.task), works := r1.2.1.works.set y1.worker.toNat (aad r1.2.1.works y1.worker) } : SyP), ()))
   else
   if ((aad r1.2.1.works y1.worker).up) ≠ (-1) then
   if ((aad r1.2.1.works y1.worker).up) ≠ y1.level then
   some ((false, ()), (({ r1.2.1 with tasks := r1.2.1.tasks.set y1.task.toNat (aab r1.2.1.tasks y1.task), works := r1.2.1.works.set y1.worker.toNat (aad r1.2.1.works y1.worker) } : SyP), ()))
   else
   some ((true, ()), (({ r1.2.1 with tasks := r1.2.1.tasks.set y1.task.toNat (aab r1.2.1.tasks y1.task), works := r1.2.1.works.set y1.worker.toNat ({ aad r1.2.1.works y1.worker with walks := false, last := y1 } : WkP) } : SyP), ()))
   else
   some ((true, ()), (({ r1.2.1 with tasks := r1.2.1.tasks.set y1.task.toNat (aab r1.2.1.tasks y1.task), works := r1.2.1.works.set y1.worker.toNat ({ aad r1.2.1.works y1.worker with walks := false, last := y1 } : WkP) } : SyP), ()))
   else none
   else
   if y1.kind = 6 then
   (aaO (aad (r1.2.1.works.set y1.worker.toNat (aad r1.2.1.works y1.worker)) y1.worker)).bind fun r14 =>
   if y1.task = y1.task then
   if r14.1.1 ≠ y1.task then
   some ((false, ()), (({ r1.2.1 with works := (r1.2.1.works.set y1.worker.toNat (aad r1.2.1.works y1.worker)).set y1.worker.toNat r14.2.1 } : SyP), ()))
   else
   if 0 ≤ y1.task ∧ y1.task < ((r1.2.1.tasks.length : Nat) : Int) then
   (aaz (aab r1.2.1.tasks y1.task)).bind fun r15 =>
   if r15.1.2.1 = true then
   if r15.1.1.op = 2 then
   (abv (aab (r1.2.1.tasks.set y1.task.toNat r15.2.1) y1.task) r15.1.1.a).bind fun r16 =>
   if y1.other = y1.other then
   if ¬ (r16.1.1 = y1.other) then
   some ((false, ()), (({ r1.2.1 with tasks := (r1.2.1.tasks.set y1.task.toNat r15.2.1).set y1.task.toNat r16.2.1, works := (r1.2.1.works.set y1.worker.toNat (aad r1.2.1.works y1.worker)).set y1.worker.toNat r14.2.1 } : SyP), ()))
   else
   if 0 ≤ y1.other ∧ y1.other < ((((r1.2.1.tasks.set y1.task.toNat r15.2.1).set y1.task.toNat r16.2.1).length : Nat) : Int) then
   if ((aab ((r1.2.1.tasks.set y1.task.toNat r15.2.1).set y1.task.toNat r16.2.1) y1.other).ph) = 4 then
   some ((false, ()), (({ r1.2.1 with tasks := ((r1.2.1.tasks.set y1.task.toNat r15.2.1).set y1.task.toNat r16.2.1).set y1.other.toNat (aab ((r1.2.1.tasks.set y1.task.toNat r15.2.1).set y1.task.toNat r16.2.1) y1.other), works := (r1.2.1.works.set y1.worker.toNat (aad r1.2.1.works y1.worker)).set y1.worker.toNat r14.2.1 } : SyP), ()))
   else
   if 0 ≤ y1.task ∧ y1.task < (((((r1.2.1.tasks.set y1.task.toNat r15.2.1).set y1.task.toNat r16.2.1).set y1.other.toNat (aab ((r1.2.1.tasks.set y1.task.toNat r15.2.1).set y1.task.toNat r16.2.1) y1.other)).length : Nat) : Int) then
   if y1.other = y1.other then
   if 0 ≤ wi (((((aad ((r1.2.1.works.set y1.worker.toNat (aad r1.2.1.works y1.worker)).set y1.worker.toNat r14.2.1) y1.worker).stack).length : Nat) : Int) - 1) ∧ wi (((((aad ((r1.2.1.works.set y1.worker.toNat (aad r1.2.1.works y1.worker)).set y1.worker.toNat r14.2.1) y1.worker).stack).length : Nat) : Int) - 1) ≤ ((((aad ((r1.2.1.works.set y1.worker.toNat (aad r1.2.1.works y1.worker)).set y1.worker.toNat r14.2.1) y1.worker).stack).length : Nat) : Int) then
   if y1.task = y1.task then
   some ((true, ()), (({ r1.2.1 with tasks := ((((((r1.2.1.tasks.set y1.task.toNat r15.2.1).set y1.task.toNat r16.2.1).set y1.other.toNat (aab ((r1.2.1.tasks.set y1.task.toNat r15.2.1).set y1.task.toNat r16.2.1) y1.other)).set y1.task.toNat ({ aab (((r1.2.1.tasks.set y1.task.toNat r15.2.1).set y1.task.toNat r16.2.1).set y1.other.toNat (aab ((r1.2.1.tasks.set y1.task.toNat r15.2.1).set y1.task.toNat r16.2.1) y1.other)) y1.task with at_ := wi (((aab (((r1.2.1.tasks.set y1.task.toNat r15.2.1).set y1.task.toNat r16.2.1).set y1.other.toNat (aab ((r1.2.1.tasks.set y1.task.toNat r15.2.1).set y1.task.toNat r16.2.1) y1.other)) y1.task).at_) + 1) } : TkP)).set y1.task.toNat ({ aab ((((r1.2.1.tasks.set y1.task.toNat r15.2.1).set y1.task.toNat r16.2.1).set y1.other.toNat (aab ((r1.2.1.tasks.set y1.task.toNat r15.2.1).set y1.task.toNat r16.2.1) y1.other)).set y1.task.toNat ({ aab (((r1.2.1.tasks.set y1.task.toNat r15.2.1).set y1.task.toNat r16.2.1).set y1.other.toNat (aab ((r1.2.1.tasks.set y1.task.toNat r15.2.1).set y1.task.toNat r16.2.1) y1.other)) y1.task with at_ := wi (((aab (((r1.2.1.tasks.set y1.task.toNat r15.2.1).set y1.task.toNat r16.2.1).set y1.other.toNat (aab ((r1.2.1.tasks.set y1.task.toNat r15.2.1).set y1.task.toNat r16.2.1) y1.other)) y1.task).at_) + 1) } : TkP)) y1.task with ph := 3 } : TkP)).set y1.task.toNat ({ aab (((((r1.2.1.tasks.set y1.task.toNat r15.2.1).set y1.task.toNat r16.2.1).set y1.other.toNat (aab ((r1.2.1.tasks.set y1.task.toNat r15.2.1).set y1.task.toNat r16.2.1) y1.other)).set y1.task.toNat ({ aab (((r1.2.1.tasks.set y1.task.toNat r15.2.1).set y1.task.toNat r16.2.1).set y1.other.toNat (aab ((r1.2.1.tasks.set y1.task.toNat r15.2.1).set y1.task.toNat r16.2.1) y1.other)) y1.task with at_ := wi (((aab (((r1.2.1.tasks.set y1.task.toNat r15.2.1).set y1.task.toNat r16.2.1).set y1.other.toNat (aab ((r1.2.1.tasks.set y1.task.toNat r15.2.1).set y1.task.toNat r16.2.1) y1.other)) y1.task).at_) + 1) } : TkP)).set y1.task.toNat ({ aab ((((r1.2.1.tasks.set y1.task.toNat r15.2.1).set y1.task.toNat r16.2.1).set y1.other.toNat (aab ((r1.2.1.tasks.set y1.task.toNat r15.2.1).set y1.task.toNat r16.2.1) y1.other)).set y1.task.toNat ({ aab (((r1.2.1.tasks.set y1.task.toNat r15.2.1).set y1.task.toNat r16.2.1).set y1.other.toNat (aab ((r1.2.1.tasks.set y1.task.toNat r15.2.1).set y1.task.toNat r16.2.1) y1.other)) y1.task with at_ := wi (((aab (((r1.2.1.tasks.set y1.task.toNat r15.2.1).set y1.task.toNat r16.2.1).set y1.other.toNat (aab ((r1.2.1.tasks.set y1.task.toNat r15.2.1).set y1.task.toNat r16.2.1) y1.other)) y1.task).at_) + 1) } : TkP)) y1.task with ph := 3 } : TkP)) y1.task with wt := y1.other } : TkP)).set y1.task.toNat (aab ((((((r1.2.1.tasks.set y1.task.toNat r15.2.1).set y1.task.toNat r16.2.1).set y1.other.toNat (aab ((r1.2.1.tasks.set y1.task.toNat r15.2.1).set y1.task.toNat r16.2.1) y1.other)).set y1.task.toNat ({ aab (((r1.2.1.tasks.set y1.task.toNat r15.2.1).set y1.task.toNat r16.2.1).set y1.other.toNat (aab ((r1.2.1.tasks.set y1.task.toNat r15.2.1).set y1.task.toNat r16.2.1) y1.other)) y1.task with at_ := wi (((aab (((r1.2.1.tasks.set y1.task.toNat r15.2.1).set y1.task.toNat r16.2.1).set y1.other.toNat (aab ((r1.2.1.tasks.set y1.task.toNat r15.2.1).set y1.task.toNat r16.2.1) y1.other)) y1.task).at_) + 1) } : TkP)).set y1.task.toNat ({ aab ((((r1.2.1.tasks.set y1.task.toNat r15.2.1).set y1.task.toNat r16.2.1).set y1.other.toNat (aab ((r1.2.1.tasks.set y1.task.toNat r15.2.1).set y1.task.toNat r16.2.1) y1.other)).set y1.task.toNat ({ aab (((r1.2.1.tasks.set y1.task.toNat r15.2.1).set y1.task.toNat r16.2.1).set y1.other.toNat (aab ((r1.2.1.tasks.set y1.task.toNat r15.2.1).set y1.task.toNat r16.2.1) y1.other)) y1.task with at_ := wi (((aab (((r1.2.1.tasks.set y1.task.toNat r15.2.1).set y1.task.toNat r16.2.1).set y1.other.toNat (aab ((r1.2.1.tasks.set y1.task.toNat r15.2.1).set y1.task.toNat r16.2.1) y1.other)) y1.task).at_) + 1) } : TkP)) y1.task with ph := 3 } : TkP)).set y1.task.toNat ({ aab (((((r1.2.1.tasks.set y1.task.toNat r15.2.1).set y1.task.toNat r16.2.1).set y1.other.toNat (aab ((r1.2.1.tasks.set y1.task.toNat r15.2.1).set y1.task.toNat r16.2.1) y1.other)).set y1.task.toNat ({ aab (((r1.2.1.tasks.set y1.task.toNat r15.2.1).set y1.task.toNat r16.2.1).set y1.other.toNat (aab ((r1.2.1.tasks.set y1.task.toNat r15.2.1).set y1.task.toNat r16.2.1) y1.other)) y1.task with at_ := wi (((aab (((r1.2.1.tasks.set y1.task.toNat r15.2.1).set y1.task.toNat r16.2.1).set y1.other.toNat (aab ((r1.2.1.tasks.set y1.task.toNat r15.2.1).set y1.task.toNat r16.2.1) y1.other)) y1.task).at_) + 1) } : TkP)).set y1.task.toNat ({ aab ((((r1.2.1.tasks.set y1.task.toNat r15.2.1).set y1.task.toNat r16.2.1).set y1.other.toNat (aab ((r1.2.1.tasks.set y1.task.toNat r15.2.1).set y1.task.toNat r16.2.1) y1.other)).set y1.task.toNat ({ aab (((r1.2.1.tasks.set y1.task.toNat r15.2.1).set y1.task.toNat r16.2.1).set y1.other.toNat (aab ((r1.2.1.tasks.set y1.task.toNat r15.2.1).set y1.task.toNat r16.2.1) y1.other)) y1.task with at_ := wi (((aab (((r1.2.1.tasks.set y1.task.toNat r15.2.1).set y1.task.toNat r16.2.1).set y1.other.toNat (aab ((r1.2.1.tasks.set y1.task.toNat r15.2.1).set y1.task.toNat r16.2.1) y1.other)) y1.task).at_) + 1) } : TkP)) y1.task with ph := 3 } : TkP)) y1.task with wt := y1.other } : TkP)) y1.task), works := ((r1.2.1.works.set y1.worker.toNat (aad r1.2.1.works y1.worker)).set y1.worker.toNat r14.2.1).set y1.worker.toNat (⟨((aad ((r1.2.1.works.set y1.worker.toNat (aad r1.2.1.works y1.worker)).set y1.worker.toNat r14.2.1) y1.worker).stack).take (wi (((((aad ((r1.2.1.works.set y1.worker.toNat (aad r1.2.1.works y1.worker)).set y1.worker.toNat r14.2.1) y1.worker).stack).length : Nat) : Int) - 1) : Int).toNat, true, y1.task, (aab ((((((r1.2.1.tasks.set y1.task.toNat r15.2.1).set y1.task.toNat r16.2.1).set y1.other.toNat (aab ((r1.2.1.tasks.set y1.task.toNat r15.2.1).set y1.task.toNat r16.2.1) y1.other)).set y1.task.toNat ({ aab (((r1.2.1.tasks.set y1.task.toNat r15.2.1).set y1.task.toNat r16.2.1).set y1.other.toNat (aab ((r1.2.1.tasks.set y1.task.toNat r15.2.1).set y1.task.toNat r16.2.1) y1.other)) y1.task with at_ := wi (((aab (((r1.2.1.tasks.set y1.task.toNat r15.2.1).set y1.task.toNat r16.2.1).set y1.other.toNat (aab ((r1.2.1.tasks.set y1.task.toNat r15.2.1).set y1.task.toNat r16.2.1) y1.other)) y1.task).at_) + 1) } : TkP)).set y1.task.toNat ({ aab ((((r1.2.1.tasks.set y1.task.toNat r15.2.1).set y1.task.toNat r16.2.1).set y1.other.toNat (aab ((r1.2.1.tasks.set y1.task.toNat r15.2.1).set y1.task.toNat r16.2.1) y1.other)).set y1.task.toNat ({ aab (((r1.2.1.tasks.set y1.task.toNat r15.2.1).set y1.task.toNat r16.2.1).set y1.other.toNat (aab ((r1.2.1.tasks.set y1.task.toNat r15.2.1).set y1.task.toNat r16.2.1) y1.other)) y1.task with at_ := wi (((aab (((r1.2.1.tasks.set y1.task.toNat r15.2.1).set y1.task.toNat r16.2.1).set y1.other.toNat (aab ((r1.2.1.tasks.set y1.task.toNat r15.2.1).set y1.task.toNat r16.2.1) y1.other)) y1.task).at_) + 1) } : TkP)) y1.task with ph := 3 } : TkP)).set y1.task.toNat ({ aab (((((r1.2.1.tasks.set y1.task.toNat r15.2.1).set y1.task.toNat r16.2.1).set y1.other.toNat (aab ((r1.2.1.tasks.set y1.task.toNat r15.2.1).set y1.task.toNat r16.2.1) y1.other)).set y1.task.toNat ({ aab (((r1.2.1.tasks.set y1.task.toNat r15.2.1).set y1.task.toNat r16.2.1).set y1.other.toNat (aab ((r1.2.1.tasks.set y1.task.toNat r15.2.1).set y1.task.toNat r16.2.1) y1.other)) y1.task with at_ := wi (((aab (((r1.2.1.tasks.set y1.task.toNat r15.2.1).set y1.task.toNat r16.2.1).set y1.other.toNat (aab ((r1.2.1.tasks.set y1.task.toNat r15.2.1).set y1.task.toNat r16.2.1) y1.other)) y1.task).at_) + 1) } : TkP)).set y1.task.toNat ({ aab ((((r1.2.1.tasks.set y1.task.toNat r15.2.1).set y1.task.toNat r16.2.1).set y1.other.toNat (aab ((r1.2.1.tasks.set y1.task.toNat r15.2.1).set y1.task.toNat r16.2.1) y1.other)).set y1.task.toNat ({ aab (((r1.2.1.tasks.set y1.task.toNat r15.2.1).set y1.task.toNat r16.2.1).set y1.other.toNat (aab ((r1.2.1.tasks.set y1.task.toNat r15.2.1).set y1.task.toNat r16.2.1) y1.other)) y1.task with at_ := wi (((aab (((r1.2.1.tasks.set y1.task.toNat r15.2.1).set y1.task.toNat r16.2.1).set y1.other.toNat (aab ((r1.2.1.tasks.set y1.task.toNat r15.2.1).set y1.task.toNat r16.2.1) y1.other)) y1.task).at_) + 1) } : TkP)) y1.task with ph := 3 } : TkP)) y1.task with wt := y1.other } : TkP)) y1.task).lv, (-1), (aad ((r1.2.1.works.set y1.worker.toNat (aad r1.2.1.works y1.worker)).set y1.worker.toNat r14.2.1) y1.worker).sleeps, y1⟩ : WkP) } : SyP), ()))
   else none
   else none
   else none
   else none
   else none
   else none
   else
   some ((false, ()), (({ r1.2.1 with tasks := r1.2.1.tasks.set y1.task.toNat r15.2.1, works := (r1.2.1.works.set y1.worker.toNat (aad r1.2.1.works y1.worker)).set y1.worker.toNat r14.2.1 } : SyP), ()))
   else
   some ((false, ()), (({ r1.2.1 with tasks := r1.2.1.tasks.set y1.task.toNat r15.2.1, works := (r1.2.1.works.set y1.worker.toNat (aad r1.2.1.works y1.worker)).set y1.worker.toNat r14.2.1 } : SyP), ()))
   else none
   else none
   else
   if y1.kind = 5 then
   if 0 ≤ y1.task ∧ y1.task < ((r1.2.1.tasks.length : Nat) : Int) then
   if ((aab r1.2.1.tasks y1.task).ph) ≠ 1 then
   some ((false, ()), (({ r1.2.1 with tasks := r1.2.1.tasks.set y1.task.toNat (aab r1.2.1.tasks y1.task), works := r1.2.1.works.set y1.worker.toNat (aad r1.2.1.works y1.worker) } : SyP), ()))
   else
   (aaG (aad (r1.2.1.works.set y1.worker.toNat (aad r1.2.1.works y1.worker)) y1.worker)).bind fun r17 =>
   if (!r17.1.1) = true then
   if ((aad ((r1.2.1.works.set y1.worker.toNat (aad r1.2.1.works y1.worker)).set y1.worker.toNat r17.2.1) y1.worker).last.kind) ≠ 3 then
   some ((false, ()), (({ r1.2.1 with tasks := r1.2.1.tasks.set y1.task.toNat (aab r1.2.1.tasks y1.task), works := ((r1.2.1.works.set y1.worker.toNat (aad r1.2.1.works y1.worker)).set y1.worker.toNat r17.2.1).set y1.worker.toNat (aad ((r1.2.1.works.set y1.worker.toNat (aad r1.2.1.works y1.worker)).set y1.worker.toNat r17.2.1) y1.worker) } : SyP), ()))
   else
   if ((aad ((r1.2.1.works.set y1.worker.toNat (aad r1.2.1.works y1.worker)).set y1.worker.toNat r17.2.1) y1.worker).last.task) ≠ y1.task then
   some ((false, ()), (({ r1.2.1 with tasks := r1.2.1.tasks.set y1.task.toNat (aab r1.2.1.tasks y1.task), works := ((r1.2.1.works.set y1.worker.toNat (aad r1.2.1.works y1.worker)).set y1.worker.toNat r17.2.1).set y1.worker.toNat (aad ((r1.2.1.works.set y1.worker.toNat (aad r1.2.1.works y1.worker)).set y1.worker.toNat r17.2.1) y1.worker) } : SyP), ()))
   else
   if 0 ≤ y1.task ∧ y1.task < (((r1.2.1.tasks.set y1.task.toNat (aab r1.2.1.tasks y1.task)).length : Nat) : Int) then
   if 0 ≤ y1.task ∧ y1.task < ((((r1.2.1.tasks.set y1.task.toNat (aab r1.2.1.tasks y1.task)).set y1.task.toNat ({ aab (r1.2.1.tasks.set y1.task.toNat (aab r1.2.1.tasks y1.task)) y1.task with ph := 2 } : TkP)).length : Nat) : Int) then
   if (((((aad ((r1.2.1.works.set y1.worker.toNat (aad r1.2.1.works y1.worker)).set y1.worker.toNat r17.2.1) y1.worker).stack).length + ([y1.task] : List Int).length : Nat)) : Int) < 1000000000000 then
   some ((true, ()), (({ r1.2.1 with tasks := ((r1.2.1.tasks.set y1.task.toNat (aab r1.2.1.tasks y1.task)).set y1.task.toNat ({ aab (r1.2.1.tasks.set y1.task.toNat (aab r1.2.1.tasks y1.task)) y1.task with ph := 2 } : TkP)).set y1.task.toNat ({ aab ((r1.2.1.tasks.set y1.task.toNat (aab r1.2.1.tasks y1.task)).set y1.task.toNat ({ aab (r1.2.1.tasks.set y1.task.toNat (aab r1.2.1.tasks y1.task)) y1.task with ph := 2 } : TkP)) y1.task with wt := (-1) } : TkP), works := ((r1.2.1.works.set y1.worker.toNat (aad r1.2.1.works y1.worker)).set y1.worker.toNat r17.2.1).set y1.worker.toNat ({ aad ((r1.2.1.works.set y1.worker.toNat (aad r1.2.1.works y1.worker)).set y1.worker.toNat r17.2.1) y1.worker with stack := ((aad ((r1.2.1.works.set y1.worker.toNat (aad r1.2.1.works y1.worker)).set y1.worker.toNat r17.2.1) y1.worker).stack) ++ ([y1.task]), last := y1 } : WkP) } : SyP), ()))
   else none
   else none
   else none
   else
   if 0 ≤ y1.task ∧ y1.task < (((r1.2.1.tasks.set y1.task.toNat (aab r1.2.1.tasks y1.task)).length : Nat) : Int) then
   if 0 ≤ y1.task ∧ y1.task < ((((r1.2.1.tasks.set y1.task.toNat (aab r1.2.1.tasks y1.task)).set y1.task.toNat ({ aab (r1.2.1.tasks.set y1.task.toNat (aab r1.2.1.tasks y1.task)) y1.task with ph := 2 } : TkP)).length : Nat) : Int) then
   if (((((aad ((r1.2.1.works.set y1.worker.toNat (aad r1.2.1.works y1.worker)).set y1.worker.toNat r17.2.1) y1.worker).stack).length + ([y1.task] : List Int).length : Nat)) : Int) < 1000000000000 then
   some ((true, ()), (({ r1.2.1 with tasks := ((r1.2.1.tasks.set y1.task.toNat (aab r1.2.1.tasks y1.task)).set y1.task.toNat ({ aab (r1.2.1.tasks.set y1.task.toNat (aab r1.2.1.tasks y1.task)) y1.task with ph := 2 } : TkP)).set y1.task.toNat ({ aab ((r1.2.1.tasks.set y1.task.toNat (aab r1.2.1.tasks y1.task)).set y1.task.toNat ({ aab (r1.2.1.tasks.set y1.task.toNat (aab r1.2.1.tasks y1.task)) y1.task with ph := 2 } : TkP)) y1.task with wt := (-1) } : TkP), works := ((r1.2.1.works.set y1.worker.toNat (aad r1.2.1.works y1.worker)).set y1.worker.toNat r17.2.1).set y1.worker.toNat ({ aad ((r1.2.1.works.set y1.worker.toNat (aad r1.2.1.works y1.worker)).set y1.worker.toNat r17.2.1) y1.worker with stack := ((aad ((r1.2.1.works.set y1.worker.toNat (aad r1.2.1.works y1.worker)).set y1.worker.toNat r17.2.1) y1.worker).stack) ++ ([y1.task]), last := y1 } : WkP) } : SyP), ()))
   else none
   else none
   else none
   else none
   else
   if y1.kind = 4 then
   if 0 ≤ y1.task ∧ y1.task < ((r1.2.1.tasks.length : Nat) : Int) then
   (aaO (aad (r1.2.1.works.set y1.worker.toNat (aad r1.2.1.works y1.worker)) y1.worker)).bind fun r18 =>
   if y1.task = y1.task then
   if r18.1.1 ≠ y1.task then
   some ((false, ()), (({ r1.2.1 with works := (r1.2.1.works.set y1.worker.toNat (aad r1.2.1.works y1.worker)).set y1.worker.toNat r18.2.1 } : SyP), ()))
   else
   if ¬ ((wi (r1.2.1.c.tasks - r1.2.1.c.workers)) ≤ r1.2.1.known) then
   some ((false, ()), (({ r1.2.1 with works := (r1.2.1.works.set y1.worker.toNat (aad r1.2.1.works y1.worker)).set y1.worker.toNat r18.2.1 } : SyP), ()))
   else
   (aaz (aab r1.2.1.tasks y1.task)).bind fun r19 =>
   if (!r19.1.2.1) = true then
   some ((false, ()), (({ r1.2.1 with tasks := r1.2.1.tasks.set y1.task.toNat r19.2.1, works := (r1.2.1.works.set y1.worker.toNat (aad r1.2.1.works y1.worker)).set y1.worker.toNat r18.2.1 } : SyP), ()))
   else
   if r19.1.1.op ≠ 1 then
   some ((false, ()), (({ r1.2.1 with tasks := r1.2.1.tasks.set y1.task.toNat r19.2.1, works := (r1.2.1.works.set y1.worker.toNat (aad r1.2.1.works y1.worker)).set y1.worker.toNat r18.2.1 } : SyP), ()))
   else
   if (((((aab (r1.2.1.tasks.set y1.task.toNat r19.2.1) y1.task).kids).length + ([(-1)] : List Int).length : Nat)) : Int) < 1000000000000 then
   some ((true, ()), (({ r1.2.1 with tasks := (r1.2.1.tasks.set y1.task.toNat r19.2.1).set y1.task.toNat ({ aab (r1.2.1.tasks.set y1.task.toNat r19.2.1) y1.task with at_ := wi (((aab (r1.2.1.tasks.set y1.task.toNat r19.2.1) y1.task).at_) + 1), kids := ((aab (r1.2.1.tasks.set y1.task.toNat r19.2.1) y1.task).kids) ++ ([(-1)]) } : TkP), works := ((r1.2.1.works.set y1.worker.toNat (aad r1.2.1.works y1.worker)).set y1.worker.toNat r18.2.1).set y1.worker.toNat ({ aad ((r1.2.1.works.set y1.worker.toNat (aad r1.2.1.works y1.worker)).set y1.worker.toNat r18.2.1) y1.worker with last := y1 } : WkP) } : SyP), ()))
   else none
   else none
   else none
   else
   if y1.kind = 3 then
   (aaO (aad (r1.2.1.works.set y1.worker.toNat (aad r1.2.1.works y1.worker)) y1.worker)).bind fun r20 =>
   if y1.other = y1.other then
   if r20.1.1 ≠ y1.other then
   some ((false, ()), (({ r1.2.1 with works := (r1.2.1.works.set y1.worker.toNat (aad r1.2.1.works y1.worker)).set y1.worker.toNat r20.2.1 } : SyP), ()))
   else
   if 0 ≤ y1.task ∧ y1.task < ((r1.2.1.tasks.length : Nat) : Int) then
   if ((aab r1.2.1.tasks y1.task).ph) ≠ 0 then
   some ((false, ()), (({ r1.2.1 with tasks := r1.2.1.tasks.set y1.task.toNat (aab r1.2.1.tasks y1.task), works := (r1.2.1.works.set y1.worker.toNat (aad r1.2.1.works y1.worker)).set y1.worker.toNat r20.2.1 } : SyP), ()))
   else
   if 0 ≤ y1.other ∧ y1.other < (((r1.2.1.tasks.set y1.task.toNat (aab r1.2.1.tasks y1.task)).length : Nat) : Int) then
   (aaz (aab (r1.2.1.tasks.set y1.task.toNat (aab r1.2.1.tasks y1.task)) y1.other)).bind fun r21 =>
   if (!r21.1.2.1) = true then
   some ((false, ()), (({ r1.2.1 with tasks := (r1.2.1.tasks.set y1.task.toNat (aab r1.2.1.tasks y1.task)).set y1.other.toNat r21.2.1, works := (r1.2.1.works.set y1.worker.toNat (aad r1.2.1.works y1.worker)).set y1.worker.toNat r20.2.1 } : SyP), ()))
   else
   if r21.1.1.op ≠ 1 then
   some ((false, ()), (({ r1.2.1 with tasks := (r1.2.1.tasks.set y1.task.toNat (aab r1.2.1.tasks y1.task)).set y1.other.toNat r21.2.1, works := (r1.2.1.works.set y1.worker.toNat (aad r1.2.1.works y1.worker)).set y1.worker.toNat r20.2.1 } : SyP), ()))
   else
   if r21.1.1.b ≠ y1.level then
   some ((false, ()), (({ r1.2.1 with tasks := (r1.2.1.tasks.set y1.task.toNat (aab r1.2.1.tasks y1.task)).set y1.other.toNat r21.2.1, works := (r1.2.1.works.set y1.worker.toNat (aad r1.2.1.works y1.worker)).set y1.worker.toNat r20.2.1 } : SyP), ()))
   else
   if (((((aab ((r1.2.1.tasks.set y1.task.toNat (aab r1.2.1.tasks y1.task)).set y1.other.toNat r21.2.1) y1.other).kids).length + ([y1.task] : List Int).length : Nat)) : Int) < 1000000000000 then
   if 0 ≤ r21.1.1.a ∧ r21.1.1.a < ((r1.2.1.c.progs.length : Nat) : Int) then
   if 0 ≤ y1.task ∧ y1.task < (((((r1.2.1.tasks.set y1.task.toNat (aab r1.2.1.tasks y1.task)).set y1.other.toNat r21.2.1).set y1.other.toNat ({ aab ((r1.2.1.tasks.set y1.task.toNat (aab r1.2.1.tasks y1.task)).set y1.other.toNat r21.2.1) y1.other with at_ := wi (((aab ((r1.2.1.tasks.set y1.task.toNat (aab r1.2.1.tasks y1.task)).set y1.other.toNat r21.2.1) y1.other).at_) + 1), kids := ((aab ((r1.2.1.tasks.set y1.task.toNat (aab r1.2.1.tasks y1.task)).set y1.other.toNat r21.2.1) y1.other).kids) ++ ([y1.task]) } : TkP)).length : Nat) : Int) then
   some ((true, ()), (({ r1.2.1 with tasks := (((r1.2.1.tasks.set y1.task.toNat (aab r1.2.1.tasks y1.task)).set y1.other.toNat r21.2.1).set y1.other.toNat ({ aab ((r1.2.1.tasks.set y1.task.toNat (aab r1.2.1.tasks y1.task)).set y1.other.toNat r21.2.1) y1.other with at_ := wi (((aab ((r1.2.1.tasks.set y1.task.toNat (aab r1.2.1.tasks y1.task)).set y1.other.toNat r21.2.1) y1.other).at_) + 1), kids := ((aab ((r1.2.1.tasks.set y1.task.toNat (aab r1.2.1.tasks y1.task)).set y1.other.toNat r21.2.1) y1.other).kids) ++ ([y1.task]) } : TkP)).set y1.task.toNat (⟨1, y1.level, y1.other, atL [] r1.2.1.c.progs r21.1.1.a, 0, [], (-1)⟩ : TkP), works := ((r1.2.1.works.set y1.worker.toNat (aad r1.2.1.works y1.worker)).set y1.worker.toNat r20.2.1).set y1.worker.toNat ({ aad ((r1.2.1.works.set y1.worker.toNat (aad r1.2.1.works y1.worker)).set y1.worker.toNat r20.2.1) y1.worker with last := y1 } : WkP), known := wi (r1.2.1.known + 1) } : SyP), ()))
   else none
   else none
   else none
   else none
   else none
   else none
   else
   if y1.kind = 2 then
   if y1.other ≠ r1.2.1.offers then
   some ((false, ()), (({ r1.2.1 with works := r1.2.1.works.set y1.worker.toNat (aad r1.2.1.works y1.worker) } : SyP), ()))
   else
   if ((r1.2.1.c.subs.length : Nat) : Int) ≤ y1.other then
   some ((false, ()), (({ r1.2.1 with works := r1.2.1.works.set y1.worker.toNat (aad r1.2.1.works y1.worker) } : SyP), ()))
   else
   if y1.level = 1 then
   (aaw r1.2.1.queue r1.2.1.c y1).bind fun r22 =>
   if (!r22.1.1) = true then
   some ((false, ()), (({ r1.2.1 with works := r1.2.1.works.set y1.worker.toNat (aad r1.2.1.works y1.worker), queue := r22.2.1 } : SyP), ()))
   else
   some ((true, ()), (({ r1.2.1 with works := (r1.2.1.works.set y1.worker.toNat (aad r1.2.1.works y1.worker)).set y1.worker.toNat ({ aad (r1.2.1.works.set y1.worker.toNat (aad r1.2.1.works y1.worker)) y1.worker with last := y1 } : WkP), offers := wi (r1.2.1.offers + 1), queue := r22.2.1 } : SyP), ()))
   else
   if y1.level = 2 then
   if r1.2.1.c.heap ≤ ((r1.2.1.queue.keys.length : Nat) : Int) then
   some ((false, ()), (({ r1.2.1 with works := r1.2.1.works.set y1.worker.toNat (aad r1.2.1.works y1.worker) } : SyP), ()))
   else
   if ¬ ((wi (r1.2.1.c.tasks - r1.2.1.c.workers)) ≤ r1.2.1.known) then
   some ((false, ()), (({ r1.2.1 with works := r1.2.1.works.set y1.worker.toNat (aad r1.2.1.works y1.worker) } : SyP), ()))
   else
   some ((true, ()), (({ r1.2.1 with works := r1.2.1.works.set y1.worker.toNat ({ aad r1.2.1.works y1.worker with last := y1 } : WkP), offers := wi (r1.2.1.offers + 1) } : SyP), ()))
   else
   some ((false, ()), (({ r1.2.1 with works := r1.2.1.works.set y1.worker.toNat (aad r1.2.1.works y1.worker) } : SyP), ()))
   else
   if y1.kind = 1 then
   if y1.other ≠ r1.2.1.offers then
   some ((false, ()), (({ r1.2.1 with works := r1.2.1.works.set y1.worker.toNat (aad r1.2.1.works y1.worker) } : SyP), ()))
   else
   if ((r1.2.1.c.subs.length : Nat) : Int) ≤ y1.other then
   some ((false, ()), (({ r1.2.1 with works := r1.2.1.works.set y1.worker.toNat (aad r1.2.1.works y1.worker) } : SyP), ()))
   else
   if 0 ≤ y1.other ∧ y1.other < ((r1.2.1.c.subs.length : Nat) : Int) then
   if y1.level ≠ ((acz r1.2.1.c.subs y1.other).level) then
   some ((false, ()), (({ r1.2.1 with works := r1.2.1.works.set y1.worker.toNat (aad r1.2.1.works y1.worker) } : SyP), ()))
   else
   if 0 ≤ y1.task ∧ y1.task < ((r1.2.1.tasks.length : Nat) : Int) then
   if ((aab r1.2.1.tasks y1.task).ph) ≠ 0 then
   some ((false, ()), (({ r1.2.1 with tasks := r1.2.1.tasks.set y1.task.toNat (aab r1.2.1.tasks y1.task), works := r1.2.1.works.set y1.worker.toNat (aad r1.2.1.works y1.worker) } : SyP), ()))
   else
   (aaw r1.2.1.queue r1.2.1.c y1).bind fun r23 =>
   if (!r23.1.1) = true then
   some ((false, ()), (({ r1.2.1 with tasks := r1.2.1.tasks.set y1.task.toNat (aab r1.2.1.tasks y1.task), works := r1.2.1.works.set y1.worker.toNat (aad r1.2.1.works y1.worker), queue := r23.2.1 } : SyP), ()))
   else
   if 0 ≤ y1.other ∧ y1.other < ((r1.2.1.c.subs.length : Nat) : Int) then
   if 0 ≤ (acz r1.2.1.c.subs y1.other).prog ∧ (acz r1.2.1.c.subs y1.other).prog < ((r1.2.1.c.progs.length : Nat) : Int) then
   if 0 ≤ y1.task ∧ y1.task < (((r1.2.1.tasks.set y1.task.toNat (aab r1.2.1.tasks y1.task)).length : Nat) : Int) then
   some ((true, ()), ((⟨r1.2.1.c, (r1.2.1.tasks.set y1.task.toNat (aab r1.2.1.tasks y1.task)).set y1.task.toNat (⟨1, y1.level, (-1), atL [] r1.2.1.c.progs ((acz r1.2.1.c.subs y1.other).prog), 0, [], (-1)⟩ : TkP), (r1.2.1.works.set y1.worker.toNat (aad r1.2.1.works y1.worker)).set y1.worker.toNat ({ aad (r1.2.1.works.set y1.worker.toNat (aad r1.2.1.works y1.worker)) y1.worker with last := y1 } : WkP), wi (r1.2.1.offers + 1), wi (r1.2.1.known + 1), r23.2.1⟩ : SyP), ()))
   else none
   else none
   else none
   else none
   else none
   else
   if 0 ≤ y1.task ∧ y1.task < ((r1.2.1.tasks.length : Nat) : Int) then
   if y1.kind = 13 then
   (aaG (aad (r1.2.1.works.set y1.worker.toNat (aad r1.2.1.works y1.worker)) y1.worker)).bind fun r24 =>
   if r24.1.1 = true then
   (aaw r1.2.1.queue r1.2.1.c y1).bind fun r25 =>
   if (!r25.1.1) = true then
   some ((false, ()), (({ r1.2.1 with tasks := r1.2.1.tasks.set y1.task.toNat (aab r1.2.1.tasks y1.task), works := (r1.2.1.works.set y1.worker.toNat (aad r1.2.1.works y1.worker)).set y1.worker.toNat r24.2.1, queue := r25.2.1 } : SyP), ()))
   else
   some ((true, ()), (({ r1.2.1 with tasks := r1.2.1.tasks.set y1.task.toNat (aab r1.2.1.tasks y1.task), works := ((r1.2.1.works.set y1.worker.toNat (aad r1.2.1.works y1.worker)).set y1.worker.toNat r24.2.1).set y1.worker.toNat ({ aad ((r1.2.1.works.set y1.worker.toNat (aad r1.2.1.works y1.worker)).set y1.worker.toNat r24.2.1) y1.worker with last := y1 } : WkP), queue := r25.2.1 } : SyP), ()))
   else
   some ((false, ()), (({ r1.2.1 with tasks := r1.2.1.tasks.set y1.task.toNat (aab r1.2.1.tasks y1.task), works := (r1.2.1.works.set y1.worker.toNat (aad r1.2.1.works y1.worker)).set y1.worker.toNat r24.2.1 } : SyP), ()))
   else
   if y1.kind = 14 then
   (aaG (aad (r1.2.1.works.set y1.worker.toNat (aad r1.2.1.works y1.worker)) y1.worker)).bind fun r26 =>
   if r26.1.1 = true then
   if y1.other ≠ y1.worker then
   if ¬ (((aab r1.2.1.tasks y1.task).ph) ≠ 0) then
   some ((false, ()), (({ r1.2.1 with tasks := r1.2.1.tasks.set y1.task.toNat (aab r1.2.1.tasks y1.task), works := (r1.2.1.works.set y1.worker.toNat (aad r1.2.1.works y1.worker)).set y1.worker.toNat r26.2.1 } : SyP), ()))
   else
   some ((true, ()), (({ r1.2.1 with tasks := r1.2.1.tasks.set y1.task.toNat (aab r1.2.1.tasks y1.task), works := ((r1.2.1.works.set y1.worker.toNat (aad r1.2.1.works y1.worker)).set y1.worker.toNat r26.2.1).set y1.worker.toNat ({ aad ((r1.2.1.works.set y1.worker.toNat (aad r1.2.1.works y1.worker)).set y1.worker.toNat r26.2.1) y1.worker with last := y1 } : WkP) } : SyP), ()))
   else
   some ((false, ()), (({ r1.2.1 with tasks := r1.2.1.tasks.set y1.task.toNat (aab r1.2.1.tasks y1.task), works := (r1.2.1.works.set y1.worker.toNat (aad r1.2.1.works y1.worker)).set y1.worker.toNat r26.2.1 } : SyP), ()))
   else
   some ((false, ()), (({ r1.2.1 with tasks := r1.2.1.tasks.set y1.task.toNat (aab r1.2.1.tasks y1.task), works := (r1.2.1.works.set y1.worker.toNat (aad r1.2.1.works y1.worker)).set y1.worker.toNat r26.2.1 } : SyP), ()))
   else
   if y1.kind = 15 then
   if ((aab r1.2.1.tasks y1.task).ph) ≠ 0 then
   if 0 ≤ y1.task ∧ y1.task < (((r1.2.1.tasks.set y1.task.toNat (aab r1.2.1.tasks y1.task)).length : Nat) : Int) then
   if ¬ (((aab (r1.2.1.tasks.set y1.task.toNat (aab r1.2.1.tasks y1.task)) y1.task).ph) ≠ 1) then
   some ((false, ()), (({ r1.2.1 with tasks := (r1.2.1.tasks.set y1.task.toNat (aab r1.2.1.tasks y1.task)).set y1.task.toNat (aab (r1.2.1.tasks.set y1.task.toNat (aab r1.2.1.tasks y1.task)) y1.task), works := r1.2.1.works.set y1.worker.toNat (aad r1.2.1.works y1.worker) } : SyP), ()))
   else
   some ((true, ()), (({ r1.2.1 with tasks := (r1.2.1.tasks.set y1.task.toNat (aab r1.2.1.tasks y1.task)).set y1.task.toNat (aab (r1.2.1.tasks.set y1.task.toNat (aab r1.2.1.tasks y1.task)) y1.task), works := r1.2.1.works.set y1.worker.toNat ({ aad r1.2.1.works y1.worker with last := y1 } : WkP) } : SyP), ()))
   else none
   else
   some ((false, ()), (({ r1.2.1 with tasks := r1.2.1.tasks.set y1.task.toNat (aab r1.2.1.tasks y1.task), works := r1.2.1.works.set y1.worker.toNat (aad r1.2.1.works y1.worker) } : SyP), ()))
   else
   if y1.kind = 16 then
   (aaG (aad (r1.2.1.works.set y1.worker.toNat (aad r1.2.1.works y1.worker)) y1.worker)).bind fun r27 =>
   if (!((aad (((r1.2.1.works.set y1.worker.toNat (aad r1.2.1.works y1.worker)).set y1.worker.toNat r27.2.1).set y1.worker.toNat ({ aad ((r1.2.1.works.set y1.worker.toNat (aad r1.2.1.works y1.worker)).set y1.worker.toNat r27.2.1) y1.worker with sleeps := r27.1.1 } : WkP)) y1.worker).sleeps)) = true then
   some ((false, ()), (({ r1.2.1 with tasks := r1.2.1.tasks.set y1.task.toNat (aab r1.2.1.tasks y1.task), works := ((r1.2.1.works.set y1.worker.toNat (aad r1.2.1.works y1.worker)).set y1.worker.toNat r27.2.1).set y1.worker.toNat ({ aad ((r1.2.1.works.set y1.worker.toNat (aad r1.2.1.works y1.worker)).set y1.worker.toNat r27.2.1) y1.worker with sleeps := r27.1.1 } : WkP) } : SyP), ()))
   else
   some ((true, ()), (({ r1.2.1 with tasks := r1.2.1.tasks.set y1.task.toNat (aab r1.2.1.tasks y1.task), works := (((r1.2.1.works.set y1.worker.toNat (aad r1.2.1.works y1.worker)).set y1.worker.toNat r27.2.1).set y1.worker.toNat ({ aad ((r1.2.1.works.set y1.worker.toNat (aad r1.2.1.works y1.worker)).set y1.worker.toNat r27.2.1) y1.worker with sleeps := r27.1.1 } : WkP)).set y1.worker.toNat ({ aad (((r1.2.1.works.set y1.worker.toNat (aad r1.2.1.works y1.worker)).set y1.worker.toNat r27.2.1).set y1.worker.toNat ({ aad ((r1.2.1.works.set y1.worker.toNat (aad r1.2.1.works y1.worker)).set y1.worker.toNat r27.2.1) y1.worker with sleeps := r27.1.1 } : WkP)) y1.worker with last := y1 } : WkP) } : SyP), ()))
   else
   if y1.kind = 17 then
   if y1.other ≠ 1 then
   if ¬ (¬ (y1.other ≠ 2)) then
   some ((false, ()), (({ r1.2.1 with tasks := r1.2.1.tasks.set y1.task.toNat (aab r1.2.1.tasks y1.task), works := r1.2.1.works.set y1.worker.toNat ({ aad r1.2.1.works y1.worker with sleeps := decide (y1.other ≠ 2) } : WkP) } : SyP), ()))
   else
   some ((true, ()), (({ r1.2.1 with tasks := r1.2.1.tasks.set y1.task.toNat (aab r1.2.1.tasks y1.task), works := r1.2.1.works.set y1.worker.toNat ({ aad r1.2.1.works y1.worker with sleeps := decide (y1.other ≠ 2), last := y1 } : WkP) } : SyP), ()))
   else
   some ((true, ()), (({ r1.2.1 with tasks := r1.2.1.tasks.set y1.task.toNat (aab r1.2.1.tasks y1.task), works := r1.2.1.works.set y1.worker.toNat ({ aad r1.2.1.works y1.worker with sleeps := false, last := y1 } : WkP) } : SyP), ()))
   else
   if y1.kind = 19 then
   if ¬ (((aab r1.2.1.tasks y1.task).ph) ≠ 0) then
   some ((false, ()), (({ r1.2.1 with tasks := r1.2.1.tasks.set y1.task.toNat (aab r1.2.1.tasks y1.task), works := r1.2.1.works.set y1.worker.toNat (aad r1.2.1.works y1.worker) } : SyP), ()))
   else
   some ((true, ()), (({ r1.2.1 with tasks := r1.2.1.tasks.set y1.task.toNat (aab r1.2.1.tasks y1.task), works := r1.2.1.works.set y1.worker.toNat ({ aad r1.2.1.works y1.worker with last := y1 } : WkP) } : SyP), ()))
   else
   some ((true, ()), (({ r1.2.1 with tasks := r1.2.1.tasks.set y1.task.toNat (aab r1.2.1.tasks y1.task), works := r1.2.1.works.set y1.worker.toNat ({ aad r1.2.1.works y1.worker with last := y1 } : WkP) } : SyP), ()))
   else none
 else none
noncomputable abbrev adl : Con SR1 := ⟨19, [.ref 72, .val 2], [.sh .b], fun x => acP x.1 x.2.1⟩
noncomputable def ae7 : List (Nat × Func) := [(39, Try.f39), (38, Try.f38), (62, Try.f62), (37, Try.f37), (36, Try.f36), (60, Try.f60), (35, Try.f35), (61, Try.f61), (34, Try.f34), (33, Try.f33), (32, Try.f32), (31, Try.f31), (56, Try.f56), (30, Try.f30), (55, Try.f55), (29, Try.f29), (28, Try.f28), (40, Try.f40)]
theorem ae8 : CO Try.prog adl := abC abx Try.func19 [adO, aej, aeN, ad2, adh, adL] ⟨afC, aga, agE, afT, aek, afy, trivial⟩ ae7 ⟨Try.func39, Try.func38, Try.func62, Try.func37, Try.func36, Try.func60, Try.func35, Try.func61, Try.func34, Try.func33, Try.func32, Try.func31, Try.func56, Try.func30, Try.func55, Try.func29, Try.func28, Try.func40, trivial⟩ (fun f => (get [(62, [(2, .loopR [.rg 7 sI_] 18446744073709551616 0)])] f).getD []) [] fun x => by kernel_rfl
end
end Go.Proofs.Ytkmkhldmflebkaa
