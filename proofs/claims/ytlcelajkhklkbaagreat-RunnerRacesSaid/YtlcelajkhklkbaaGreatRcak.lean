/- The program's machines in the evaluator's form. -/
import Derived.Test.YtlcelajkhklkbaaGreatRcai
import Derived.Test.YtlcelajkhklkbaaGreatRcaj
set_option linter.all false
namespace Go.Proofs.YtlcelajkhklkbaaGreat
open Go Go.RowKit
set_option maxRecDepth 100000
variable [Tb]
noncomputable def aw0 (x : Int) : Option ((Int × Unit) × (Unit)) :=
 if x = 0 then
  some (((-1), ()), (()))
 else
 (pTz x).bind fun r1 =>
 some ((r1.1.1, ()), (()))
noncomputable abbrev ato : Con SR1 := ⟨223, [.sh sU_], [.sh sI_], fun x => aw0 x.1⟩
theorem aux : CO Tryz.prog ato := aar aaq Tryz.func223 [auu] ⟨avZ, trivial⟩ [] trivial (fun _ => []) [] fun x => by kernel_rfl
noncomputable def aaH (o : OutV) : Option ((Bool × Unit) × (OutV × Unit)) :=
 some ((o.ended, ()), (o, ()))
noncomputable abbrev aaW : Con SR1 := ⟨128, [.ref 23], [.sh .b], fun x => aaH x.1⟩
theorem aaL : CO Tryz.prog aaW := aar aaq Tryz.func128 [] trivial [] trivial (fun _ => []) [] fun x => by kernel_rfl
noncomputable def abi (o : OutV) (code : Int) (value : Int) : Option ((Bool × Unit) × (OutV × Unit)) :=
 some ((true, ()), ((⟨true, code, value⟩ : OutV), ()))
noncomputable abbrev abq : Con SR1 := ⟨132, [.ref 23, .sh sI_, .sh sI_], [.sh .b], fun x => abi x.1 x.2.1 x.2.2.1⟩
theorem aaX : CO Tryz.prog abq := aar aaq Tryz.func132 [] trivial [] trivial (fun _ => []) [] fun x => by kernel_rfl
noncomputable def auv (o : OutV) : Option ((Int × Int × Unit) × (OutV × Unit)) :=
 some ((o.code, o.value, ()), (o, ()))
noncomputable abbrev aag : Con SR1 := ⟨129, [.ref 23], [.sh sI_, .sh sI_], fun x => auv x.1⟩
theorem aad : CO Tryz.prog aag := aar aaq Tryz.func129 [] trivial [] trivial (fun _ => []) [] fun x => by kernel_rfl
noncomputable def abz (m : MemV) (a : Int) : Option ((Int × Unit) × (MemV × Unit)) :=
 if a < 0 then
  some ((0, ()), (m, ()))
 else
 if ((m.cells.length : Nat) : Int) ≤ a then
  some ((0, ()), (m, ()))
 else
 if 0 ≤ a ∧ a < ((m.cells.length : Nat) : Int) then
  if 0 ≤ a ∧ a < ((m.cells.length : Nat) : Int) then
   if 0 ≤ a ∧ a < (((m.cells.set a.toNat (aeh m.cells a)).length : Nat) : Int) then
   some ((aeh m.cells a, ()), ((⟨m.cells.set a.toNat (aeh m.cells a), ⟨1, a, aeh m.cells a, aeh (m.cells.set a.toNat (aeh m.cells a)) a⟩, wi (m.count + 1)⟩ : MemV), ()))
   else none
  else none
 else none
noncomputable abbrev aby : Con SR1 := ⟨150, [.ref 9, .sh sI_], [.sh sU_], fun x => abz x.1 x.2.1⟩
noncomputable def asu : List (Nat × Func) := [(46, Tryz.f46), (157, Tryz.f157)]
theorem abd : CO Tryz.prog aby := aar aaq Tryz.func150 [] trivial asu ⟨Tryz.func46, Tryz.func157, trivial⟩ (fun _ => []) [] fun x => by kernel_rfl
noncomputable def aa0 (m : MemV) (a : Int) (v : Int) : Option ((Unit) × (MemV × Unit)) :=
 if a < 0 then
  some ((()), (m, ()))
 else
 if ((m.cells.length : Nat) : Int) ≤ a then
  some ((()), (m, ()))
 else
 if 0 ≤ a ∧ a < ((m.cells.length : Nat) : Int) then
  if 0 ≤ a ∧ a < ((m.cells.length : Nat) : Int) then
   if 0 ≤ a ∧ a < (((m.cells.set a.toNat v).length : Nat) : Int) then
   some ((()), ((⟨m.cells.set a.toNat v, ⟨2, a, aeh m.cells a, aeh (m.cells.set a.toNat v) a⟩, wi (m.count + 1)⟩ : MemV), ()))
   else none
  else none
 else none
noncomputable abbrev acG : Con SR1 := ⟨25, [.ref 9, .sh sI_, .sh sU_], [], fun x => aa0 x.1 x.2.1 x.2.2.1⟩
noncomputable def aqv : List (Nat × Func) := [(46, Tryz.f46), (47, Tryz.f47)]
theorem acg : CO Tryz.prog acG := aar aaq Tryz.func25 [] trivial aqv ⟨Tryz.func46, Tryz.func47, trivial⟩ (fun _ => []) [] fun x => by kernel_rfl
noncomputable def amf (m : MemV) (a : Int) (old : Int) (v : Int) : Option ((Bool × Unit) × (MemV × Unit)) :=
 if a < 0 then
  some ((false, ()), (m, ()))
 else
 if ((m.cells.length : Nat) : Int) ≤ a then
  some ((false, ()), (m, ()))
 else
 if 0 ≤ a ∧ a < ((m.cells.length : Nat) : Int) then
  if (aeh m.cells a) = old then
   if 0 ≤ a ∧ a < ((m.cells.length : Nat) : Int) then
   if 0 ≤ a ∧ a < (((m.cells.set a.toNat v).length : Nat) : Int) then
   some ((decide ((aeh m.cells a) = old), ()), ((⟨m.cells.set a.toNat v, ⟨3, a, aeh m.cells a, aeh (m.cells.set a.toNat v) a⟩, wi (m.count + 1)⟩ : MemV), ()))
   else none
   else none
  else
  if 0 ≤ a ∧ a < ((m.cells.length : Nat) : Int) then
   if 0 ≤ a ∧ a < (((m.cells.set a.toNat (aeh m.cells a)).length : Nat) : Int) then
   some ((decide ((aeh m.cells a) = old), ()), ((⟨m.cells.set a.toNat (aeh m.cells a), ⟨3, a, aeh m.cells a, aeh (m.cells.set a.toNat (aeh m.cells a)) a⟩, wi (m.count + 1)⟩ : MemV), ()))
   else none
  else none
 else none
noncomputable abbrev ahI : Con SR1 := ⟨148, [.ref 9, .sh sI_, .sh sU_, .sh sU_], [.sh .b], fun x => amf x.1 x.2.1 x.2.2.1 x.2.2.2.1⟩
noncomputable def auz : List (Nat × Func) := [(46, Tryz.f46), (156, Tryz.f156)]
theorem af8 : CO Tryz.prog ahI := aar aaq Tryz.func148 [] trivial auz ⟨Tryz.func46, Tryz.func156, trivial⟩ (fun _ => []) [] fun x => by kernel_rfl
noncomputable def pOr (m : MemV) (a : Int) (v : Int) : Option ((Int × Unit) × (MemV × Unit)) :=
 if a < 0 then
  some ((0, ()), (m, ()))
 else
 if ((m.cells.length : Nat) : Int) ≤ a then
  some ((0, ()), (m, ()))
 else
 if 0 ≤ a ∧ a < ((m.cells.length : Nat) : Int) then
  if 0 ≤ a ∧ a < ((m.cells.length : Nat) : Int) then
   if 0 ≤ a ∧ a < (((m.cells.set a.toNat (orU (aeh m.cells a) v)).length : Nat) : Int) then
   some ((aeh m.cells a, ()), ((⟨m.cells.set a.toNat (orU (aeh m.cells a) v), ⟨4, a, aeh m.cells a, aeh (m.cells.set a.toNat (orU (aeh m.cells a) v)) a⟩, wi (m.count + 1)⟩ : MemV), ()))
   else none
  else none
 else none
noncomputable abbrev ass : Con SR1 := ⟨27, [.ref 9, .sh sI_, .sh sU_], [.sh sU_], fun x => pOr x.1 x.2.1 x.2.2.1⟩
noncomputable def av0 : List (Nat × Func) := [(46, Tryz.f46), (48, Tryz.f48)]
theorem aqx : CO Tryz.prog ass := aar aaq Tryz.func27 [] trivial av0 ⟨Tryz.func46, Tryz.func48, trivial⟩ (fun _ => []) [] fun x => by kernel_rfl
noncomputable def atp (m : MemV) (a : Int) (v : Int) : Option ((Int × Unit) × (MemV × Unit)) :=
 if a < 0 then
  some ((0, ()), (m, ()))
 else
 if ((m.cells.length : Nat) : Int) ≤ a then
  some ((0, ()), (m, ()))
 else
 if 0 ≤ a ∧ a < ((m.cells.length : Nat) : Int) then
  if 0 ≤ a ∧ a < ((m.cells.length : Nat) : Int) then
   if 0 ≤ a ∧ a < (((m.cells.set a.toNat (ar1 (aeh m.cells a) v)).length : Nat) : Int) then
   some ((aeh m.cells a, ()), ((⟨m.cells.set a.toNat (ar1 (aeh m.cells a) v), ⟨5, a, aeh m.cells a, aeh (m.cells.set a.toNat (ar1 (aeh m.cells a) v)) a⟩, wi (m.count + 1)⟩ : MemV), ()))
   else none
  else none
 else none
noncomputable abbrev aoW : Con SR1 := ⟨178, [.ref 9, .sh sI_, .sh sU_], [.sh sU_], fun x => atp x.1 x.2.1 x.2.2.1⟩
noncomputable def auA : List (Nat × Func) := [(46, Tryz.f46), (180, Tryz.f180)]
theorem an0 : CO Tryz.prog aoW := aar aaq Tryz.func178 [] trivial auA ⟨Tryz.func46, Tryz.func180, trivial⟩ (fun _ => []) [] fun x => by kernel_rfl
noncomputable def av3 (m : MemV) (a : Int) (v : Int) : Option ((Int × Unit) × (MemV × Unit)) :=
 if a < 0 then
  some ((0, ()), (m, ()))
 else
 if ((m.cells.length : Nat) : Int) ≤ a then
  some ((0, ()), (m, ()))
 else
 if 0 ≤ a ∧ a < ((m.cells.length : Nat) : Int) then
  if 0 ≤ a ∧ a < ((m.cells.length : Nat) : Int) then
   if 0 ≤ a ∧ a < (((m.cells.set a.toNat (wu ((aeh m.cells a) + v))).length : Nat) : Int) then
   some ((aeh m.cells a, ()), ((⟨m.cells.set a.toNat (wu ((aeh m.cells a) + v)), ⟨6, a, aeh m.cells a, aeh (m.cells.set a.toNat (wu ((aeh m.cells a) + v))) a⟩, wi (m.count + 1)⟩ : MemV), ()))
   else none
  else none
 else none
noncomputable abbrev aqH : Con SR1 := ⟨162, [.ref 9, .sh sI_, .sh sU_], [.sh sU_], fun x => av3 x.1 x.2.1 x.2.2.1⟩
noncomputable def auB : List (Nat × Func) := [(46, Tryz.f46), (165, Tryz.f165)]
theorem aqG : CO Tryz.prog aqH := aar aaq Tryz.func162 [] trivial auB ⟨Tryz.func46, Tryz.func165, trivial⟩ (fun _ => []) [] fun x => by kernel_rfl
noncomputable def aqy (k : ClkV) : Option ((Int × Unit) × (ClkV × Unit)) :=
 some ((k.now, ()), (k, ()))
noncomputable abbrev ajO : Con SR1 := ⟨169, [.ref 25], [.sh sI_], fun x => aqy x.1⟩
theorem aiq : CO Tryz.prog ajO := aar aaq Tryz.func169 [] trivial [] trivial (fun _ => []) [] fun x => by kernel_rfl
noncomputable def av2 (k : ClkV) (n : Int) : Option ((Int × Unit) × (ClkV × Unit)) :=
 if n < 1 then
  some ((0, ()), (k, ()))
 else
 if n ≠ 0 then
  if (Int.tmod k.draw n) < 0 then
   some ((wi ((Int.tmod k.draw n) + n), ()), (k, ()))
  else
  some (((Int.tmod k.draw n), ()), (k, ()))
 else none
noncomputable abbrev aqC : Con SR1 := ⟨212, [.ref 25, .sh sI_], [.sh sI_], fun x => av2 x.1 x.2.1⟩
theorem asw : CO Tryz.prog aqC := aar aaq Tryz.func212 [] trivial [] trivial (fun _ => []) [] fun x => by kernel_rfl
noncomputable def arW (n : Int) : Option ((Int × Unit) × (Unit)) :=
 if n < 0 then
  some ((0, ()), (()))
 else
 if 63 < n then
  some ((0, ()), (()))
 else
 if 0 ≤ wu (n) then
  some ((wu (1 * 2 ^ min (wu (n) : Int).toNat IntKind.u64.bits), ()), (()))
 else none
noncomputable abbrev amK : Con SR1 := ⟨174, [.sh sI_], [.sh sU_], fun x => arW x.1⟩
theorem alH : CO Tryz.prog amK := aar aaq Tryz.func174 [] trivial [] trivial (fun _ => []) [] fun x => by kernel_rfl
noncomputable def atn (a : Int) (n : Int) : Option ((Int × Unit) × (Unit)) :=
 if n < 1 then
  some ((0, ()), (()))
 else
 if n ≠ 0 then
  if (Int.tmod a n) < 0 then
   some ((wi ((Int.tmod a n) + n), ()), (()))
  else
  some (((Int.tmod a n), ()), (()))
 else none
noncomputable abbrev aoP : Con SR1 := ⟨68, [.sh sI_, .sh sI_], [.sh sI_], fun x => atn x.1 x.2.1⟩
theorem anT : CO Tryz.prog aoP := aar aaq Tryz.func68 [] trivial [] trivial (fun _ => []) [] fun x => by kernel_rfl
noncomputable def anS (b : Int) (t : Int) : Option ((Int × Unit) × (Unit)) :=
 some ((wi (wu (b - t)), ()), (()))
noncomputable abbrev aip : Con SR1 := ⟨200, [.sh sU_, .sh sU_], [.sh sI_], fun x => anS x.1 x.2.1⟩
theorem ahD : CO Tryz.prog aip := aar aaq Tryz.func200 [] trivial [] trivial (fun _ => []) [] fun x => by kernel_rfl
noncomputable def anX (q : QV) (i : Int) : Option ((Int × Unit) × (Unit)) :=
 if q.cap < 1 then
  some (((-1), ()), (()))
 else
 if (wu (q.cap)) ≠ 0 then
  some ((wi (q.ring + (wi ((Int.tmod i (wu (q.cap)))))), ()), (()))
 else none
noncomputable abbrev alF : Con SR1 := ⟨201, [.val 14, .sh sU_], [.sh sI_], fun x => anX x.1 x.2.1⟩
theorem alE : CO Tryz.prog alF := aar aaq Tryz.func201 [] trivial [] trivial (fun _ => []) [] fun x => by kernel_rfl
noncomputable def pAt (i : Int) (n : Int) (a : Int) (w : Int) : Option ((Int × Unit) × (Unit)) :=
 if i < 0 then
  some (((-1), ()), (()))
 else
 if n ≤ i then
  some (((-1), ()), (()))
 else
 some ((wi (a + (wi (i * w))), ()), (()))
noncomputable abbrev anZ : Con SR1 := ⟨85, [.sh sI_, .sh sI_, .sh sI_, .sh sI_], [.sh sI_], fun x => pAt x.1 x.2.1 x.2.2.1 x.2.2.2.1⟩
theorem akZ : CO Tryz.prog anZ := aar aaq Tryz.func85 [] trivial [] trivial (fun _ => []) [] fun x => by kernel_rfl
noncomputable def amE (l : LayV) (t : Int) (f : Int) : Option ((Int × Unit) × (Unit)) :=
 (pAt t l.tasks (wi (l.table + f)) 5).bind fun r1 =>
 some ((r1.1.1, ()), (()))
noncomputable abbrev aio : Con SR1 := ⟨155, [.val 24, .sh sI_, .sh sI_], [.sh sI_], fun x => amE x.1 x.2.1 x.2.2.1⟩
theorem ahB : CO Tryz.prog aio := aar aaq Tryz.func155 [anZ] ⟨akZ, trivial⟩ [] trivial (fun _ => []) [] fun x => by kernel_rfl
noncomputable def auw (l : LayV) : Option ((Int × Unit) × (Unit)) :=
 some ((0, ()), (()))
noncomputable abbrev aqz : Con SR1 := ⟨163, [.val 24], [.sh sI_], fun x => auw x.1⟩
theorem ast : CO Tryz.prog aqz := aar aaq Tryz.func163 [] trivial [] trivial (fun _ => []) [] fun x => by kernel_rfl
noncomputable def adA (l : LayV) (t : Int) : Option ((Int × Unit) × (Unit)) :=
 (amE l t 0).bind fun r1 =>
 some ((r1.1.1, ()), (()))
noncomputable abbrev aen : Con SR1 := ⟨147, [.val 24, .sh sI_], [.sh sI_], fun x => adA x.1 x.2.1⟩
theorem ad9 : CO Tryz.prog aen := aar aaq Tryz.func147 [aio] ⟨ahB, trivial⟩ [] trivial (fun _ => []) [] fun x => by kernel_rfl
noncomputable def aed (l : LayV) (t : Int) : Option ((Int × Unit) × (Unit)) :=
 (amE l t 1).bind fun r1 =>
 some ((r1.1.1, ()), (()))
noncomputable abbrev aeo : Con SR1 := ⟨151, [.val 24, .sh sI_], [.sh sI_], fun x => aed x.1 x.2.1⟩
theorem aec : CO Tryz.prog aeo := aar aaq Tryz.func151 [aio] ⟨ahB, trivial⟩ [] trivial (fun _ => []) [] fun x => by kernel_rfl
noncomputable def ahG (l : LayV) (t : Int) : Option ((Int × Unit) × (Unit)) :=
 (amE l t 4).bind fun r1 =>
 some ((r1.1.1, ()), (()))
noncomputable abbrev ahF : Con SR1 := ⟨168, [.val 24, .sh sI_], [.sh sI_], fun x => ahG x.1 x.2.1⟩
theorem ahE : CO Tryz.prog ahF := aar aaq Tryz.func168 [aio] ⟨ahB, trivial⟩ [] trivial (fun _ => []) [] fun x => by kernel_rfl
noncomputable def af7 (l : LayV) (t : Int) : Option ((Int × Unit) × (Unit)) :=
 (amE l t 3).bind fun r1 =>
 some ((r1.1.1, ()), (()))
noncomputable abbrev aji : Con SR1 := ⟨140, [.val 24, .sh sI_], [.sh sI_], fun x => af7 x.1 x.2.1⟩
theorem ajM : CO Tryz.prog aji := aar aaq Tryz.func140 [aio] ⟨ahB, trivial⟩ [] trivial (fun _ => []) [] fun x => by kernel_rfl
noncomputable def ai6 (l : LayV) (t : Int) : Option ((Int × Unit) × (Unit)) :=
 (amE l t 2).bind fun r1 =>
 some ((r1.1.1, ()), (()))
noncomputable abbrev anV : Con SR1 := ⟨149, [.val 24, .sh sI_], [.sh sI_], fun x => ai6 x.1 x.2.1⟩
theorem aoR : CO Tryz.prog anV := aar aaq Tryz.func149 [aio] ⟨ahB, trivial⟩ [] trivial (fun _ => []) [] fun x => by kernel_rfl
noncomputable def auy (l : LayV) : Option ((Int × Unit) × (Unit)) :=
 some ((1, ()), (()))
noncomputable abbrev anU : Con SR1 := ⟨236, [.val 24], [.sh sI_], fun x => auy x.1⟩
theorem aoQ : CO Tryz.prog anU := aar aaq Tryz.func236 [] trivial [] trivial (fun _ => []) [] fun x => by kernel_rfl
noncomputable def amG (l : LayV) : Option ((Int × Unit) × (Unit)) :=
 some ((2, ()), (()))
noncomputable abbrev ajk : Con SR1 := ⟨175, [.val 24], [.sh sI_], fun x => amG x.1⟩
theorem ajP : CO Tryz.prog ajk := aar aaq Tryz.func175 [] trivial [] trivial (fun _ => []) [] fun x => by kernel_rfl
noncomputable def anR (l : LayV) (i : Int) : Option ((Int × Unit) × (Unit)) :=
 (pAt i l.heap 4 1).bind fun r1 =>
 some ((r1.1.1, ()), (()))
noncomputable abbrev anQ : Con SR1 := ⟨241, [.val 24, .sh sI_], [.sh sI_], fun x => anR x.1 x.2.1⟩
theorem aoO : CO Tryz.prog anQ := aar aaq Tryz.func241 [anZ] ⟨akZ, trivial⟩ [] trivial (fun _ => []) [] fun x => by kernel_rfl
noncomputable def akX (l : LayV) (w : Int) : Option ((Int × Unit) × (Unit)) :=
 (pAt w l.workers l.epochs 1).bind fun r1 =>
 some ((r1.1.1, ()), (()))
noncomputable abbrev ajl : Con SR1 := ⟨172, [.val 24, .sh sI_], [.sh sI_], fun x => akX x.1 x.2.1⟩
theorem ajQ : CO Tryz.prog ajl := aar aaq Tryz.func172 [anZ] ⟨akZ, trivial⟩ [] trivial (fun _ => []) [] fun x => by kernel_rfl
noncomputable def aeb (l : LayV) (l0 : Int) : Option ((Int × Unit) × (Unit)) :=
 (pAt l0 l.classes l.sleepers 1).bind fun r1 =>
 some ((r1.1.1, ()), (()))
noncomputable abbrev ag2 : Con SR1 := ⟨179, [.val 24, .sh sI_], [.sh sI_], fun x => aeb x.1 x.2.1⟩
theorem aiL : CO Tryz.prog ag2 := aar aaq Tryz.func179 [anZ] ⟨akZ, trivial⟩ [] trivial (fun _ => []) [] fun x => by kernel_rfl
noncomputable def afe (l : LayV) (w : Int) : Option ((Int × Unit) × (Unit)) :=
 (pAt w l.workers l.bitmaps 1).bind fun r1 =>
 some ((r1.1.1, ()), (()))
noncomputable abbrev aeT : Con SR1 := ⟨77, [.val 24, .sh sI_], [.sh sI_], fun x => afe x.1 x.2.1⟩
theorem aeS : CO Tryz.prog aeT := aar aaq Tryz.func77 [anZ] ⟨akZ, trivial⟩ [] trivial (fun _ => []) [] fun x => by kernel_rfl
noncomputable def akW (l : LayV) (w : Int) (v : Int) : Option ((QV × Unit) × (Unit)) :=
 (pAt w l.workers l.queues (wi (l.levels * (wi (2 + l.deque))))).bind fun r1 =>
 (pAt v l.levels r1.1.1 (wi (2 + l.deque))).bind fun r2 =>
 if r1.1.1 < 0 then
  some (((⟨(-1), (-1), (-1), 0⟩ : QV), ()), (()))
 else
 if r2.1.1 < 0 then
  some (((⟨(-1), (-1), (-1), 0⟩ : QV), ()), (()))
 else
 some (((⟨r2.1.1, wi (r2.1.1 + 1), wi (r2.1.1 + 2), l.deque⟩ : QV), ()), (()))
noncomputable abbrev ajj : Con SR1 := ⟨74, [.val 24, .sh sI_, .sh sI_], [.val 14], fun x => akW x.1 x.2.1 x.2.2.1⟩
theorem ajN : CO Tryz.prog ajj := aar aaq Tryz.func74 [anZ] ⟨akZ, trivial⟩ [] trivial (fun _ => []) [] fun x => by kernel_rfl
noncomputable def aoV (l : LayV) : Option ((Int × Unit) × (Unit)) :=
 some ((wi (l.table + (wi (5 * l.tasks))), ()), (()))
noncomputable abbrev aoU : Con SR1 := ⟨43, [.val 24], [.sh sI_], fun x => aoV x.1⟩
theorem aqE : CO Tryz.prog aoU := aar aaq Tryz.func43 [] trivial [] trivial (fun _ => []) [] fun x => by kernel_rfl
noncomputable def aei (e : EnvP) (v : Ev) : Option ((Unit) × (EnvP × Unit)) :=
 if (((e.evs.length + ([v] : List Ev).length : Nat)) : Int) < 1000000000000 then
  some ((()), (({ e with evs := e.evs ++ ([v]) } : EnvP), ()))
 else none
noncomputable abbrev aew : Con SR1 := ⟨75, [.ref 27, .val 2], [], fun x => aei x.1 x.2.1⟩
theorem adV : CO Tryz.prog aew := aar aaq Tryz.func75 [] trivial [] trivial (fun _ => []) [] fun x => by kernel_rfl
noncomputable def amJ (l : Int) (n : Int) (c : Int) : Option ((Int × Unit) × (Unit)) :=
 if n < 1 then
  some ((0, ()), (()))
 else
 if 64 < n then
  some ((0, ()), (()))
 else
 if c < 1 then
  some ((0, ()), (()))
 else
 if 8 < c then
  some ((0, ()), (()))
 else
 if l < 0 then
  some ((0, ()), (()))
 else
 if n ≤ l then
  some ((0, ()), (()))
 else
 if n ≠ 0 then
  some ((wi (Int.tdiv (wi (l * c)) n), ()), (()))
 else none
noncomputable abbrev aoT : Con SR1 := ⟨224, [.sh sI_, .sh sI_, .sh sI_], [.sh sI_], fun x => amJ x.1 x.2.1 x.2.2.1⟩
theorem aqD : CO Tryz.prog aoT := aar aaq Tryz.func224 [] trivial [] trivial (fun _ => []) [] fun x => by kernel_rfl
noncomputable def aqu (k : Int) : Option ((Int × Int × Int × Unit) × (Unit)) :=
 some ((wi (Int.fdiv k (2 ^ min (40 : Int).toNat IntKind.u64.bits)), wi (ar1 (Int.fdiv k (2 ^ min (16 : Int).toNat IntKind.u64.bits)) 16777215), wi (ar1 k 65535), ()), (()))
noncomputable abbrev amD : Con SR1 := ⟨246, [.sh sU_], [.sh sI_, .sh sI_, .sh sI_], fun x => aqu x.1⟩
theorem apD : CO Tryz.prog amD := aar aaq Tryz.func246 [] trivial [] trivial (fun _ => []) [] fun x => by kernel_rfl
noncomputable def afN (x : Int) : Option ((Int × Unit) × (Unit)) :=
 if 4294967296 ≤ x then
  if 65536 ≤ (Int.fdiv x (2 ^ min (32 : Int).toNat IntKind.u64.bits)) then
   if 256 ≤ (Int.fdiv (Int.fdiv x (2 ^ min (32 : Int).toNat IntKind.u64.bits)) (2 ^ min (16 : Int).toNat IntKind.u64.bits)) then
   if 0 ≤ IntKind.u8.wrap (Int.fdiv (Int.fdiv (Int.fdiv x (2 ^ min (32 : Int).toNat IntKind.u64.bits)) (2 ^ min (16 : Int).toNat IntKind.u64.bits)) (2 ^ min (8 : Int).toNat IntKind.u64.bits)) ∧ IntKind.u8.wrap (Int.fdiv (Int.fdiv (Int.fdiv x (2 ^ min (32 : Int).toNat IntKind.u64.bits)) (2 ^ min (16 : Int).toNat IntKind.u64.bits)) (2 ^ min (8 : Int).toNat IntKind.u64.bits)) < ((agH.size : Nat) : Int) then
   some ((wi ((wi (56 + (wi ((((agH[(IntKind.u8.wrap (Int.fdiv (Int.fdiv (Int.fdiv x (2 ^ min (32 : Int).toNat IntKind.u64.bits)) (2 ^ min (16 : Int).toNat IntKind.u64.bits)) (2 ^ min (8 : Int).toNat IntKind.u64.bits))).toNat]?).map fun b => ((b.toNat : Nat) : Int)).getD 0))))) - 1), ()), (()))
   else none
   else
   if 0 ≤ IntKind.u8.wrap (Int.fdiv (Int.fdiv x (2 ^ min (32 : Int).toNat IntKind.u64.bits)) (2 ^ min (16 : Int).toNat IntKind.u64.bits)) ∧ IntKind.u8.wrap (Int.fdiv (Int.fdiv x (2 ^ min (32 : Int).toNat IntKind.u64.bits)) (2 ^ min (16 : Int).toNat IntKind.u64.bits)) < ((agH.size : Nat) : Int) then
   some ((wi ((wi (48 + (wi ((((agH[(IntKind.u8.wrap (Int.fdiv (Int.fdiv x (2 ^ min (32 : Int).toNat IntKind.u64.bits)) (2 ^ min (16 : Int).toNat IntKind.u64.bits))).toNat]?).map fun b => ((b.toNat : Nat) : Int)).getD 0))))) - 1), ()), (()))
   else none
  else
  if 256 ≤ (Int.fdiv x (2 ^ min (32 : Int).toNat IntKind.u64.bits)) then
   if 0 ≤ IntKind.u8.wrap (Int.fdiv (Int.fdiv x (2 ^ min (32 : Int).toNat IntKind.u64.bits)) (2 ^ min (8 : Int).toNat IntKind.u64.bits)) ∧ IntKind.u8.wrap (Int.fdiv (Int.fdiv x (2 ^ min (32 : Int).toNat IntKind.u64.bits)) (2 ^ min (8 : Int).toNat IntKind.u64.bits)) < ((agH.size : Nat) : Int) then
   some ((wi ((wi (40 + (wi ((((agH[(IntKind.u8.wrap (Int.fdiv (Int.fdiv x (2 ^ min (32 : Int).toNat IntKind.u64.bits)) (2 ^ min (8 : Int).toNat IntKind.u64.bits))).toNat]?).map fun b => ((b.toNat : Nat) : Int)).getD 0))))) - 1), ()), (()))
   else none
  else
  if 0 ≤ IntKind.u8.wrap (Int.fdiv x (2 ^ min (32 : Int).toNat IntKind.u64.bits)) ∧ IntKind.u8.wrap (Int.fdiv x (2 ^ min (32 : Int).toNat IntKind.u64.bits)) < ((agH.size : Nat) : Int) then
   some ((wi ((wi (32 + (wi ((((agH[(IntKind.u8.wrap (Int.fdiv x (2 ^ min (32 : Int).toNat IntKind.u64.bits))).toNat]?).map fun b => ((b.toNat : Nat) : Int)).getD 0))))) - 1), ()), (()))
  else none
 else
 if 65536 ≤ x then
  if 256 ≤ (Int.fdiv x (2 ^ min (16 : Int).toNat IntKind.u64.bits)) then
   if 0 ≤ IntKind.u8.wrap (Int.fdiv (Int.fdiv x (2 ^ min (16 : Int).toNat IntKind.u64.bits)) (2 ^ min (8 : Int).toNat IntKind.u64.bits)) ∧ IntKind.u8.wrap (Int.fdiv (Int.fdiv x (2 ^ min (16 : Int).toNat IntKind.u64.bits)) (2 ^ min (8 : Int).toNat IntKind.u64.bits)) < ((agH.size : Nat) : Int) then
   some ((wi ((wi (24 + (wi ((((agH[(IntKind.u8.wrap (Int.fdiv (Int.fdiv x (2 ^ min (16 : Int).toNat IntKind.u64.bits)) (2 ^ min (8 : Int).toNat IntKind.u64.bits))).toNat]?).map fun b => ((b.toNat : Nat) : Int)).getD 0))))) - 1), ()), (()))
   else none
  else
  if 0 ≤ IntKind.u8.wrap (Int.fdiv x (2 ^ min (16 : Int).toNat IntKind.u64.bits)) ∧ IntKind.u8.wrap (Int.fdiv x (2 ^ min (16 : Int).toNat IntKind.u64.bits)) < ((agH.size : Nat) : Int) then
   some ((wi ((wi (16 + (wi ((((agH[(IntKind.u8.wrap (Int.fdiv x (2 ^ min (16 : Int).toNat IntKind.u64.bits))).toNat]?).map fun b => ((b.toNat : Nat) : Int)).getD 0))))) - 1), ()), (()))
  else none
 else
 if 256 ≤ x then
  if 0 ≤ IntKind.u8.wrap (Int.fdiv x (2 ^ min (8 : Int).toNat IntKind.u64.bits)) ∧ IntKind.u8.wrap (Int.fdiv x (2 ^ min (8 : Int).toNat IntKind.u64.bits)) < ((agH.size : Nat) : Int) then
   some ((wi ((wi (8 + (wi ((((agH[(IntKind.u8.wrap (Int.fdiv x (2 ^ min (8 : Int).toNat IntKind.u64.bits))).toNat]?).map fun b => ((b.toNat : Nat) : Int)).getD 0))))) - 1), ()), (()))
  else none
 else
 if 0 ≤ IntKind.u8.wrap (x) ∧ IntKind.u8.wrap (x) < ((agH.size : Nat) : Int) then
  some ((wi ((wi (0 + (wi ((((agH[(IntKind.u8.wrap (x)).toNat]?).map fun b => ((b.toNat : Nat) : Int)).getD 0))))) - 1), ()), (()))
 else none
noncomputable abbrev anW : Con SR1 := ⟨207, [.sh sU_], [.sh sI_], fun x => afN x.1⟩
noncomputable def asv : List (Nat × Func) := [(209, Tryz.f209)]
theorem aoS : CO Tryz.prog anW := aar aaq Tryz.func207 [] trivial asv ⟨Tryz.func209, trivial⟩ (fun _ => []) [] fun x => by kernel_rfl
noncomputable def aev (y0 : ProbeV) (y1 : Int) : Option ((Bool × Unit) × (ProbeV × Unit)) :=
 ((
  if y0.next < y1 then
   if y1 ≠ 0 then
   some (decide ((Int.tmod (wi (y0.start + y0.next)) y1) = y0.worker), ())
   else none
  else
  some (false, ())
 ) : Option (Bool × Unit)).bind fun z1 =>
 if z1.1 = true then
  some ((decide (y1 ≤ (wi (y0.next + 1))), ()), (({ y0 with next := wi (y0.next + 1) } : ProbeV), ()))
 else
 some ((decide (y1 ≤ y0.next), ()), (y0, ()))
noncomputable abbrev afB : Con SR1 := ⟨213, [.ref 44, .sh sI_], [.sh .b], fun x => aev x.1 x.2.1⟩
theorem aim : CO Tryz.prog afB := aar aaq Tryz.func213 [] trivial [] trivial (fun _ => []) [(2, .cut [.rg 28 .b] [0])] fun x => by kernel_rfl
noncomputable def acy (y0 : ProbeV) (y1 : EnvP) : Option ((Bool × Unit) × (ProbeV × EnvP × Unit)) :=
 (aaH y0.o).bind fun r1 =>
 if r1.1.1 = true then
  some ((true, ()), (({ y0 with o := r1.2.1 } : ProbeV), y1, ()))
 else
 ((
  if (!y0.begun) = true then
   (av2 y1.k (if 16 < y1.c.workers then 16 else y1.c.workers)).bind fun r2 =>
   some (({ y0 with o := r1.2.1, begun := true, start := r2.1.1 } : ProbeV), ({ y1 with k := r2.2.1 } : EnvP), ())
  else
  some (({ y0 with o := r1.2.1 } : ProbeV), y1, ())
 ) : Option (ProbeV × EnvP × Unit)).bind fun z3 =>
 (aev z3.1 (if 16 < y1.c.workers then 16 else y1.c.workers)).bind fun r4 =>
 if r4.1.1 = true then
  (abi r4.2.1.o 2 0).bind fun r5 =>
  some ((r5.1.1, ()), (({ r4.2.1 with o := r5.2.1 } : ProbeV), z3.2.1, ()))
 else
 if (if 16 < y1.c.workers then 16 else y1.c.workers) ≠ 0 then
  ((
   (afe z3.2.1.l (Int.tmod (wi (r4.2.1.start + r4.2.1.next)) (if 16 < y1.c.workers then 16 else y1.c.workers))).bind fun r6 =>
   (abz z3.2.1.m r6.1.1).bind fun r7 =>
   if (Int.tmod (wi (r4.2.1.start + r4.2.1.next)) (if 16 < y1.c.workers then 16 else y1.c.workers)) = ((15 : Nat) : Int) then
   some (({ r4.2.1 with bm := { r4.2.1.bm with b15 := r7.1.1 } } : ProbeV), ({ z3.2.1 with m := r7.2.1 } : EnvP), ())
   else
   if (Int.tmod (wi (r4.2.1.start + r4.2.1.next)) (if 16 < y1.c.workers then 16 else y1.c.workers)) = ((14 : Nat) : Int) then
   some (({ r4.2.1 with bm := { r4.2.1.bm with b14 := r7.1.1 } } : ProbeV), ({ z3.2.1 with m := r7.2.1 } : EnvP), ())
   else
   if (Int.tmod (wi (r4.2.1.start + r4.2.1.next)) (if 16 < y1.c.workers then 16 else y1.c.workers)) = ((13 : Nat) : Int) then
   some (({ r4.2.1 with bm := { r4.2.1.bm with b13 := r7.1.1 } } : ProbeV), ({ z3.2.1 with m := r7.2.1 } : EnvP), ())
   else
   if (Int.tmod (wi (r4.2.1.start + r4.2.1.next)) (if 16 < y1.c.workers then 16 else y1.c.workers)) = ((12 : Nat) : Int) then
   some (({ r4.2.1 with bm := { r4.2.1.bm with b12 := r7.1.1 } } : ProbeV), ({ z3.2.1 with m := r7.2.1 } : EnvP), ())
   else
   if (Int.tmod (wi (r4.2.1.start + r4.2.1.next)) (if 16 < y1.c.workers then 16 else y1.c.workers)) = ((11 : Nat) : Int) then
   some (({ r4.2.1 with bm := { r4.2.1.bm with b11 := r7.1.1 } } : ProbeV), ({ z3.2.1 with m := r7.2.1 } : EnvP), ())
   else
   if (Int.tmod (wi (r4.2.1.start + r4.2.1.next)) (if 16 < y1.c.workers then 16 else y1.c.workers)) = ((10 : Nat) : Int) then
   some (({ r4.2.1 with bm := { r4.2.1.bm with b10 := r7.1.1 } } : ProbeV), ({ z3.2.1 with m := r7.2.1 } : EnvP), ())
   else
   if (Int.tmod (wi (r4.2.1.start + r4.2.1.next)) (if 16 < y1.c.workers then 16 else y1.c.workers)) = ((9 : Nat) : Int) then
   some (({ r4.2.1 with bm := { r4.2.1.bm with b9 := r7.1.1 } } : ProbeV), ({ z3.2.1 with m := r7.2.1 } : EnvP), ())
   else
   if (Int.tmod (wi (r4.2.1.start + r4.2.1.next)) (if 16 < y1.c.workers then 16 else y1.c.workers)) = ((8 : Nat) : Int) then
   some (({ r4.2.1 with bm := { r4.2.1.bm with b8 := r7.1.1 } } : ProbeV), ({ z3.2.1 with m := r7.2.1 } : EnvP), ())
   else
   if (Int.tmod (wi (r4.2.1.start + r4.2.1.next)) (if 16 < y1.c.workers then 16 else y1.c.workers)) = ((7 : Nat) : Int) then
   some (({ r4.2.1 with bm := { r4.2.1.bm with b7 := r7.1.1 } } : ProbeV), ({ z3.2.1 with m := r7.2.1 } : EnvP), ())
   else
   if (Int.tmod (wi (r4.2.1.start + r4.2.1.next)) (if 16 < y1.c.workers then 16 else y1.c.workers)) = ((6 : Nat) : Int) then
   some (({ r4.2.1 with bm := { r4.2.1.bm with b6 := r7.1.1 } } : ProbeV), ({ z3.2.1 with m := r7.2.1 } : EnvP), ())
   else
   if (Int.tmod (wi (r4.2.1.start + r4.2.1.next)) (if 16 < y1.c.workers then 16 else y1.c.workers)) = ((5 : Nat) : Int) then
   some (({ r4.2.1 with bm := { r4.2.1.bm with b5 := r7.1.1 } } : ProbeV), ({ z3.2.1 with m := r7.2.1 } : EnvP), ())
   else
   if (Int.tmod (wi (r4.2.1.start + r4.2.1.next)) (if 16 < y1.c.workers then 16 else y1.c.workers)) = ((4 : Nat) : Int) then
   some (({ r4.2.1 with bm := { r4.2.1.bm with b4 := r7.1.1 } } : ProbeV), ({ z3.2.1 with m := r7.2.1 } : EnvP), ())
   else
   if (Int.tmod (wi (r4.2.1.start + r4.2.1.next)) (if 16 < y1.c.workers then 16 else y1.c.workers)) = ((3 : Nat) : Int) then
   some (({ r4.2.1 with bm := { r4.2.1.bm with b3 := r7.1.1 } } : ProbeV), ({ z3.2.1 with m := r7.2.1 } : EnvP), ())
   else
   if (Int.tmod (wi (r4.2.1.start + r4.2.1.next)) (if 16 < y1.c.workers then 16 else y1.c.workers)) = ((2 : Nat) : Int) then
   some (({ r4.2.1 with bm := { r4.2.1.bm with b2 := r7.1.1 } } : ProbeV), ({ z3.2.1 with m := r7.2.1 } : EnvP), ())
   else
   if (Int.tmod (wi (r4.2.1.start + r4.2.1.next)) (if 16 < y1.c.workers then 16 else y1.c.workers)) = ((1 : Nat) : Int) then
   some (({ r4.2.1 with bm := { r4.2.1.bm with b1 := r7.1.1 } } : ProbeV), ({ z3.2.1 with m := r7.2.1 } : EnvP), ())
   else
   if (Int.tmod (wi (r4.2.1.start + r4.2.1.next)) (if 16 < y1.c.workers then 16 else y1.c.workers)) = ((0 : Nat) : Int) then
   some (({ r4.2.1 with bm := { r4.2.1.bm with b0 := r7.1.1 } } : ProbeV), ({ z3.2.1 with m := r7.2.1 } : EnvP), ())
   else
   none
  ) : Option (ProbeV × EnvP × Unit)).bind fun z8 =>
  (aev ({ z8.1 with next := wi (z8.1.next + 1) } : ProbeV) (if 16 < y1.c.workers then 16 else y1.c.workers)).bind fun r9 =>
  if (!r9.1.1) = true then
   some ((false, ()), (r9.2.1, z8.2.1, ()))
  else
  if 0 ≤ (if 16 < y1.c.workers then 16 else y1.c.workers) ∧ (if 16 < y1.c.workers then 16 else y1.c.workers) ≤ ((16 : Nat) : Int) then
   (lpF (σ := Int × Int × Int × ProbeV × Unit) (β := Int × Int × Int × ProbeV × Unit) (fun self12 x10 =>
   if x10.2.2.1 < ((((if 16 < y1.c.workers then 16 else y1.c.workers)).toNat : Nat) : Int) then
   (atn r9.2.1.start ((((if 16 < y1.c.workers then 16 else y1.c.workers)).toNat : Nat) : Int)).bind fun r13 =>
   if ((((if 16 < y1.c.workers then 16 else y1.c.workers)).toNat : Nat) : Int) ≠ 0 then
   ((
   if (Int.tmod (wi (r13.1.1 + x10.2.2.1)) ((((if 16 < y1.c.workers then 16 else y1.c.workers)).toNat : Nat) : Int)) < (if 16 < y1.c.workers then 16 else y1.c.workers) then
   if (Int.tmod (wi (r13.1.1 + x10.2.2.1)) ((((if 16 < y1.c.workers then 16 else y1.c.workers)).toNat : Nat) : Int)) = ((15 : Nat) : Int) then
   (afN x10.2.2.2.1.bm.b15).bind fun r14 =>
   some (r14.1.1, x10.2.2.2.1, ())
   else
   if (Int.tmod (wi (r13.1.1 + x10.2.2.1)) ((((if 16 < y1.c.workers then 16 else y1.c.workers)).toNat : Nat) : Int)) = ((14 : Nat) : Int) then
   (afN x10.2.2.2.1.bm.b14).bind fun r15 =>
   some (r15.1.1, x10.2.2.2.1, ())
   else
   if (Int.tmod (wi (r13.1.1 + x10.2.2.1)) ((((if 16 < y1.c.workers then 16 else y1.c.workers)).toNat : Nat) : Int)) = ((13 : Nat) : Int) then
   (afN x10.2.2.2.1.bm.b13).bind fun r16 =>
   some (r16.1.1, x10.2.2.2.1, ())
   else
   if (Int.tmod (wi (r13.1.1 + x10.2.2.1)) ((((if 16 < y1.c.workers then 16 else y1.c.workers)).toNat : Nat) : Int)) = ((12 : Nat) : Int) then
   (afN x10.2.2.2.1.bm.b12).bind fun r17 =>
   some (r17.1.1, x10.2.2.2.1, ())
   else
   if (Int.tmod (wi (r13.1.1 + x10.2.2.1)) ((((if 16 < y1.c.workers then 16 else y1.c.workers)).toNat : Nat) : Int)) = ((11 : Nat) : Int) then
   (afN x10.2.2.2.1.bm.b11).bind fun r18 =>
   some (r18.1.1, x10.2.2.2.1, ())
   else
   if (Int.tmod (wi (r13.1.1 + x10.2.2.1)) ((((if 16 < y1.c.workers then 16 else y1.c.workers)).toNat : Nat) : Int)) = ((10 : Nat) : Int) then
   (afN x10.2.2.2.1.bm.b10).bind fun r19 =>
   some (r19.1.1, x10.2.2.2.1, ())
   else
   if (Int.tmod (wi (r13.1.1 + x10.2.2.1)) ((((if 16 < y1.c.workers then 16 else y1.c.workers)).toNat : Nat) : Int)) = ((9 : Nat) : Int) then
   (afN x10.2.2.2.1.bm.b9).bind fun r20 =>
   some (r20.1.1, x10.2.2.2.1, ())
   else
   if (Int.tmod (wi (r13.1.1 + x10.2.2.1)) ((((if 16 < y1.c.workers then 16 else y1.c.workers)).toNat : Nat) : Int)) = ((8 : Nat) : Int) then
   (afN x10.2.2.2.1.bm.b8).bind fun r21 =>
   some (r21.1.1, x10.2.2.2.1, ())
   else
   if (Int.tmod (wi (r13.1.1 + x10.2.2.1)) ((((if 16 < y1.c.workers then 16 else y1.c.workers)).toNat : Nat) : Int)) = ((7 : Nat) : Int) then
   (afN x10.2.2.2.1.bm.b7).bind fun r22 =>
   some (r22.1.1, x10.2.2.2.1, ())
   else
   if (Int.tmod (wi (r13.1.1 + x10.2.2.1)) ((((if 16 < y1.c.workers then 16 else y1.c.workers)).toNat : Nat) : Int)) = ((6 : Nat) : Int) then
   (afN x10.2.2.2.1.bm.b6).bind fun r23 =>
   some (r23.1.1, x10.2.2.2.1, ())
   else
   if (Int.tmod (wi (r13.1.1 + x10.2.2.1)) ((((if 16 < y1.c.workers then 16 else y1.c.workers)).toNat : Nat) : Int)) = ((5 : Nat) : Int) then
   (afN x10.2.2.2.1.bm.b5).bind fun r24 =>
   some (r24.1.1, x10.2.2.2.1, ())
   else
   if (Int.tmod (wi (r13.1.1 + x10.2.2.1)) ((((if 16 < y1.c.workers then 16 else y1.c.workers)).toNat : Nat) : Int)) = ((4 : Nat) : Int) then
   (afN x10.2.2.2.1.bm.b4).bind fun r25 =>
   some (r25.1.1, x10.2.2.2.1, ())
   else
   if (Int.tmod (wi (r13.1.1 + x10.2.2.1)) ((((if 16 < y1.c.workers then 16 else y1.c.workers)).toNat : Nat) : Int)) = ((3 : Nat) : Int) then
   (afN x10.2.2.2.1.bm.b3).bind fun r26 =>
   some (r26.1.1, x10.2.2.2.1, ())
   else
   if (Int.tmod (wi (r13.1.1 + x10.2.2.1)) ((((if 16 < y1.c.workers then 16 else y1.c.workers)).toNat : Nat) : Int)) = ((2 : Nat) : Int) then
   (afN x10.2.2.2.1.bm.b2).bind fun r27 =>
   some (r27.1.1, x10.2.2.2.1, ())
   else
   if (Int.tmod (wi (r13.1.1 + x10.2.2.1)) ((((if 16 < y1.c.workers then 16 else y1.c.workers)).toNat : Nat) : Int)) = ((1 : Nat) : Int) then
   (afN x10.2.2.2.1.bm.b1).bind fun r28 =>
   some (r28.1.1, x10.2.2.2.1, ())
   else
   if (Int.tmod (wi (r13.1.1 + x10.2.2.1)) ((((if 16 < y1.c.workers then 16 else y1.c.workers)).toNat : Nat) : Int)) = ((0 : Nat) : Int) then
   (afN x10.2.2.2.1.bm.b0).bind fun r29 =>
   some (r29.1.1, x10.2.2.2.1, ())
   else
   none
   else none
   ) : Option (Int × ProbeV × Unit)).bind fun z30 =>
   if (Int.tmod (wi (r13.1.1 + x10.2.2.1)) ((((if 16 < y1.c.workers then 16 else y1.c.workers)).toNat : Nat) : Int)) ≠ r9.2.1.worker then
   if x10.2.1 < z30.1 then
   self12 ((Int.tmod (wi (r13.1.1 + x10.2.2.1)) ((((if 16 < y1.c.workers then 16 else y1.c.workers)).toNat : Nat) : Int)), z30.1, wi (x10.2.2.1 + 1), z30.2.1, ())
   else
   self12 (x10.1, x10.2.1, wi (x10.2.2.1 + 1), z30.2.1, ())
   else
   self12 (x10.1, x10.2.1, wi (x10.2.2.1 + 1), z30.2.1, ())
   else none
   else
   some (x10.1, x10.2.1, x10.2.2.1, x10.2.2.2.1, ())
   ) 18446744073709551616 ((-1), (-1), 0, r9.2.1, ())).bind fun z11 =>
   if z11.1 < 0 then
   (abi z11.2.2.2.1.o 2 0).bind fun r31 =>
   some ((r31.1.1, ()), (({ z11.2.2.2.1 with o := r31.2.1 } : ProbeV), z8.2.1, ()))
   else
   (abi z11.2.2.2.1.o 1 (wi ((wi (z11.1 * 64)) + z11.2.1))).bind fun r32 =>
   some ((r32.1.1, ()), (({ z11.2.2.2.1 with o := r32.2.1 } : ProbeV), z8.2.1, ()))
  else none
 else none
noncomputable abbrev ai2 : Con SR1 := ⟨211, [.ref 44, .ref 27], [.sh .b], fun x => acy x.1 x.2.1⟩
noncomputable def ail : List (Nat × Func) := [(214, Tryz.f214)]
theorem acq : CO Tryz.prog ai2 := aar aaq Tryz.func211 [aaW, aqC, afB, abq, aeT, aby, aoP, anW] ⟨aaL, asw, aim, aaX, aeS, abd, anT, aoS, trivial⟩ ail ⟨Tryz.func214, trivial⟩ (fun f => (get [(214, [(4, .loop [.rg 6 sI_, .rg 7 sI_, .rg 15 sI_, .ob 0 44] 18446744073709551616 0), (8, .cut [.rg 11 sI_, .ob 0 44] [])])] f).getD []) [(6, .cut [.ob 0 44, .ob 1 27] []), (10, .cut [.ob 0 44, .ob 1 27] [])] fun x => by kernel_rfl
noncomputable def ade (y0 : EnvP) (y1 : Int) : Option ((Bool × Unit) × (EnvP × Unit)) :=
 if 0 ≤ y1 then
  some ((decide (y1 < y0.c.tasks), ()), (y0, ()))
 else
 some ((false, ()), (y0, ()))
noncomputable abbrev adS : Con SR1 := ⟨164, [.ref 27, .sh sI_], [.sh .b], fun x => ade x.1 x.2.1⟩
theorem aeu : CO Tryz.prog adS := aar aaq Tryz.func164 [] trivial [] trivial (fun _ => []) [] fun x => by kernel_rfl
noncomputable def aa4 (y0 : AllocV) (y1 : EnvP) : Option ((Bool × Unit) × (AllocV × EnvP × Unit)) :=
 (aaH y0.o).bind fun r1 =>
 if r1.1.1 = true then
  some ((true, ()), ((⟨r1.2.1⟩ : AllocV), y1, ()))
 else
 (auw y1.l).bind fun r2 =>
 (av3 y1.m r2.1.1 1).bind fun r3 =>
 (ade ({ y1 with m := r3.2.1 } : EnvP) (wi (r3.1.1))).bind fun r4 =>
 if (!r4.1.1) = true then
  (abi r1.2.1 3 0).bind fun r5 =>
  some ((r5.1.1, ()), ((⟨r5.2.1⟩ : AllocV), r4.2.1, ()))
 else
 (abi r1.2.1 1 (wi (r3.1.1))).bind fun r6 =>
 some ((r6.1.1, ()), ((⟨r6.2.1⟩ : AllocV), r4.2.1, ()))
noncomputable abbrev agZ : Con SR1 := ⟨161, [.ref 34, .ref 27], [.sh .b], fun x => aa4 x.1 x.2.1⟩
theorem abE : CO Tryz.prog agZ := aar aaq Tryz.func161 [aaW, aqz, aqH, adS, abq] ⟨aaL, ast, aqG, aeu, aaX, trivial⟩ [] trivial (fun _ => []) [] fun x => by kernel_rfl
noncomputable def aaZ (y0 : PublishV) (y1 : EnvP) : Option ((Bool × Unit) × (PublishV × EnvP × Unit)) :=
 (aaH y0.o).bind fun r1 =>
 if r1.1.1 = true then
  some ((true, ()), (({ y0 with o := r1.2.1 } : PublishV), y1, ()))
 else
 (ade y1 y0.task).bind fun r2 =>
 if (!r2.1.1) = true then
  (abi r1.2.1 4 0).bind fun r3 =>
  some ((r3.1.1, ()), (({ y0 with o := r3.2.1 } : PublishV), r2.2.1, ()))
 else
 if y0.line = 1 then
  (aed r2.2.1.l y0.task).bind fun r4 =>
  if y0.level = y0.level then
   (aa0 r2.2.1.m r4.1.1 (wu (y0.level))).bind fun r5 =>
   some ((false, ()), (({ y0 with o := r1.2.1, line := wi (y0.line + 1) } : PublishV), ({ r2.2.1 with m := r5.2.1 } : EnvP), ()))
  else none
 else
 if y0.line = 2 then
  (ahG r2.2.1.l y0.task).bind fun r6 =>
  (aqy r2.2.1.k).bind fun r7 =>
  (aa0 r2.2.1.m r6.1.1 (wu (r7.1.1))).bind fun r8 =>
  some ((false, ()), (({ y0 with o := r1.2.1, line := wi (y0.line + 1) } : PublishV), ({ r2.2.1 with m := r8.2.1, k := r7.2.1 } : EnvP), ()))
 else
 (adA r2.2.1.l y0.task).bind fun r9 =>
 (aa0 r2.2.1.m r9.1.1 1).bind fun r10 =>
 (abi r1.2.1 0 0).bind fun r11 =>
 some ((r11.1.1, ()), (({ y0 with o := r11.2.1 } : PublishV), ({ r2.2.1 with m := r10.2.1 } : EnvP), ()))
noncomputable abbrev ahe : Con SR1 := ⟨167, [.ref 48, .ref 27], [.sh .b], fun x => aaZ x.1 x.2.1⟩
theorem abO : CO Tryz.prog ahe := aar aaq Tryz.func167 [aaW, adS, abq, aeo, acG, ahF, ajO, aen] ⟨aaL, aeu, aaX, aec, acg, ahE, aiq, ad9, trivial⟩ [] trivial (fun _ => []) [] fun x => by kernel_rfl
noncomputable def abx (y0 : ClaimV) (y1 : EnvP) : Option ((Bool × Unit) × (ClaimV × EnvP × Unit)) :=
 (aaH y0.o).bind fun r1 =>
 if r1.1.1 = true then
  some ((true, ()), (({ y0 with o := r1.2.1 } : ClaimV), y1, ()))
 else
 if y0.task = y0.task then
  if y0.worker = y0.worker then
   (adA y1.l y0.task).bind fun r2 =>
   (amf y1.m r2.1.1 1 2).bind fun r3 =>
   if (!r3.1.1) = true then
   (aei ({ y1 with m := r3.2.1 } : EnvP) ({ y0 with kind := 15, other := 0, level := 0 } : Ev)).bind fun r4 =>
   (abi r1.2.1 4 0).bind fun r5 =>
   some ((r5.1.1, ()), (({ y0 with o := r5.2.1 } : ClaimV), r4.2.1, ()))
   else
   if 0 ≤ y0.task ∧ y0.task < ((y1.recs.length : Nat) : Int) then
   if (aab y1.recs y0.task).started = true then
   (aei ({ y1 with m := r3.2.1 } : EnvP) ({ y0 with kind := 9, other := 0, level := 0 } : Ev)).bind fun r6 =>
   (abi r1.2.1 1 y0.task).bind fun r7 =>
   some ((r7.1.1, ()), (({ y0 with o := r7.2.1 } : ClaimV), r6.2.1, ()))
   else
   (aei ({ y1 with m := r3.2.1, recs := y1.recs.set y0.task.toNat ({ aab y1.recs y0.task with started := true } : RecP) } : EnvP) ({ y0 with kind := 5, other := 0, level := 0 } : Ev)).bind fun r8 =>
   (abi r1.2.1 1 y0.task).bind fun r9 =>
   some ((r9.1.1, ()), (({ y0 with o := r9.2.1 } : ClaimV), r8.2.1, ()))
   else none
  else none
 else none
noncomputable abbrev aiV : Con SR1 := ⟨159, [.ref 43, .ref 27], [.sh .b], fun x => abx x.1 x.2.1⟩
theorem acp : CO Tryz.prog aiV := aar aaq Tryz.func159 [aaW, aen, ahI, aew, abq] ⟨aaL, ad9, af8, adV, aaX, trivial⟩ [] trivial (fun _ => []) [] fun x => by kernel_rfl
noncomputable def acj (y0 : AttemptV) (y1 : EnvP) : Option ((Bool × Unit) × (AttemptV × EnvP × Unit)) :=
 (aaH y0.o).bind fun r1 =>
 if r1.1.1 = true then
  some ((true, ()), (({ y0 with o := r1.2.1 } : AttemptV), y1, ()))
 else
 (auy y1.l).bind fun r2 =>
 if y0.owner = y0.owner then
  (amf y1.m r2.1.1 0 (wu (wi (y0.owner + 1)))).bind fun r3 =>
  if r3.1.1 = true then
   (abi r1.2.1 1 0).bind fun r4 =>
   some ((r4.1.1, ()), (({ y0 with o := r4.2.1 } : AttemptV), ({ y1 with m := r3.2.1 } : EnvP), ()))
  else
  if y0.once = true then
   (abi r1.2.1 5 0).bind fun r5 =>
   some ((r5.1.1, ()), (({ y0 with o := r5.2.1 } : AttemptV), ({ y1 with m := r3.2.1 } : EnvP), ()))
  else
  some ((false, ()), (({ y0 with o := r1.2.1 } : AttemptV), ({ y1 with m := r3.2.1 } : EnvP), ()))
 else none
noncomputable abbrev aiv : Con SR1 := ⟨235, [.ref 33, .ref 27], [.sh .b], fun x => acj x.1 x.2.1⟩
theorem ab5 : CO Tryz.prog aiv := aar aaq Tryz.func235 [aaW, anU, ahI, abq] ⟨aaL, aoQ, af8, aaX, trivial⟩ [] trivial (fun _ => []) [] fun x => by kernel_rfl
noncomputable def aci (y0 : ReleaseV) (y1 : EnvP) : Option ((Bool × Unit) × (ReleaseV × EnvP × Unit)) :=
 (aaH y0.o).bind fun r1 =>
 if r1.1.1 = true then
  some ((true, ()), ((⟨r1.2.1⟩ : ReleaseV), y1, ()))
 else
 (auy y1.l).bind fun r2 =>
 (aa0 y1.m r2.1.1 0).bind fun r3 =>
 (abi r1.2.1 0 0).bind fun r4 =>
 some ((r4.1.1, ()), ((⟨r4.2.1⟩ : ReleaseV), ({ y1 with m := r3.2.1 } : EnvP), ()))
noncomputable abbrev aiu : Con SR1 := ⟨238, [.ref 35, .ref 27], [.sh .b], fun x => aci x.1 x.2.1⟩
theorem ab4 : CO Tryz.prog aiu := aar aaq Tryz.func238 [aaW, anU, acG, abq] ⟨aaL, aoQ, acg, aaX, trivial⟩ [] trivial (fun _ => []) [] fun x => by kernel_rfl
noncomputable def abU (y0 : OPushV) (y1 : EnvP) : Option ((Bool × Unit) × (OPushV × EnvP × Unit)) :=
 (aaH y0.o).bind fun r1 =>
 if r1.1.1 = true then
  some ((true, ()), (({ y0 with o := r1.2.1 } : OPushV), y1, ()))
 else
 if y0.line = 1 then
  (abz y1.m y0.q.bottom).bind fun r2 =>
  some ((false, ()), (({ y0 with o := r1.2.1, line := wi (y0.line + 1), b := r2.1.1 } : OPushV), ({ y1 with m := r2.2.1 } : EnvP), ()))
 else
 if y0.line = 2 then
  (abz y1.m y0.q.top).bind fun r3 =>
  (anS y0.b r3.1.1).bind fun r4 =>
  if y0.q.cap = y0.q.cap then
   if y0.q.cap ≤ r4.1.1 then
   (abi r1.2.1 3 0).bind fun r5 =>
   some ((r5.1.1, ()), (({ y0 with o := r5.2.1 } : OPushV), ({ y1 with m := r3.2.1 } : EnvP), ()))
   else
   some ((false, ()), (({ y0 with o := r1.2.1, line := wi (y0.line + 1) } : OPushV), ({ y1 with m := r3.2.1 } : EnvP), ()))
  else none
 else
 if y0.line = 3 then
  (anX y0.q y0.b).bind fun r6 =>
  if y0.value = y0.value then
   (aa0 y1.m r6.1.1 (wu (y0.value))).bind fun r7 =>
   some ((false, ()), (({ y0 with o := r1.2.1, line := wi (y0.line + 1) } : OPushV), ({ y1 with m := r7.2.1 } : EnvP), ()))
  else none
 else
 (aa0 y1.m y0.q.bottom (wu (y0.b + 1))).bind fun r8 =>
 (abi r1.2.1 0 0).bind fun r9 =>
 some ((r9.1.1, ()), (({ y0 with o := r9.2.1 } : OPushV), ({ y1 with m := r8.2.1 } : EnvP), ()))
noncomputable abbrev ajS : Con SR1 := ⟨251, [.ref 51, .ref 27], [.sh .b], fun x => abU x.1 x.2.1⟩
theorem acH : CO Tryz.prog ajS := aar aaq Tryz.func251 [aaW, aby, aip, abq, alF, acG] ⟨aaL, abd, ahD, aaX, alE, acg, trivial⟩ [] trivial (fun _ => []) [] fun x => by kernel_rfl
noncomputable def agS (y0 : OPopV) (y1 : EnvP) : Option ((Int × Unit) × (OPopV × EnvP × Unit)) :=
 (abz y1.m y0.q.top).bind fun r1 =>
 (anS (wu (y0.b - 1)) r1.1.1).bind fun r2 =>
 if 0 < r2.1.1 then
  some ((5, ()), (({ y0 with t := r1.1.1 } : OPopV), ({ y1 with m := r1.2.1 } : EnvP), ()))
 else
 if r2.1.1 = 0 then
  some ((6, ()), (({ y0 with t := r1.1.1 } : OPopV), ({ y1 with m := r1.2.1 } : EnvP), ()))
 else
 some ((9, ()), (({ y0 with t := r1.1.1 } : OPopV), ({ y1 with m := r1.2.1 } : EnvP), ()))
noncomputable abbrev afC : Con SR1 := ⟨249, [.ref 50, .ref 27], [.sh sI_], fun x => agS x.1 x.2.1⟩
theorem air : CO Tryz.prog afC := aar aaq Tryz.func249 [aby, aip] ⟨abd, ahD, trivial⟩ [] trivial (fun _ => []) [] fun x => by kernel_rfl
noncomputable def adB (y0 : OPopV) (y1 : EnvP) : Option ((Bool × Unit) × (OPopV × EnvP × Unit)) :=
 (aaH y0.o).bind fun r1 =>
 if r1.1.1 = true then
  some ((true, ()), (({ y0 with o := r1.2.1 } : OPopV), y1, ()))
 else
 if y0.line = 1 then
  (abz y1.m y0.q.bottom).bind fun r2 =>
  some ((false, ()), (({ y0 with o := r1.2.1, line := wi (y0.line + 1), b := r2.1.1 } : OPopV), ({ y1 with m := r2.2.1 } : EnvP), ()))
 else
 if y0.line = 2 then
  (abz y1.m y0.q.top).bind fun r3 =>
  (anS y0.b r3.1.1).bind fun r4 =>
  if r4.1.1 ≤ 0 then
   (abi r1.2.1 2 0).bind fun r5 =>
   some ((r5.1.1, ()), (({ y0 with o := r5.2.1, t := r3.1.1 } : OPopV), ({ y1 with m := r3.2.1 } : EnvP), ()))
  else
  some ((false, ()), (({ y0 with o := r1.2.1, line := wi (y0.line + 1), t := r3.1.1 } : OPopV), ({ y1 with m := r3.2.1 } : EnvP), ()))
 else
 if y0.line = 3 then
  (aa0 y1.m y0.q.bottom (wu (y0.b - 1))).bind fun r6 =>
  some ((false, ()), (({ y0 with o := r1.2.1, line := wi (y0.line + 1) } : OPopV), ({ y1 with m := r6.2.1 } : EnvP), ()))
 else
 if y0.line = 4 then
  (agS ({ y0 with o := r1.2.1 } : OPopV) y1).bind fun r7 =>
  some ((false, ()), (({ r7.2.1 with line := r7.1.1 } : OPopV), r7.2.2.1, ()))
 else
 if y0.line = 5 then
  if y0.line = 5 then
   (anX y0.q (wu (y0.b - 1))).bind fun r8 =>
   (abz y1.m r8.1.1).bind fun r9 =>
   (abi r1.2.1 1 (wi (r9.1.1))).bind fun r10 =>
   some ((r10.1.1, ()), (({ y0 with o := r10.2.1 } : OPopV), ({ y1 with m := r9.2.1 } : EnvP), ()))
  else
  if y0.line = 6 then
   (amf y1.m y0.q.top y0.t (wu (y0.t + 1))).bind fun r11 =>
   if (!r11.1.1) = true then
   some ((false, ()), (({ y0 with o := r1.2.1, line := 9 } : OPopV), ({ y1 with m := r11.2.1 } : EnvP), ()))
   else
   some ((false, ()), (({ y0 with o := r1.2.1, line := wi (y0.line + 1) } : OPopV), ({ y1 with m := r11.2.1 } : EnvP), ()))
  else
  if y0.line = 7 then
   (aa0 y1.m y0.q.bottom y0.b).bind fun r12 =>
   some ((false, ()), (({ y0 with o := r1.2.1, line := wi (y0.line + 1) } : OPopV), ({ y1 with m := r12.2.1 } : EnvP), ()))
  else
  (aa0 y1.m y0.q.bottom y0.b).bind fun r13 =>
  (abi r1.2.1 2 0).bind fun r14 =>
  some ((r14.1.1, ()), (({ y0 with o := r14.2.1 } : OPopV), ({ y1 with m := r13.2.1 } : EnvP), ()))
 else
 if y0.line = 8 then
  (anX y0.q (wu (y0.b - 1))).bind fun r15 =>
  (abz y1.m r15.1.1).bind fun r16 =>
  (abi r1.2.1 1 (wi (r16.1.1))).bind fun r17 =>
  some ((r17.1.1, ()), (({ y0 with o := r17.2.1 } : OPopV), ({ y1 with m := r16.2.1 } : EnvP), ()))
 else
 if y0.line = 6 then
  (amf y1.m y0.q.top y0.t (wu (y0.t + 1))).bind fun r18 =>
  if (!r18.1.1) = true then
   some ((false, ()), (({ y0 with o := r1.2.1, line := 9 } : OPopV), ({ y1 with m := r18.2.1 } : EnvP), ()))
  else
  some ((false, ()), (({ y0 with o := r1.2.1, line := wi (y0.line + 1) } : OPopV), ({ y1 with m := r18.2.1 } : EnvP), ()))
 else
 if y0.line = 7 then
  (aa0 y1.m y0.q.bottom y0.b).bind fun r19 =>
  some ((false, ()), (({ y0 with o := r1.2.1, line := wi (y0.line + 1) } : OPopV), ({ y1 with m := r19.2.1 } : EnvP), ()))
 else
 (aa0 y1.m y0.q.bottom y0.b).bind fun r20 =>
 (abi r1.2.1 2 0).bind fun r21 =>
 some ((r21.1.1, ()), (({ y0 with o := r21.2.1 } : OPopV), ({ y1 with m := r20.2.1 } : EnvP), ()))
noncomputable abbrev akH : Con SR1 := ⟨248, [.ref 50, .ref 27], [.sh .b], fun x => adB x.1 x.2.1⟩
theorem acZ : CO Tryz.prog akH := aar aaq Tryz.func248 [aaW, aby, aip, abq, acG, afC, alF, ahI] ⟨aaL, abd, ahD, aaX, acg, air, alE, af8, trivial⟩ [] trivial (fun _ => []) [] fun x => by kernel_rfl
noncomputable def acx (y0 : StealV) (y1 : EnvP) : Option ((Bool × Unit) × (StealV × EnvP × Unit)) :=
 (aaH y0.o).bind fun r1 =>
 if r1.1.1 = true then
  some ((true, ()), (({ y0 with o := r1.2.1 } : StealV), y1, ()))
 else
 if y0.line = 1 then
  (abz y1.m y0.q.top).bind fun r2 =>
  some ((false, ()), (({ y0 with o := r1.2.1, line := wi (y0.line + 1), t := r2.1.1 } : StealV), ({ y1 with m := r2.2.1 } : EnvP), ()))
 else
 if y0.line = 2 then
  (abz y1.m y0.q.bottom).bind fun r3 =>
  (anS r3.1.1 y0.t).bind fun r4 =>
  if r4.1.1 ≤ 0 then
   (abi r1.2.1 2 0).bind fun r5 =>
   some ((r5.1.1, ()), (({ y0 with o := r5.2.1 } : StealV), ({ y1 with m := r3.2.1 } : EnvP), ()))
  else
  some ((false, ()), (({ y0 with o := r1.2.1, line := wi (y0.line + 1) } : StealV), ({ y1 with m := r3.2.1 } : EnvP), ()))
 else
 if y0.line = 3 then
  (anX y0.q y0.t).bind fun r6 =>
  (abz y1.m r6.1.1).bind fun r7 =>
  some ((false, ()), (({ y0 with o := r1.2.1, line := wi (y0.line + 1), value := r7.1.1 } : StealV), ({ y1 with m := r7.2.1 } : EnvP), ()))
 else
 (amf y1.m y0.q.top y0.t (wu (y0.t + 1))).bind fun r8 =>
 if r8.1.1 = true then
  (abi r1.2.1 1 (wi (y0.value))).bind fun r9 =>
  some ((r9.1.1, ()), (({ y0 with o := r9.2.1 } : StealV), ({ y1 with m := r8.2.1 } : EnvP), ()))
 else
 (abi r1.2.1 4 0).bind fun r10 =>
 some ((r10.1.1, ()), (({ y0 with o := r10.2.1 } : StealV), ({ y1 with m := r8.2.1 } : EnvP), ()))
noncomputable abbrev aiT : Con SR1 := ⟨199, [.ref 40, .ref 27], [.sh .b], fun x => acx x.1 x.2.1⟩
theorem aco : CO Tryz.prog aiT := aar aaq Tryz.func199 [aaW, aby, aip, abq, alF, ahI] ⟨aaL, abd, ahD, aaX, alE, af8, trivial⟩ [] trivial (fun _ => []) [] fun x => by kernel_rfl
noncomputable def abV (y0 : SetV) (y1 : EnvP) : Option ((Bool × Unit) × (SetV × EnvP × Unit)) :=
 (aaH y0.o).bind fun r1 =>
 if r1.1.1 = true then
  some ((true, ()), (({ y0 with o := r1.2.1 } : SetV), y1, ()))
 else
 (arW y0.bit).bind fun r2 =>
 if y0.cell = y0.cell then
  (pOr y1.m y0.cell r2.1.1).bind fun r3 =>
  (abi r1.2.1 0 0).bind fun r4 =>
  some ((r4.1.1, ()), (({ y0 with o := r4.2.1 } : SetV), ({ y1 with m := r3.2.1 } : EnvP), ()))
 else none
noncomputable abbrev akw : Con SR1 := ⟨253, [.ref 52, .ref 27], [.sh .b], fun x => abV x.1 x.2.1⟩
theorem acJ : CO Tryz.prog akw := aar aaq Tryz.func253 [aaW, amK, ass, abq] ⟨aaL, alH, aqx, aaX, trivial⟩ [] trivial (fun _ => []) [] fun x => by kernel_rfl
noncomputable def acn (y0 : ResetV) (y1 : EnvP) : Option ((Bool × Unit) × (ResetV × EnvP × Unit)) :=
 (aaH y0.o).bind fun r1 =>
 if r1.1.1 = true then
  some ((true, ()), (({ y0 with o := r1.2.1 } : ResetV), y1, ()))
 else
 (arW y0.bit).bind fun r2 =>
 if y0.line = 1 then
  (atp y1.m y0.cell (avv r2.1.1)).bind fun r3 =>
  some ((false, ()), (({ y0 with o := r1.2.1, line := wi (y0.line + 1) } : ResetV), ({ y1 with m := r3.2.1 } : EnvP), ()))
 else
 if y0.line = 2 then
  (abz y1.m y0.q.bottom).bind fun r4 =>
  some ((false, ()), (({ y0 with o := r1.2.1, line := wi (y0.line + 1), b := r4.1.1 } : ResetV), ({ y1 with m := r4.2.1 } : EnvP), ()))
 else
 if y0.line = 3 then
  (abz y1.m y0.q.top).bind fun r5 =>
  (anS y0.b r5.1.1).bind fun r6 =>
  if r6.1.1 ≤ 0 then
   (abi r1.2.1 2 0).bind fun r7 =>
   some ((r7.1.1, ()), (({ y0 with o := r7.2.1 } : ResetV), ({ y1 with m := r5.2.1 } : EnvP), ()))
  else
  some ((false, ()), (({ y0 with o := r1.2.1, line := wi (y0.line + 1) } : ResetV), ({ y1 with m := r5.2.1 } : EnvP), ()))
 else
 (pOr y1.m y0.cell r2.1.1).bind fun r8 =>
 (abi r1.2.1 1 0).bind fun r9 =>
 some ((r9.1.1, ()), (({ y0 with o := r9.2.1 } : ResetV), ({ y1 with m := r8.2.1 } : EnvP), ()))
noncomputable abbrev aiB : Con SR1 := ⟨203, [.ref 41, .ref 27], [.sh .b], fun x => acn x.1 x.2.1⟩
theorem ab7 : CO Tryz.prog aiB := aar aaq Tryz.func203 [aaW, amK, aoW, aby, aip, abq, ass] ⟨aaL, alH, an0, abd, ahD, aaX, aqx, trivial⟩ [] trivial (fun _ => []) [] fun x => by kernel_rfl
noncomputable def abw (y0 : RemoveV) : Option ((Int × Unit) × (RemoveV × Unit)) :=
 if y0.z < y0.y then
  some ((7, ()), (y0, ()))
 else
 some ((8, ()), (y0, ()))
noncomputable abbrev ac1 : Con SR1 := ⟨242, [.ref 49], [.sh sI_], fun x => abw x.1⟩
theorem aeX : CO Tryz.prog ac1 := aar aaq Tryz.func242 [] trivial [] trivial (fun _ => []) [] fun x => by kernel_rfl
noncomputable def ab1 (y0 : RemoveV) : Option ((Int × Unit) × (RemoveV × Unit)) :=
 if (wi ((wi (2 * y0.i)) + 1)) < (wi (y0.n - 1)) then
  some ((5, ()), (y0, ()))
 else
 some ((8, ()), (y0, ()))
noncomputable abbrev abI : Con SR1 := ⟨243, [.ref 49], [.sh sI_], fun x => ab1 x.1⟩
theorem acA : CO Tryz.prog abI := aar aaq Tryz.func243 [] trivial [] trivial (fun _ => []) [] fun x => by kernel_rfl
noncomputable def ab6 (y0 : RemoveV) : Option ((Int × Unit) × (RemoveV × Unit)) :=
 (aqu y0.x).bind fun r1 =>
 some ((r1.1.2.2.1, ()), (y0, ()))
noncomputable abbrev acw : Con SR1 := ⟨244, [.ref 49], [.sh sI_], fun x => ab6 x.1⟩
theorem adD : CO Tryz.prog acw := aar aaq Tryz.func244 [amD] ⟨apD, trivial⟩ [] trivial (fun _ => []) [] fun x => by kernel_rfl
noncomputable def aef (y0 : RemoveV) (y1 : EnvP) : Option ((Bool × Unit) × (RemoveV × EnvP × Unit)) :=
 if y1.l.workers = y1.l.workers then
  if y1.l.levels = y1.l.levels then
   if y1.l.classes = y1.l.classes then
   if y1.l.tasks = y1.l.tasks then
   if y1.l.deque = y1.l.deque then
   if y1.l.heap = y1.l.heap then
   if y1.l.sleepers = y1.l.sleepers then
   if y1.l.epochs = y1.l.epochs then
   if y1.l.bitmaps = y1.l.bitmaps then
   if y1.l.queues = y1.l.queues then
   if y1.l.table = y1.l.table then
   if y0.line = 1 then
   (amG y1.l).bind fun r1 =>
   (abz y1.m r1.1.1).bind fun r2 =>
   if (wi (r2.1.1)) ≤ 0 then
   (abi y0.o 2 0).bind fun r3 =>
   some ((r3.1.1, ()), (({ y0 with o := r3.2.1, n := wi (r2.1.1) } : RemoveV), ({ y1 with m := r2.2.1 } : EnvP), ()))
   else
   some ((false, ()), (({ y0 with line := 2, n := wi (r2.1.1) } : RemoveV), ({ y1 with m := r2.2.1 } : EnvP), ()))
   else
   if y0.line = 2 then
   (anR y1.l 0).bind fun r4 =>
   (abz y1.m r4.1.1).bind fun r5 =>
   some ((false, ()), (({ y0 with line := 3, x := r5.1.1 } : RemoveV), ({ y1 with m := r5.2.1 } : EnvP), ()))
   else
   if y0.line = 3 then
   (anR y1.l (wi (y0.n - 1))).bind fun r6 =>
   (abz y1.m r6.1.1).bind fun r7 =>
   some ((false, ()), (({ y0 with line := 4, y := r7.1.1 } : RemoveV), ({ y1 with m := r7.2.1 } : EnvP), ()))
   else
   (amG y1.l).bind fun r8 =>
   if y0.n = y0.n then
   (aa0 y1.m r8.1.1 (wu (wi (y0.n - 1)))).bind fun r9 =>
   (ab6 y0).bind fun r10 =>
   if y0.worker = r10.2.1.worker then
   (aei ({ y1 with m := r9.2.1 } : EnvP) (⟨13, y0.worker, r10.1.1, 0, 0⟩ : Ev)).bind fun r11 =>
   if r10.2.1.n = 1 then
   (ab6 r10.2.1).bind fun r12 =>
   (abi r12.2.1.o 1 r12.1.1).bind fun r13 =>
   some ((r13.1.1, ()), (({ r12.2.1 with o := r13.2.1 } : RemoveV), r11.2.1, ()))
   else
   (ab1 r10.2.1).bind fun r14 =>
   some ((false, ()), (({ r14.2.1 with line := r14.1.1 } : RemoveV), r11.2.1, ()))
   else none
   else none
   else none
   else none
   else none
   else none
   else none
   else none
   else none
   else none
   else none
  else none
 else none
noncomputable abbrev adE : Con SR1 := ⟨245, [.ref 49, .ref 27], [.sh .b], fun x => aef x.1 x.2.1⟩
theorem afO : CO Tryz.prog adE := aar aaq Tryz.func245 [ajk, aby, abq, anQ, acG, acw, aew, abI] ⟨ajP, abd, aaX, aoO, acg, adD, adV, acA, trivial⟩ [] trivial (fun _ => []) [] fun x => by kernel_rfl
end Go.Proofs.YtlcelajkhklkbaaGreat
