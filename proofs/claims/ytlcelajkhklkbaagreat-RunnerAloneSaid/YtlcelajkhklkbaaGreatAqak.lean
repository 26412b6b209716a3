/- The program's machines in the evaluator's form. -/
import Derived.Test.YtlcelajkhklkbaaGreatAqai
import Derived.Test.YtlcelajkhklkbaaGreatAqaj
set_option linter.all false
namespace Go.Proofs.YtlcelajkhklkbaaGreat
open Go Go.RowKit
set_option maxRecDepth 100000
variable [Tb]
noncomputable def azx (x : Int) : Option ((Int × Unit) × (Unit)) :=
 if x = 0 then
  some (((-1), ()), (()))
 else
 (pTz x).bind fun r1 =>
 some ((r1.1.1, ()), (()))
noncomputable abbrev avI : Con SR1 := ⟨223, [.sh sU_], [.sh sI_], fun x => azx x.1⟩
theorem aw2 : CO Tryz.prog avI := aas aar Tryz.func223 [awZ] ⟨ayy, trivial⟩ [] trivial (fun _ => []) [] fun x => by kernel_rfl
noncomputable def aaS (o : OutV) : Option ((Bool × Unit) × (OutV × Unit)) :=
 some ((o.ended, ()), (o, ()))
noncomputable abbrev aba : Con SR1 := ⟨128, [.ref 23], [.sh .b], fun x => aaS x.1⟩
theorem aaY : CO Tryz.prog aba := aas aar Tryz.func128 [] trivial [] trivial (fun _ => []) [] fun x => by kernel_rfl
noncomputable def abH (o : OutV) (code : Int) (value : Int) : Option ((Bool × Unit) × (OutV × Unit)) :=
 some ((true, ()), ((⟨true, code, value⟩ : OutV), ()))
noncomputable abbrev abS : Con SR1 := ⟨132, [.ref 23, .sh sI_, .sh sI_], [.sh .b], fun x => abH x.1 x.2.1 x.2.2.1⟩
theorem abd : CO Tryz.prog abS := aas aar Tryz.func132 [] trivial [] trivial (fun _ => []) [] fun x => by kernel_rfl
noncomputable def aw0 (o : OutV) : Option ((Int × Int × Unit) × (OutV × Unit)) :=
 some ((o.code, o.value, ()), (o, ()))
noncomputable abbrev aai : Con SR1 := ⟨129, [.ref 23], [.sh sI_, .sh sI_], fun x => aw0 x.1⟩
theorem aag : CO Tryz.prog aai := aas aar Tryz.func129 [] trivial [] trivial (fun _ => []) [] fun x => by kernel_rfl
noncomputable def acb (m : MemV) (a : Int) : Option ((Int × Unit) × (MemV × Unit)) :=
 if a < 0 then
  some ((0, ()), (m, ()))
 else
 if ((m.cells.length : Nat) : Int) ≤ a then
  some ((0, ()), (m, ()))
 else
 if 0 ≤ a ∧ a < ((m.cells.length : Nat) : Int) then
  if 0 ≤ a ∧ a < ((m.cells.length : Nat) : Int) then
   if 0 ≤ a ∧ a < (((m.cells.set a.toNat (afD m.cells a)).length : Nat) : Int) then
   some ((afD m.cells a, ()), ((⟨m.cells.set a.toNat (afD m.cells a), ⟨1, a, afD m.cells a, afD (m.cells.set a.toNat (afD m.cells a)) a⟩, wi (m.count + 1)⟩ : MemV), ()))
   else none
  else none
 else none
noncomputable abbrev aca : Con SR1 := ⟨150, [.ref 9, .sh sI_], [.sh sU_], fun x => acb x.1 x.2.1⟩
noncomputable def auF : List (Nat × Func) := [(46, Tryz.f46), (157, Tryz.f157)]
theorem abz : CO Tryz.prog aca := aas aar Tryz.func150 [] trivial auF ⟨Tryz.func46, Tryz.func157, trivial⟩ (fun _ => []) [] fun x => by kernel_rfl
noncomputable def abf (m : MemV) (a : Int) (v : Int) : Option ((Unit) × (MemV × Unit)) :=
 if a < 0 then
  some ((()), (m, ()))
 else
 if ((m.cells.length : Nat) : Int) ≤ a then
  some ((()), (m, ()))
 else
 if 0 ≤ a ∧ a < ((m.cells.length : Nat) : Int) then
  if 0 ≤ a ∧ a < ((m.cells.length : Nat) : Int) then
   if 0 ≤ a ∧ a < (((m.cells.set a.toNat v).length : Nat) : Int) then
   some ((()), ((⟨m.cells.set a.toNat v, ⟨2, a, afD m.cells a, afD (m.cells.set a.toNat v) a⟩, wi (m.count + 1)⟩ : MemV), ()))
   else none
  else none
 else none
noncomputable abbrev adC : Con SR1 := ⟨25, [.ref 9, .sh sI_, .sh sU_], [], fun x => abf x.1 x.2.1 x.2.2.1⟩
noncomputable def asy : List (Nat × Func) := [(46, Tryz.f46), (47, Tryz.f47)]
theorem ac2 : CO Tryz.prog adC := aas aar Tryz.func25 [] trivial asy ⟨Tryz.func46, Tryz.func47, trivial⟩ (fun _ => []) [] fun x => by kernel_rfl
noncomputable def aog (m : MemV) (a : Int) (old : Int) (v : Int) : Option ((Bool × Unit) × (MemV × Unit)) :=
 if a < 0 then
  some ((false, ()), (m, ()))
 else
 if ((m.cells.length : Nat) : Int) ≤ a then
  some ((false, ()), (m, ()))
 else
 if 0 ≤ a ∧ a < ((m.cells.length : Nat) : Int) then
  if (afD m.cells a) = old then
   if 0 ≤ a ∧ a < ((m.cells.length : Nat) : Int) then
   if 0 ≤ a ∧ a < (((m.cells.set a.toNat v).length : Nat) : Int) then
   some ((decide ((afD m.cells a) = old), ()), ((⟨m.cells.set a.toNat v, ⟨3, a, afD m.cells a, afD (m.cells.set a.toNat v) a⟩, wi (m.count + 1)⟩ : MemV), ()))
   else none
   else none
  else
  if 0 ≤ a ∧ a < ((m.cells.length : Nat) : Int) then
   if 0 ≤ a ∧ a < (((m.cells.set a.toNat (afD m.cells a)).length : Nat) : Int) then
   some ((decide ((afD m.cells a) = old), ()), ((⟨m.cells.set a.toNat (afD m.cells a), ⟨3, a, afD m.cells a, afD (m.cells.set a.toNat (afD m.cells a)) a⟩, wi (m.count + 1)⟩ : MemV), ()))
   else none
  else none
 else none
noncomputable abbrev ajA : Con SR1 := ⟨148, [.ref 9, .sh sI_, .sh sU_, .sh sU_], [.sh .b], fun x => aog x.1 x.2.1 x.2.2.1 x.2.2.2.1⟩
noncomputable def aw4 : List (Nat × Func) := [(46, Tryz.f46), (156, Tryz.f156)]
theorem ahU : CO Tryz.prog ajA := aas aar Tryz.func148 [] trivial aw4 ⟨Tryz.func46, Tryz.func156, trivial⟩ (fun _ => []) [] fun x => by kernel_rfl
noncomputable def pOr (m : MemV) (a : Int) (v : Int) : Option ((Int × Unit) × (MemV × Unit)) :=
 if a < 0 then
  some ((0, ()), (m, ()))
 else
 if ((m.cells.length : Nat) : Int) ≤ a then
  some ((0, ()), (m, ()))
 else
 if 0 ≤ a ∧ a < ((m.cells.length : Nat) : Int) then
  if 0 ≤ a ∧ a < ((m.cells.length : Nat) : Int) then
   if 0 ≤ a ∧ a < (((m.cells.set a.toNat (orU (afD m.cells a) v)).length : Nat) : Int) then
   some ((afD m.cells a, ()), ((⟨m.cells.set a.toNat (orU (afD m.cells a) v), ⟨4, a, afD m.cells a, afD (m.cells.set a.toNat (orU (afD m.cells a) v)) a⟩, wi (m.count + 1)⟩ : MemV), ()))
   else none
  else none
 else none
noncomputable abbrev auD : Con SR1 := ⟨27, [.ref 9, .sh sI_, .sh sU_], [.sh sU_], fun x => pOr x.1 x.2.1 x.2.2.1⟩
noncomputable def ayz : List (Nat × Func) := [(46, Tryz.f46), (48, Tryz.f48)]
theorem asA : CO Tryz.prog auD := aas aar Tryz.func27 [] trivial ayz ⟨Tryz.func46, Tryz.func48, trivial⟩ (fun _ => []) [] fun x => by kernel_rfl
noncomputable def avJ (m : MemV) (a : Int) (v : Int) : Option ((Int × Unit) × (MemV × Unit)) :=
 if a < 0 then
  some ((0, ()), (m, ()))
 else
 if ((m.cells.length : Nat) : Int) ≤ a then
  some ((0, ()), (m, ()))
 else
 if 0 ≤ a ∧ a < ((m.cells.length : Nat) : Int) then
  if 0 ≤ a ∧ a < ((m.cells.length : Nat) : Int) then
   if 0 ≤ a ∧ a < (((m.cells.set a.toNat (aue (afD m.cells a) v)).length : Nat) : Int) then
   some ((afD m.cells a, ()), ((⟨m.cells.set a.toNat (aue (afD m.cells a) v), ⟨5, a, afD m.cells a, afD (m.cells.set a.toNat (aue (afD m.cells a) v)) a⟩, wi (m.count + 1)⟩ : MemV), ()))
   else none
  else none
 else none
noncomputable abbrev aq4 : Con SR1 := ⟨178, [.ref 9, .sh sI_, .sh sU_], [.sh sU_], fun x => avJ x.1 x.2.1 x.2.2.1⟩
noncomputable def aw5 : List (Nat × Func) := [(46, Tryz.f46), (180, Tryz.f180)]
theorem apU : CO Tryz.prog aq4 := aas aar Tryz.func178 [] trivial aw5 ⟨Tryz.func46, Tryz.func180, trivial⟩ (fun _ => []) [] fun x => by kernel_rfl
noncomputable def ayC (m : MemV) (a : Int) (v : Int) : Option ((Int × Unit) × (MemV × Unit)) :=
 if a < 0 then
  some ((0, ()), (m, ()))
 else
 if ((m.cells.length : Nat) : Int) ≤ a then
  some ((0, ()), (m, ()))
 else
 if 0 ≤ a ∧ a < ((m.cells.length : Nat) : Int) then
  if 0 ≤ a ∧ a < ((m.cells.length : Nat) : Int) then
   if 0 ≤ a ∧ a < (((m.cells.set a.toNat (wu ((afD m.cells a) + v))).length : Nat) : Int) then
   some ((afD m.cells a, ()), ((⟨m.cells.set a.toNat (wu ((afD m.cells a) + v)), ⟨6, a, afD m.cells a, afD (m.cells.set a.toNat (wu ((afD m.cells a) + v))) a⟩, wi (m.count + 1)⟩ : MemV), ()))
   else none
  else none
 else none
noncomputable abbrev asL : Con SR1 := ⟨162, [.ref 9, .sh sI_, .sh sU_], [.sh sU_], fun x => ayC x.1 x.2.1 x.2.2.1⟩
noncomputable def aw6 : List (Nat × Func) := [(46, Tryz.f46), (165, Tryz.f165)]
theorem asK : CO Tryz.prog asL := aas aar Tryz.func162 [] trivial aw6 ⟨Tryz.func46, Tryz.func165, trivial⟩ (fun _ => []) [] fun x => by kernel_rfl
noncomputable def asB (k : ClkV) : Option ((Int × Unit) × (ClkV × Unit)) :=
 some ((k.now, ()), (k, ()))
noncomputable abbrev alM : Con SR1 := ⟨169, [.ref 25], [.sh sI_], fun x => asB x.1⟩
theorem akm : CO Tryz.prog alM := aas aar Tryz.func169 [] trivial [] trivial (fun _ => []) [] fun x => by kernel_rfl
noncomputable def ayB (k : ClkV) (n : Int) : Option ((Int × Unit) × (ClkV × Unit)) :=
 if n < 1 then
  some ((0, ()), (k, ()))
 else
 if n ≠ 0 then
  if (Int.tmod k.draw n) < 0 then
   some ((wi ((Int.tmod k.draw n) + n), ()), (k, ()))
  else
  some (((Int.tmod k.draw n), ()), (k, ()))
 else none
noncomputable abbrev asG : Con SR1 := ⟨212, [.ref 25, .sh sI_], [.sh sI_], fun x => ayB x.1 x.2.1⟩
theorem auH : CO Tryz.prog asG := aas aar Tryz.func212 [] trivial [] trivial (fun _ => []) [] fun x => by kernel_rfl
noncomputable def at9 (n : Int) : Option ((Int × Unit) × (Unit)) :=
 if n < 0 then
  some ((0, ()), (()))
 else
 if 63 < n then
  some ((0, ()), (()))
 else
 if 0 ≤ wu (n) then
  some ((wu (1 * 2 ^ min (wu (n) : Int).toNat IntKind.u64.bits), ()), (()))
 else none
noncomputable abbrev aoN : Con SR1 := ⟨174, [.sh sI_], [.sh sU_], fun x => at9 x.1⟩
theorem anL : CO Tryz.prog aoN := aas aar Tryz.func174 [] trivial [] trivial (fun _ => []) [] fun x => by kernel_rfl
noncomputable def avH (a : Int) (n : Int) : Option ((Int × Unit) × (Unit)) :=
 if n < 1 then
  some ((0, ()), (()))
 else
 if n ≠ 0 then
  if (Int.tmod a n) < 0 then
   some ((wi ((Int.tmod a n) + n), ()), (()))
  else
  some (((Int.tmod a n), ()), (()))
 else none
noncomputable abbrev aqX : Con SR1 := ⟨68, [.sh sI_, .sh sI_], [.sh sI_], fun x => avH x.1 x.2.1⟩
theorem apN : CO Tryz.prog aqX := aas aar Tryz.func68 [] trivial [] trivial (fun _ => []) [] fun x => by kernel_rfl
noncomputable def apM (b : Int) (t : Int) : Option ((Int × Unit) × (Unit)) :=
 some ((wi (wu (b - t)), ()), (()))
noncomputable abbrev akl : Con SR1 := ⟨200, [.sh sU_, .sh sU_], [.sh sI_], fun x => apM x.1 x.2.1⟩
theorem ajv : CO Tryz.prog akl := aas aar Tryz.func200 [] trivial [] trivial (fun _ => []) [] fun x => by kernel_rfl
noncomputable def apR (q : QV) (i : Int) : Option ((Int × Unit) × (Unit)) :=
 if q.cap < 1 then
  some (((-1), ()), (()))
 else
 if (wu (q.cap)) ≠ 0 then
  some ((wi (q.ring + (wi ((Int.tmod i (wu (q.cap)))))), ()), (()))
 else none
noncomputable abbrev anJ : Con SR1 := ⟨201, [.val 14, .sh sU_], [.sh sI_], fun x => apR x.1 x.2.1⟩
theorem anI : CO Tryz.prog anJ := aas aar Tryz.func201 [] trivial [] trivial (fun _ => []) [] fun x => by kernel_rfl
noncomputable def pAt (i : Int) (n : Int) (a : Int) (w : Int) : Option ((Int × Unit) × (Unit)) :=
 if i < 0 then
  some (((-1), ()), (()))
 else
 if n ≤ i then
  some (((-1), ()), (()))
 else
 some ((wi (a + (wi (i * w))), ()), (()))
noncomputable abbrev apT : Con SR1 := ⟨85, [.sh sI_, .sh sI_, .sh sI_, .sh sI_], [.sh sI_], fun x => pAt x.1 x.2.1 x.2.2.1 x.2.2.2.1⟩
theorem am2 : CO Tryz.prog apT := aas aar Tryz.func85 [] trivial [] trivial (fun _ => []) [] fun x => by kernel_rfl
noncomputable def aoH (l : LayV) (t : Int) (f : Int) : Option ((Int × Unit) × (Unit)) :=
 (pAt t l.tasks (wi (l.table + f)) 5).bind fun r1 =>
 some ((r1.1.1, ()), (()))
noncomputable abbrev akk : Con SR1 := ⟨155, [.val 24, .sh sI_, .sh sI_], [.sh sI_], fun x => aoH x.1 x.2.1 x.2.2.1⟩
theorem ajt : CO Tryz.prog akk := aas aar Tryz.func155 [apT] ⟨am2, trivial⟩ [] trivial (fun _ => []) [] fun x => by kernel_rfl
noncomputable def aw1 (l : LayV) : Option ((Int × Unit) × (Unit)) :=
 some ((0, ()), (()))
noncomputable abbrev asD : Con SR1 := ⟨163, [.val 24], [.sh sI_], fun x => aw1 x.1⟩
theorem auE : CO Tryz.prog asD := aas aar Tryz.func163 [] trivial [] trivial (fun _ => []) [] fun x => by kernel_rfl
noncomputable def aex (l : LayV) (t : Int) : Option ((Int × Unit) × (Unit)) :=
 (aoH l t 0).bind fun r1 =>
 some ((r1.1.1, ()), (()))
noncomputable abbrev afU : Con SR1 := ⟨147, [.val 24, .sh sI_], [.sh sI_], fun x => aex x.1 x.2.1⟩
theorem afs : CO Tryz.prog afU := aas aar Tryz.func147 [akk] ⟨ajt, trivial⟩ [] trivial (fun _ => []) [] fun x => by kernel_rfl
noncomputable def afw (l : LayV) (t : Int) : Option ((Int × Unit) × (Unit)) :=
 (aoH l t 1).bind fun r1 =>
 some ((r1.1.1, ()), (()))
noncomputable abbrev afV : Con SR1 := ⟨151, [.val 24, .sh sI_], [.sh sI_], fun x => afw x.1 x.2.1⟩
theorem afv : CO Tryz.prog afV := aas aar Tryz.func151 [akk] ⟨ajt, trivial⟩ [] trivial (fun _ => []) [] fun x => by kernel_rfl
noncomputable def ajy (l : LayV) (t : Int) : Option ((Int × Unit) × (Unit)) :=
 (aoH l t 4).bind fun r1 =>
 some ((r1.1.1, ()), (()))
noncomputable abbrev ajx : Con SR1 := ⟨168, [.val 24, .sh sI_], [.sh sI_], fun x => ajy x.1 x.2.1⟩
theorem ajw : CO Tryz.prog ajx := aas aar Tryz.func168 [akk] ⟨ajt, trivial⟩ [] trivial (fun _ => []) [] fun x => by kernel_rfl
noncomputable def ahT (l : LayV) (t : Int) : Option ((Int × Unit) × (Unit)) :=
 (aoH l t 3).bind fun r1 =>
 some ((r1.1.1, ()), (()))
noncomputable abbrev ale : Con SR1 := ⟨140, [.val 24, .sh sI_], [.sh sI_], fun x => ahT x.1 x.2.1⟩
theorem alK : CO Tryz.prog ale := aas aar Tryz.func140 [akk] ⟨ajt, trivial⟩ [] trivial (fun _ => []) [] fun x => by kernel_rfl
noncomputable def ak1 (l : LayV) (t : Int) : Option ((Int × Unit) × (Unit)) :=
 (aoH l t 2).bind fun r1 =>
 some ((r1.1.1, ()), (()))
noncomputable abbrev apP : Con SR1 := ⟨149, [.val 24, .sh sI_], [.sh sI_], fun x => ak1 x.1 x.2.1⟩
theorem aqZ : CO Tryz.prog apP := aas aar Tryz.func149 [akk] ⟨ajt, trivial⟩ [] trivial (fun _ => []) [] fun x => by kernel_rfl
noncomputable def aw3 (l : LayV) : Option ((Int × Unit) × (Unit)) :=
 some ((1, ()), (()))
noncomputable abbrev apO : Con SR1 := ⟨236, [.val 24], [.sh sI_], fun x => aw3 x.1⟩
theorem aqY : CO Tryz.prog apO := aas aar Tryz.func236 [] trivial [] trivial (fun _ => []) [] fun x => by kernel_rfl
noncomputable def aoJ (l : LayV) : Option ((Int × Unit) × (Unit)) :=
 some ((2, ()), (()))
noncomputable abbrev alg : Con SR1 := ⟨175, [.val 24], [.sh sI_], fun x => aoJ x.1⟩
theorem alN : CO Tryz.prog alg := aas aar Tryz.func175 [] trivial [] trivial (fun _ => []) [] fun x => by kernel_rfl
noncomputable def apL (l : LayV) (i : Int) : Option ((Int × Unit) × (Unit)) :=
 (pAt i l.heap 4 1).bind fun r1 =>
 some ((r1.1.1, ()), (()))
noncomputable abbrev apK : Con SR1 := ⟨241, [.val 24, .sh sI_], [.sh sI_], fun x => apL x.1 x.2.1⟩
theorem aqW : CO Tryz.prog apK := aas aar Tryz.func241 [apT] ⟨am2, trivial⟩ [] trivial (fun _ => []) [] fun x => by kernel_rfl
noncomputable def am0 (l : LayV) (w : Int) : Option ((Int × Unit) × (Unit)) :=
 (pAt w l.workers l.epochs 1).bind fun r1 =>
 some ((r1.1.1, ()), (()))
noncomputable abbrev alh : Con SR1 := ⟨172, [.val 24, .sh sI_], [.sh sI_], fun x => am0 x.1 x.2.1⟩
theorem alO : CO Tryz.prog alh := aas aar Tryz.func172 [apT] ⟨am2, trivial⟩ [] trivial (fun _ => []) [] fun x => by kernel_rfl
noncomputable def afu (l : LayV) (l0 : Int) : Option ((Int × Unit) × (Unit)) :=
 (pAt l0 l.classes l.sleepers 1).bind fun r1 =>
 some ((r1.1.1, ()), (()))
noncomputable abbrev aiP : Con SR1 := ⟨179, [.val 24, .sh sI_], [.sh sI_], fun x => afu x.1 x.2.1⟩
theorem akG : CO Tryz.prog aiP := aas aar Tryz.func179 [apT] ⟨am2, trivial⟩ [] trivial (fun _ => []) [] fun x => by kernel_rfl
noncomputable def agY (l : LayV) (w : Int) : Option ((Int × Unit) × (Unit)) :=
 (pAt w l.workers l.bitmaps 1).bind fun r1 =>
 some ((r1.1.1, ()), (()))
noncomputable abbrev agA : Con SR1 := ⟨77, [.val 24, .sh sI_], [.sh sI_], fun x => agY x.1 x.2.1⟩
theorem agz : CO Tryz.prog agA := aas aar Tryz.func77 [apT] ⟨am2, trivial⟩ [] trivial (fun _ => []) [] fun x => by kernel_rfl
noncomputable def amZ (l : LayV) (w : Int) (v : Int) : Option ((QV × Unit) × (Unit)) :=
 (pAt w l.workers l.queues (wi (l.levels * (wi (2 + l.deque))))).bind fun r1 =>
 (pAt v l.levels r1.1.1 (wi (2 + l.deque))).bind fun r2 =>
 if r1.1.1 < 0 then
  some (((⟨(-1), (-1), (-1), 0⟩ : QV), ()), (()))
 else
 if r2.1.1 < 0 then
  some (((⟨(-1), (-1), (-1), 0⟩ : QV), ()), (()))
 else
 some (((⟨r2.1.1, wi (r2.1.1 + 1), wi (r2.1.1 + 2), l.deque⟩ : QV), ()), (()))
noncomputable abbrev alf : Con SR1 := ⟨74, [.val 24, .sh sI_, .sh sI_], [.val 14], fun x => amZ x.1 x.2.1 x.2.2.1⟩
theorem alL : CO Tryz.prog alf := aas aar Tryz.func74 [apT] ⟨am2, trivial⟩ [] trivial (fun _ => []) [] fun x => by kernel_rfl
noncomputable def aq3 (l : LayV) : Option ((Int × Unit) × (Unit)) :=
 some ((wi (l.table + (wi (5 * l.tasks))), ()), (()))
noncomputable abbrev aq2 : Con SR1 := ⟨43, [.val 24], [.sh sI_], fun x => aq3 x.1⟩
theorem asI : CO Tryz.prog aq2 := aas aar Tryz.func43 [] trivial [] trivial (fun _ => []) [] fun x => by kernel_rfl
noncomputable def afL (e : EnvP) (v : Ev) : Option ((Unit) × (EnvP × Unit)) :=
 if (((e.evs.length + ([v] : List Ev).length : Nat)) : Int) < 1000000000000 then
  some ((()), (({ e with evs := e.evs ++ ([v]) } : EnvP), ()))
 else none
noncomputable abbrev af5 : Con SR1 := ⟨75, [.ref 27, .val 2], [], fun x => afL x.1 x.2.1⟩
theorem ae0 : CO Tryz.prog af5 := aas aar Tryz.func75 [] trivial [] trivial (fun _ => []) [] fun x => by kernel_rfl
noncomputable def aoM (l : Int) (n : Int) (c : Int) : Option ((Int × Unit) × (Unit)) :=
 if n < 1 then
  some ((0, ()), (()))
 else
 if 64 < n then
  some ((0, ()), (()))
 else
 if c < 1 then
  some ((0, ()), (()))
 else
 if 8 < c then
  some ((0, ()), (()))
 else
 if l < 0 then
  some ((0, ()), (()))
 else
 if n ≤ l then
  some ((0, ()), (()))
 else
 if n ≠ 0 then
  some ((wi (Int.tdiv (wi (l * c)) n), ()), (()))
 else none
noncomputable abbrev aq1 : Con SR1 := ⟨224, [.sh sI_, .sh sI_, .sh sI_], [.sh sI_], fun x => aoM x.1 x.2.1 x.2.2.1⟩
theorem asH : CO Tryz.prog aq1 := aas aar Tryz.func224 [] trivial [] trivial (fun _ => []) [] fun x => by kernel_rfl
noncomputable def asx (k : Int) : Option ((Int × Int × Int × Unit) × (Unit)) :=
 some ((wi (Int.fdiv k (2 ^ min (40 : Int).toNat IntKind.u64.bits)), wi (aue (Int.fdiv k (2 ^ min (16 : Int).toNat IntKind.u64.bits)) 16777215), wi (aue k 65535), ()), (()))
noncomputable abbrev aoG : Con SR1 := ⟨246, [.sh sU_], [.sh sI_, .sh sI_, .sh sI_], fun x => asx x.1⟩
theorem arD : CO Tryz.prog aoG := aas aar Tryz.func246 [] trivial [] trivial (fun _ => []) [] fun x => by kernel_rfl
noncomputable def ahw (x : Int) : Option ((Int × Unit) × (Unit)) :=
 if 4294967296 ≤ x then
  if 65536 ≤ (Int.fdiv x (2 ^ min (32 : Int).toNat IntKind.u64.bits)) then
   if 256 ≤ (Int.fdiv (Int.fdiv x (2 ^ min (32 : Int).toNat IntKind.u64.bits)) (2 ^ min (16 : Int).toNat IntKind.u64.bits)) then
   if 0 ≤ IntKind.u8.wrap (Int.fdiv (Int.fdiv (Int.fdiv x (2 ^ min (32 : Int).toNat IntKind.u64.bits)) (2 ^ min (16 : Int).toNat IntKind.u64.bits)) (2 ^ min (8 : Int).toNat IntKind.u64.bits)) ∧ IntKind.u8.wrap (Int.fdiv (Int.fdiv (Int.fdiv x (2 ^ min (32 : Int).toNat IntKind.u64.bits)) (2 ^ min (16 : Int).toNat IntKind.u64.bits)) (2 ^ min (8 : Int).toNat IntKind.u64.bits)) < ((ais.size : Nat) : Int) then
   some ((wi ((wi (56 + (wi ((((ais[(IntKind.u8.wrap (Int.fdiv (Int.fdiv (Int.fdiv x (2 ^ min (32 : Int).toNat IntKind.u64.bits)) (2 ^ min (16 : Int).toNat IntKind.u64.bits)) (2 ^ min (8 : Int).toNat IntKind.u64.bits))).toNat]?).map fun b => ((b.toNat : Nat) : Int)).getD 0))))) - 1), ()), (()))
   else none
   else
   if 0 ≤ IntKind.u8.wrap (Int.fdiv (Int.fdiv x (2 ^ min (32 : Int).toNat IntKind.u64.bits)) (2 ^ min (16 : Int).toNat IntKind.u64.bits)) ∧ IntKind.u8.wrap (Int.fdiv (Int.fdiv x (2 ^ min (32 : Int).toNat IntKind.u64.bits)) (2 ^ min (16 : Int).toNat IntKind.u64.bits)) < ((ais.size : Nat) : Int) then
   some ((wi ((wi (48 + (wi ((((ais[(IntKind.u8.wrap (Int.fdiv (Int.fdiv x (2 ^ min (32 : Int).toNat IntKind.u64.bits)) (2 ^ min (16 : Int).toNat IntKind.u64.bits))).toNat]?).map fun b => ((b.toNat : Nat) : Int)).getD 0))))) - 1), ()), (()))
   else none
  else
  if 256 ≤ (Int.fdiv x (2 ^ min (32 : Int).toNat IntKind.u64.bits)) then
   if 0 ≤ IntKind.u8.wrap (Int.fdiv (Int.fdiv x (2 ^ min (32 : Int).toNat IntKind.u64.bits)) (2 ^ min (8 : Int).toNat IntKind.u64.bits)) ∧ IntKind.u8.wrap (Int.fdiv (Int.fdiv x (2 ^ min (32 : Int).toNat IntKind.u64.bits)) (2 ^ min (8 : Int).toNat IntKind.u64.bits)) < ((ais.size : Nat) : Int) then
   some ((wi ((wi (40 + (wi ((((ais[(IntKind.u8.wrap (Int.fdiv (Int.fdiv x (2 ^ min (32 : Int).toNat IntKind.u64.bits)) (2 ^ min (8 : Int).toNat IntKind.u64.bits))).toNat]?).map fun b => ((b.toNat : Nat) : Int)).getD 0))))) - 1), ()), (()))
   else none
  else
  if 0 ≤ IntKind.u8.wrap (Int.fdiv x (2 ^ min (32 : Int).toNat IntKind.u64.bits)) ∧ IntKind.u8.wrap (Int.fdiv x (2 ^ min (32 : Int).toNat IntKind.u64.bits)) < ((ais.size : Nat) : Int) then
   some ((wi ((wi (32 + (wi ((((ais[(IntKind.u8.wrap (Int.fdiv x (2 ^ min (32 : Int).toNat IntKind.u64.bits))).toNat]?).map fun b => ((b.toNat : Nat) : Int)).getD 0))))) - 1), ()), (()))
  else none
 else
 if 65536 ≤ x then
  if 256 ≤ (Int.fdiv x (2 ^ min (16 : Int).toNat IntKind.u64.bits)) then
   if 0 ≤ IntKind.u8.wrap (Int.fdiv (Int.fdiv x (2 ^ min (16 : Int).toNat IntKind.u64.bits)) (2 ^ min (8 : Int).toNat IntKind.u64.bits)) ∧ IntKind.u8.wrap (Int.fdiv (Int.fdiv x (2 ^ min (16 : Int).toNat IntKind.u64.bits)) (2 ^ min (8 : Int).toNat IntKind.u64.bits)) < ((ais.size : Nat) : Int) then
   some ((wi ((wi (24 + (wi ((((ais[(IntKind.u8.wrap (Int.fdiv (Int.fdiv x (2 ^ min (16 : Int).toNat IntKind.u64.bits)) (2 ^ min (8 : Int).toNat IntKind.u64.bits))).toNat]?).map fun b => ((b.toNat : Nat) : Int)).getD 0))))) - 1), ()), (()))
   else none
  else
  if 0 ≤ IntKind.u8.wrap (Int.fdiv x (2 ^ min (16 : Int).toNat IntKind.u64.bits)) ∧ IntKind.u8.wrap (Int.fdiv x (2 ^ min (16 : Int).toNat IntKind.u64.bits)) < ((ais.size : Nat) : Int) then
   some ((wi ((wi (16 + (wi ((((ais[(IntKind.u8.wrap (Int.fdiv x (2 ^ min (16 : Int).toNat IntKind.u64.bits))).toNat]?).map fun b => ((b.toNat : Nat) : Int)).getD 0))))) - 1), ()), (()))
  else none
 else
 if 256 ≤ x then
  if 0 ≤ IntKind.u8.wrap (Int.fdiv x (2 ^ min (8 : Int).toNat IntKind.u64.bits)) ∧ IntKind.u8.wrap (Int.fdiv x (2 ^ min (8 : Int).toNat IntKind.u64.bits)) < ((ais.size : Nat) : Int) then
   some ((wi ((wi (8 + (wi ((((ais[(IntKind.u8.wrap (Int.fdiv x (2 ^ min (8 : Int).toNat IntKind.u64.bits))).toNat]?).map fun b => ((b.toNat : Nat) : Int)).getD 0))))) - 1), ()), (()))
  else none
 else
 if 0 ≤ IntKind.u8.wrap (x) ∧ IntKind.u8.wrap (x) < ((ais.size : Nat) : Int) then
  some ((wi ((wi (0 + (wi ((((ais[(IntKind.u8.wrap (x)).toNat]?).map fun b => ((b.toNat : Nat) : Int)).getD 0))))) - 1), ()), (()))
 else none
noncomputable abbrev apQ : Con SR1 := ⟨207, [.sh sU_], [.sh sI_], fun x => ahw x.1⟩
noncomputable def auG : List (Nat × Func) := [(209, Tryz.f209)]
theorem aq0 : CO Tryz.prog apQ := aas aar Tryz.func207 [] trivial auG ⟨Tryz.func209, trivial⟩ (fun _ => []) [] fun x => by kernel_rfl
noncomputable def af4 (y0 : ProbeV) (y1 : Int) : Option ((Bool × Unit) × (ProbeV × Unit)) :=
 ((
  if y0.next < y1 then
   if y1 ≠ 0 then
   some (decide ((Int.tmod (wi (y0.start + y0.next)) y1) = y0.worker), ())
   else none
  else
  some (false, ())
 ) : Option (Bool × Unit)).bind fun z1 =>
 if z1.1 = true then
  some ((decide (y1 ≤ (wi (y0.next + 1))), ()), (({ y0 with next := wi (y0.next + 1) } : ProbeV), ()))
 else
 some ((decide (y1 ≤ y0.next), ()), (y0, ()))
noncomputable abbrev ahl : Con SR1 := ⟨213, [.ref 44, .sh sI_], [.sh .b], fun x => af4 x.1 x.2.1⟩
theorem aki : CO Tryz.prog ahl := aas aar Tryz.func213 [] trivial [] trivial (fun _ => []) [(2, .cut [.rg 28 .b] [0])] fun x => by kernel_rfl
noncomputable def adv (y0 : ProbeV) (y1 : EnvP) : Option ((Bool × Unit) × (ProbeV × EnvP × Unit)) :=
 (aaS y0.o).bind fun r1 =>
 if r1.1.1 = true then
  some ((true, ()), (({ y0 with o := r1.2.1 } : ProbeV), y1, ()))
 else
 ((
  if (!y0.begun) = true then
   (ayB y1.k (if 16 < y1.c.workers then 16 else y1.c.workers)).bind fun r2 =>
   some (({ y0 with o := r1.2.1, begun := true, start := r2.1.1 } : ProbeV), ({ y1 with k := r2.2.1 } : EnvP), ())
  else
  some (({ y0 with o := r1.2.1 } : ProbeV), y1, ())
 ) : Option (ProbeV × EnvP × Unit)).bind fun z3 =>
 (af4 z3.1 (if 16 < y1.c.workers then 16 else y1.c.workers)).bind fun r4 =>
 if r4.1.1 = true then
  (abH r4.2.1.o 2 0).bind fun r5 =>
  some ((r5.1.1, ()), (({ r4.2.1 with o := r5.2.1 } : ProbeV), z3.2.1, ()))
 else
 if (if 16 < y1.c.workers then 16 else y1.c.workers) ≠ 0 then
  ((
   (agY z3.2.1.l (Int.tmod (wi (r4.2.1.start + r4.2.1.next)) (if 16 < y1.c.workers then 16 else y1.c.workers))).bind fun r6 =>
   (acb z3.2.1.m r6.1.1).bind fun r7 =>
   if (Int.tmod (wi (r4.2.1.start + r4.2.1.next)) (if 16 < y1.c.workers then 16 else y1.c.workers)) = ((15 : Nat) : Int) then
   some (({ r4.2.1 with bm := { r4.2.1.bm with b15 := r7.1.1 } } : ProbeV), ({ z3.2.1 with m := r7.2.1 } : EnvP), ())
   else
   if (Int.tmod (wi (r4.2.1.start + r4.2.1.next)) (if 16 < y1.c.workers then 16 else y1.c.workers)) = ((14 : Nat) : Int) then
   some (({ r4.2.1 with bm := { r4.2.1.bm with b14 := r7.1.1 } } : ProbeV), ({ z3.2.1 with m := r7.2.1 } : EnvP), ())
   else
   if (Int.tmod (wi (r4.2.1.start + r4.2.1.next)) (if 16 < y1.c.workers then 16 else y1.c.workers)) = ((13 : Nat) : Int) then
   some (({ r4.2.1 with bm := { r4.2.1.bm with b13 := r7.1.1 } } : ProbeV), ({ z3.2.1 with m := r7.2.1 } : EnvP), ())
   else
   if (Int.tmod (wi (r4.2.1.start + r4.2.1.next)) (if 16 < y1.c.workers then 16 else y1.c.workers)) = ((12 : Nat) : Int) then
   some (({ r4.2.1 with bm := { r4.2.1.bm with b12 := r7.1.1 } } : ProbeV), ({ z3.2.1 with m := r7.2.1 } : EnvP), ())
   else
   if (Int.tmod (wi (r4.2.1.start + r4.2.1.next)) (if 16 < y1.c.workers then 16 else y1.c.workers)) = ((11 : Nat) : Int) then
   some (({ r4.2.1 with bm := { r4.2.1.bm with b11 := r7.1.1 } } : ProbeV), ({ z3.2.1 with m := r7.2.1 } : EnvP), ())
   else
   if (Int.tmod (wi (r4.2.1.start + r4.2.1.next)) (if 16 < y1.c.workers then 16 else y1.c.workers)) = ((10 : Nat) : Int) then
   some (({ r4.2.1 with bm := { r4.2.1.bm with b10 := r7.1.1 } } : ProbeV), ({ z3.2.1 with m := r7.2.1 } : EnvP), ())
   else
   if (Int.tmod (wi (r4.2.1.start + r4.2.1.next)) (if 16 < y1.c.workers then 16 else y1.c.workers)) = ((9 : Nat) : Int) then
   some (({ r4.2.1 with bm := { r4.2.1.bm with b9 := r7.1.1 } } : ProbeV), ({ z3.2.1 with m := r7.2.1 } : EnvP), ())
   else
   if (Int.tmod (wi (r4.2.1.start + r4.2.1.next)) (if 16 < y1.c.workers then 16 else y1.c.workers)) = ((8 : Nat) : Int) then
   some (({ r4.2.1 with bm := { r4.2.1.bm with b8 := r7.1.1 } } : ProbeV), ({ z3.2.1 with m := r7.2.1 } : EnvP), ())
   else
   if (Int.tmod (wi (r4.2.1.start + r4.2.1.next)) (if 16 < y1.c.workers then 16 else y1.c.workers)) = ((7 : Nat) : Int) then
   some (({ r4.2.1 with bm := { r4.2.1.bm with b7 := r7.1.1 } } : ProbeV), ({ z3.2.1 with m := r7.2.1 } : EnvP), ())
   else
   if (Int.tmod (wi (r4.2.1.start + r4.2.1.next)) (if 16 < y1.c.workers then 16 else y1.c.workers)) = ((6 : Nat) : Int) then
   some (({ r4.2.1 with bm := { r4.2.1.bm with b6 := r7.1.1 } } : ProbeV), ({ z3.2.1 with m := r7.2.1 } : EnvP), ())
   else
   if (Int.tmod (wi (r4.2.1.start + r4.2.1.next)) (if 16 < y1.c.workers then 16 else y1.c.workers)) = ((5 : Nat) : Int) then
   some (({ r4.2.1 with bm := { r4.2.1.bm with b5 := r7.1.1 } } : ProbeV), ({ z3.2.1 with m := r7.2.1 } : EnvP), ())
   else
   if (Int.tmod (wi (r4.2.1.start + r4.2.1.next)) (if 16 < y1.c.workers then 16 else y1.c.workers)) = ((4 : Nat) : Int) then
   some (({ r4.2.1 with bm := { r4.2.1.bm with b4 := r7.1.1 } } : ProbeV), ({ z3.2.1 with m := r7.2.1 } : EnvP), ())
   else
   if (Int.tmod (wi (r4.2.1.start + r4.2.1.next)) (if 16 < y1.c.workers then 16 else y1.c.workers)) = ((3 : Nat) : Int) then
   some (({ r4.2.1 with bm := { r4.2.1.bm with b3 := r7.1.1 } } : ProbeV), ({ z3.2.1 with m := r7.2.1 } : EnvP), ())
   else
   if (Int.tmod (wi (r4.2.1.start + r4.2.1.next)) (if 16 < y1.c.workers then 16 else y1.c.workers)) = ((2 : Nat) : Int) then
   some (({ r4.2.1 with bm := { r4.2.1.bm with b2 := r7.1.1 } } : ProbeV), ({ z3.2.1 with m := r7.2.1 } : EnvP), ())
   else
   if (Int.tmod (wi (r4.2.1.start + r4.2.1.next)) (if 16 < y1.c.workers then 16 else y1.c.workers)) = ((1 : Nat) : Int) then
   some (({ r4.2.1 with bm := { r4.2.1.bm with b1 := r7.1.1 } } : ProbeV), ({ z3.2.1 with m := r7.2.1 } : EnvP), ())
   else
   if (Int.tmod (wi (r4.2.1.start + r4.2.1.next)) (if 16 < y1.c.workers then 16 else y1.c.workers)) = ((0 : Nat) : Int) then
   some (({ r4.2.1 with bm := { r4.2.1.bm with b0 := r7.1.1 } } : ProbeV), ({ z3.2.1 with m := r7.2.1 } : EnvP), ())
   else
   none
  ) : Option (ProbeV × EnvP × Unit)).bind fun z8 =>
  (af4 ({ z8.1 with next := wi (z8.1.next + 1) } : ProbeV) (if 16 < y1.c.workers then 16 else y1.c.workers)).bind fun r9 =>
  if (!r9.1.1) = true then
   some ((false, ()), (r9.2.1, z8.2.1, ()))
  else
  if 0 ≤ (if 16 < y1.c.workers then 16 else y1.c.workers) ∧ (if 16 < y1.c.workers then 16 else y1.c.workers) ≤ ((16 : Nat) : Int) then
   (lpF (σ := Int × Int × Int × ProbeV × Unit) (β := Int × Int × Int × ProbeV × Unit) (fun self12 x10 =>
   if x10.2.2.1 < ((((if 16 < y1.c.workers then 16 else y1.c.workers)).toNat : Nat) : Int) then
   (avH r9.2.1.start ((((if 16 < y1.c.workers then 16 else y1.c.workers)).toNat : Nat) : Int)).bind fun r13 =>
   if ((((if 16 < y1.c.workers then 16 else y1.c.workers)).toNat : Nat) : Int) ≠ 0 then
   ((
   if (Int.tmod (wi (r13.1.1 + x10.2.2.1)) ((((if 16 < y1.c.workers then 16 else y1.c.workers)).toNat : Nat) : Int)) < (if 16 < y1.c.workers then 16 else y1.c.workers) then
   if (Int.tmod (wi (r13.1.1 + x10.2.2.1)) ((((if 16 < y1.c.workers then 16 else y1.c.workers)).toNat : Nat) : Int)) = ((15 : Nat) : Int) then
   (ahw x10.2.2.2.1.bm.b15).bind fun r14 =>
   some (r14.1.1, x10.2.2.2.1, ())
   else
   if (Int.tmod (wi (r13.1.1 + x10.2.2.1)) ((((if 16 < y1.c.workers then 16 else y1.c.workers)).toNat : Nat) : Int)) = ((14 : Nat) : Int) then
   (ahw x10.2.2.2.1.bm.b14).bind fun r15 =>
   some (r15.1.1, x10.2.2.2.1, ())
   else
   if (Int.tmod (wi (r13.1.1 + x10.2.2.1)) ((((if 16 < y1.c.workers then 16 else y1.c.workers)).toNat : Nat) : Int)) = ((13 : Nat) : Int) then
   (ahw x10.2.2.2.1.bm.b13).bind fun r16 =>
   some (r16.1.1, x10.2.2.2.1, ())
   else
   if (Int.tmod (wi (r13.1.1 + x10.2.2.1)) ((((if 16 < y1.c.workers then 16 else y1.c.workers)).toNat : Nat) : Int)) = ((12 : Nat) : Int) then
   (ahw x10.2.2.2.1.bm.b12).bind fun r17 =>
   some (r17.1.1, x10.2.2.2.1, ())
   else
   if (Int.tmod (wi (r13.1.1 + x10.2.2.1)) ((((if 16 < y1.c.workers then 16 else y1.c.workers)).toNat : Nat) : Int)) = ((11 : Nat) : Int) then
   (ahw x10.2.2.2.1.bm.b11).bind fun r18 =>
   some (r18.1.1, x10.2.2.2.1, ())
   else
   if (Int.tmod (wi (r13.1.1 + x10.2.2.1)) ((((if 16 < y1.c.workers then 16 else y1.c.workers)).toNat : Nat) : Int)) = ((10 : Nat) : Int) then
   (ahw x10.2.2.2.1.bm.b10).bind fun r19 =>
   some (r19.1.1, x10.2.2.2.1, ())
   else
   if (Int.tmod (wi (r13.1.1 + x10.2.2.1)) ((((if 16 < y1.c.workers then 16 else y1.c.workers)).toNat : Nat) : Int)) = ((9 : Nat) : Int) then
   (ahw x10.2.2.2.1.bm.b9).bind fun r20 =>
   some (r20.1.1, x10.2.2.2.1, ())
   else
   if (Int.tmod (wi (r13.1.1 + x10.2.2.1)) ((((if 16 < y1.c.workers then 16 else y1.c.workers)).toNat : Nat) : Int)) = ((8 : Nat) : Int) then
   (ahw x10.2.2.2.1.bm.b8).bind fun r21 =>
   some (r21.1.1, x10.2.2.2.1, ())
   else
   if (Int.tmod (wi (r13.1.1 + x10.2.2.1)) ((((if 16 < y1.c.workers then 16 else y1.c.workers)).toNat : Nat) : Int)) = ((7 : Nat) : Int) then
   (ahw x10.2.2.2.1.bm.b7).bind fun r22 =>
   some (r22.1.1, x10.2.2.2.1, ())
   else
   if (Int.tmod (wi (r13.1.1 + x10.2.2.1)) ((((if 16 < y1.c.workers then 16 else y1.c.workers)).toNat : Nat) : Int)) = ((6 : Nat) : Int) then
   (ahw x10.2.2.2.1.bm.b6).bind fun r23 =>
   some (r23.1.1, x10.2.2.2.1, ())
   else
   if (Int.tmod (wi (r13.1.1 + x10.2.2.1)) ((((if 16 < y1.c.workers then 16 else y1.c.workers)).toNat : Nat) : Int)) = ((5 : Nat) : Int) then
   (ahw x10.2.2.2.1.bm.b5).bind fun r24 =>
   some (r24.1.1, x10.2.2.2.1, ())
   else
   if (Int.tmod (wi (r13.1.1 + x10.2.2.1)) ((((if 16 < y1.c.workers then 16 else y1.c.workers)).toNat : Nat) : Int)) = ((4 : Nat) : Int) then
   (ahw x10.2.2.2.1.bm.b4).bind fun r25 =>
   some (r25.1.1, x10.2.2.2.1, ())
   else
   if (Int.tmod (wi (r13.1.1 + x10.2.2.1)) ((((if 16 < y1.c.workers then 16 else y1.c.workers)).toNat : Nat) : Int)) = ((3 : Nat) : Int) then
   (ahw x10.2.2.2.1.bm.b3).bind fun r26 =>
   some (r26.1.1, x10.2.2.2.1, ())
   else
   if (Int.tmod (wi (r13.1.1 + x10.2.2.1)) ((((if 16 < y1.c.workers then 16 else y1.c.workers)).toNat : Nat) : Int)) = ((2 : Nat) : Int) then
   (ahw x10.2.2.2.1.bm.b2).bind fun r27 =>
   some (r27.1.1, x10.2.2.2.1, ())
   else
   if (Int.tmod (wi (r13.1.1 + x10.2.2.1)) ((((if 16 < y1.c.workers then 16 else y1.c.workers)).toNat : Nat) : Int)) = ((1 : Nat) : Int) then
   (ahw x10.2.2.2.1.bm.b1).bind fun r28 =>
   some (r28.1.1, x10.2.2.2.1, ())
   else
   if (Int.tmod (wi (r13.1.1 + x10.2.2.1)) ((((if 16 < y1.c.workers then 16 else y1.c.workers)).toNat : Nat) : Int)) = ((0 : Nat) : Int) then
   (ahw x10.2.2.2.1.bm.b0).bind fun r29 =>
   some (r29.1.1, x10.2.2.2.1, ())
   else
   none
   else none
   ) : Option (Int × ProbeV × Unit)).bind fun z30 =>
   if (Int.tmod (wi (r13.1.1 + x10.2.2.1)) ((((if 16 < y1.c.workers then 16 else y1.c.workers)).toNat : Nat) : Int)) ≠ r9.2.1.worker then
   if x10.2.1 < z30.1 then
   self12 ((Int.tmod (wi (r13.1.1 + x10.2.2.1)) ((((if 16 < y1.c.workers then 16 else y1.c.workers)).toNat : Nat) : Int)), z30.1, wi (x10.2.2.1 + 1), z30.2.1, ())
   else
   self12 (x10.1, x10.2.1, wi (x10.2.2.1 + 1), z30.2.1, ())
   else
   self12 (x10.1, x10.2.1, wi (x10.2.2.1 + 1), z30.2.1, ())
   else none
   else
   some (x10.1, x10.2.1, x10.2.2.1, x10.2.2.2.1, ())
   ) 18446744073709551616 ((-1), (-1), 0, r9.2.1, ())).bind fun z11 =>
   if z11.1 < 0 then
   (abH z11.2.2.2.1.o 2 0).bind fun r31 =>
   some ((r31.1.1, ()), (({ z11.2.2.2.1 with o := r31.2.1 } : ProbeV), z8.2.1, ()))
   else
   (abH z11.2.2.2.1.o 1 (wi ((wi (z11.1 * 64)) + z11.2.1))).bind fun r32 =>
   some ((r32.1.1, ()), (({ z11.2.2.2.1 with o := r32.2.1 } : ProbeV), z8.2.1, ()))
  else none
 else none
noncomputable abbrev akX : Con SR1 := ⟨211, [.ref 44, .ref 27], [.sh .b], fun x => adv x.1 x.2.1⟩
noncomputable def akh : List (Nat × Func) := [(214, Tryz.f214)]
theorem ade : CO Tryz.prog akX := aas aar Tryz.func211 [aba, asG, ahl, abS, agA, aca, aqX, apQ] ⟨aaY, auH, aki, abd, agz, abz, apN, aq0, trivial⟩ akh ⟨Tryz.func214, trivial⟩ (fun f => (get [(214, [(4, .loop [.rg 6 sI_, .rg 7 sI_, .rg 15 sI_, .ob 0 44] 18446744073709551616 0), (8, .cut [.rg 11 sI_, .ob 0 44] [])])] f).getD []) [(6, .cut [.ob 0 44, .ob 1 27] []), (10, .cut [.ob 0 44, .ob 1 27] [])] fun x => by kernel_rfl
noncomputable def aec (y0 : EnvP) (y1 : Int) : Option ((Bool × Unit) × (EnvP × Unit)) :=
 if 0 ≤ y1 then
  some ((decide (y1 < y0.c.tasks), ()), (y0, ()))
 else
 some ((false, ()), (y0, ()))
noncomputable abbrev aeW : Con SR1 := ⟨164, [.ref 27, .sh sI_], [.sh .b], fun x => aec x.1 x.2.1⟩
theorem af2 : CO Tryz.prog aeW := aas aar Tryz.func164 [] trivial [] trivial (fun _ => []) [] fun x => by kernel_rfl
noncomputable def abm (y0 : AllocV) (y1 : EnvP) : Option ((Bool × Unit) × (AllocV × EnvP × Unit)) :=
 (aaS y0.o).bind fun r1 =>
 if r1.1.1 = true then
  some ((true, ()), ((⟨r1.2.1⟩ : AllocV), y1, ()))
 else
 (aw1 y1.l).bind fun r2 =>
 (ayC y1.m r2.1.1 1).bind fun r3 =>
 (aec ({ y1 with m := r3.2.1 } : EnvP) (wi (r3.1.1))).bind fun r4 =>
 if (!r4.1.1) = true then
  (abH r1.2.1 3 0).bind fun r5 =>
  some ((r5.1.1, ()), ((⟨r5.2.1⟩ : AllocV), r4.2.1, ()))
 else
 (abH r1.2.1 1 (wi (r3.1.1))).bind fun r6 =>
 some ((r6.1.1, ()), ((⟨r6.2.1⟩ : AllocV), r4.2.1, ()))
noncomputable abbrev aiK : Con SR1 := ⟨161, [.ref 34, .ref 27], [.sh .b], fun x => abm x.1 x.2.1⟩
theorem ach : CO Tryz.prog aiK := aas aar Tryz.func161 [aba, asD, asL, aeW, abS] ⟨aaY, auE, asK, af2, abd, trivial⟩ [] trivial (fun _ => []) [] fun x => by kernel_rfl
noncomputable def abe (y0 : PublishV) (y1 : EnvP) : Option ((Bool × Unit) × (PublishV × EnvP × Unit)) :=
 (aaS y0.o).bind fun r1 =>
 if r1.1.1 = true then
  some ((true, ()), (({ y0 with o := r1.2.1 } : PublishV), y1, ()))
 else
 (aec y1 y0.task).bind fun r2 =>
 if (!r2.1.1) = true then
  (abH r1.2.1 4 0).bind fun r3 =>
  some ((r3.1.1, ()), (({ y0 with o := r3.2.1 } : PublishV), r2.2.1, ()))
 else
 if y0.line = 1 then
  (afw r2.2.1.l y0.task).bind fun r4 =>
  if y0.level = y0.level then
   (abf r2.2.1.m r4.1.1 (wu (y0.level))).bind fun r5 =>
   some ((false, ()), (({ y0 with o := r1.2.1, line := wi (y0.line + 1) } : PublishV), ({ r2.2.1 with m := r5.2.1 } : EnvP), ()))
  else none
 else
 if y0.line = 2 then
  (ajy r2.2.1.l y0.task).bind fun r6 =>
  (asB r2.2.1.k).bind fun r7 =>
  (abf r2.2.1.m r6.1.1 (wu (r7.1.1))).bind fun r8 =>
  some ((false, ()), (({ y0 with o := r1.2.1, line := wi (y0.line + 1) } : PublishV), ({ r2.2.1 with m := r8.2.1, k := r7.2.1 } : EnvP), ()))
 else
 (aex r2.2.1.l y0.task).bind fun r9 =>
 (abf r2.2.1.m r9.1.1 1).bind fun r10 =>
 (abH r1.2.1 0 0).bind fun r11 =>
 some ((r11.1.1, ()), (({ y0 with o := r11.2.1 } : PublishV), ({ r2.2.1 with m := r10.2.1 } : EnvP), ()))
noncomputable abbrev ai6 : Con SR1 := ⟨167, [.ref 48, .ref 27], [.sh .b], fun x => abe x.1 x.2.1⟩
theorem acr : CO Tryz.prog ai6 := aas aar Tryz.func167 [aba, aeW, abS, afV, adC, ajx, alM, afU] ⟨aaY, af2, abd, afv, ac2, ajw, akm, afs, trivial⟩ [] trivial (fun _ => []) [] fun x => by kernel_rfl
noncomputable def ab8 (y0 : ClaimV) (y1 : EnvP) : Option ((Bool × Unit) × (ClaimV × EnvP × Unit)) :=
 (aaS y0.o).bind fun r1 =>
 if r1.1.1 = true then
  some ((true, ()), (({ y0 with o := r1.2.1 } : ClaimV), y1, ()))
 else
 if y0.task = y0.task then
  if y0.worker = y0.worker then
   (aex y1.l y0.task).bind fun r2 =>
   (aog y1.m r2.1.1 1 2).bind fun r3 =>
   if (!r3.1.1) = true then
   (afL ({ y1 with m := r3.2.1 } : EnvP) ({ y0 with kind := 15, other := 0, level := 0 } : Ev)).bind fun r4 =>
   (abH r1.2.1 4 0).bind fun r5 =>
   some ((r5.1.1, ()), (({ y0 with o := r5.2.1 } : ClaimV), r4.2.1, ()))
   else
   if 0 ≤ y0.task ∧ y0.task < ((y1.recs.length : Nat) : Int) then
   if (aad y1.recs y0.task).started = true then
   (afL ({ y1 with m := r3.2.1 } : EnvP) ({ y0 with kind := 9, other := 0, level := 0 } : Ev)).bind fun r6 =>
   (abH r1.2.1 1 y0.task).bind fun r7 =>
   some ((r7.1.1, ()), (({ y0 with o := r7.2.1 } : ClaimV), r6.2.1, ()))
   else
   (afL ({ y1 with m := r3.2.1, recs := y1.recs.set y0.task.toNat ({ aad y1.recs y0.task with started := true } : RecP) } : EnvP) ({ y0 with kind := 5, other := 0, level := 0 } : Ev)).bind fun r8 =>
   (abH r1.2.1 1 y0.task).bind fun r9 =>
   some ((r9.1.1, ()), (({ y0 with o := r9.2.1 } : ClaimV), r8.2.1, ()))
   else none
  else none
 else none
noncomputable abbrev akR : Con SR1 := ⟨159, [.ref 43, .ref 27], [.sh .b], fun x => ab8 x.1 x.2.1⟩
theorem adc : CO Tryz.prog akR := aas aar Tryz.func159 [aba, afU, ajA, af5, abS] ⟨aaY, afs, ahU, ae0, abd, trivial⟩ [] trivial (fun _ => []) [] fun x => by kernel_rfl
noncomputable def ac5 (y0 : AttemptV) (y1 : EnvP) : Option ((Bool × Unit) × (AttemptV × EnvP × Unit)) :=
 (aaS y0.o).bind fun r1 =>
 if r1.1.1 = true then
  some ((true, ()), (({ y0 with o := r1.2.1 } : AttemptV), y1, ()))
 else
 (aw3 y1.l).bind fun r2 =>
 if y0.owner = y0.owner then
  (aog y1.m r2.1.1 0 (wu (wi (y0.owner + 1)))).bind fun r3 =>
  if r3.1.1 = true then
   (abH r1.2.1 1 0).bind fun r4 =>
   some ((r4.1.1, ()), (({ y0 with o := r4.2.1 } : AttemptV), ({ y1 with m := r3.2.1 } : EnvP), ()))
  else
  if y0.once = true then
   (abH r1.2.1 5 0).bind fun r5 =>
   some ((r5.1.1, ()), (({ y0 with o := r5.2.1 } : AttemptV), ({ y1 with m := r3.2.1 } : EnvP), ()))
  else
  some ((false, ()), (({ y0 with o := r1.2.1 } : AttemptV), ({ y1 with m := r3.2.1 } : EnvP), ()))
 else none
noncomputable abbrev akq : Con SR1 := ⟨235, [.ref 33, .ref 27], [.sh .b], fun x => ac5 x.1 x.2.1⟩
theorem acN : CO Tryz.prog akq := aas aar Tryz.func235 [aba, apO, ajA, abS] ⟨aaY, aqY, ahU, abd, trivial⟩ [] trivial (fun _ => []) [] fun x => by kernel_rfl
noncomputable def ac4 (y0 : ReleaseV) (y1 : EnvP) : Option ((Bool × Unit) × (ReleaseV × EnvP × Unit)) :=
 (aaS y0.o).bind fun r1 =>
 if r1.1.1 = true then
  some ((true, ()), ((⟨r1.2.1⟩ : ReleaseV), y1, ()))
 else
 (aw3 y1.l).bind fun r2 =>
 (abf y1.m r2.1.1 0).bind fun r3 =>
 (abH r1.2.1 0 0).bind fun r4 =>
 some ((r4.1.1, ()), ((⟨r4.2.1⟩ : ReleaseV), ({ y1 with m := r3.2.1 } : EnvP), ()))
noncomputable abbrev akp : Con SR1 := ⟨238, [.ref 35, .ref 27], [.sh .b], fun x => ac4 x.1 x.2.1⟩
theorem acM : CO Tryz.prog akp := aas aar Tryz.func238 [aba, apO, adC, abS] ⟨aaY, aqY, ac2, abd, trivial⟩ [] trivial (fun _ => []) [] fun x => by kernel_rfl
noncomputable def acx (y0 : OPushV) (y1 : EnvP) : Option ((Bool × Unit) × (OPushV × EnvP × Unit)) :=
 (aaS y0.o).bind fun r1 =>
 if r1.1.1 = true then
  some ((true, ()), (({ y0 with o := r1.2.1 } : OPushV), y1, ()))
 else
 if y0.line = 1 then
  (acb y1.m y0.q.bottom).bind fun r2 =>
  some ((false, ()), (({ y0 with o := r1.2.1, line := wi (y0.line + 1), b := r2.1.1 } : OPushV), ({ y1 with m := r2.2.1 } : EnvP), ()))
 else
 if y0.line = 2 then
  (acb y1.m y0.q.top).bind fun r3 =>
  (apM y0.b r3.1.1).bind fun r4 =>
  if y0.q.cap = y0.q.cap then
   if y0.q.cap ≤ r4.1.1 then
   (abH r1.2.1 3 0).bind fun r5 =>
   some ((r5.1.1, ()), (({ y0 with o := r5.2.1 } : OPushV), ({ y1 with m := r3.2.1 } : EnvP), ()))
   else
   some ((false, ()), (({ y0 with o := r1.2.1, line := wi (y0.line + 1) } : OPushV), ({ y1 with m := r3.2.1 } : EnvP), ()))
  else none
 else
 if y0.line = 3 then
  (apR y0.q y0.b).bind fun r6 =>
  if y0.value = y0.value then
   (abf y1.m r6.1.1 (wu (y0.value))).bind fun r7 =>
   some ((false, ()), (({ y0 with o := r1.2.1, line := wi (y0.line + 1) } : OPushV), ({ y1 with m := r7.2.1 } : EnvP), ()))
  else none
 else
 (abf y1.m y0.q.bottom (wu (y0.b + 1))).bind fun r8 =>
 (abH r1.2.1 0 0).bind fun r9 =>
 some ((r9.1.1, ()), (({ y0 with o := r9.2.1 } : OPushV), ({ y1 with m := r8.2.1 } : EnvP), ()))
noncomputable abbrev alQ : Con SR1 := ⟨251, [.ref 51, .ref 27], [.sh .b], fun x => acx x.1 x.2.1⟩
theorem adD : CO Tryz.prog alQ := aas aar Tryz.func251 [aba, aca, akl, abS, anJ, adC] ⟨aaY, abz, ajv, abd, anI, ac2, trivial⟩ [] trivial (fun _ => []) [] fun x => by kernel_rfl
noncomputable def aiC (y0 : OPopV) (y1 : EnvP) : Option ((Int × Unit) × (OPopV × EnvP × Unit)) :=
 (acb y1.m y0.q.top).bind fun r1 =>
 (apM (wu (y0.b - 1)) r1.1.1).bind fun r2 =>
 if 0 < r2.1.1 then
  some ((5, ()), (({ y0 with t := r1.1.1 } : OPopV), ({ y1 with m := r1.2.1 } : EnvP), ()))
 else
 if r2.1.1 = 0 then
  some ((6, ()), (({ y0 with t := r1.1.1 } : OPopV), ({ y1 with m := r1.2.1 } : EnvP), ()))
 else
 some ((9, ()), (({ y0 with t := r1.1.1 } : OPopV), ({ y1 with m := r1.2.1 } : EnvP), ()))
noncomputable abbrev ahm : Con SR1 := ⟨249, [.ref 50, .ref 27], [.sh sI_], fun x => aiC x.1 x.2.1⟩
theorem akn : CO Tryz.prog ahm := aas aar Tryz.func249 [aca, akl] ⟨abz, ajv, trivial⟩ [] trivial (fun _ => []) [] fun x => by kernel_rfl
noncomputable def aey (y0 : OPopV) (y1 : EnvP) : Option ((Bool × Unit) × (OPopV × EnvP × Unit)) :=
 (aaS y0.o).bind fun r1 =>
 if r1.1.1 = true then
  some ((true, ()), (({ y0 with o := r1.2.1 } : OPopV), y1, ()))
 else
 if y0.line = 1 then
  (acb y1.m y0.q.bottom).bind fun r2 =>
  some ((false, ()), (({ y0 with o := r1.2.1, line := wi (y0.line + 1), b := r2.1.1 } : OPopV), ({ y1 with m := r2.2.1 } : EnvP), ()))
 else
 if y0.line = 2 then
  (acb y1.m y0.q.top).bind fun r3 =>
  (apM y0.b r3.1.1).bind fun r4 =>
  if r4.1.1 ≤ 0 then
   (abH r1.2.1 2 0).bind fun r5 =>
   some ((r5.1.1, ()), (({ y0 with o := r5.2.1, t := r3.1.1 } : OPopV), ({ y1 with m := r3.2.1 } : EnvP), ()))
  else
  some ((false, ()), (({ y0 with o := r1.2.1, line := wi (y0.line + 1), t := r3.1.1 } : OPopV), ({ y1 with m := r3.2.1 } : EnvP), ()))
 else
 if y0.line = 3 then
  (abf y1.m y0.q.bottom (wu (y0.b - 1))).bind fun r6 =>
  some ((false, ()), (({ y0 with o := r1.2.1, line := wi (y0.line + 1) } : OPopV), ({ y1 with m := r6.2.1 } : EnvP), ()))
 else
 if y0.line = 4 then
  (aiC ({ y0 with o := r1.2.1 } : OPopV) y1).bind fun r7 =>
  some ((false, ()), (({ r7.2.1 with line := r7.1.1 } : OPopV), r7.2.2.1, ()))
 else
 if y0.line = 5 then
  if y0.line = 5 then
   (apR y0.q (wu (y0.b - 1))).bind fun r8 =>
   (acb y1.m r8.1.1).bind fun r9 =>
   (abH r1.2.1 1 (wi (r9.1.1))).bind fun r10 =>
   some ((r10.1.1, ()), (({ y0 with o := r10.2.1 } : OPopV), ({ y1 with m := r9.2.1 } : EnvP), ()))
  else
  if y0.line = 6 then
   (aog y1.m y0.q.top y0.t (wu (y0.t + 1))).bind fun r11 =>
   if (!r11.1.1) = true then
   some ((false, ()), (({ y0 with o := r1.2.1, line := 9 } : OPopV), ({ y1 with m := r11.2.1 } : EnvP), ()))
   else
   some ((false, ()), (({ y0 with o := r1.2.1, line := wi (y0.line + 1) } : OPopV), ({ y1 with m := r11.2.1 } : EnvP), ()))
  else
  if y0.line = 7 then
   (abf y1.m y0.q.bottom y0.b).bind fun r12 =>
   some ((false, ()), (({ y0 with o := r1.2.1, line := wi (y0.line + 1) } : OPopV), ({ y1 with m := r12.2.1 } : EnvP), ()))
  else
  (abf y1.m y0.q.bottom y0.b).bind fun r13 =>
  (abH r1.2.1 2 0).bind fun r14 =>
  some ((r14.1.1, ()), (({ y0 with o := r14.2.1 } : OPopV), ({ y1 with m := r13.2.1 } : EnvP), ()))
 else
 if y0.line = 8 then
  (apR y0.q (wu (y0.b - 1))).bind fun r15 =>
  (acb y1.m r15.1.1).bind fun r16 =>
  (abH r1.2.1 1 (wi (r16.1.1))).bind fun r17 =>
  some ((r17.1.1, ()), (({ y0 with o := r17.2.1 } : OPopV), ({ y1 with m := r16.2.1 } : EnvP), ()))
 else
 if y0.line = 6 then
  (aog y1.m y0.q.top y0.t (wu (y0.t + 1))).bind fun r18 =>
  if (!r18.1.1) = true then
   some ((false, ()), (({ y0 with o := r1.2.1, line := 9 } : OPopV), ({ y1 with m := r18.2.1 } : EnvP), ()))
  else
  some ((false, ()), (({ y0 with o := r1.2.1, line := wi (y0.line + 1) } : OPopV), ({ y1 with m := r18.2.1 } : EnvP), ()))
 else
 if y0.line = 7 then
  (abf y1.m y0.q.bottom y0.b).bind fun r19 =>
  some ((false, ()), (({ y0 with o := r1.2.1, line := wi (y0.line + 1) } : OPopV), ({ y1 with m := r19.2.1 } : EnvP), ()))
 else
 (abf y1.m y0.q.bottom y0.b).bind fun r20 =>
 (abH r1.2.1 2 0).bind fun r21 =>
 some ((r21.1.1, ()), (({ y0 with o := r21.2.1 } : OPopV), ({ y1 with m := r20.2.1 } : EnvP), ()))
noncomputable abbrev amI : Con SR1 := ⟨248, [.ref 50, .ref 27], [.sh .b], fun x => aey x.1 x.2.1⟩
theorem adX : CO Tryz.prog amI := aas aar Tryz.func248 [aba, aca, akl, abS, adC, ahm, anJ, ajA] ⟨aaY, abz, ajv, abd, ac2, akn, anI, ahU, trivial⟩ [] trivial (fun _ => []) [] fun x => by kernel_rfl
noncomputable def adu (y0 : StealV) (y1 : EnvP) : Option ((Bool × Unit) × (StealV × EnvP × Unit)) :=
 (aaS y0.o).bind fun r1 =>
 if r1.1.1 = true then
  some ((true, ()), (({ y0 with o := r1.2.1 } : StealV), y1, ()))
 else
 if y0.line = 1 then
  (acb y1.m y0.q.top).bind fun r2 =>
  some ((false, ()), (({ y0 with o := r1.2.1, line := wi (y0.line + 1), t := r2.1.1 } : StealV), ({ y1 with m := r2.2.1 } : EnvP), ()))
 else
 if y0.line = 2 then
  (acb y1.m y0.q.bottom).bind fun r3 =>
  (apM r3.1.1 y0.t).bind fun r4 =>
  if r4.1.1 ≤ 0 then
   (abH r1.2.1 2 0).bind fun r5 =>
   some ((r5.1.1, ()), (({ y0 with o := r5.2.1 } : StealV), ({ y1 with m := r3.2.1 } : EnvP), ()))
  else
  some ((false, ()), (({ y0 with o := r1.2.1, line := wi (y0.line + 1) } : StealV), ({ y1 with m := r3.2.1 } : EnvP), ()))
 else
 if y0.line = 3 then
  (apR y0.q y0.t).bind fun r6 =>
  (acb y1.m r6.1.1).bind fun r7 =>
  some ((false, ()), (({ y0 with o := r1.2.1, line := wi (y0.line + 1), value := r7.1.1 } : StealV), ({ y1 with m := r7.2.1 } : EnvP), ()))
 else
 (aog y1.m y0.q.top y0.t (wu (y0.t + 1))).bind fun r8 =>
 if r8.1.1 = true then
  (abH r1.2.1 1 (wi (y0.value))).bind fun r9 =>
  some ((r9.1.1, ()), (({ y0 with o := r9.2.1 } : StealV), ({ y1 with m := r8.2.1 } : EnvP), ()))
 else
 (abH r1.2.1 4 0).bind fun r10 =>
 some ((r10.1.1, ()), (({ y0 with o := r10.2.1 } : StealV), ({ y1 with m := r8.2.1 } : EnvP), ()))
noncomputable abbrev akP : Con SR1 := ⟨199, [.ref 40, .ref 27], [.sh .b], fun x => adu x.1 x.2.1⟩
theorem adb : CO Tryz.prog akP := aas aar Tryz.func199 [aba, aca, akl, abS, anJ, ajA] ⟨aaY, abz, ajv, abd, anI, ahU, trivial⟩ [] trivial (fun _ => []) [] fun x => by kernel_rfl
noncomputable def acz (y0 : SetV) (y1 : EnvP) : Option ((Bool × Unit) × (SetV × EnvP × Unit)) :=
 (aaS y0.o).bind fun r1 =>
 if r1.1.1 = true then
  some ((true, ()), (({ y0 with o := r1.2.1 } : SetV), y1, ()))
 else
 (at9 y0.bit).bind fun r2 =>
 if y0.cell = y0.cell then
  (pOr y1.m y0.cell r2.1.1).bind fun r3 =>
  (abH r1.2.1 0 0).bind fun r4 =>
  some ((r4.1.1, ()), (({ y0 with o := r4.2.1 } : SetV), ({ y1 with m := r3.2.1 } : EnvP), ()))
 else none
noncomputable abbrev amt : Con SR1 := ⟨253, [.ref 52, .ref 27], [.sh .b], fun x => acz x.1 x.2.1⟩
theorem adF : CO Tryz.prog amt := aas aar Tryz.func253 [aba, aoN, auD, abS] ⟨aaY, anL, asA, abd, trivial⟩ [] trivial (fun _ => []) [] fun x => by kernel_rfl
noncomputable def ada (y0 : ResetV) (y1 : EnvP) : Option ((Bool × Unit) × (ResetV × EnvP × Unit)) :=
 (aaS y0.o).bind fun r1 =>
 if r1.1.1 = true then
  some ((true, ()), (({ y0 with o := r1.2.1 } : ResetV), y1, ()))
 else
 (at9 y0.bit).bind fun r2 =>
 if y0.line = 1 then
  (avJ y1.m y0.cell (ax3 r2.1.1)).bind fun r3 =>
  some ((false, ()), (({ y0 with o := r1.2.1, line := wi (y0.line + 1) } : ResetV), ({ y1 with m := r3.2.1 } : EnvP), ()))
 else
 if y0.line = 2 then
  (acb y1.m y0.q.bottom).bind fun r4 =>
  some ((false, ()), (({ y0 with o := r1.2.1, line := wi (y0.line + 1), b := r4.1.1 } : ResetV), ({ y1 with m := r4.2.1 } : EnvP), ()))
 else
 if y0.line = 3 then
  (acb y1.m y0.q.top).bind fun r5 =>
  (apM y0.b r5.1.1).bind fun r6 =>
  if r6.1.1 ≤ 0 then
   (abH r1.2.1 2 0).bind fun r7 =>
   some ((r7.1.1, ()), (({ y0 with o := r7.2.1 } : ResetV), ({ y1 with m := r5.2.1 } : EnvP), ()))
  else
  some ((false, ()), (({ y0 with o := r1.2.1, line := wi (y0.line + 1) } : ResetV), ({ y1 with m := r5.2.1 } : EnvP), ()))
 else
 (pOr y1.m y0.cell r2.1.1).bind fun r8 =>
 (abH r1.2.1 1 0).bind fun r9 =>
 some ((r9.1.1, ()), (({ y0 with o := r9.2.1 } : ResetV), ({ y1 with m := r8.2.1 } : EnvP), ()))
noncomputable abbrev akw : Con SR1 := ⟨203, [.ref 41, .ref 27], [.sh .b], fun x => ada x.1 x.2.1⟩
theorem acP : CO Tryz.prog akw := aas aar Tryz.func203 [aba, aoN, aq4, aca, akl, abS, auD] ⟨aaY, anL, apU, abz, ajv, abd, asA, trivial⟩ [] trivial (fun _ => []) [] fun x => by kernel_rfl
noncomputable def ab4 (y0 : RemoveV) : Option ((Int × Unit) × (RemoveV × Unit)) :=
 if y0.z < y0.y then
  some ((7, ()), (y0, ()))
 else
 some ((8, ()), (y0, ()))
noncomputable abbrev adZ : Con SR1 := ⟨242, [.ref 49], [.sh sI_], fun x => ab4 x.1⟩
theorem agD : CO Tryz.prog adZ := aas aar Tryz.func242 [] trivial [] trivial (fun _ => []) [] fun x => by kernel_rfl
noncomputable def acF (y0 : RemoveV) : Option ((Int × Unit) × (RemoveV × Unit)) :=
 if (wi ((wi (2 * y0.i)) + 1)) < (wi (y0.n - 1)) then
  some ((5, ()), (y0, ()))
 else
 some ((8, ()), (y0, ()))
noncomputable abbrev acm : Con SR1 := ⟨243, [.ref 49], [.sh sI_], fun x => acF x.1⟩
theorem adx : CO Tryz.prog acm := aas aar Tryz.func243 [] trivial [] trivial (fun _ => []) [] fun x => by kernel_rfl
noncomputable def acO (y0 : RemoveV) : Option ((Int × Unit) × (RemoveV × Unit)) :=
 (asx y0.x).bind fun r1 =>
 some ((r1.1.2.2.1, ()), (y0, ()))
noncomputable abbrev adp : Con SR1 := ⟨244, [.ref 49], [.sh sI_], fun x => acO x.1⟩
theorem aeA : CO Tryz.prog adp := aas aar Tryz.func244 [aoG] ⟨arD, trivial⟩ [] trivial (fun _ => []) [] fun x => by kernel_rfl
noncomputable def afA (y0 : RemoveV) (y1 : EnvP) : Option ((Bool × Unit) × (RemoveV × EnvP × Unit)) :=
 if y1.l.workers = y1.l.workers then
  if y1.l.levels = y1.l.levels then
   if y1.l.classes = y1.l.classes then
   if y1.l.tasks = y1.l.tasks then
   if y1.l.deque = y1.l.deque then
   if y1.l.heap = y1.l.heap then
   if y1.l.sleepers = y1.l.sleepers then
   if y1.l.epochs = y1.l.epochs then
   if y1.l.bitmaps = y1.l.bitmaps then
   if y1.l.queues = y1.l.queues then
   if y1.l.table = y1.l.table then
   if y0.line = 1 then
   (aoJ y1.l).bind fun r1 =>
   (acb y1.m r1.1.1).bind fun r2 =>
   if (wi (r2.1.1)) ≤ 0 then
   (abH y0.o 2 0).bind fun r3 =>
   some ((r3.1.1, ()), (({ y0 with o := r3.2.1, n := wi (r2.1.1) } : RemoveV), ({ y1 with m := r2.2.1 } : EnvP), ()))
   else
   some ((false, ()), (({ y0 with line := 2, n := wi (r2.1.1) } : RemoveV), ({ y1 with m := r2.2.1 } : EnvP), ()))
   else
   if y0.line = 2 then
   (apL y1.l 0).bind fun r4 =>
   (acb y1.m r4.1.1).bind fun r5 =>
   some ((false, ()), (({ y0 with line := 3, x := r5.1.1 } : RemoveV), ({ y1 with m := r5.2.1 } : EnvP), ()))
   else
   if y0.line = 3 then
   (apL y1.l (wi (y0.n - 1))).bind fun r6 =>
   (acb y1.m r6.1.1).bind fun r7 =>
   some ((false, ()), (({ y0 with line := 4, y := r7.1.1 } : RemoveV), ({ y1 with m := r7.2.1 } : EnvP), ()))
   else
   (aoJ y1.l).bind fun r8 =>
   if y0.n = y0.n then
   (abf y1.m r8.1.1 (wu (wi (y0.n - 1)))).bind fun r9 =>
   (acO y0).bind fun r10 =>
   if y0.worker = r10.2.1.worker then
   (afL ({ y1 with m := r9.2.1 } : EnvP) (⟨13, y0.worker, r10.1.1, 0, 0⟩ : Ev)).bind fun r11 =>
   if r10.2.1.n = 1 then
   (acO r10.2.1).bind fun r12 =>
   (abH r12.2.1.o 1 r12.1.1).bind fun r13 =>
   some ((r13.1.1, ()), (({ r12.2.1 with o := r13.2.1 } : RemoveV), r11.2.1, ()))
   else
   (acF r10.2.1).bind fun r14 =>
   some ((false, ()), (({ r14.2.1 with line := r14.1.1 } : RemoveV), r11.2.1, ()))
   else none
   else none
   else none
   else none
   else none
   else none
   else none
   else none
   else none
   else none
   else none
  else none
 else none
noncomputable abbrev aeB : Con SR1 := ⟨245, [.ref 49, .ref 27], [.sh .b], fun x => afA x.1 x.2.1⟩
theorem ahy : CO Tryz.prog aeB := aas aar Tryz.func245 [alg, aca, abS, apK, adC, adp, af5, acm] ⟨alN, abz, abd, aqW, ac2, aeA, ae0, adx, trivial⟩ [] trivial (fun _ => []) [] fun x => by kernel_rfl
end Go.Proofs.YtlcelajkhklkbaaGreat
