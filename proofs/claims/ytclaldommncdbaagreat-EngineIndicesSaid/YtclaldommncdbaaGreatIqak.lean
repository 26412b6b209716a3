/- The program's machines in the evaluator's form. -/
import Derived.Test.YtclaldommncdbaaGreatIqai
import Derived.Test.YtclaldommncdbaaGreatIqaj
set_option linter.all false
namespace Go.Proofs.YtclaldommncdbaaGreat
open Go Go.RowKit
set_option maxRecDepth 100000
variable [Tb]
noncomputable def aEZ (x : Int) : Option ((Int × Unit) × (Unit)) :=
 if x = 0 then
  some (((-1), ()), (()))
 else
 (pTz x).bind fun r1 =>
 some ((r1.1.1, ()), (()))
noncomputable abbrev aAE : Con SR1 := ⟨167, [.sh sU_], [.sh sI_], fun x => aEZ x.1⟩
theorem aB1 : CO Tryz.prog aAE := aaq aap Tryz.func167 [aBZ] ⟨aDX, trivial⟩ [] trivial (fun _ => []) [] fun x => by kernel_rfl
noncomputable def aaA (o : OutV) : Option ((Bool × Unit) × (OutV × Unit)) :=
 some ((o.ended, ()), (o, ()))
noncomputable abbrev abn : Con SR1 := ⟨132, [.ref 23], [.sh .b], fun x => aaA x.1⟩
theorem aa6 : CO Tryz.prog abn := aaq aap Tryz.func132 [] trivial [] trivial (fun _ => []) [] fun x => by kernel_rfl
noncomputable def abf (o : OutV) (code : Int) (value : Int) : Option ((Bool × Unit) × (OutV × Unit)) :=
 some ((true, ()), ((⟨true, code, value⟩ : OutV), ()))
noncomputable abbrev acA : Con SR1 := ⟨142, [.ref 23, .sh sI_, .sh sI_], [.sh .b], fun x => abf x.1 x.2.1 x.2.2.1⟩
theorem aby : CO Tryz.prog acA := aaq aap Tryz.func142 [] trivial [] trivial (fun _ => []) [] fun x => by kernel_rfl
noncomputable def aB0 (o : OutV) : Option ((Int × Int × Unit) × (OutV × Unit)) :=
 some ((o.code, o.value, ()), (o, ()))
noncomputable abbrev aah : Con SR1 := ⟨133, [.ref 23], [.sh sI_, .sh sI_], fun x => aB0 x.1⟩
theorem aad : CO Tryz.prog aah := aaq aap Tryz.func133 [] trivial [] trivial (fun _ => []) [] fun x => by kernel_rfl
noncomputable def acv (m : MemV) (a : Int) : Option ((Int × Unit) × (MemV × Unit)) :=
 if a < 0 then
  some ((0, ()), (m, ()))
 else
 if ((m.cells.length : Nat) : Int) ≤ a then
  some ((0, ()), (m, ()))
 else
 if 0 ≤ a ∧ a < ((m.cells.length : Nat) : Int) then
  if 0 ≤ a ∧ a < ((m.cells.length : Nat) : Int) then
   if 0 ≤ a ∧ a < (((m.cells.set a.toNat (aeo m.cells a)).length : Nat) : Int) then
   some ((aeo m.cells a, ()), ((⟨m.cells.set a.toNat (aeo m.cells a), ⟨1, a, aeo m.cells a, aeo (m.cells.set a.toNat (aeo m.cells a)) a⟩, wi (m.count + 1)⟩ : MemV), ()))
   else none
  else none
 else none
noncomputable abbrev acz : Con SR1 := ⟨95, [.ref 9, .sh sI_], [.sh sU_], fun x => acv x.1 x.2.1⟩
noncomputable def azD : List (Nat × Func) := [(105, Tryz.f105), (106, Tryz.f106)]
theorem abL : CO Tryz.prog acz := aaq aap Tryz.func95 [] trivial azD ⟨Tryz.func105, Tryz.func106, trivial⟩ (fun _ => []) [] fun x => by kernel_rfl
noncomputable def aa2 (m : MemV) (a : Int) (v : Int) : Option ((Unit) × (MemV × Unit)) :=
 if a < 0 then
  some ((()), (m, ()))
 else
 if ((m.cells.length : Nat) : Int) ≤ a then
  some ((()), (m, ()))
 else
 if 0 ≤ a ∧ a < ((m.cells.length : Nat) : Int) then
  if 0 ≤ a ∧ a < ((m.cells.length : Nat) : Int) then
   if 0 ≤ a ∧ a < (((m.cells.set a.toNat v).length : Nat) : Int) then
   some ((()), ((⟨m.cells.set a.toNat v, ⟨2, a, aeo m.cells a, aeo (m.cells.set a.toNat v) a⟩, wi (m.count + 1)⟩ : MemV), ()))
   else none
  else none
 else none
noncomputable abbrev adK : Con SR1 := ⟨98, [.ref 9, .sh sI_, .sh sU_], [], fun x => aa2 x.1 x.2.1 x.2.2.1⟩
noncomputable def aw9 : List (Nat × Func) := [(105, Tryz.f105), (107, Tryz.f107)]
theorem ade : CO Tryz.prog adK := aaq aap Tryz.func98 [] trivial aw9 ⟨Tryz.func105, Tryz.func107, trivial⟩ (fun _ => []) [] fun x => by kernel_rfl
noncomputable def ary (m : MemV) (a : Int) (old : Int) (v : Int) : Option ((Bool × Unit) × (MemV × Unit)) :=
 if a < 0 then
  some ((false, ()), (m, ()))
 else
 if ((m.cells.length : Nat) : Int) ≤ a then
  some ((false, ()), (m, ()))
 else
 if 0 ≤ a ∧ a < ((m.cells.length : Nat) : Int) then
  if (aeo m.cells a) = old then
   if 0 ≤ a ∧ a < ((m.cells.length : Nat) : Int) then
   if 0 ≤ a ∧ a < (((m.cells.set a.toNat v).length : Nat) : Int) then
   some ((decide ((aeo m.cells a) = old), ()), ((⟨m.cells.set a.toNat v, ⟨3, a, aeo m.cells a, aeo (m.cells.set a.toNat v) a⟩, wi (m.count + 1)⟩ : MemV), ()))
   else none
   else none
  else
  if 0 ≤ a ∧ a < ((m.cells.length : Nat) : Int) then
   if 0 ≤ a ∧ a < (((m.cells.set a.toNat (aeo m.cells a)).length : Nat) : Int) then
   some ((decide ((aeo m.cells a) = old), ()), ((⟨m.cells.set a.toNat (aeo m.cells a), ⟨3, a, aeo m.cells a, aeo (m.cells.set a.toNat (aeo m.cells a)) a⟩, wi (m.count + 1)⟩ : MemV), ()))
   else none
  else none
 else none
noncomputable abbrev ak6 : Con SR1 := ⟨149, [.ref 9, .sh sI_, .sh sU_, .sh sU_], [.sh .b], fun x => ary x.1 x.2.1 x.2.2.1 x.2.2.2.1⟩
noncomputable def aB2 : List (Nat × Func) := [(105, Tryz.f105), (151, Tryz.f151)]
theorem ai0 : CO Tryz.prog ak6 := aaq aap Tryz.func149 [] trivial aB2 ⟨Tryz.func105, Tryz.func151, trivial⟩ (fun _ => []) [] fun x => by kernel_rfl
noncomputable def pOr (m : MemV) (a : Int) (v : Int) : Option ((Int × Unit) × (MemV × Unit)) :=
 if a < 0 then
  some ((0, ()), (m, ()))
 else
 if ((m.cells.length : Nat) : Int) ≤ a then
  some ((0, ()), (m, ()))
 else
 if 0 ≤ a ∧ a < ((m.cells.length : Nat) : Int) then
  if 0 ≤ a ∧ a < ((m.cells.length : Nat) : Int) then
   if 0 ≤ a ∧ a < (((m.cells.set a.toNat (orU (aeo m.cells a) v)).length : Nat) : Int) then
   some ((aeo m.cells a, ()), ((⟨m.cells.set a.toNat (orU (aeo m.cells a) v), ⟨4, a, aeo m.cells a, aeo (m.cells.set a.toNat (orU (aeo m.cells a) v)) a⟩, wi (m.count + 1)⟩ : MemV), ()))
   else none
  else none
 else none
noncomputable abbrev azB : Con SR1 := ⟨136, [.ref 9, .sh sI_, .sh sU_], [.sh sU_], fun x => pOr x.1 x.2.1 x.2.2.1⟩
noncomputable def aDY : List (Nat × Func) := [(105, Tryz.f105), (143, Tryz.f143)]
theorem axb : CO Tryz.prog azB := aaq aap Tryz.func136 [] trivial aDY ⟨Tryz.func105, Tryz.func143, trivial⟩ (fun _ => []) [] fun x => by kernel_rfl
noncomputable def aAF (m : MemV) (a : Int) (v : Int) : Option ((Int × Unit) × (MemV × Unit)) :=
 if a < 0 then
  some ((0, ()), (m, ()))
 else
 if ((m.cells.length : Nat) : Int) ≤ a then
  some ((0, ()), (m, ()))
 else
 if 0 ≤ a ∧ a < ((m.cells.length : Nat) : Int) then
  if 0 ≤ a ∧ a < ((m.cells.length : Nat) : Int) then
   if 0 ≤ a ∧ a < (((m.cells.set a.toNat (anz (aeo m.cells a) v)).length : Nat) : Int) then
   some ((aeo m.cells a, ()), ((⟨m.cells.set a.toNat (anz (aeo m.cells a) v), ⟨5, a, aeo m.cells a, aeo (m.cells.set a.toNat (anz (aeo m.cells a) v)) a⟩, wi (m.count + 1)⟩ : MemV), ()))
   else none
  else none
 else none
noncomputable abbrev au4 : Con SR1 := ⟨141, [.ref 9, .sh sI_, .sh sU_], [.sh sU_], fun x => aAF x.1 x.2.1 x.2.2.1⟩
noncomputable def aB3 : List (Nat × Func) := [(105, Tryz.f105), (145, Tryz.f145)]
theorem aty : CO Tryz.prog au4 := aaq aap Tryz.func141 [] trivial aB3 ⟨Tryz.func105, Tryz.func145, trivial⟩ (fun _ => []) [] fun x => by kernel_rfl
noncomputable def aC8 (m : MemV) (a : Int) (v : Int) : Option ((Int × Unit) × (MemV × Unit)) :=
 if a < 0 then
  some ((0, ()), (m, ()))
 else
 if ((m.cells.length : Nat) : Int) ≤ a then
  some ((0, ()), (m, ()))
 else
 if 0 ≤ a ∧ a < ((m.cells.length : Nat) : Int) then
  if 0 ≤ a ∧ a < ((m.cells.length : Nat) : Int) then
   if 0 ≤ a ∧ a < (((m.cells.set a.toNat (wu ((aeo m.cells a) + v))).length : Nat) : Int) then
   some ((aeo m.cells a, ()), ((⟨m.cells.set a.toNat (wu ((aeo m.cells a) + v)), ⟨6, a, aeo m.cells a, aeo (m.cells.set a.toNat (wu ((aeo m.cells a) + v))) a⟩, wi (m.count + 1)⟩ : MemV), ()))
   else none
  else none
 else none
noncomputable abbrev au5 : Con SR1 := ⟨154, [.ref 9, .sh sI_, .sh sU_], [.sh sU_], fun x => aC8 x.1 x.2.1 x.2.2.1⟩
noncomputable def aB4 : List (Nat × Func) := [(105, Tryz.f105), (156, Tryz.f156)]
theorem atz : CO Tryz.prog au5 := aaq aap Tryz.func154 [] trivial aB4 ⟨Tryz.func105, Tryz.func156, trivial⟩ (fun _ => []) [] fun x => by kernel_rfl
noncomputable def aqi (k : ClkV) : Option ((Int × Unit) × (ClkV × Unit)) :=
 some ((k.now, ()), (k, ()))
noncomputable abbrev amH : Con SR1 := ⟨101, [.ref 25], [.sh sI_], fun x => aqi x.1⟩
theorem akh : CO Tryz.prog amH := aaq aap Tryz.func101 [] trivial [] trivial (fun _ => []) [] fun x => by kernel_rfl
noncomputable def azH (k : ClkV) (n : Int) : Option ((Int × Unit) × (ClkV × Unit)) :=
 if n < 1 then
  some ((0, ()), (k, ()))
 else
 if n ≠ 0 then
  if (Int.tmod k.draw n) < 0 then
   some ((wi ((Int.tmod k.draw n) + n), ()), (k, ()))
  else
  some (((Int.tmod k.draw n), ()), (k, ()))
 else none
noncomputable abbrev axe : Con SR1 := ⟨223, [.ref 25, .sh sI_], [.sh sI_], fun x => azH x.1 x.2.1⟩
theorem azF : CO Tryz.prog axe := aaq aap Tryz.func223 [] trivial [] trivial (fun _ => []) [] fun x => by kernel_rfl
noncomputable def ayL (n : Int) : Option ((Int × Unit) × (Unit)) :=
 if n < 0 then
  some ((0, ()), (()))
 else
 if 63 < n then
  some ((0, ()), (()))
 else
 if 0 ≤ wu (n) then
  some ((wu (1 * 2 ^ min (wu (n) : Int).toNat IntKind.u64.bits), ()), (()))
 else none
noncomputable abbrev asa : Con SR1 := ⟨138, [.sh sI_], [.sh sU_], fun x => ayL x.1⟩
theorem aqo : CO Tryz.prog asa := aaq aap Tryz.func138 [] trivial [] trivial (fun _ => []) [] fun x => by kernel_rfl
noncomputable def ayK (a : Int) (n : Int) : Option ((Int × Unit) × (Unit)) :=
 if n < 1 then
  some ((0, ()), (()))
 else
 if n ≠ 0 then
  if (Int.tmod a n) < 0 then
   some ((wi ((Int.tmod a n) + n), ()), (()))
  else
  some (((Int.tmod a n), ()), (()))
 else none
noncomputable abbrev ar7 : Con SR1 := ⟨118, [.sh sI_, .sh sI_], [.sh sI_], fun x => ayK x.1 x.2.1⟩
theorem aqj : CO Tryz.prog ar7 := aaq aap Tryz.func118 [] trivial [] trivial (fun _ => []) [] fun x => by kernel_rfl
noncomputable def atq (b : Int) (t : Int) : Option ((Int × Unit) × (Unit)) :=
 some ((wi (wu (b - t)), ()), (()))
noncomputable abbrev al9 : Con SR1 := ⟨189, [.sh sU_, .sh sU_], [.sh sI_], fun x => atq x.1 x.2.1⟩
theorem ak4 : CO Tryz.prog al9 := aaq aap Tryz.func189 [] trivial [] trivial (fun _ => []) [] fun x => by kernel_rfl
noncomputable def atv (q : QV) (i : Int) : Option ((Int × Unit) × (Unit)) :=
 if q.cap < 1 then
  some (((-1), ()), (()))
 else
 if (wu (q.cap)) ≠ 0 then
  some ((wi (q.ring + (wi ((Int.tmod i (wu (q.cap)))))), ()), (()))
 else none
noncomputable abbrev aqm : Con SR1 := ⟨190, [.val 14, .sh sU_], [.sh sI_], fun x => atv x.1 x.2.1⟩
theorem aql : CO Tryz.prog aqm := aaq aap Tryz.func190 [] trivial [] trivial (fun _ => []) [] fun x => by kernel_rfl
noncomputable def pAt (i : Int) (n : Int) (a : Int) (w : Int) : Option ((Int × Unit) × (Unit)) :=
 if i < 0 then
  some (((-1), ()), (()))
 else
 if n ≤ i then
  some (((-1), ()), (()))
 else
 some ((wi (a + (wi (i * w))), ()), (()))
noncomputable abbrev atw : Con SR1 := ⟨57, [.sh sI_, .sh sI_, .sh sI_, .sh sI_], [.sh sI_], fun x => pAt x.1 x.2.1 x.2.2.1 x.2.2.2.1⟩
theorem apt : CO Tryz.prog atw := aaq aap Tryz.func57 [] trivial [] trivial (fun _ => []) [] fun x => by kernel_rfl
noncomputable def ar6 (l : LayV) (t : Int) (f : Int) : Option ((Int × Unit) × (Unit)) :=
 (pAt t l.tasks (wi (l.table + f)) 5).bind fun r1 =>
 some ((r1.1.1, ()), (()))
noncomputable abbrev al8 : Con SR1 := ⟨51, [.val 24, .sh sI_, .sh sI_], [.sh sI_], fun x => ar6 x.1 x.2.1 x.2.2.1⟩
theorem ak2 : CO Tryz.prog al8 := aaq aap Tryz.func51 [atw] ⟨apt, trivial⟩ [] trivial (fun _ => []) [] fun x => by kernel_rfl
noncomputable def azC (l : LayV) : Option ((Int × Unit) × (Unit)) :=
 some ((0, ()), (()))
noncomputable abbrev atr : Con SR1 := ⟨33, [.val 24], [.sh sI_], fun x => azC x.1⟩
theorem auW : CO Tryz.prog atr := aaq aap Tryz.func33 [] trivial [] trivial (fun _ => []) [] fun x => by kernel_rfl
noncomputable def adV (l : LayV) (t : Int) : Option ((Int × Unit) × (Unit)) :=
 (ar6 l t 0).bind fun r1 =>
 some ((r1.1.1, ()), (()))
noncomputable abbrev afF : Con SR1 := ⟨34, [.val 24, .sh sI_], [.sh sI_], fun x => adV x.1 x.2.1⟩
theorem aeT : CO Tryz.prog afF := aaq aap Tryz.func34 [al8] ⟨ak2, trivial⟩ [] trivial (fun _ => []) [] fun x => by kernel_rfl
noncomputable def ae5 (l : LayV) (t : Int) : Option ((Int × Unit) × (Unit)) :=
 (ar6 l t 1).bind fun r1 =>
 some ((r1.1.1, ()), (()))
noncomputable abbrev agm : Con SR1 := ⟨99, [.val 24, .sh sI_], [.sh sI_], fun x => ae5 x.1 x.2.1⟩
theorem afP : CO Tryz.prog agm := aaq aap Tryz.func99 [al8] ⟨ak2, trivial⟩ [] trivial (fun _ => []) [] fun x => by kernel_rfl
noncomputable def aio (l : LayV) (t : Int) : Option ((Int × Unit) × (Unit)) :=
 (ar6 l t 4).bind fun r1 =>
 some ((r1.1.1, ()), (()))
noncomputable abbrev ajv : Con SR1 := ⟨100, [.val 24, .sh sI_], [.sh sI_], fun x => aio x.1 x.2.1⟩
theorem aiV : CO Tryz.prog ajv := aaq aap Tryz.func100 [al8] ⟨ak2, trivial⟩ [] trivial (fun _ => []) [] fun x => by kernel_rfl
noncomputable def aiU (l : LayV) (t : Int) : Option ((Int × Unit) × (Unit)) :=
 (ar6 l t 3).bind fun r1 =>
 some ((r1.1.1, ()), (()))
noncomputable abbrev anj : Con SR1 := ⟨203, [.val 24, .sh sI_], [.sh sI_], fun x => aiU x.1 x.2.1⟩
theorem aoa : CO Tryz.prog anj := aaq aap Tryz.func203 [al8] ⟨ak2, trivial⟩ [] trivial (fun _ => []) [] fun x => by kernel_rfl
noncomputable def am4 (l : LayV) (t : Int) : Option ((Int × Unit) × (Unit)) :=
 (ar6 l t 2).bind fun r1 =>
 some ((r1.1.1, ()), (()))
noncomputable abbrev att : Con SR1 := ⟨208, [.val 24, .sh sI_], [.sh sI_], fun x => am4 x.1 x.2.1⟩
theorem auY : CO Tryz.prog att := aaq aap Tryz.func208 [al8] ⟨ak2, trivial⟩ [] trivial (fun _ => []) [] fun x => by kernel_rfl
noncomputable def axd (l : LayV) : Option ((Int × Unit) × (Unit)) :=
 some ((1, ()), (()))
noncomputable abbrev ats : Con SR1 := ⟨150, [.val 24], [.sh sI_], fun x => axd x.1⟩
theorem auX : CO Tryz.prog ats := aaq aap Tryz.func150 [] trivial [] trivial (fun _ => []) [] fun x => by kernel_rfl
noncomputable def agd (l : LayV) : Option ((Int × Unit) × (Unit)) :=
 some ((2, ()), (()))
noncomputable abbrev ajx : Con SR1 := ⟨96, [.val 24], [.sh sI_], fun x => agd x.1⟩
theorem aiZ : CO Tryz.prog ajx := aaq aap Tryz.func96 [] trivial [] trivial (fun _ => []) [] fun x => by kernel_rfl
noncomputable def am3 (l : LayV) (i : Int) : Option ((Int × Unit) × (Unit)) :=
 (pAt i l.heap 4 1).bind fun r1 =>
 some ((r1.1.1, ()), (()))
noncomputable abbrev aqh : Con SR1 := ⟨161, [.val 24, .sh sI_], [.sh sI_], fun x => am3 x.1 x.2.1⟩
theorem aqg : CO Tryz.prog aqh := aaq aap Tryz.func161 [atw] ⟨apt, trivial⟩ [] trivial (fun _ => []) [] fun x => by kernel_rfl
noncomputable def aps (l : LayV) (w : Int) : Option ((Int × Unit) × (Unit)) :=
 (pAt w l.workers l.epochs 1).bind fun r1 =>
 some ((r1.1.1, ()), (()))
noncomputable abbrev anl : Con SR1 := ⟨135, [.val 24, .sh sI_], [.sh sI_], fun x => aps x.1 x.2.1⟩
theorem aob : CO Tryz.prog anl := aaq aap Tryz.func135 [atw] ⟨apt, trivial⟩ [] trivial (fun _ => []) [] fun x => by kernel_rfl
noncomputable def agH (l : LayV) (l0 : Int) : Option ((Int × Unit) × (Unit)) :=
 (pAt l0 l.classes l.sleepers 1).bind fun r1 =>
 some ((r1.1.1, ()), (()))
noncomputable abbrev akg : Con SR1 := ⟨144, [.val 24, .sh sI_], [.sh sI_], fun x => agH x.1 x.2.1⟩
theorem amG : CO Tryz.prog akg := aaq aap Tryz.func144 [atw] ⟨apt, trivial⟩ [] trivial (fun _ => []) [] fun x => by kernel_rfl
noncomputable def ag4 (l : LayV) (w : Int) : Option ((Int × Unit) × (Unit)) :=
 (pAt w l.workers l.bitmaps 1).bind fun r1 =>
 some ((r1.1.1, ()), (()))
noncomputable abbrev agJ : Con SR1 := ⟨126, [.val 24, .sh sI_], [.sh sI_], fun x => ag4 x.1 x.2.1⟩
theorem agu : CO Tryz.prog agJ := aaq aap Tryz.func126 [atw] ⟨apt, trivial⟩ [] trivial (fun _ => []) [] fun x => by kernel_rfl
noncomputable def agI (l : LayV) (w : Int) (v : Int) : Option ((QV × Unit) × (Unit)) :=
 (pAt w l.workers l.queues (wi (l.levels * (wi (2 + l.deque))))).bind fun r1 =>
 (pAt v l.levels r1.1.1 (wi (2 + l.deque))).bind fun r2 =>
 if r1.1.1 < 0 then
  some (((⟨(-1), (-1), (-1), 0⟩ : QV), ()), (()))
 else
 if r2.1.1 < 0 then
  some (((⟨(-1), (-1), (-1), 0⟩ : QV), ()), (()))
 else
 some (((⟨r2.1.1, wi (r2.1.1 + 1), wi (r2.1.1 + 2), l.deque⟩ : QV), ()), (()))
noncomputable abbrev ajw : Con SR1 := ⟨124, [.val 24, .sh sI_, .sh sI_], [.val 14], fun x => agI x.1 x.2.1 x.2.2.1⟩
theorem aiX : CO Tryz.prog ajw := aaq aap Tryz.func124 [atw] ⟨apt, trivial⟩ [] trivial (fun _ => []) [] fun x => by kernel_rfl
noncomputable def aqp (l : LayV) : Option ((Int × Unit) × (Unit)) :=
 some ((3, ()), (()))
noncomputable abbrev apv : Con SR1 := ⟨84, [.val 24], [.sh sI_], fun x => aqp x.1⟩
theorem atx : CO Tryz.prog apv := aaq aap Tryz.func84 [] trivial [] trivial (fun _ => []) [] fun x => by kernel_rfl
noncomputable def au3 (l : LayV) : Option ((Int × Unit) × (Unit)) :=
 some ((wi (l.table + (wi (5 * l.tasks))), ()), (()))
noncomputable abbrev au2 : Con SR1 := ⟨55, [.val 24], [.sh sI_], fun x => au3 x.1⟩
theorem axg : CO Tryz.prog au2 := aaq aap Tryz.func55 [] trivial [] trivial (fun _ => []) [] fun x => by kernel_rfl
noncomputable def aee (e : EnvP) (v : Ev) : Option ((Unit) × (EnvP × Unit)) :=
 if (((e.evs.length + ([v] : List Ev).length : Nat)) : Int) < 1000000000000 then
  some ((()), (({ e with evs := e.evs ++ ([v]) } : EnvP), ()))
 else none
noncomputable abbrev afn : Con SR1 := ⟨103, [.ref 27, .val 2], [], fun x => aee x.1 x.2.1⟩
theorem aes : CO Tryz.prog afn := aaq aap Tryz.func103 [] trivial [] trivial (fun _ => []) [] fun x => by kernel_rfl
noncomputable def azA (d : Int) (a : Int) (t : Int) : Option ((Int × Bool × Unit) × (Unit)) :=
 if d < 0 then
  some ((0, false, ()), (()))
 else
 if 16777215 < d then
  some ((0, false, ()), (()))
 else
 if a < 0 then
  some ((0, false, ()), (()))
 else
 if 16777215 < a then
  some ((0, false, ()), (()))
 else
 if t < 0 then
  some ((0, false, ()), (()))
 else
 if 65535 < t then
  some ((0, false, ()), (()))
 else
 some ((orU (orU (wu ((wu (d)) * 2 ^ min (40 : Int).toNat IntKind.u64.bits)) (wu ((wu (a)) * 2 ^ min (16 : Int).toNat IntKind.u64.bits))) (wu (t)), true, ()), (()))
noncomputable abbrev axa : Con SR1 := ⟨159, [.sh sI_, .sh sI_, .sh sI_], [.sh sU_, .sh .b], fun x => azA x.1 x.2.1 x.2.2.1⟩
theorem azy : CO Tryz.prog axa := aaq aap Tryz.func159 [] trivial [] trivial (fun _ => []) [] fun x => by kernel_rfl
noncomputable def ar9 (l : Int) (n : Int) (c : Int) : Option ((Int × Unit) × (Unit)) :=
 if n < 1 then
  some ((0, ()), (()))
 else
 if 64 < n then
  some ((0, ()), (()))
 else
 if c < 1 then
  some ((0, ()), (()))
 else
 if 8 < c then
  some ((0, ()), (()))
 else
 if l < 0 then
  some ((0, ()), (()))
 else
 if n ≤ l then
  some ((0, ()), (()))
 else
 if n ≠ 0 then
  some ((wi (Int.tdiv (wi (l * c)) n), ()), (()))
 else none
noncomputable abbrev au1 : Con SR1 := ⟨168, [.sh sI_, .sh sI_, .sh sI_], [.sh sI_], fun x => ar9 x.1 x.2.1 x.2.2.1⟩
theorem axf : CO Tryz.prog au1 := aaq aap Tryz.func168 [] trivial [] trivial (fun _ => []) [] fun x => by kernel_rfl
noncomputable def atp (k : Int) : Option ((Int × Int × Int × Unit) × (Unit)) :=
 some ((wi (Int.fdiv k (2 ^ min (40 : Int).toNat IntKind.u64.bits)), wi (anz (Int.fdiv k (2 ^ min (16 : Int).toNat IntKind.u64.bits)) 16777215), wi (anz k 65535), ()), (()))
noncomputable abbrev ar5 : Con SR1 := ⟨236, [.sh sU_], [.sh sI_, .sh sI_, .sh sI_], fun x => atp x.1⟩
theorem avX : CO Tryz.prog ar5 := aaq aap Tryz.func236 [] trivial [] trivial (fun _ => []) [] fun x => by kernel_rfl
noncomputable def agP (x : Int) : Option ((Int × Unit) × (Unit)) :=
 if 4294967296 ≤ x then
  if 65536 ≤ (Int.fdiv x (2 ^ min (32 : Int).toNat IntKind.u64.bits)) then
   if 256 ≤ (Int.fdiv (Int.fdiv x (2 ^ min (32 : Int).toNat IntKind.u64.bits)) (2 ^ min (16 : Int).toNat IntKind.u64.bits)) then
   if 0 ≤ IntKind.u8.wrap (Int.fdiv (Int.fdiv (Int.fdiv x (2 ^ min (32 : Int).toNat IntKind.u64.bits)) (2 ^ min (16 : Int).toNat IntKind.u64.bits)) (2 ^ min (8 : Int).toNat IntKind.u64.bits)) ∧ IntKind.u8.wrap (Int.fdiv (Int.fdiv (Int.fdiv x (2 ^ min (32 : Int).toNat IntKind.u64.bits)) (2 ^ min (16 : Int).toNat IntKind.u64.bits)) (2 ^ min (8 : Int).toNat IntKind.u64.bits)) < ((aiK.size : Nat) : Int) then
   some ((wi ((wi (56 + (wi ((((aiK[(IntKind.u8.wrap (Int.fdiv (Int.fdiv (Int.fdiv x (2 ^ min (32 : Int).toNat IntKind.u64.bits)) (2 ^ min (16 : Int).toNat IntKind.u64.bits)) (2 ^ min (8 : Int).toNat IntKind.u64.bits))).toNat]?).map fun b => ((b.toNat : Nat) : Int)).getD 0))))) - 1), ()), (()))
   else none
   else
   if 0 ≤ IntKind.u8.wrap (Int.fdiv (Int.fdiv x (2 ^ min (32 : Int).toNat IntKind.u64.bits)) (2 ^ min (16 : Int).toNat IntKind.u64.bits)) ∧ IntKind.u8.wrap (Int.fdiv (Int.fdiv x (2 ^ min (32 : Int).toNat IntKind.u64.bits)) (2 ^ min (16 : Int).toNat IntKind.u64.bits)) < ((aiK.size : Nat) : Int) then
   some ((wi ((wi (48 + (wi ((((aiK[(IntKind.u8.wrap (Int.fdiv (Int.fdiv x (2 ^ min (32 : Int).toNat IntKind.u64.bits)) (2 ^ min (16 : Int).toNat IntKind.u64.bits))).toNat]?).map fun b => ((b.toNat : Nat) : Int)).getD 0))))) - 1), ()), (()))
   else none
  else
  if 256 ≤ (Int.fdiv x (2 ^ min (32 : Int).toNat IntKind.u64.bits)) then
   if 0 ≤ IntKind.u8.wrap (Int.fdiv (Int.fdiv x (2 ^ min (32 : Int).toNat IntKind.u64.bits)) (2 ^ min (8 : Int).toNat IntKind.u64.bits)) ∧ IntKind.u8.wrap (Int.fdiv (Int.fdiv x (2 ^ min (32 : Int).toNat IntKind.u64.bits)) (2 ^ min (8 : Int).toNat IntKind.u64.bits)) < ((aiK.size : Nat) : Int) then
   some ((wi ((wi (40 + (wi ((((aiK[(IntKind.u8.wrap (Int.fdiv (Int.fdiv x (2 ^ min (32 : Int).toNat IntKind.u64.bits)) (2 ^ min (8 : Int).toNat IntKind.u64.bits))).toNat]?).map fun b => ((b.toNat : Nat) : Int)).getD 0))))) - 1), ()), (()))
   else none
  else
  if 0 ≤ IntKind.u8.wrap (Int.fdiv x (2 ^ min (32 : Int).toNat IntKind.u64.bits)) ∧ IntKind.u8.wrap (Int.fdiv x (2 ^ min (32 : Int).toNat IntKind.u64.bits)) < ((aiK.size : Nat) : Int) then
   some ((wi ((wi (32 + (wi ((((aiK[(IntKind.u8.wrap (Int.fdiv x (2 ^ min (32 : Int).toNat IntKind.u64.bits))).toNat]?).map fun b => ((b.toNat : Nat) : Int)).getD 0))))) - 1), ()), (()))
  else none
 else
 if 65536 ≤ x then
  if 256 ≤ (Int.fdiv x (2 ^ min (16 : Int).toNat IntKind.u64.bits)) then
   if 0 ≤ IntKind.u8.wrap (Int.fdiv (Int.fdiv x (2 ^ min (16 : Int).toNat IntKind.u64.bits)) (2 ^ min (8 : Int).toNat IntKind.u64.bits)) ∧ IntKind.u8.wrap (Int.fdiv (Int.fdiv x (2 ^ min (16 : Int).toNat IntKind.u64.bits)) (2 ^ min (8 : Int).toNat IntKind.u64.bits)) < ((aiK.size : Nat) : Int) then
   some ((wi ((wi (24 + (wi ((((aiK[(IntKind.u8.wrap (Int.fdiv (Int.fdiv x (2 ^ min (16 : Int).toNat IntKind.u64.bits)) (2 ^ min (8 : Int).toNat IntKind.u64.bits))).toNat]?).map fun b => ((b.toNat : Nat) : Int)).getD 0))))) - 1), ()), (()))
   else none
  else
  if 0 ≤ IntKind.u8.wrap (Int.fdiv x (2 ^ min (16 : Int).toNat IntKind.u64.bits)) ∧ IntKind.u8.wrap (Int.fdiv x (2 ^ min (16 : Int).toNat IntKind.u64.bits)) < ((aiK.size : Nat) : Int) then
   some ((wi ((wi (16 + (wi ((((aiK[(IntKind.u8.wrap (Int.fdiv x (2 ^ min (16 : Int).toNat IntKind.u64.bits))).toNat]?).map fun b => ((b.toNat : Nat) : Int)).getD 0))))) - 1), ()), (()))
  else none
 else
 if 256 ≤ x then
  if 0 ≤ IntKind.u8.wrap (Int.fdiv x (2 ^ min (8 : Int).toNat IntKind.u64.bits)) ∧ IntKind.u8.wrap (Int.fdiv x (2 ^ min (8 : Int).toNat IntKind.u64.bits)) < ((aiK.size : Nat) : Int) then
   some ((wi ((wi (8 + (wi ((((aiK[(IntKind.u8.wrap (Int.fdiv x (2 ^ min (8 : Int).toNat IntKind.u64.bits))).toNat]?).map fun b => ((b.toNat : Nat) : Int)).getD 0))))) - 1), ()), (()))
  else none
 else
 if 0 ≤ IntKind.u8.wrap (x) ∧ IntKind.u8.wrap (x) < ((aiK.size : Nat) : Int) then
  some ((wi ((wi (0 + (wi ((((aiK[(IntKind.u8.wrap (x)).toNat]?).map fun b => ((b.toNat : Nat) : Int)).getD 0))))) - 1), ()), (()))
 else none
noncomputable abbrev atu : Con SR1 := ⟨216, [.sh sU_], [.sh sI_], fun x => agP x.1⟩
noncomputable def azE : List (Nat × Func) := [(218, Tryz.f218)]
theorem auZ : CO Tryz.prog atu := aaq aap Tryz.func216 [] trivial azE ⟨Tryz.func218, trivial⟩ (fun _ => []) [] fun x => by kernel_rfl
noncomputable def aek (y0 : ProbeV) (y1 : Int) : Option ((Bool × Unit) × (ProbeV × Unit)) :=
 ((
  if y0.next < y1 then
   if y1 ≠ 0 then
   some (decide ((Int.tmod (wi (y0.start + y0.next)) y1) = y0.worker), ())
   else none
  else
  some (false, ())
 ) : Option (Bool × Unit)).bind fun z1 =>
 if z1.1 = true then
  some ((decide (y1 ≤ (wi (y0.next + 1))), ()), (({ y0 with next := wi (y0.next + 1) } : ProbeV), ()))
 else
 some ((decide (y1 ≤ y0.next), ()), (y0, ()))
noncomputable abbrev aim : Con SR1 := ⟨224, [.ref 46, .sh sI_], [.sh .b], fun x => aek x.1 x.2.1⟩
theorem al3 : CO Tryz.prog aim := aaq aap Tryz.func224 [] trivial [] trivial (fun _ => []) [(2, .cut [.rg 28 .b] [0])] fun x => by kernel_rfl
noncomputable def abj (y0 : ProbeV) (y1 : EnvP) : Option ((Bool × Unit) × (ProbeV × EnvP × Unit)) :=
 (aaA y0.o).bind fun r1 =>
 if r1.1.1 = true then
  some ((true, ()), (({ y0 with o := r1.2.1 } : ProbeV), y1, ()))
 else
 ((
  if (!y0.begun) = true then
   (azH y1.k (if 16 < y1.c.workers then 16 else y1.c.workers)).bind fun r2 =>
   some (({ y0 with o := r1.2.1, begun := true, start := r2.1.1 } : ProbeV), ({ y1 with k := r2.2.1 } : EnvP), ())
  else
  some (({ y0 with o := r1.2.1 } : ProbeV), y1, ())
 ) : Option (ProbeV × EnvP × Unit)).bind fun z3 =>
 (aek z3.1 (if 16 < y1.c.workers then 16 else y1.c.workers)).bind fun r4 =>
 if r4.1.1 = true then
  (abf r4.2.1.o 2 0).bind fun r5 =>
  some ((r5.1.1, ()), (({ r4.2.1 with o := r5.2.1 } : ProbeV), z3.2.1, ()))
 else
 if (if 16 < y1.c.workers then 16 else y1.c.workers) ≠ 0 then
  ((
   (ag4 z3.2.1.l (Int.tmod (wi (r4.2.1.start + r4.2.1.next)) (if 16 < y1.c.workers then 16 else y1.c.workers))).bind fun r6 =>
   (acv z3.2.1.m r6.1.1).bind fun r7 =>
   if (Int.tmod (wi (r4.2.1.start + r4.2.1.next)) (if 16 < y1.c.workers then 16 else y1.c.workers)) = ((15 : Nat) : Int) then
   some (({ r4.2.1 with bm := { r4.2.1.bm with b15 := r7.1.1 } } : ProbeV), ({ z3.2.1 with m := r7.2.1 } : EnvP), ())
   else
   if (Int.tmod (wi (r4.2.1.start + r4.2.1.next)) (if 16 < y1.c.workers then 16 else y1.c.workers)) = ((14 : Nat) : Int) then
   some (({ r4.2.1 with bm := { r4.2.1.bm with b14 := r7.1.1 } } : ProbeV), ({ z3.2.1 with m := r7.2.1 } : EnvP), ())
   else
   if (Int.tmod (wi (r4.2.1.start + r4.2.1.next)) (if 16 < y1.c.workers then 16 else y1.c.workers)) = ((13 : Nat) : Int) then
   some (({ r4.2.1 with bm := { r4.2.1.bm with b13 := r7.1.1 } } : ProbeV), ({ z3.2.1 with m := r7.2.1 } : EnvP), ())
   else
   if (Int.tmod (wi (r4.2.1.start + r4.2.1.next)) (if 16 < y1.c.workers then 16 else y1.c.workers)) = ((12 : Nat) : Int) then
   some (({ r4.2.1 with bm := { r4.2.1.bm with b12 := r7.1.1 } } : ProbeV), ({ z3.2.1 with m := r7.2.1 } : EnvP), ())
   else
   if (Int.tmod (wi (r4.2.1.start + r4.2.1.next)) (if 16 < y1.c.workers then 16 else y1.c.workers)) = ((11 : Nat) : Int) then
   some (({ r4.2.1 with bm := { r4.2.1.bm with b11 := r7.1.1 } } : ProbeV), ({ z3.2.1 with m := r7.2.1 } : EnvP), ())
   else
   if (Int.tmod (wi (r4.2.1.start + r4.2.1.next)) (if 16 < y1.c.workers then 16 else y1.c.workers)) = ((10 : Nat) : Int) then
   some (({ r4.2.1 with bm := { r4.2.1.bm with b10 := r7.1.1 } } : ProbeV), ({ z3.2.1 with m := r7.2.1 } : EnvP), ())
   else
   if (Int.tmod (wi (r4.2.1.start + r4.2.1.next)) (if 16 < y1.c.workers then 16 else y1.c.workers)) = ((9 : Nat) : Int) then
   some (({ r4.2.1 with bm := { r4.2.1.bm with b9 := r7.1.1 } } : ProbeV), ({ z3.2.1 with m := r7.2.1 } : EnvP), ())
   else
   if (Int.tmod (wi (r4.2.1.start + r4.2.1.next)) (if 16 < y1.c.workers then 16 else y1.c.workers)) = ((8 : Nat) : Int) then
   some (({ r4.2.1 with bm := { r4.2.1.bm with b8 := r7.1.1 } } : ProbeV), ({ z3.2.1 with m := r7.2.1 } : EnvP), ())
   else
   if (Int.tmod (wi (r4.2.1.start + r4.2.1.next)) (if 16 < y1.c.workers then 16 else y1.c.workers)) = ((7 : Nat) : Int) then
   some (({ r4.2.1 with bm := { r4.2.1.bm with b7 := r7.1.1 } } : ProbeV), ({ z3.2.1 with m := r7.2.1 } : EnvP), ())
   else
   if (Int.tmod (wi (r4.2.1.start + r4.2.1.next)) (if 16 < y1.c.workers then 16 else y1.c.workers)) = ((6 : Nat) : Int) then
   some (({ r4.2.1 with bm := { r4.2.1.bm with b6 := r7.1.1 } } : ProbeV), ({ z3.2.1 with m := r7.2.1 } : EnvP), ())
   else
   if (Int.tmod (wi (r4.2.1.start + r4.2.1.next)) (if 16 < y1.c.workers then 16 else y1.c.workers)) = ((5 : Nat) : Int) then
   some (({ r4.2.1 with bm := { r4.2.1.bm with b5 := r7.1.1 } } : ProbeV), ({ z3.2.1 with m := r7.2.1 } : EnvP), ())
   else
   if (Int.tmod (wi (r4.2.1.start + r4.2.1.next)) (if 16 < y1.c.workers then 16 else y1.c.workers)) = ((4 : Nat) : Int) then
   some (({ r4.2.1 with bm := { r4.2.1.bm with b4 := r7.1.1 } } : ProbeV), ({ z3.2.1 with m := r7.2.1 } : EnvP), ())
   else
   if (Int.tmod (wi (r4.2.1.start + r4.2.1.next)) (if 16 < y1.c.workers then 16 else y1.c.workers)) = ((3 : Nat) : Int) then
   some (({ r4.2.1 with bm := { r4.2.1.bm with b3 := r7.1.1 } } : ProbeV), ({ z3.2.1 with m := r7.2.1 } : EnvP), ())
   else
   if (Int.tmod (wi (r4.2.1.start + r4.2.1.next)) (if 16 < y1.c.workers then 16 else y1.c.workers)) = ((2 : Nat) : Int) then
   some (({ r4.2.1 with bm := { r4.2.1.bm with b2 := r7.1.1 } } : ProbeV), ({ z3.2.1 with m := r7.2.1 } : EnvP), ())
   else
   if (Int.tmod (wi (r4.2.1.start + r4.2.1.next)) (if 16 < y1.c.workers then 16 else y1.c.workers)) = ((1 : Nat) : Int) then
   some (({ r4.2.1 with bm := { r4.2.1.bm with b1 := r7.1.1 } } : ProbeV), ({ z3.2.1 with m := r7.2.1 } : EnvP), ())
   else
   if (Int.tmod (wi (r4.2.1.start + r4.2.1.next)) (if 16 < y1.c.workers then 16 else y1.c.workers)) = ((0 : Nat) : Int) then
   some (({ r4.2.1 with bm := { r4.2.1.bm with b0 := r7.1.1 } } : ProbeV), ({ z3.2.1 with m := r7.2.1 } : EnvP), ())
   else
   none
  ) : Option (ProbeV × EnvP × Unit)).bind fun z8 =>
  (aek ({ z8.1 with next := wi (z8.1.next + 1) } : ProbeV) (if 16 < y1.c.workers then 16 else y1.c.workers)).bind fun r9 =>
  if (!r9.1.1) = true then
   some ((false, ()), (r9.2.1, z8.2.1, ()))
  else
  if 0 ≤ (if 16 < y1.c.workers then 16 else y1.c.workers) ∧ (if 16 < y1.c.workers then 16 else y1.c.workers) ≤ ((16 : Nat) : Int) then
   (lpF (σ := Int × Int × Int × ProbeV × Unit) (β := Int × Int × Int × ProbeV × Unit) (fun self12 x10 =>
   if x10.2.2.1 < ((((if 16 < y1.c.workers then 16 else y1.c.workers)).toNat : Nat) : Int) then
   (ayK r9.2.1.start ((((if 16 < y1.c.workers then 16 else y1.c.workers)).toNat : Nat) : Int)).bind fun r13 =>
   if ((((if 16 < y1.c.workers then 16 else y1.c.workers)).toNat : Nat) : Int) ≠ 0 then
   ((
   if (Int.tmod (wi (r13.1.1 + x10.2.2.1)) ((((if 16 < y1.c.workers then 16 else y1.c.workers)).toNat : Nat) : Int)) < (if 16 < y1.c.workers then 16 else y1.c.workers) then
   if (Int.tmod (wi (r13.1.1 + x10.2.2.1)) ((((if 16 < y1.c.workers then 16 else y1.c.workers)).toNat : Nat) : Int)) = ((15 : Nat) : Int) then
   (agP x10.2.2.2.1.bm.b15).bind fun r14 =>
   some (r14.1.1, x10.2.2.2.1, ())
   else
   if (Int.tmod (wi (r13.1.1 + x10.2.2.1)) ((((if 16 < y1.c.workers then 16 else y1.c.workers)).toNat : Nat) : Int)) = ((14 : Nat) : Int) then
   (agP x10.2.2.2.1.bm.b14).bind fun r15 =>
   some (r15.1.1, x10.2.2.2.1, ())
   else
   if (Int.tmod (wi (r13.1.1 + x10.2.2.1)) ((((if 16 < y1.c.workers then 16 else y1.c.workers)).toNat : Nat) : Int)) = ((13 : Nat) : Int) then
   (agP x10.2.2.2.1.bm.b13).bind fun r16 =>
   some (r16.1.1, x10.2.2.2.1, ())
   else
   if (Int.tmod (wi (r13.1.1 + x10.2.2.1)) ((((if 16 < y1.c.workers then 16 else y1.c.workers)).toNat : Nat) : Int)) = ((12 : Nat) : Int) then
   (agP x10.2.2.2.1.bm.b12).bind fun r17 =>
   some (r17.1.1, x10.2.2.2.1, ())
   else
   if (Int.tmod (wi (r13.1.1 + x10.2.2.1)) ((((if 16 < y1.c.workers then 16 else y1.c.workers)).toNat : Nat) : Int)) = ((11 : Nat) : Int) then
   (agP x10.2.2.2.1.bm.b11).bind fun r18 =>
   some (r18.1.1, x10.2.2.2.1, ())
   else
   if (Int.tmod (wi (r13.1.1 + x10.2.2.1)) ((((if 16 < y1.c.workers then 16 else y1.c.workers)).toNat : Nat) : Int)) = ((10 : Nat) : Int) then
   (agP x10.2.2.2.1.bm.b10).bind fun r19 =>
   some (r19.1.1, x10.2.2.2.1, ())
   else
   if (Int.tmod (wi (r13.1.1 + x10.2.2.1)) ((((if 16 < y1.c.workers then 16 else y1.c.workers)).toNat : Nat) : Int)) = ((9 : Nat) : Int) then
   (agP x10.2.2.2.1.bm.b9).bind fun r20 =>
   some (r20.1.1, x10.2.2.2.1, ())
   else
   if (Int.tmod (wi (r13.1.1 + x10.2.2.1)) ((((if 16 < y1.c.workers then 16 else y1.c.workers)).toNat : Nat) : Int)) = ((8 : Nat) : Int) then
   (agP x10.2.2.2.1.bm.b8).bind fun r21 =>
   some (r21.1.1, x10.2.2.2.1, ())
   else
   if (Int.tmod (wi (r13.1.1 + x10.2.2.1)) ((((if 16 < y1.c.workers then 16 else y1.c.workers)).toNat : Nat) : Int)) = ((7 : Nat) : Int) then
   (agP x10.2.2.2.1.bm.b7).bind fun r22 =>
   some (r22.1.1, x10.2.2.2.1, ())
   else
   if (Int.tmod (wi (r13.1.1 + x10.2.2.1)) ((((if 16 < y1.c.workers then 16 else y1.c.workers)).toNat : Nat) : Int)) = ((6 : Nat) : Int) then
   (agP x10.2.2.2.1.bm.b6).bind fun r23 =>
   some (r23.1.1, x10.2.2.2.1, ())
   else
   if (Int.tmod (wi (r13.1.1 + x10.2.2.1)) ((((if 16 < y1.c.workers then 16 else y1.c.workers)).toNat : Nat) : Int)) = ((5 : Nat) : Int) then
   (agP x10.2.2.2.1.bm.b5).bind fun r24 =>
   some (r24.1.1, x10.2.2.2.1, ())
   else
   if (Int.tmod (wi (r13.1.1 + x10.2.2.1)) ((((if 16 < y1.c.workers then 16 else y1.c.workers)).toNat : Nat) : Int)) = ((4 : Nat) : Int) then
   (agP x10.2.2.2.1.bm.b4).bind fun r25 =>
   some (r25.1.1, x10.2.2.2.1, ())
   else
   if (Int.tmod (wi (r13.1.1 + x10.2.2.1)) ((((if 16 < y1.c.workers then 16 else y1.c.workers)).toNat : Nat) : Int)) = ((3 : Nat) : Int) then
   (agP x10.2.2.2.1.bm.b3).bind fun r26 =>
   some (r26.1.1, x10.2.2.2.1, ())
   else
   if (Int.tmod (wi (r13.1.1 + x10.2.2.1)) ((((if 16 < y1.c.workers then 16 else y1.c.workers)).toNat : Nat) : Int)) = ((2 : Nat) : Int) then
   (agP x10.2.2.2.1.bm.b2).bind fun r27 =>
   some (r27.1.1, x10.2.2.2.1, ())
   else
   if (Int.tmod (wi (r13.1.1 + x10.2.2.1)) ((((if 16 < y1.c.workers then 16 else y1.c.workers)).toNat : Nat) : Int)) = ((1 : Nat) : Int) then
   (agP x10.2.2.2.1.bm.b1).bind fun r28 =>
   some (r28.1.1, x10.2.2.2.1, ())
   else
   if (Int.tmod (wi (r13.1.1 + x10.2.2.1)) ((((if 16 < y1.c.workers then 16 else y1.c.workers)).toNat : Nat) : Int)) = ((0 : Nat) : Int) then
   (agP x10.2.2.2.1.bm.b0).bind fun r29 =>
   some (r29.1.1, x10.2.2.2.1, ())
   else
   none
   else none
   ) : Option (Int × ProbeV × Unit)).bind fun z30 =>
   if (Int.tmod (wi (r13.1.1 + x10.2.2.1)) ((((if 16 < y1.c.workers then 16 else y1.c.workers)).toNat : Nat) : Int)) ≠ r9.2.1.worker then
   if x10.2.1 < z30.1 then
   self12 ((Int.tmod (wi (r13.1.1 + x10.2.2.1)) ((((if 16 < y1.c.workers then 16 else y1.c.workers)).toNat : Nat) : Int)), z30.1, wi (x10.2.2.1 + 1), z30.2.1, ())
   else
   self12 (x10.1, x10.2.1, wi (x10.2.2.1 + 1), z30.2.1, ())
   else
   self12 (x10.1, x10.2.1, wi (x10.2.2.1 + 1), z30.2.1, ())
   else none
   else
   some (x10.1, x10.2.1, x10.2.2.1, x10.2.2.2.1, ())
   ) 18446744073709551616 ((-1), (-1), 0, r9.2.1, ())).bind fun z11 =>
   if z11.1 < 0 then
   (abf z11.2.2.2.1.o 2 0).bind fun r31 =>
   some ((r31.1.1, ()), (({ z11.2.2.2.1 with o := r31.2.1 } : ProbeV), z8.2.1, ()))
   else
   (abf z11.2.2.2.1.o 1 (wi ((wi (z11.1 * 64)) + z11.2.1))).bind fun r32 =>
   some ((r32.1.1, ()), (({ z11.2.2.2.1 with o := r32.2.1 } : ProbeV), z8.2.1, ()))
  else none
 else none
noncomputable abbrev amZ : Con SR1 := ⟨222, [.ref 46, .ref 27], [.sh .b], fun x => abj x.1 x.2.1⟩
noncomputable def al2 : List (Nat × Func) := [(225, Tryz.f225)]
theorem ad6 : CO Tryz.prog amZ := aaq aap Tryz.func222 [abn, axe, aim, acA, agJ, acz, ar7, atu] ⟨aa6, azF, al3, aby, agu, abL, aqj, auZ, trivial⟩ al2 ⟨Tryz.func225, trivial⟩ (fun f => (get [(225, [(4, .loop [.rg 6 sI_, .rg 7 sI_, .rg 15 sI_, .ob 0 46] 18446744073709551616 0), (8, .cut [.rg 11 sI_, .ob 0 46] [])])] f).getD []) [(6, .cut [.ob 0 46, .ob 1 27] []), (10, .cut [.ob 0 46, .ob 1 27] [])] fun x => by kernel_rfl
noncomputable def afj (y0 : EnvP) (y1 : Int) : Option ((Bool × Unit) × (EnvP × Unit)) :=
 if 0 ≤ y1 then
  some ((decide (y1 < y0.c.tasks), ()), (y0, ()))
 else
 some ((false, ()), (y0, ()))
noncomputable abbrev agi : Con SR1 := ⟨155, [.ref 27, .sh sI_], [.sh .b], fun x => afj x.1 x.2.1⟩
theorem ag2 : CO Tryz.prog agi := aaq aap Tryz.func155 [] trivial [] trivial (fun _ => []) [] fun x => by kernel_rfl
noncomputable def abP (y0 : AllocV) (y1 : EnvP) : Option ((Bool × Unit) × (AllocV × EnvP × Unit)) :=
 (aaA y0.o).bind fun r1 =>
 if r1.1.1 = true then
  some ((true, ()), ((⟨r1.2.1⟩ : AllocV), y1, ()))
 else
 (azC y1.l).bind fun r2 =>
 (aC8 y1.m r2.1.1 1).bind fun r3 =>
 (afj ({ y1 with m := r3.2.1 } : EnvP) (wi (r3.1.1))).bind fun r4 =>
 if (!r4.1.1) = true then
  (abf r1.2.1 3 0).bind fun r5 =>
  some ((r5.1.1, ()), ((⟨r5.2.1⟩ : AllocV), r4.2.1, ()))
 else
 (abf r1.2.1 1 (wi (r3.1.1))).bind fun r6 =>
 some ((r6.1.1, ()), ((⟨r6.2.1⟩ : AllocV), r4.2.1, ()))
noncomputable abbrev akc : Con SR1 := ⟨153, [.ref 35, .ref 27], [.sh .b], fun x => abP x.1 x.2.1⟩
theorem ac7 : CO Tryz.prog akc := aaq aap Tryz.func153 [abn, atr, au5, agi, acA] ⟨aa6, auW, atz, ag2, aby, trivial⟩ [] trivial (fun _ => []) [] fun x => by kernel_rfl
noncomputable def abK (y0 : PublishV) (y1 : EnvP) : Option ((Bool × Unit) × (PublishV × EnvP × Unit)) :=
 (aaA y0.o).bind fun r1 =>
 if r1.1.1 = true then
  some ((true, ()), (({ y0 with o := r1.2.1 } : PublishV), y1, ()))
 else
 (afj y1 y0.task).bind fun r2 =>
 if (!r2.1.1) = true then
  (abf r1.2.1 4 0).bind fun r3 =>
  some ((r3.1.1, ()), (({ y0 with o := r3.2.1 } : PublishV), r2.2.1, ()))
 else
 if y0.line = 1 then
  (ae5 r2.2.1.l y0.task).bind fun r4 =>
  if y0.level = y0.level then
   (aa2 r2.2.1.m r4.1.1 (wu (y0.level))).bind fun r5 =>
   some ((false, ()), (({ y0 with o := r1.2.1, line := wi (y0.line + 1) } : PublishV), ({ r2.2.1 with m := r5.2.1 } : EnvP), ()))
  else none
 else
 if y0.line = 2 then
  (aio r2.2.1.l y0.task).bind fun r6 =>
  (aqi r2.2.1.k).bind fun r7 =>
  (aa2 r2.2.1.m r6.1.1 (wu (r7.1.1))).bind fun r8 =>
  some ((false, ()), (({ y0 with o := r1.2.1, line := wi (y0.line + 1) } : PublishV), ({ r2.2.1 with m := r8.2.1, k := r7.2.1 } : EnvP), ()))
 else
 (adV r2.2.1.l y0.task).bind fun r9 =>
 (aa2 r2.2.1.m r9.1.1 1).bind fun r10 =>
 (abf r1.2.1 0 0).bind fun r11 =>
 some ((r11.1.1, ()), (({ y0 with o := r11.2.1 } : PublishV), ({ r2.2.1 with m := r10.2.1 } : EnvP), ()))
noncomputable abbrev akA : Con SR1 := ⟨246, [.ref 50, .ref 27], [.sh .b], fun x => abK x.1 x.2.1⟩
theorem adn : CO Tryz.prog akA := aaq aap Tryz.func246 [abn, agi, acA, agm, adK, ajv, amH, afF] ⟨aa6, ag2, aby, afP, ade, aiV, akh, aeT, trivial⟩ [] trivial (fun _ => []) [] fun x => by kernel_rfl
noncomputable def ac2 (y0 : ClaimV) (y1 : EnvP) : Option ((Bool × Unit) × (ClaimV × EnvP × Unit)) :=
 (aaA y0.o).bind fun r1 =>
 if r1.1.1 = true then
  some ((true, ()), (({ y0 with o := r1.2.1 } : ClaimV), y1, ()))
 else
 if y0.task = y0.task then
  if y0.worker = y0.worker then
   (adV y1.l y0.task).bind fun r2 =>
   (ary y1.m r2.1.1 1 2).bind fun r3 =>
   if (!r3.1.1) = true then
   (aee ({ y1 with m := r3.2.1 } : EnvP) ({ y0 with kind := 15, other := 0, level := 0 } : Ev)).bind fun r4 =>
   (abf r1.2.1 4 0).bind fun r5 =>
   some ((r5.1.1, ()), (({ y0 with o := r5.2.1 } : ClaimV), r4.2.1, ()))
   else
   if 0 ≤ y0.task ∧ y0.task < ((y1.recs.length : Nat) : Int) then
   if (aab y1.recs y0.task).started = true then
   (aee ({ y1 with m := r3.2.1 } : EnvP) ({ y0 with kind := 9, other := 0, level := 0 } : Ev)).bind fun r6 =>
   (abf r1.2.1 1 y0.task).bind fun r7 =>
   some ((r7.1.1, ()), (({ y0 with o := r7.2.1 } : ClaimV), r6.2.1, ()))
   else
   (aee ({ y1 with m := r3.2.1, recs := y1.recs.set y0.task.toNat ({ aab y1.recs y0.task with started := true } : RecP) } : EnvP) ({ y0 with kind := 5, other := 0, level := 0 } : Ev)).bind fun r8 =>
   (abf r1.2.1 1 y0.task).bind fun r9 =>
   some ((r9.1.1, ()), (({ y0 with o := r9.2.1 } : ClaimV), r8.2.1, ()))
   else none
  else none
 else none
noncomputable abbrev amS : Con SR1 := ⟨220, [.ref 45, .ref 27], [.sh .b], fun x => ac2 x.1 x.2.1⟩
theorem ad5 : CO Tryz.prog amS := aaq aap Tryz.func220 [abn, afF, ak6, afn, acA] ⟨aa6, aeT, ai0, aes, aby, trivial⟩ [] trivial (fun _ => []) [] fun x => by kernel_rfl
noncomputable def acE (y0 : AttemptV) (y1 : EnvP) : Option ((Bool × Unit) × (AttemptV × EnvP × Unit)) :=
 (aaA y0.o).bind fun r1 =>
 if r1.1.1 = true then
  some ((true, ()), (({ y0 with o := r1.2.1 } : AttemptV), y1, ()))
 else
 (axd y1.l).bind fun r2 =>
 if y0.owner = y0.owner then
  (ary y1.m r2.1.1 0 (wu (wi (y0.owner + 1)))).bind fun r3 =>
  if r3.1.1 = true then
   (abf r1.2.1 1 0).bind fun r4 =>
   some ((r4.1.1, ()), (({ y0 with o := r4.2.1 } : AttemptV), ({ y1 with m := r3.2.1 } : EnvP), ()))
  else
  if y0.once = true then
   (abf r1.2.1 5 0).bind fun r5 =>
   some ((r5.1.1, ()), (({ y0 with o := r5.2.1 } : AttemptV), ({ y1 with m := r3.2.1 } : EnvP), ()))
  else
  some ((false, ()), (({ y0 with o := r1.2.1 } : AttemptV), ({ y1 with m := r3.2.1 } : EnvP), ()))
 else none
noncomputable abbrev amh : Con SR1 := ⟨148, [.ref 34, .ref 27], [.sh .b], fun x => acE x.1 x.2.1⟩
theorem adM : CO Tryz.prog amh := aaq aap Tryz.func148 [abn, ats, ak6, acA] ⟨aa6, auX, ai0, aby, trivial⟩ [] trivial (fun _ => []) [] fun x => by kernel_rfl
noncomputable def acD (y0 : ReleaseV) (y1 : EnvP) : Option ((Bool × Unit) × (ReleaseV × EnvP × Unit)) :=
 (aaA y0.o).bind fun r1 =>
 if r1.1.1 = true then
  some ((true, ()), ((⟨r1.2.1⟩ : ReleaseV), y1, ()))
 else
 (axd y1.l).bind fun r2 =>
 (aa2 y1.m r2.1.1 0).bind fun r3 =>
 (abf r1.2.1 0 0).bind fun r4 =>
 some ((r4.1.1, ()), ((⟨r4.2.1⟩ : ReleaseV), ({ y1 with m := r3.2.1 } : EnvP), ()))
noncomputable abbrev amg : Con SR1 := ⟨163, [.ref 37, .ref 27], [.sh .b], fun x => acD x.1 x.2.1⟩
theorem adL : CO Tryz.prog amg := aaq aap Tryz.func163 [abn, ats, adK, acA] ⟨aa6, auX, ade, aby, trivial⟩ [] trivial (fun _ => []) [] fun x => by kernel_rfl
noncomputable def adr (y0 : OPushV) (y1 : EnvP) : Option ((Bool × Unit) × (OPushV × EnvP × Unit)) :=
 (aaA y0.o).bind fun r1 =>
 if r1.1.1 = true then
  some ((true, ()), (({ y0 with o := r1.2.1 } : OPushV), y1, ()))
 else
 if y0.line = 1 then
  (acv y1.m y0.q.bottom).bind fun r2 =>
  some ((false, ()), (({ y0 with o := r1.2.1, line := wi (y0.line + 1), b := r2.1.1 } : OPushV), ({ y1 with m := r2.2.1 } : EnvP), ()))
 else
 if y0.line = 2 then
  (acv y1.m y0.q.top).bind fun r3 =>
  (atq y0.b r3.1.1).bind fun r4 =>
  if y0.q.cap = y0.q.cap then
   if y0.q.cap ≤ r4.1.1 then
   (abf r1.2.1 3 0).bind fun r5 =>
   some ((r5.1.1, ()), (({ y0 with o := r5.2.1 } : OPushV), ({ y1 with m := r3.2.1 } : EnvP), ()))
   else
   some ((false, ()), (({ y0 with o := r1.2.1, line := wi (y0.line + 1) } : OPushV), ({ y1 with m := r3.2.1 } : EnvP), ()))
  else none
 else
 if y0.line = 3 then
  (atv y0.q y0.b).bind fun r6 =>
  if y0.value = y0.value then
   (aa2 y1.m r6.1.1 (wu (y0.value))).bind fun r7 =>
   some ((false, ()), (({ y0 with o := r1.2.1, line := wi (y0.line + 1) } : OPushV), ({ y1 with m := r7.2.1 } : EnvP), ()))
  else none
 else
 (aa2 y1.m y0.q.bottom (wu (y0.b + 1))).bind fun r8 =>
 (abf r1.2.1 0 0).bind fun r9 =>
 some ((r9.1.1, ()), (({ y0 with o := r9.2.1 } : OPushV), ({ y1 with m := r8.2.1 } : EnvP), ()))
noncomputable abbrev aoe : Con SR1 := ⟨251, [.ref 53, .ref 27], [.sh .b], fun x => adr x.1 x.2.1⟩
theorem aet : CO Tryz.prog aoe := aaq aap Tryz.func251 [abn, acz, al9, acA, aqm, adK] ⟨aa6, abL, ak4, aby, aql, ade, trivial⟩ [] trivial (fun _ => []) [] fun x => by kernel_rfl
noncomputable def ag5 (y0 : OPopV) (y1 : EnvP) : Option ((Int × Unit) × (OPopV × EnvP × Unit)) :=
 (acv y1.m y0.q.top).bind fun r1 =>
 (atq (wu (y0.b - 1)) r1.1.1).bind fun r2 =>
 if 0 < r2.1.1 then
  some ((5, ()), (({ y0 with t := r1.1.1 } : OPopV), ({ y1 with m := r1.2.1 } : EnvP), ()))
 else
 if r2.1.1 = 0 then
  some ((6, ()), (({ y0 with t := r1.1.1 } : OPopV), ({ y1 with m := r1.2.1 } : EnvP), ()))
 else
 some ((9, ()), (({ y0 with t := r1.1.1 } : OPopV), ({ y1 with m := r1.2.1 } : EnvP), ()))
noncomputable abbrev aip : Con SR1 := ⟨249, [.ref 52, .ref 27], [.sh sI_], fun x => ag5 x.1 x.2.1⟩
theorem amc : CO Tryz.prog aip := aaq aap Tryz.func249 [acz, al9] ⟨abL, ak4, trivial⟩ [] trivial (fun _ => []) [] fun x => by kernel_rfl
noncomputable def adW (y0 : OPopV) (y1 : EnvP) : Option ((Bool × Unit) × (OPopV × EnvP × Unit)) :=
 (aaA y0.o).bind fun r1 =>
 if r1.1.1 = true then
  some ((true, ()), (({ y0 with o := r1.2.1 } : OPopV), y1, ()))
 else
 if y0.line = 1 then
  (acv y1.m y0.q.bottom).bind fun r2 =>
  some ((false, ()), (({ y0 with o := r1.2.1, line := wi (y0.line + 1), b := r2.1.1 } : OPopV), ({ y1 with m := r2.2.1 } : EnvP), ()))
 else
 if y0.line = 2 then
  (acv y1.m y0.q.top).bind fun r3 =>
  (atq y0.b r3.1.1).bind fun r4 =>
  if r4.1.1 ≤ 0 then
   (abf r1.2.1 2 0).bind fun r5 =>
   some ((r5.1.1, ()), (({ y0 with o := r5.2.1, t := r3.1.1 } : OPopV), ({ y1 with m := r3.2.1 } : EnvP), ()))
  else
  some ((false, ()), (({ y0 with o := r1.2.1, line := wi (y0.line + 1), t := r3.1.1 } : OPopV), ({ y1 with m := r3.2.1 } : EnvP), ()))
 else
 if y0.line = 3 then
  (aa2 y1.m y0.q.bottom (wu (y0.b - 1))).bind fun r6 =>
  some ((false, ()), (({ y0 with o := r1.2.1, line := wi (y0.line + 1) } : OPopV), ({ y1 with m := r6.2.1 } : EnvP), ()))
 else
 if y0.line = 4 then
  (ag5 ({ y0 with o := r1.2.1 } : OPopV) y1).bind fun r7 =>
  some ((false, ()), (({ r7.2.1 with line := r7.1.1 } : OPopV), r7.2.2.1, ()))
 else
 if y0.line = 5 then
  if y0.line = 5 then
   (atv y0.q (wu (y0.b - 1))).bind fun r8 =>
   (acv y1.m r8.1.1).bind fun r9 =>
   (abf r1.2.1 1 (wi (r9.1.1))).bind fun r10 =>
   some ((r10.1.1, ()), (({ y0 with o := r10.2.1 } : OPopV), ({ y1 with m := r9.2.1 } : EnvP), ()))
  else
  if y0.line = 6 then
   (ary y1.m y0.q.top y0.t (wu (y0.t + 1))).bind fun r11 =>
   if (!r11.1.1) = true then
   some ((false, ()), (({ y0 with o := r1.2.1, line := 9 } : OPopV), ({ y1 with m := r11.2.1 } : EnvP), ()))
   else
   some ((false, ()), (({ y0 with o := r1.2.1, line := wi (y0.line + 1) } : OPopV), ({ y1 with m := r11.2.1 } : EnvP), ()))
  else
  if y0.line = 7 then
   (aa2 y1.m y0.q.bottom y0.b).bind fun r12 =>
   some ((false, ()), (({ y0 with o := r1.2.1, line := wi (y0.line + 1) } : OPopV), ({ y1 with m := r12.2.1 } : EnvP), ()))
  else
  (aa2 y1.m y0.q.bottom y0.b).bind fun r13 =>
  (abf r1.2.1 2 0).bind fun r14 =>
  some ((r14.1.1, ()), (({ y0 with o := r14.2.1 } : OPopV), ({ y1 with m := r13.2.1 } : EnvP), ()))
 else
 if y0.line = 8 then
  (atv y0.q (wu (y0.b - 1))).bind fun r15 =>
  (acv y1.m r15.1.1).bind fun r16 =>
  (abf r1.2.1 1 (wi (r16.1.1))).bind fun r17 =>
  some ((r17.1.1, ()), (({ y0 with o := r17.2.1 } : OPopV), ({ y1 with m := r16.2.1 } : EnvP), ()))
 else
 if y0.line = 6 then
  (ary y1.m y0.q.top y0.t (wu (y0.t + 1))).bind fun r18 =>
  if (!r18.1.1) = true then
   some ((false, ()), (({ y0 with o := r1.2.1, line := 9 } : OPopV), ({ y1 with m := r18.2.1 } : EnvP), ()))
  else
  some ((false, ()), (({ y0 with o := r1.2.1, line := wi (y0.line + 1) } : OPopV), ({ y1 with m := r18.2.1 } : EnvP), ()))
 else
 if y0.line = 7 then
  (aa2 y1.m y0.q.bottom y0.b).bind fun r19 =>
  some ((false, ()), (({ y0 with o := r1.2.1, line := wi (y0.line + 1) } : OPopV), ({ y1 with m := r19.2.1 } : EnvP), ()))
 else
 (aa2 y1.m y0.q.bottom y0.b).bind fun r20 =>
 (abf r1.2.1 2 0).bind fun r21 =>
 some ((r21.1.1, ()), (({ y0 with o := r21.2.1 } : OPopV), ({ y1 with m := r20.2.1 } : EnvP), ()))
noncomputable abbrev ao8 : Con SR1 := ⟨248, [.ref 52, .ref 27], [.sh .b], fun x => adW x.1 x.2.1⟩
theorem aeV : CO Tryz.prog ao8 := aaq aap Tryz.func248 [abn, acz, al9, acA, adK, aip, aqm, ak6] ⟨aa6, abL, ak4, aby, ade, amc, aql, ai0, trivial⟩ [] trivial (fun _ => []) [] fun x => by kernel_rfl
noncomputable def ac1 (y0 : StealV) (y1 : EnvP) : Option ((Bool × Unit) × (StealV × EnvP × Unit)) :=
 (aaA y0.o).bind fun r1 =>
 if r1.1.1 = true then
  some ((true, ()), (({ y0 with o := r1.2.1 } : StealV), y1, ()))
 else
 if y0.line = 1 then
  (acv y1.m y0.q.top).bind fun r2 =>
  some ((false, ()), (({ y0 with o := r1.2.1, line := wi (y0.line + 1), t := r2.1.1 } : StealV), ({ y1 with m := r2.2.1 } : EnvP), ()))
 else
 if y0.line = 2 then
  (acv y1.m y0.q.bottom).bind fun r3 =>
  (atq r3.1.1 y0.t).bind fun r4 =>
  if r4.1.1 ≤ 0 then
   (abf r1.2.1 2 0).bind fun r5 =>
   some ((r5.1.1, ()), (({ y0 with o := r5.2.1 } : StealV), ({ y1 with m := r3.2.1 } : EnvP), ()))
  else
  some ((false, ()), (({ y0 with o := r1.2.1, line := wi (y0.line + 1) } : StealV), ({ y1 with m := r3.2.1 } : EnvP), ()))
 else
 if y0.line = 3 then
  (atv y0.q y0.t).bind fun r6 =>
  (acv y1.m r6.1.1).bind fun r7 =>
  some ((false, ()), (({ y0 with o := r1.2.1, line := wi (y0.line + 1), value := r7.1.1 } : StealV), ({ y1 with m := r7.2.1 } : EnvP), ()))
 else
 (ary y1.m y0.q.top y0.t (wu (y0.t + 1))).bind fun r8 =>
 if r8.1.1 = true then
  (abf r1.2.1 1 (wi (y0.value))).bind fun r9 =>
  some ((r9.1.1, ()), (({ y0 with o := r9.2.1 } : StealV), ({ y1 with m := r8.2.1 } : EnvP), ()))
 else
 (abf r1.2.1 4 0).bind fun r10 =>
 some ((r10.1.1, ()), (({ y0 with o := r10.2.1 } : StealV), ({ y1 with m := r8.2.1 } : EnvP), ()))
noncomputable abbrev amQ : Con SR1 := ⟨188, [.ref 42, .ref 27], [.sh .b], fun x => ac1 x.1 x.2.1⟩
theorem ad4 : CO Tryz.prog amQ := aaq aap Tryz.func188 [abn, acz, al9, acA, aqm, ak6] ⟨aa6, abL, ak4, aby, aql, ai0, trivial⟩ [] trivial (fun _ => []) [] fun x => by kernel_rfl
noncomputable def adt (y0 : SetV) (y1 : EnvP) : Option ((Bool × Unit) × (SetV × EnvP × Unit)) :=
 (aaA y0.o).bind fun r1 =>
 if r1.1.1 = true then
  some ((true, ()), (({ y0 with o := r1.2.1 } : SetV), y1, ()))
 else
 (ayL y0.bit).bind fun r2 =>
 if y0.cell = y0.cell then
  (pOr y1.m y0.cell r2.1.1).bind fun r3 =>
  (abf r1.2.1 0 0).bind fun r4 =>
  some ((r4.1.1, ()), (({ y0 with o := r4.2.1 } : SetV), ({ y1 with m := r3.2.1 } : EnvP), ()))
 else none
noncomputable abbrev aoX : Con SR1 := ⟨253, [.ref 54, .ref 27], [.sh .b], fun x => adt x.1 x.2.1⟩
theorem aew : CO Tryz.prog aoX := aaq aap Tryz.func253 [abn, asa, azB, acA] ⟨aa6, aqo, axb, aby, trivial⟩ [] trivial (fun _ => []) [] fun x => by kernel_rfl
noncomputable def acI (y0 : ResetV) (y1 : EnvP) : Option ((Bool × Unit) × (ResetV × EnvP × Unit)) :=
 (aaA y0.o).bind fun r1 =>
 if r1.1.1 = true then
  some ((true, ()), (({ y0 with o := r1.2.1 } : ResetV), y1, ()))
 else
 (ayL y0.bit).bind fun r2 =>
 if y0.line = 1 then
  (aAF y1.m y0.cell (aAi r2.1.1)).bind fun r3 =>
  some ((false, ()), (({ y0 with o := r1.2.1, line := wi (y0.line + 1) } : ResetV), ({ y1 with m := r3.2.1 } : EnvP), ()))
 else
 if y0.line = 2 then
  (acv y1.m y0.q.bottom).bind fun r4 =>
  some ((false, ()), (({ y0 with o := r1.2.1, line := wi (y0.line + 1), b := r4.1.1 } : ResetV), ({ y1 with m := r4.2.1 } : EnvP), ()))
 else
 if y0.line = 3 then
  (acv y1.m y0.q.top).bind fun r5 =>
  (atq y0.b r5.1.1).bind fun r6 =>
  if r6.1.1 ≤ 0 then
   (abf r1.2.1 2 0).bind fun r7 =>
   some ((r7.1.1, ()), (({ y0 with o := r7.2.1 } : ResetV), ({ y1 with m := r5.2.1 } : EnvP), ()))
  else
  some ((false, ()), (({ y0 with o := r1.2.1, line := wi (y0.line + 1) } : ResetV), ({ y1 with m := r5.2.1 } : EnvP), ()))
 else
 (pOr y1.m y0.cell r2.1.1).bind fun r8 =>
 (abf r1.2.1 1 0).bind fun r9 =>
 some ((r9.1.1, ()), (({ y0 with o := r9.2.1 } : ResetV), ({ y1 with m := r8.2.1 } : EnvP), ()))
noncomputable abbrev amo : Con SR1 := ⟨192, [.ref 43, .ref 27], [.sh .b], fun x => acI x.1 x.2.1⟩
theorem adO : CO Tryz.prog amo := aaq aap Tryz.func192 [abn, asa, au4, acz, al9, acA, azB] ⟨aa6, aqo, aty, abL, ak4, aby, axb, trivial⟩ [] trivial (fun _ => []) [] fun x => by kernel_rfl
noncomputable def ads (y0 : InsertV) : Option ((Int × Unit) × (InsertV × Unit)) :=
 if 0 < y0.i then
  some ((3, ()), (y0, ()))
 else
 some ((5, ()), (y0, ()))
noncomputable abbrev afV : Con SR1 := ⟨160, [.ref 36], [.sh sI_], fun x => ads x.1⟩
theorem aiB : CO Tryz.prog afV := aaq aap Tryz.func160 [] trivial [] trivial (fun _ => []) [] fun x => by kernel_rfl
end Go.Proofs.YtclaldommncdbaaGreat
