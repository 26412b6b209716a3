/- The program's machines in the evaluator's form. -/
import Derived.Test.YtlcelajkhklkbaaGreatWcai
import Derived.Test.YtlcelajkhklkbaaGreatWcaj
set_option linter.all false
namespace Go.Proofs.YtlcelajkhklkbaaGreat
open Go Go.RowKit
set_option maxRecDepth 100000
variable [Tb]
noncomputable def azL (x : Int) : Option ((Int × Unit) × (Unit)) :=
 if x = 0 then
  some (((-1), ()), (()))
 else
 (pTz x).bind fun r1 =>
 some ((r1.1.1, ()), (()))
noncomputable abbrev av8 : Con SR1 := ⟨223, [.sh sU_], [.sh sI_], fun x => azL x.1⟩
theorem axi : CO Tryz.prog av8 := aaq aap Tryz.func223 [axf] ⟨ayL, trivial⟩ [] trivial (fun _ => []) [] fun x => by kernel_rfl
noncomputable def aau (o : OutV) : Option ((Bool × Unit) × (OutV × Unit)) :=
 some ((o.ended, ()), (o, ()))
noncomputable abbrev aa8 : Con SR1 := ⟨128, [.ref 23], [.sh .b], fun x => aau x.1⟩
theorem aaT : CO Tryz.prog aa8 := aaq aap Tryz.func128 [] trivial [] trivial (fun _ => []) [] fun x => by kernel_rfl
noncomputable def aaX (o : OutV) (code : Int) (value : Int) : Option ((Bool × Unit) × (OutV × Unit)) :=
 some ((true, ()), ((⟨true, code, value⟩ : OutV), ()))
noncomputable abbrev abU : Con SR1 := ⟨132, [.ref 23, .sh sI_, .sh sI_], [.sh .b], fun x => aaX x.1 x.2.1 x.2.2.1⟩
theorem abc : CO Tryz.prog abU := aaq aap Tryz.func132 [] trivial [] trivial (fun _ => []) [] fun x => by kernel_rfl
noncomputable def axg (o : OutV) : Option ((Int × Int × Unit) × (OutV × Unit)) :=
 some ((o.code, o.value, ()), (o, ()))
noncomputable abbrev aah : Con SR1 := ⟨129, [.ref 23], [.sh sI_, .sh sI_], fun x => axg x.1⟩
theorem aad : CO Tryz.prog aah := aaq aap Tryz.func129 [] trivial [] trivial (fun _ => []) [] fun x => by kernel_rfl
noncomputable def ab3 (m : MemV) (a : Int) : Option ((Int × Unit) × (MemV × Unit)) :=
 if a < 0 then
  some ((0, ()), (m, ()))
 else
 if ((m.cells.length : Nat) : Int) ≤ a then
  some ((0, ()), (m, ()))
 else
 if 0 ≤ a ∧ a < ((m.cells.length : Nat) : Int) then
  if 0 ≤ a ∧ a < ((m.cells.length : Nat) : Int) then
   if 0 ≤ a ∧ a < (((m.cells.set a.toNat (aeG m.cells a)).length : Nat) : Int) then
   some ((aeG m.cells a, ()), ((⟨m.cells.set a.toNat (aeG m.cells a), ⟨1, a, aeG m.cells a, aeG (m.cells.set a.toNat (aeG m.cells a)) a⟩, wi (m.count + 1)⟩ : MemV), ()))
   else none
  else none
 else none
noncomputable abbrev ab2 : Con SR1 := ⟨150, [.ref 9, .sh sI_], [.sh sU_], fun x => ab3 x.1 x.2.1⟩
noncomputable def au5 : List (Nat × Func) := [(46, Tryz.f46), (157, Tryz.f157)]
theorem abz : CO Tryz.prog ab2 := aaq aap Tryz.func150 [] trivial au5 ⟨Tryz.func46, Tryz.func157, trivial⟩ (fun _ => []) [] fun x => by kernel_rfl
noncomputable def aa4 (m : MemV) (a : Int) (v : Int) : Option ((Unit) × (MemV × Unit)) :=
 if a < 0 then
  some ((()), (m, ()))
 else
 if ((m.cells.length : Nat) : Int) ≤ a then
  some ((()), (m, ()))
 else
 if 0 ≤ a ∧ a < ((m.cells.length : Nat) : Int) then
  if 0 ≤ a ∧ a < ((m.cells.length : Nat) : Int) then
   if 0 ≤ a ∧ a < (((m.cells.set a.toNat v).length : Nat) : Int) then
   some ((()), ((⟨m.cells.set a.toNat v, ⟨2, a, aeG m.cells a, aeG (m.cells.set a.toNat v) a⟩, wi (m.count + 1)⟩ : MemV), ()))
   else none
  else none
 else none
noncomputable abbrev acW : Con SR1 := ⟨25, [.ref 9, .sh sI_, .sh sU_], [], fun x => aa4 x.1 x.2.1 x.2.2.1⟩
noncomputable def asP : List (Nat × Func) := [(46, Tryz.f46), (47, Tryz.f47)]
theorem act : CO Tryz.prog acW := aaq aap Tryz.func25 [] trivial asP ⟨Tryz.func46, Tryz.func47, trivial⟩ (fun _ => []) [] fun x => by kernel_rfl
noncomputable def an1 (m : MemV) (a : Int) (old : Int) (v : Int) : Option ((Bool × Unit) × (MemV × Unit)) :=
 if a < 0 then
  some ((false, ()), (m, ()))
 else
 if ((m.cells.length : Nat) : Int) ≤ a then
  some ((false, ()), (m, ()))
 else
 if 0 ≤ a ∧ a < ((m.cells.length : Nat) : Int) then
  if (aeG m.cells a) = old then
   if 0 ≤ a ∧ a < ((m.cells.length : Nat) : Int) then
   if 0 ≤ a ∧ a < (((m.cells.set a.toNat v).length : Nat) : Int) then
   some ((decide ((aeG m.cells a) = old), ()), ((⟨m.cells.set a.toNat v, ⟨3, a, aeG m.cells a, aeG (m.cells.set a.toNat v) a⟩, wi (m.count + 1)⟩ : MemV), ()))
   else none
   else none
  else
  if 0 ≤ a ∧ a < ((m.cells.length : Nat) : Int) then
   if 0 ≤ a ∧ a < (((m.cells.set a.toNat (aeG m.cells a)).length : Nat) : Int) then
   some ((decide ((aeG m.cells a) = old), ()), ((⟨m.cells.set a.toNat (aeG m.cells a), ⟨3, a, aeG m.cells a, aeG (m.cells.set a.toNat (aeG m.cells a)) a⟩, wi (m.count + 1)⟩ : MemV), ()))
   else none
  else none
 else none
noncomputable abbrev aiX : Con SR1 := ⟨148, [.ref 9, .sh sI_, .sh sU_, .sh sU_], [.sh .b], fun x => an1 x.1 x.2.1 x.2.2.1 x.2.2.2.1⟩
noncomputable def axj : List (Nat × Func) := [(46, Tryz.f46), (156, Tryz.f156)]
theorem ag5 : CO Tryz.prog aiX := aaq aap Tryz.func148 [] trivial axj ⟨Tryz.func46, Tryz.func156, trivial⟩ (fun _ => []) [] fun x => by kernel_rfl
noncomputable def pOr (m : MemV) (a : Int) (v : Int) : Option ((Int × Unit) × (MemV × Unit)) :=
 if a < 0 then
  some ((0, ()), (m, ()))
 else
 if ((m.cells.length : Nat) : Int) ≤ a then
  some ((0, ()), (m, ()))
 else
 if 0 ≤ a ∧ a < ((m.cells.length : Nat) : Int) then
  if 0 ≤ a ∧ a < ((m.cells.length : Nat) : Int) then
   if 0 ≤ a ∧ a < (((m.cells.set a.toNat (orU (aeG m.cells a) v)).length : Nat) : Int) then
   some ((aeG m.cells a, ()), ((⟨m.cells.set a.toNat (orU (aeG m.cells a) v), ⟨4, a, aeG m.cells a, aeG (m.cells.set a.toNat (orU (aeG m.cells a) v)) a⟩, wi (m.count + 1)⟩ : MemV), ()))
   else none
  else none
 else none
noncomputable abbrev asQ : Con SR1 := ⟨27, [.ref 9, .sh sI_, .sh sU_], [.sh sU_], fun x => pOr x.1 x.2.1 x.2.2.1⟩
noncomputable def ayM : List (Nat × Func) := [(46, Tryz.f46), (48, Tryz.f48)]
theorem aqN : CO Tryz.prog asQ := aaq aap Tryz.func27 [] trivial ayM ⟨Tryz.func46, Tryz.func48, trivial⟩ (fun _ => []) [] fun x => by kernel_rfl
noncomputable def av9 (m : MemV) (a : Int) (v : Int) : Option ((Int × Unit) × (MemV × Unit)) :=
 if a < 0 then
  some ((0, ()), (m, ()))
 else
 if ((m.cells.length : Nat) : Int) ≤ a then
  some ((0, ()), (m, ()))
 else
 if 0 ≤ a ∧ a < ((m.cells.length : Nat) : Int) then
  if 0 ≤ a ∧ a < ((m.cells.length : Nat) : Int) then
   if 0 ≤ a ∧ a < (((m.cells.set a.toNat (aqe (aeG m.cells a) v)).length : Nat) : Int) then
   some ((aeG m.cells a, ()), ((⟨m.cells.set a.toNat (aqe (aeG m.cells a) v), ⟨5, a, aeG m.cells a, aeG (m.cells.set a.toNat (aqe (aeG m.cells a) v)) a⟩, wi (m.count + 1)⟩ : MemV), ()))
   else none
  else none
 else none
noncomputable abbrev aqV : Con SR1 := ⟨178, [.ref 9, .sh sI_, .sh sU_], [.sh sU_], fun x => av9 x.1 x.2.1 x.2.2.1⟩
noncomputable def axk : List (Nat × Func) := [(46, Tryz.f46), (180, Tryz.f180)]
theorem apO : CO Tryz.prog aqV := aaq aap Tryz.func178 [] trivial axk ⟨Tryz.func46, Tryz.func180, trivial⟩ (fun _ => []) [] fun x => by kernel_rfl
noncomputable def ayN (m : MemV) (a : Int) (v : Int) : Option ((Int × Unit) × (MemV × Unit)) :=
 if a < 0 then
  some ((0, ()), (m, ()))
 else
 if ((m.cells.length : Nat) : Int) ≤ a then
  some ((0, ()), (m, ()))
 else
 if 0 ≤ a ∧ a < ((m.cells.length : Nat) : Int) then
  if 0 ≤ a ∧ a < ((m.cells.length : Nat) : Int) then
   if 0 ≤ a ∧ a < (((m.cells.set a.toNat (wu ((aeG m.cells a) + v))).length : Nat) : Int) then
   some ((aeG m.cells a, ()), ((⟨m.cells.set a.toNat (wu ((aeG m.cells a) + v)), ⟨6, a, aeG m.cells a, aeG (m.cells.set a.toNat (wu ((aeG m.cells a) + v))) a⟩, wi (m.count + 1)⟩ : MemV), ()))
   else none
  else none
 else none
noncomputable abbrev asY : Con SR1 := ⟨162, [.ref 9, .sh sI_, .sh sU_], [.sh sU_], fun x => ayN x.1 x.2.1 x.2.2.1⟩
noncomputable def axl : List (Nat × Func) := [(46, Tryz.f46), (165, Tryz.f165)]
theorem asX : CO Tryz.prog asY := aaq aap Tryz.func162 [] trivial axl ⟨Tryz.func46, Tryz.func165, trivial⟩ (fun _ => []) [] fun x => by kernel_rfl
noncomputable def apI (k : ClkV) : Option ((Int × Unit) × (ClkV × Unit)) :=
 some ((k.now, ()), (k, ()))
noncomputable abbrev alm : Con SR1 := ⟨169, [.ref 25], [.sh sI_], fun x => apI x.1⟩
theorem ajL : CO Tryz.prog alm := aaq aap Tryz.func169 [] trivial [] trivial (fun _ => []) [] fun x => by kernel_rfl
noncomputable def au9 (k : ClkV) (n : Int) : Option ((Int × Unit) × (ClkV × Unit)) :=
 if n < 1 then
  some ((0, ()), (k, ()))
 else
 if n ≠ 0 then
  if (Int.tmod k.draw n) < 0 then
   some ((wi ((Int.tmod k.draw n) + n), ()), (k, ()))
  else
  some (((Int.tmod k.draw n), ()), (k, ()))
 else none
noncomputable abbrev asU : Con SR1 := ⟨212, [.ref 25, .sh sI_], [.sh sI_], fun x => au9 x.1 x.2.1⟩
theorem au7 : CO Tryz.prog asU := aaq aap Tryz.func212 [] trivial [] trivial (fun _ => []) [] fun x => by kernel_rfl
noncomputable def aum (n : Int) : Option ((Int × Unit) × (Unit)) :=
 if n < 0 then
  some ((0, ()), (()))
 else
 if 63 < n then
  some ((0, ()), (()))
 else
 if 0 ≤ wu (n) then
  some ((wu (1 * 2 ^ min (wu (n) : Int).toNat IntKind.u64.bits), ()), (()))
 else none
noncomputable abbrev aoF : Con SR1 := ⟨174, [.sh sI_], [.sh sU_], fun x => aum x.1⟩
theorem anq : CO Tryz.prog aoF := aaq aap Tryz.func174 [] trivial [] trivial (fun _ => []) [] fun x => by kernel_rfl
noncomputable def aul (a : Int) (n : Int) : Option ((Int × Unit) × (Unit)) :=
 if n < 1 then
  some ((0, ()), (()))
 else
 if n ≠ 0 then
  if (Int.tmod a n) < 0 then
   some ((wi ((Int.tmod a n) + n), ()), (()))
  else
  some (((Int.tmod a n), ()), (()))
 else none
noncomputable abbrev aoC : Con SR1 := ⟨68, [.sh sI_, .sh sI_], [.sh sI_], fun x => aul x.1 x.2.1⟩
theorem anl : CO Tryz.prog aoC := aaq aap Tryz.func68 [] trivial [] trivial (fun _ => []) [] fun x => by kernel_rfl
noncomputable def apH (b : Int) (t : Int) : Option ((Int × Unit) × (Unit)) :=
 some ((wi (wu (b - t)), ()), (()))
noncomputable abbrev ajK : Con SR1 := ⟨200, [.sh sU_, .sh sU_], [.sh sI_], fun x => apH x.1 x.2.1⟩
theorem aiQ : CO Tryz.prog ajK := aaq aap Tryz.func200 [] trivial [] trivial (fun _ => []) [] fun x => by kernel_rfl
noncomputable def apM (q : QV) (i : Int) : Option ((Int × Unit) × (Unit)) :=
 if q.cap < 1 then
  some (((-1), ()), (()))
 else
 if (wu (q.cap)) ≠ 0 then
  some ((wi (q.ring + (wi ((Int.tmod i (wu (q.cap)))))), ()), (()))
 else none
noncomputable abbrev ano : Con SR1 := ⟨201, [.val 14, .sh sU_], [.sh sI_], fun x => apM x.1 x.2.1⟩
theorem ann : CO Tryz.prog ano := aaq aap Tryz.func201 [] trivial [] trivial (fun _ => []) [] fun x => by kernel_rfl
noncomputable def pAt (i : Int) (n : Int) (a : Int) (w : Int) : Option ((Int × Unit) × (Unit)) :=
 if i < 0 then
  some (((-1), ()), (()))
 else
 if n ≤ i then
  some (((-1), ()), (()))
 else
 some ((wi (a + (wi (i * w))), ()), (()))
noncomputable abbrev apN : Con SR1 := ⟨85, [.sh sI_, .sh sI_, .sh sI_, .sh sI_], [.sh sI_], fun x => pAt x.1 x.2.1 x.2.2.1 x.2.2.2.1⟩
theorem amy : CO Tryz.prog apN := aaq aap Tryz.func85 [] trivial [] trivial (fun _ => []) [] fun x => by kernel_rfl
noncomputable def aoA (l : LayV) (t : Int) (f : Int) : Option ((Int × Unit) × (Unit)) :=
 (pAt t l.tasks (wi (l.table + f)) 5).bind fun r1 =>
 some ((r1.1.1, ()), (()))
noncomputable abbrev ajJ : Con SR1 := ⟨155, [.val 24, .sh sI_, .sh sI_], [.sh sI_], fun x => aoA x.1 x.2.1 x.2.2.1⟩
theorem aiO : CO Tryz.prog ajJ := aaq aap Tryz.func155 [apN] ⟨amy, trivial⟩ [] trivial (fun _ => []) [] fun x => by kernel_rfl
noncomputable def axh (l : LayV) : Option ((Int × Unit) × (Unit)) :=
 some ((0, ()), (()))
noncomputable abbrev asR : Con SR1 := ⟨163, [.val 24], [.sh sI_], fun x => axh x.1⟩
theorem au4 : CO Tryz.prog asR := aaq aap Tryz.func163 [] trivial [] trivial (fun _ => []) [] fun x => by kernel_rfl
noncomputable def aef (l : LayV) (t : Int) : Option ((Int × Unit) × (Unit)) :=
 (aoA l t 0).bind fun r1 =>
 some ((r1.1.1, ()), (()))
noncomputable abbrev afg : Con SR1 := ⟨147, [.val 24, .sh sI_], [.sh sI_], fun x => aef x.1 x.2.1⟩
theorem aeU : CO Tryz.prog afg := aaq aap Tryz.func147 [ajJ] ⟨aiO, trivial⟩ [] trivial (fun _ => []) [] fun x => by kernel_rfl
noncomputable def aeZ (l : LayV) (t : Int) : Option ((Int × Unit) × (Unit)) :=
 (aoA l t 1).bind fun r1 =>
 some ((r1.1.1, ()), (()))
noncomputable abbrev afi : Con SR1 := ⟨151, [.val 24, .sh sI_], [.sh sI_], fun x => aeZ x.1 x.2.1⟩
theorem aeX : CO Tryz.prog afi := aaq aap Tryz.func151 [ajJ] ⟨aiO, trivial⟩ [] trivial (fun _ => []) [] fun x => by kernel_rfl
noncomputable def aiU (l : LayV) (t : Int) : Option ((Int × Unit) × (Unit)) :=
 (aoA l t 4).bind fun r1 =>
 some ((r1.1.1, ()), (()))
noncomputable abbrev aiS : Con SR1 := ⟨168, [.val 24, .sh sI_], [.sh sI_], fun x => aiU x.1 x.2.1⟩
theorem aiR : CO Tryz.prog aiS := aaq aap Tryz.func168 [ajJ] ⟨aiO, trivial⟩ [] trivial (fun _ => []) [] fun x => by kernel_rfl
noncomputable def ag2 (l : LayV) (t : Int) : Option ((Int × Unit) × (Unit)) :=
 (aoA l t 3).bind fun r1 =>
 some ((r1.1.1, ()), (()))
noncomputable abbrev akO : Con SR1 := ⟨140, [.val 24, .sh sI_], [.sh sI_], fun x => ag2 x.1 x.2.1⟩
theorem alk : CO Tryz.prog akO := aaq aap Tryz.func140 [ajJ] ⟨aiO, trivial⟩ [] trivial (fun _ => []) [] fun x => by kernel_rfl
noncomputable def akB (l : LayV) (t : Int) : Option ((Int × Unit) × (Unit)) :=
 (aoA l t 2).bind fun r1 =>
 some ((r1.1.1, ()), (()))
noncomputable abbrev apK : Con SR1 := ⟨149, [.val 24, .sh sI_], [.sh sI_], fun x => akB x.1 x.2.1⟩
theorem aqP : CO Tryz.prog apK := aaq aap Tryz.func149 [ajJ] ⟨aiO, trivial⟩ [] trivial (fun _ => []) [] fun x => by kernel_rfl
noncomputable def asT (l : LayV) : Option ((Int × Unit) × (Unit)) :=
 some ((1, ()), (()))
noncomputable abbrev apJ : Con SR1 := ⟨236, [.val 24], [.sh sI_], fun x => asT x.1⟩
theorem aqO : CO Tryz.prog apJ := aaq aap Tryz.func236 [] trivial [] trivial (fun _ => []) [] fun x => by kernel_rfl
noncomputable def aiV (l : LayV) : Option ((Int × Unit) × (Unit)) :=
 some ((2, ()), (()))
noncomputable abbrev akQ : Con SR1 := ⟨175, [.val 24], [.sh sI_], fun x => aiV x.1⟩
theorem aln : CO Tryz.prog akQ := aaq aap Tryz.func175 [] trivial [] trivial (fun _ => []) [] fun x => by kernel_rfl
noncomputable def ank (l : LayV) (i : Int) : Option ((Int × Unit) × (Unit)) :=
 (pAt i l.heap 4 1).bind fun r1 =>
 some ((r1.1.1, ()), (()))
noncomputable abbrev apG : Con SR1 := ⟨241, [.val 24, .sh sI_], [.sh sI_], fun x => ank x.1 x.2.1⟩
theorem aqM : CO Tryz.prog apG := aaq aap Tryz.func241 [apN] ⟨amy, trivial⟩ [] trivial (fun _ => []) [] fun x => by kernel_rfl
noncomputable def amx (l : LayV) (w : Int) : Option ((Int × Unit) × (Unit)) :=
 (pAt w l.workers l.epochs 1).bind fun r1 =>
 some ((r1.1.1, ()), (()))
noncomputable abbrev akR : Con SR1 := ⟨172, [.val 24, .sh sI_], [.sh sI_], fun x => amx x.1 x.2.1⟩
theorem alo : CO Tryz.prog akR := aaq aap Tryz.func172 [apN] ⟨amy, trivial⟩ [] trivial (fun _ => []) [] fun x => by kernel_rfl
noncomputable def aeV (l : LayV) (l0 : Int) : Option ((Int × Unit) × (Unit)) :=
 (pAt l0 l.classes l.sleepers 1).bind fun r1 =>
 some ((r1.1.1, ()), (()))
noncomputable abbrev aid : Con SR1 := ⟨179, [.val 24, .sh sI_], [.sh sI_], fun x => aeV x.1 x.2.1⟩
theorem akc : CO Tryz.prog aid := aaq aap Tryz.func179 [apN] ⟨amy, trivial⟩ [] trivial (fun _ => []) [] fun x => by kernel_rfl
noncomputable def afn (l : LayV) (w : Int) : Option ((Int × Unit) × (Unit)) :=
 (pAt w l.workers l.bitmaps 1).bind fun r1 =>
 some ((r1.1.1, ()), (()))
noncomputable abbrev ae1 : Con SR1 := ⟨77, [.val 24, .sh sI_], [.sh sI_], fun x => afn x.1 x.2.1⟩
theorem aeF : CO Tryz.prog ae1 := aaq aap Tryz.func77 [apN] ⟨amy, trivial⟩ [] trivial (fun _ => []) [] fun x => by kernel_rfl
noncomputable def aeW (l : LayV) (w : Int) (v : Int) : Option ((QV × Unit) × (Unit)) :=
 (pAt w l.workers l.queues (wi (l.levels * (wi (2 + l.deque))))).bind fun r1 =>
 (pAt v l.levels r1.1.1 (wi (2 + l.deque))).bind fun r2 =>
 if r1.1.1 < 0 then
  some (((⟨(-1), (-1), (-1), 0⟩ : QV), ()), (()))
 else
 if r2.1.1 < 0 then
  some (((⟨(-1), (-1), (-1), 0⟩ : QV), ()), (()))
 else
 some (((⟨r2.1.1, wi (r2.1.1 + 1), wi (r2.1.1 + 2), l.deque⟩ : QV), ()), (()))
noncomputable abbrev ahy : Con SR1 := ⟨74, [.val 24, .sh sI_, .sh sI_], [.val 14], fun x => aeW x.1 x.2.1 x.2.2.1⟩
theorem ag3 : CO Tryz.prog ahy := aaq aap Tryz.func74 [apN] ⟨amy, trivial⟩ [] trivial (fun _ => []) [] fun x => by kernel_rfl
noncomputable def aqU (l : LayV) : Option ((Int × Unit) × (Unit)) :=
 some ((wi (l.table + (wi (5 * l.tasks))), ()), (()))
noncomputable abbrev aqT : Con SR1 := ⟨43, [.val 24], [.sh sI_], fun x => aqU x.1⟩
theorem asW : CO Tryz.prog aqT := aaq aap Tryz.func43 [] trivial [] trivial (fun _ => []) [] fun x => by kernel_rfl
noncomputable def adu (e : EnvP) (v : Ev) : Option ((Unit) × (EnvP × Unit)) :=
 if (((e.evs.length + ([v] : List Ev).length : Nat)) : Int) < 1000000000000 then
  some ((()), (({ e with evs := e.evs ++ ([v]) } : EnvP), ()))
 else none
noncomputable abbrev ae0 : Con SR1 := ⟨75, [.ref 27, .val 2], [], fun x => adu x.1 x.2.1⟩
theorem ad6 : CO Tryz.prog ae0 := aaq aap Tryz.func75 [] trivial [] trivial (fun _ => []) [] fun x => by kernel_rfl
noncomputable def aoE (l : Int) (n : Int) (c : Int) : Option ((Int × Unit) × (Unit)) :=
 if n < 1 then
  some ((0, ()), (()))
 else
 if 64 < n then
  some ((0, ()), (()))
 else
 if c < 1 then
  some ((0, ()), (()))
 else
 if 8 < c then
  some ((0, ()), (()))
 else
 if l < 0 then
  some ((0, ()), (()))
 else
 if n ≤ l then
  some ((0, ()), (()))
 else
 if n ≠ 0 then
  some ((wi (Int.tdiv (wi (l * c)) n), ()), (()))
 else none
noncomputable abbrev aqS : Con SR1 := ⟨224, [.sh sI_, .sh sI_, .sh sI_], [.sh sI_], fun x => aoE x.1 x.2.1 x.2.2.1⟩
theorem asV : CO Tryz.prog aqS := aaq aap Tryz.func224 [] trivial [] trivial (fun _ => []) [] fun x => by kernel_rfl
noncomputable def apF (k : Int) : Option ((Int × Int × Int × Unit) × (Unit)) :=
 some ((wi (Int.fdiv k (2 ^ min (40 : Int).toNat IntKind.u64.bits)), wi (aqe (Int.fdiv k (2 ^ min (16 : Int).toNat IntKind.u64.bits)) 16777215), wi (aqe k 65535), ()), (()))
noncomputable abbrev aoz : Con SR1 := ⟨246, [.sh sU_], [.sh sI_, .sh sI_, .sh sI_], fun x => apF x.1⟩
theorem arF : CO Tryz.prog aoz := aaq aap Tryz.func246 [] trivial [] trivial (fun _ => []) [] fun x => by kernel_rfl
noncomputable def afa (x : Int) : Option ((Int × Unit) × (Unit)) :=
 if 4294967296 ≤ x then
  if 65536 ≤ (Int.fdiv x (2 ^ min (32 : Int).toNat IntKind.u64.bits)) then
   if 256 ≤ (Int.fdiv (Int.fdiv x (2 ^ min (32 : Int).toNat IntKind.u64.bits)) (2 ^ min (16 : Int).toNat IntKind.u64.bits)) then
   if 0 ≤ IntKind.u8.wrap (Int.fdiv (Int.fdiv (Int.fdiv x (2 ^ min (32 : Int).toNat IntKind.u64.bits)) (2 ^ min (16 : Int).toNat IntKind.u64.bits)) (2 ^ min (8 : Int).toNat IntKind.u64.bits)) ∧ IntKind.u8.wrap (Int.fdiv (Int.fdiv (Int.fdiv x (2 ^ min (32 : Int).toNat IntKind.u64.bits)) (2 ^ min (16 : Int).toNat IntKind.u64.bits)) (2 ^ min (8 : Int).toNat IntKind.u64.bits)) < ((agQ.size : Nat) : Int) then
   some ((wi ((wi (56 + (wi ((((agQ[(IntKind.u8.wrap (Int.fdiv (Int.fdiv (Int.fdiv x (2 ^ min (32 : Int).toNat IntKind.u64.bits)) (2 ^ min (16 : Int).toNat IntKind.u64.bits)) (2 ^ min (8 : Int).toNat IntKind.u64.bits))).toNat]?).map fun b => ((b.toNat : Nat) : Int)).getD 0))))) - 1), ()), (()))
   else none
   else
   if 0 ≤ IntKind.u8.wrap (Int.fdiv (Int.fdiv x (2 ^ min (32 : Int).toNat IntKind.u64.bits)) (2 ^ min (16 : Int).toNat IntKind.u64.bits)) ∧ IntKind.u8.wrap (Int.fdiv (Int.fdiv x (2 ^ min (32 : Int).toNat IntKind.u64.bits)) (2 ^ min (16 : Int).toNat IntKind.u64.bits)) < ((agQ.size : Nat) : Int) then
   some ((wi ((wi (48 + (wi ((((agQ[(IntKind.u8.wrap (Int.fdiv (Int.fdiv x (2 ^ min (32 : Int).toNat IntKind.u64.bits)) (2 ^ min (16 : Int).toNat IntKind.u64.bits))).toNat]?).map fun b => ((b.toNat : Nat) : Int)).getD 0))))) - 1), ()), (()))
   else none
  else
  if 256 ≤ (Int.fdiv x (2 ^ min (32 : Int).toNat IntKind.u64.bits)) then
   if 0 ≤ IntKind.u8.wrap (Int.fdiv (Int.fdiv x (2 ^ min (32 : Int).toNat IntKind.u64.bits)) (2 ^ min (8 : Int).toNat IntKind.u64.bits)) ∧ IntKind.u8.wrap (Int.fdiv (Int.fdiv x (2 ^ min (32 : Int).toNat IntKind.u64.bits)) (2 ^ min (8 : Int).toNat IntKind.u64.bits)) < ((agQ.size : Nat) : Int) then
   some ((wi ((wi (40 + (wi ((((agQ[(IntKind.u8.wrap (Int.fdiv (Int.fdiv x (2 ^ min (32 : Int).toNat IntKind.u64.bits)) (2 ^ min (8 : Int).toNat IntKind.u64.bits))).toNat]?).map fun b => ((b.toNat : Nat) : Int)).getD 0))))) - 1), ()), (()))
   else none
  else
  if 0 ≤ IntKind.u8.wrap (Int.fdiv x (2 ^ min (32 : Int).toNat IntKind.u64.bits)) ∧ IntKind.u8.wrap (Int.fdiv x (2 ^ min (32 : Int).toNat IntKind.u64.bits)) < ((agQ.size : Nat) : Int) then
   some ((wi ((wi (32 + (wi ((((agQ[(IntKind.u8.wrap (Int.fdiv x (2 ^ min (32 : Int).toNat IntKind.u64.bits))).toNat]?).map fun b => ((b.toNat : Nat) : Int)).getD 0))))) - 1), ()), (()))
  else none
 else
 if 65536 ≤ x then
  if 256 ≤ (Int.fdiv x (2 ^ min (16 : Int).toNat IntKind.u64.bits)) then
   if 0 ≤ IntKind.u8.wrap (Int.fdiv (Int.fdiv x (2 ^ min (16 : Int).toNat IntKind.u64.bits)) (2 ^ min (8 : Int).toNat IntKind.u64.bits)) ∧ IntKind.u8.wrap (Int.fdiv (Int.fdiv x (2 ^ min (16 : Int).toNat IntKind.u64.bits)) (2 ^ min (8 : Int).toNat IntKind.u64.bits)) < ((agQ.size : Nat) : Int) then
   some ((wi ((wi (24 + (wi ((((agQ[(IntKind.u8.wrap (Int.fdiv (Int.fdiv x (2 ^ min (16 : Int).toNat IntKind.u64.bits)) (2 ^ min (8 : Int).toNat IntKind.u64.bits))).toNat]?).map fun b => ((b.toNat : Nat) : Int)).getD 0))))) - 1), ()), (()))
   else none
  else
  if 0 ≤ IntKind.u8.wrap (Int.fdiv x (2 ^ min (16 : Int).toNat IntKind.u64.bits)) ∧ IntKind.u8.wrap (Int.fdiv x (2 ^ min (16 : Int).toNat IntKind.u64.bits)) < ((agQ.size : Nat) : Int) then
   some ((wi ((wi (16 + (wi ((((agQ[(IntKind.u8.wrap (Int.fdiv x (2 ^ min (16 : Int).toNat IntKind.u64.bits))).toNat]?).map fun b => ((b.toNat : Nat) : Int)).getD 0))))) - 1), ()), (()))
  else none
 else
 if 256 ≤ x then
  if 0 ≤ IntKind.u8.wrap (Int.fdiv x (2 ^ min (8 : Int).toNat IntKind.u64.bits)) ∧ IntKind.u8.wrap (Int.fdiv x (2 ^ min (8 : Int).toNat IntKind.u64.bits)) < ((agQ.size : Nat) : Int) then
   some ((wi ((wi (8 + (wi ((((agQ[(IntKind.u8.wrap (Int.fdiv x (2 ^ min (8 : Int).toNat IntKind.u64.bits))).toNat]?).map fun b => ((b.toNat : Nat) : Int)).getD 0))))) - 1), ()), (()))
  else none
 else
 if 0 ≤ IntKind.u8.wrap (x) ∧ IntKind.u8.wrap (x) < ((agQ.size : Nat) : Int) then
  some ((wi ((wi (0 + (wi ((((agQ[(IntKind.u8.wrap (x)).toNat]?).map fun b => ((b.toNat : Nat) : Int)).getD 0))))) - 1), ()), (()))
 else none
noncomputable abbrev apL : Con SR1 := ⟨207, [.sh sU_], [.sh sI_], fun x => afa x.1⟩
noncomputable def au6 : List (Nat × Func) := [(209, Tryz.f209)]
theorem aqQ : CO Tryz.prog apL := aaq aap Tryz.func207 [] trivial au6 ⟨Tryz.func209, trivial⟩ (fun _ => []) [] fun x => by kernel_rfl
noncomputable def ac6 (y0 : ProbeV) (y1 : Int) : Option ((Bool × Unit) × (ProbeV × Unit)) :=
 ((
  if y0.next < y1 then
   if y1 ≠ 0 then
   some (decide ((Int.tmod (wi (y0.start + y0.next)) y1) = y0.worker), ())
   else none
  else
  some (false, ())
 ) : Option (Bool × Unit)).bind fun z1 =>
 if z1.1 = true then
  some ((decide (y1 ≤ (wi (y0.next + 1))), ()), (({ y0 with next := wi (y0.next + 1) } : ProbeV), ()))
 else
 some ((decide (y1 ≤ y0.next), ()), (y0, ()))
noncomputable abbrev agu : Con SR1 := ⟨213, [.ref 44, .sh sI_], [.sh .b], fun x => ac6 x.1 x.2.1⟩
theorem ajG : CO Tryz.prog agu := aaq aap Tryz.func213 [] trivial [] trivial (fun _ => []) [(2, .cut [.rg 28 .b] [0])] fun x => by kernel_rfl
noncomputable def aa0 (y0 : ProbeV) (y1 : EnvP) : Option ((Bool × Unit) × (ProbeV × EnvP × Unit)) :=
 (aau y0.o).bind fun r1 =>
 if r1.1.1 = true then
  some ((true, ()), (({ y0 with o := r1.2.1 } : ProbeV), y1, ()))
 else
 ((
  if (!y0.begun) = true then
   (au9 y1.k (if 16 < y1.c.workers then 16 else y1.c.workers)).bind fun r2 =>
   some (({ y0 with o := r1.2.1, begun := true, start := r2.1.1 } : ProbeV), ({ y1 with k := r2.2.1 } : EnvP), ())
  else
  some (({ y0 with o := r1.2.1 } : ProbeV), y1, ())
 ) : Option (ProbeV × EnvP × Unit)).bind fun z3 =>
 (ac6 z3.1 (if 16 < y1.c.workers then 16 else y1.c.workers)).bind fun r4 =>
 if r4.1.1 = true then
  (aaX r4.2.1.o 2 0).bind fun r5 =>
  some ((r5.1.1, ()), (({ r4.2.1 with o := r5.2.1 } : ProbeV), z3.2.1, ()))
 else
 if (if 16 < y1.c.workers then 16 else y1.c.workers) ≠ 0 then
  ((
   (afn z3.2.1.l (Int.tmod (wi (r4.2.1.start + r4.2.1.next)) (if 16 < y1.c.workers then 16 else y1.c.workers))).bind fun r6 =>
   (ab3 z3.2.1.m r6.1.1).bind fun r7 =>
   if (Int.tmod (wi (r4.2.1.start + r4.2.1.next)) (if 16 < y1.c.workers then 16 else y1.c.workers)) = ((15 : Nat) : Int) then
   some (({ r4.2.1 with bm := { r4.2.1.bm with b15 := r7.1.1 } } : ProbeV), ({ z3.2.1 with m := r7.2.1 } : EnvP), ())
   else
   if (Int.tmod (wi (r4.2.1.start + r4.2.1.next)) (if 16 < y1.c.workers then 16 else y1.c.workers)) = ((14 : Nat) : Int) then
   some (({ r4.2.1 with bm := { r4.2.1.bm with b14 := r7.1.1 } } : ProbeV), ({ z3.2.1 with m := r7.2.1 } : EnvP), ())
   else
   if (Int.tmod (wi (r4.2.1.start + r4.2.1.next)) (if 16 < y1.c.workers then 16 else y1.c.workers)) = ((13 : Nat) : Int) then
   some (({ r4.2.1 with bm := { r4.2.1.bm with b13 := r7.1.1 } } : ProbeV), ({ z3.2.1 with m := r7.2.1 } : EnvP), ())
   else
   if (Int.tmod (wi (r4.2.1.start + r4.2.1.next)) (if 16 < y1.c.workers then 16 else y1.c.workers)) = ((12 : Nat) : Int) then
   some (({ r4.2.1 with bm := { r4.2.1.bm with b12 := r7.1.1 } } : ProbeV), ({ z3.2.1 with m := r7.2.1 } : EnvP), ())
   else
   if (Int.tmod (wi (r4.2.1.start + r4.2.1.next)) (if 16 < y1.c.workers then 16 else y1.c.workers)) = ((11 : Nat) : Int) then
   some (({ r4.2.1 with bm := { r4.2.1.bm with b11 := r7.1.1 } } : ProbeV), ({ z3.2.1 with m := r7.2.1 } : EnvP), ())
   else
   if (Int.tmod (wi (r4.2.1.start + r4.2.1.next)) (if 16 < y1.c.workers then 16 else y1.c.workers)) = ((10 : Nat) : Int) then
   some (({ r4.2.1 with bm := { r4.2.1.bm with b10 := r7.1.1 } } : ProbeV), ({ z3.2.1 with m := r7.2.1 } : EnvP), ())
   else
   if (Int.tmod (wi (r4.2.1.start + r4.2.1.next)) (if 16 < y1.c.workers then 16 else y1.c.workers)) = ((9 : Nat) : Int) then
   some (({ r4.2.1 with bm := { r4.2.1.bm with b9 := r7.1.1 } } : ProbeV), ({ z3.2.1 with m := r7.2.1 } : EnvP), ())
   else
   if (Int.tmod (wi (r4.2.1.start + r4.2.1.next)) (if 16 < y1.c.workers then 16 else y1.c.workers)) = ((8 : Nat) : Int) then
   some (({ r4.2.1 with bm := { r4.2.1.bm with b8 := r7.1.1 } } : ProbeV), ({ z3.2.1 with m := r7.2.1 } : EnvP), ())
   else
   if (Int.tmod (wi (r4.2.1.start + r4.2.1.next)) (if 16 < y1.c.workers then 16 else y1.c.workers)) = ((7 : Nat) : Int) then
   some (({ r4.2.1 with bm := { r4.2.1.bm with b7 := r7.1.1 } } : ProbeV), ({ z3.2.1 with m := r7.2.1 } : EnvP), ())
   else
   if (Int.tmod (wi (r4.2.1.start + r4.2.1.next)) (if 16 < y1.c.workers then 16 else y1.c.workers)) = ((6 : Nat) : Int) then
   some (({ r4.2.1 with bm := { r4.2.1.bm with b6 := r7.1.1 } } : ProbeV), ({ z3.2.1 with m := r7.2.1 } : EnvP), ())
   else
   if (Int.tmod (wi (r4.2.1.start + r4.2.1.next)) (if 16 < y1.c.workers then 16 else y1.c.workers)) = ((5 : Nat) : Int) then
   some (({ r4.2.1 with bm := { r4.2.1.bm with b5 := r7.1.1 } } : ProbeV), ({ z3.2.1 with m := r7.2.1 } : EnvP), ())
   else
   if (Int.tmod (wi (r4.2.1.start + r4.2.1.next)) (if 16 < y1.c.workers then 16 else y1.c.workers)) = ((4 : Nat) : Int) then
   some (({ r4.2.1 with bm := { r4.2.1.bm with b4 := r7.1.1 } } : ProbeV), ({ z3.2.1 with m := r7.2.1 } : EnvP), ())
   else
   if (Int.tmod (wi (r4.2.1.start + r4.2.1.next)) (if 16 < y1.c.workers then 16 else y1.c.workers)) = ((3 : Nat) : Int) then
   some (({ r4.2.1 with bm := { r4.2.1.bm with b3 := r7.1.1 } } : ProbeV), ({ z3.2.1 with m := r7.2.1 } : EnvP), ())
   else
   if (Int.tmod (wi (r4.2.1.start + r4.2.1.next)) (if 16 < y1.c.workers then 16 else y1.c.workers)) = ((2 : Nat) : Int) then
   some (({ r4.2.1 with bm := { r4.2.1.bm with b2 := r7.1.1 } } : ProbeV), ({ z3.2.1 with m := r7.2.1 } : EnvP), ())
   else
   if (Int.tmod (wi (r4.2.1.start + r4.2.1.next)) (if 16 < y1.c.workers then 16 else y1.c.workers)) = ((1 : Nat) : Int) then
   some (({ r4.2.1 with bm := { r4.2.1.bm with b1 := r7.1.1 } } : ProbeV), ({ z3.2.1 with m := r7.2.1 } : EnvP), ())
   else
   if (Int.tmod (wi (r4.2.1.start + r4.2.1.next)) (if 16 < y1.c.workers then 16 else y1.c.workers)) = ((0 : Nat) : Int) then
   some (({ r4.2.1 with bm := { r4.2.1.bm with b0 := r7.1.1 } } : ProbeV), ({ z3.2.1 with m := r7.2.1 } : EnvP), ())
   else
   none
  ) : Option (ProbeV × EnvP × Unit)).bind fun z8 =>
  (ac6 ({ z8.1 with next := wi (z8.1.next + 1) } : ProbeV) (if 16 < y1.c.workers then 16 else y1.c.workers)).bind fun r9 =>
  if (!r9.1.1) = true then
   some ((false, ()), (r9.2.1, z8.2.1, ()))
  else
  if 0 ≤ (if 16 < y1.c.workers then 16 else y1.c.workers) ∧ (if 16 < y1.c.workers then 16 else y1.c.workers) ≤ ((16 : Nat) : Int) then
   (lpF (σ := Int × Int × Int × ProbeV × Unit) (β := Int × Int × Int × ProbeV × Unit) (fun self12 x10 =>
   if x10.2.2.1 < ((((if 16 < y1.c.workers then 16 else y1.c.workers)).toNat : Nat) : Int) then
   (aul r9.2.1.start ((((if 16 < y1.c.workers then 16 else y1.c.workers)).toNat : Nat) : Int)).bind fun r13 =>
   if ((((if 16 < y1.c.workers then 16 else y1.c.workers)).toNat : Nat) : Int) ≠ 0 then
   ((
   if (Int.tmod (wi (r13.1.1 + x10.2.2.1)) ((((if 16 < y1.c.workers then 16 else y1.c.workers)).toNat : Nat) : Int)) < (if 16 < y1.c.workers then 16 else y1.c.workers) then
   if (Int.tmod (wi (r13.1.1 + x10.2.2.1)) ((((if 16 < y1.c.workers then 16 else y1.c.workers)).toNat : Nat) : Int)) = ((15 : Nat) : Int) then
   (afa x10.2.2.2.1.bm.b15).bind fun r14 =>
   some (r14.1.1, x10.2.2.2.1, ())
   else
   if (Int.tmod (wi (r13.1.1 + x10.2.2.1)) ((((if 16 < y1.c.workers then 16 else y1.c.workers)).toNat : Nat) : Int)) = ((14 : Nat) : Int) then
   (afa x10.2.2.2.1.bm.b14).bind fun r15 =>
   some (r15.1.1, x10.2.2.2.1, ())
   else
   if (Int.tmod (wi (r13.1.1 + x10.2.2.1)) ((((if 16 < y1.c.workers then 16 else y1.c.workers)).toNat : Nat) : Int)) = ((13 : Nat) : Int) then
   (afa x10.2.2.2.1.bm.b13).bind fun r16 =>
   some (r16.1.1, x10.2.2.2.1, ())
   else
   if (Int.tmod (wi (r13.1.1 + x10.2.2.1)) ((((if 16 < y1.c.workers then 16 else y1.c.workers)).toNat : Nat) : Int)) = ((12 : Nat) : Int) then
   (afa x10.2.2.2.1.bm.b12).bind fun r17 =>
   some (r17.1.1, x10.2.2.2.1, ())
   else
   if (Int.tmod (wi (r13.1.1 + x10.2.2.1)) ((((if 16 < y1.c.workers then 16 else y1.c.workers)).toNat : Nat) : Int)) = ((11 : Nat) : Int) then
   (afa x10.2.2.2.1.bm.b11).bind fun r18 =>
   some (r18.1.1, x10.2.2.2.1, ())
   else
   if (Int.tmod (wi (r13.1.1 + x10.2.2.1)) ((((if 16 < y1.c.workers then 16 else y1.c.workers)).toNat : Nat) : Int)) = ((10 : Nat) : Int) then
   (afa x10.2.2.2.1.bm.b10).bind fun r19 =>
   some (r19.1.1, x10.2.2.2.1, ())
   else
   if (Int.tmod (wi (r13.1.1 + x10.2.2.1)) ((((if 16 < y1.c.workers then 16 else y1.c.workers)).toNat : Nat) : Int)) = ((9 : Nat) : Int) then
   (afa x10.2.2.2.1.bm.b9).bind fun r20 =>
   some (r20.1.1, x10.2.2.2.1, ())
   else
   if (Int.tmod (wi (r13.1.1 + x10.2.2.1)) ((((if 16 < y1.c.workers then 16 else y1.c.workers)).toNat : Nat) : Int)) = ((8 : Nat) : Int) then
   (afa x10.2.2.2.1.bm.b8).bind fun r21 =>
   some (r21.1.1, x10.2.2.2.1, ())
   else
   if (Int.tmod (wi (r13.1.1 + x10.2.2.1)) ((((if 16 < y1.c.workers then 16 else y1.c.workers)).toNat : Nat) : Int)) = ((7 : Nat) : Int) then
   (afa x10.2.2.2.1.bm.b7).bind fun r22 =>
   some (r22.1.1, x10.2.2.2.1, ())
   else
   if (Int.tmod (wi (r13.1.1 + x10.2.2.1)) ((((if 16 < y1.c.workers then 16 else y1.c.workers)).toNat : Nat) : Int)) = ((6 : Nat) : Int) then
   (afa x10.2.2.2.1.bm.b6).bind fun r23 =>
   some (r23.1.1, x10.2.2.2.1, ())
   else
   if (Int.tmod (wi (r13.1.1 + x10.2.2.1)) ((((if 16 < y1.c.workers then 16 else y1.c.workers)).toNat : Nat) : Int)) = ((5 : Nat) : Int) then
   (afa x10.2.2.2.1.bm.b5).bind fun r24 =>
   some (r24.1.1, x10.2.2.2.1, ())
   else
   if (Int.tmod (wi (r13.1.1 + x10.2.2.1)) ((((if 16 < y1.c.workers then 16 else y1.c.workers)).toNat : Nat) : Int)) = ((4 : Nat) : Int) then
   (afa x10.2.2.2.1.bm.b4).bind fun r25 =>
   some (r25.1.1, x10.2.2.2.1, ())
   else
   if (Int.tmod (wi (r13.1.1 + x10.2.2.1)) ((((if 16 < y1.c.workers then 16 else y1.c.workers)).toNat : Nat) : Int)) = ((3 : Nat) : Int) then
   (afa x10.2.2.2.1.bm.b3).bind fun r26 =>
   some (r26.1.1, x10.2.2.2.1, ())
   else
   if (Int.tmod (wi (r13.1.1 + x10.2.2.1)) ((((if 16 < y1.c.workers then 16 else y1.c.workers)).toNat : Nat) : Int)) = ((2 : Nat) : Int) then
   (afa x10.2.2.2.1.bm.b2).bind fun r27 =>
   some (r27.1.1, x10.2.2.2.1, ())
   else
   if (Int.tmod (wi (r13.1.1 + x10.2.2.1)) ((((if 16 < y1.c.workers then 16 else y1.c.workers)).toNat : Nat) : Int)) = ((1 : Nat) : Int) then
   (afa x10.2.2.2.1.bm.b1).bind fun r28 =>
   some (r28.1.1, x10.2.2.2.1, ())
   else
   if (Int.tmod (wi (r13.1.1 + x10.2.2.1)) ((((if 16 < y1.c.workers then 16 else y1.c.workers)).toNat : Nat) : Int)) = ((0 : Nat) : Int) then
   (afa x10.2.2.2.1.bm.b0).bind fun r29 =>
   some (r29.1.1, x10.2.2.2.1, ())
   else
   none
   else none
   ) : Option (Int × ProbeV × Unit)).bind fun z30 =>
   if (Int.tmod (wi (r13.1.1 + x10.2.2.1)) ((((if 16 < y1.c.workers then 16 else y1.c.workers)).toNat : Nat) : Int)) ≠ r9.2.1.worker then
   if x10.2.1 < z30.1 then
   self12 ((Int.tmod (wi (r13.1.1 + x10.2.2.1)) ((((if 16 < y1.c.workers then 16 else y1.c.workers)).toNat : Nat) : Int)), z30.1, wi (x10.2.2.1 + 1), z30.2.1, ())
   else
   self12 (x10.1, x10.2.1, wi (x10.2.2.1 + 1), z30.2.1, ())
   else
   self12 (x10.1, x10.2.1, wi (x10.2.2.1 + 1), z30.2.1, ())
   else none
   else
   some (x10.1, x10.2.1, x10.2.2.1, x10.2.2.2.1, ())
   ) 18446744073709551616 ((-1), (-1), 0, r9.2.1, ())).bind fun z11 =>
   if z11.1 < 0 then
   (aaX z11.2.2.2.1.o 2 0).bind fun r31 =>
   some ((r31.1.1, ()), (({ z11.2.2.2.1 with o := r31.2.1 } : ProbeV), z8.2.1, ()))
   else
   (aaX z11.2.2.2.1.o 1 (wi ((wi (z11.1 * 64)) + z11.2.1))).bind fun r32 =>
   some ((r32.1.1, ()), (({ z11.2.2.2.1 with o := r32.2.1 } : ProbeV), z8.2.1, ()))
  else none
 else none
noncomputable abbrev akw : Con SR1 := ⟨211, [.ref 44, .ref 27], [.sh .b], fun x => aa0 x.1 x.2.1⟩
noncomputable def ajF : List (Nat × Func) := [(214, Tryz.f214)]
theorem acV : CO Tryz.prog akw := aaq aap Tryz.func211 [aa8, asU, agu, abU, ae1, ab2, aoC, apL] ⟨aaT, au7, ajG, abc, aeF, abz, anl, aqQ, trivial⟩ ajF ⟨Tryz.func214, trivial⟩ (fun f => (get [(214, [(4, .loop [.rg 6 sI_, .rg 7 sI_, .rg 15 sI_, .ob 0 44] 18446744073709551616 0), (8, .cut [.rg 11 sI_, .ob 0 44] [])])] f).getD []) [(6, .cut [.ob 0 44, .ob 1 27] []), (10, .cut [.ob 0 44, .ob 1 27] [])] fun x => by kernel_rfl
noncomputable def adO (y0 : EnvP) (y1 : Int) : Option ((Bool × Unit) × (EnvP × Unit)) :=
 if 0 ≤ y1 then
  some ((decide (y1 < y0.c.tasks), ()), (y0, ()))
 else
 some ((false, ()), (y0, ()))
noncomputable abbrev aey : Con SR1 := ⟨164, [.ref 27, .sh sI_], [.sh .b], fun x => adO x.1 x.2.1⟩
theorem afm : CO Tryz.prog aey := aaq aap Tryz.func164 [] trivial [] trivial (fun _ => []) [] fun x => by kernel_rfl
noncomputable def abm (y0 : AllocV) (y1 : EnvP) : Option ((Bool × Unit) × (AllocV × EnvP × Unit)) :=
 (aau y0.o).bind fun r1 =>
 if r1.1.1 = true then
  some ((true, ()), ((⟨r1.2.1⟩ : AllocV), y1, ()))
 else
 (axh y1.l).bind fun r2 =>
 (ayN y1.m r2.1.1 1).bind fun r3 =>
 (adO ({ y1 with m := r3.2.1 } : EnvP) (wi (r3.1.1))).bind fun r4 =>
 if (!r4.1.1) = true then
  (aaX r1.2.1 3 0).bind fun r5 =>
  some ((r5.1.1, ()), ((⟨r5.2.1⟩ : AllocV), r4.2.1, ()))
 else
 (aaX r1.2.1 1 (wi (r3.1.1))).bind fun r6 =>
 some ((r6.1.1, ()), ((⟨r6.2.1⟩ : AllocV), r4.2.1, ()))
noncomputable abbrev ah7 : Con SR1 := ⟨161, [.ref 34, .ref 27], [.sh .b], fun x => abm x.1 x.2.1⟩
theorem ab8 : CO Tryz.prog ah7 := aaq aap Tryz.func161 [aa8, asR, asY, aey, abU] ⟨aaT, au4, asX, afm, abc, trivial⟩ [] trivial (fun _ => []) [] fun x => by kernel_rfl
noncomputable def abg (y0 : PublishV) (y1 : EnvP) : Option ((Bool × Unit) × (PublishV × EnvP × Unit)) :=
 (aau y0.o).bind fun r1 =>
 if r1.1.1 = true then
  some ((true, ()), (({ y0 with o := r1.2.1 } : PublishV), y1, ()))
 else
 (adO y1 y0.task).bind fun r2 =>
 if (!r2.1.1) = true then
  (aaX r1.2.1 4 0).bind fun r3 =>
  some ((r3.1.1, ()), (({ y0 with o := r3.2.1 } : PublishV), r2.2.1, ()))
 else
 if y0.line = 1 then
  (aeZ r2.2.1.l y0.task).bind fun r4 =>
  if y0.level = y0.level then
   (aa4 r2.2.1.m r4.1.1 (wu (y0.level))).bind fun r5 =>
   some ((false, ()), (({ y0 with o := r1.2.1, line := wi (y0.line + 1) } : PublishV), ({ r2.2.1 with m := r5.2.1 } : EnvP), ()))
  else none
 else
 if y0.line = 2 then
  (aiU r2.2.1.l y0.task).bind fun r6 =>
  (apI r2.2.1.k).bind fun r7 =>
  (aa4 r2.2.1.m r6.1.1 (wu (r7.1.1))).bind fun r8 =>
  some ((false, ()), (({ y0 with o := r1.2.1, line := wi (y0.line + 1) } : PublishV), ({ r2.2.1 with m := r8.2.1, k := r7.2.1 } : EnvP), ()))
 else
 (aef r2.2.1.l y0.task).bind fun r9 =>
 (aa4 r2.2.1.m r9.1.1 1).bind fun r10 =>
 (aaX r1.2.1 0 0).bind fun r11 =>
 some ((r11.1.1, ()), (({ y0 with o := r11.2.1 } : PublishV), ({ r2.2.1 with m := r10.2.1 } : EnvP), ()))
noncomputable abbrev aiq : Con SR1 := ⟨167, [.ref 48, .ref 27], [.sh .b], fun x => abg x.1 x.2.1⟩
theorem aci : CO Tryz.prog aiq := aaq aap Tryz.func167 [aa8, aey, abU, afi, acW, aiS, alm, afg] ⟨aaT, afm, abc, aeX, act, aiR, ajL, aeU, trivial⟩ [] trivial (fun _ => []) [] fun x => by kernel_rfl
noncomputable def ab1 (y0 : ClaimV) (y1 : EnvP) : Option ((Bool × Unit) × (ClaimV × EnvP × Unit)) :=
 (aau y0.o).bind fun r1 =>
 if r1.1.1 = true then
  some ((true, ()), (({ y0 with o := r1.2.1 } : ClaimV), y1, ()))
 else
 if y0.task = y0.task then
  if y0.worker = y0.worker then
   (aef y1.l y0.task).bind fun r2 =>
   (an1 y1.m r2.1.1 1 2).bind fun r3 =>
   if (!r3.1.1) = true then
   (adu ({ y1 with m := r3.2.1 } : EnvP) ({ y0 with kind := 15, other := 0, level := 0 } : Ev)).bind fun r4 =>
   (aaX r1.2.1 4 0).bind fun r5 =>
   some ((r5.1.1, ()), (({ y0 with o := r5.2.1 } : ClaimV), r4.2.1, ()))
   else
   if 0 ≤ y0.task ∧ y0.task < ((y1.recs.length : Nat) : Int) then
   if (aab y1.recs y0.task).started = true then
   (adu ({ y1 with m := r3.2.1 } : EnvP) ({ y0 with kind := 9, other := 0, level := 0 } : Ev)).bind fun r6 =>
   (aaX r1.2.1 1 y0.task).bind fun r7 =>
   some ((r7.1.1, ()), (({ y0 with o := r7.2.1 } : ClaimV), r6.2.1, ()))
   else
   (adu ({ y1 with m := r3.2.1, recs := y1.recs.set y0.task.toNat ({ aab y1.recs y0.task with started := true } : RecP) } : EnvP) ({ y0 with kind := 5, other := 0, level := 0 } : Ev)).bind fun r8 =>
   (aaX r1.2.1 1 y0.task).bind fun r9 =>
   some ((r9.1.1, ()), (({ y0 with o := r9.2.1 } : ClaimV), r8.2.1, ()))
   else none
  else none
 else none
noncomputable abbrev ako : Con SR1 := ⟨159, [.ref 43, .ref 27], [.sh .b], fun x => ab1 x.1 x.2.1⟩
theorem acT : CO Tryz.prog ako := aaq aap Tryz.func159 [aa8, afg, aiX, ae0, abU] ⟨aaT, aeU, ag5, ad6, abc, trivial⟩ [] trivial (fun _ => []) [] fun x => by kernel_rfl
noncomputable def abP (y0 : AttemptV) (y1 : EnvP) : Option ((Bool × Unit) × (AttemptV × EnvP × Unit)) :=
 (aau y0.o).bind fun r1 =>
 if r1.1.1 = true then
  some ((true, ()), (({ y0 with o := r1.2.1 } : AttemptV), y1, ()))
 else
 (asT y1.l).bind fun r2 =>
 if y0.owner = y0.owner then
  (an1 y1.m r2.1.1 0 (wu (wi (y0.owner + 1)))).bind fun r3 =>
  if r3.1.1 = true then
   (aaX r1.2.1 1 0).bind fun r4 =>
   some ((r4.1.1, ()), (({ y0 with o := r4.2.1 } : AttemptV), ({ y1 with m := r3.2.1 } : EnvP), ()))
  else
  if y0.once = true then
   (aaX r1.2.1 5 0).bind fun r5 =>
   some ((r5.1.1, ()), (({ y0 with o := r5.2.1 } : AttemptV), ({ y1 with m := r3.2.1 } : EnvP), ()))
  else
  some ((false, ()), (({ y0 with o := r1.2.1 } : AttemptV), ({ y1 with m := r3.2.1 } : EnvP), ()))
 else none
noncomputable abbrev ajS : Con SR1 := ⟨235, [.ref 33, .ref 27], [.sh .b], fun x => abP x.1 x.2.1⟩
theorem acD : CO Tryz.prog ajS := aaq aap Tryz.func235 [aa8, apJ, aiX, abU] ⟨aaT, aqO, ag5, abc, trivial⟩ [] trivial (fun _ => []) [] fun x => by kernel_rfl
noncomputable def abO (y0 : ReleaseV) (y1 : EnvP) : Option ((Bool × Unit) × (ReleaseV × EnvP × Unit)) :=
 (aau y0.o).bind fun r1 =>
 if r1.1.1 = true then
  some ((true, ()), ((⟨r1.2.1⟩ : ReleaseV), y1, ()))
 else
 (asT y1.l).bind fun r2 =>
 (aa4 y1.m r2.1.1 0).bind fun r3 =>
 (aaX r1.2.1 0 0).bind fun r4 =>
 some ((r4.1.1, ()), ((⟨r4.2.1⟩ : ReleaseV), ({ y1 with m := r3.2.1 } : EnvP), ()))
noncomputable abbrev ajR : Con SR1 := ⟨238, [.ref 35, .ref 27], [.sh .b], fun x => abO x.1 x.2.1⟩
theorem acC : CO Tryz.prog ajR := aaq aap Tryz.func238 [aa8, apJ, acW, abU] ⟨aaT, aqO, act, abc, trivial⟩ [] trivial (fun _ => []) [] fun x => by kernel_rfl
noncomputable def acn (y0 : OPushV) (y1 : EnvP) : Option ((Bool × Unit) × (OPushV × EnvP × Unit)) :=
 (aau y0.o).bind fun r1 =>
 if r1.1.1 = true then
  some ((true, ()), (({ y0 with o := r1.2.1 } : OPushV), y1, ()))
 else
 if y0.line = 1 then
  (ab3 y1.m y0.q.bottom).bind fun r2 =>
  some ((false, ()), (({ y0 with o := r1.2.1, line := wi (y0.line + 1), b := r2.1.1 } : OPushV), ({ y1 with m := r2.2.1 } : EnvP), ()))
 else
 if y0.line = 2 then
  (ab3 y1.m y0.q.top).bind fun r3 =>
  (apH y0.b r3.1.1).bind fun r4 =>
  if y0.q.cap = y0.q.cap then
   if y0.q.cap ≤ r4.1.1 then
   (aaX r1.2.1 3 0).bind fun r5 =>
   some ((r5.1.1, ()), (({ y0 with o := r5.2.1 } : OPushV), ({ y1 with m := r3.2.1 } : EnvP), ()))
   else
   some ((false, ()), (({ y0 with o := r1.2.1, line := wi (y0.line + 1) } : OPushV), ({ y1 with m := r3.2.1 } : EnvP), ()))
  else none
 else
 if y0.line = 3 then
  (apM y0.q y0.b).bind fun r6 =>
  if y0.value = y0.value then
   (aa4 y1.m r6.1.1 (wu (y0.value))).bind fun r7 =>
   some ((false, ()), (({ y0 with o := r1.2.1, line := wi (y0.line + 1) } : OPushV), ({ y1 with m := r7.2.1 } : EnvP), ()))
  else none
 else
 (aa4 y1.m y0.q.bottom (wu (y0.b + 1))).bind fun r8 =>
 (aaX r1.2.1 0 0).bind fun r9 =>
 some ((r9.1.1, ()), (({ y0 with o := r9.2.1 } : OPushV), ({ y1 with m := r8.2.1 } : EnvP), ()))
noncomputable abbrev alr : Con SR1 := ⟨251, [.ref 51, .ref 27], [.sh .b], fun x => acn x.1 x.2.1⟩
theorem adf : CO Tryz.prog alr := aaq aap Tryz.func251 [aa8, ab2, ajK, abU, ano, acW] ⟨aaT, abz, aiQ, abc, ann, act, trivial⟩ [] trivial (fun _ => []) [] fun x => by kernel_rfl
noncomputable def afo (y0 : OPopV) (y1 : EnvP) : Option ((Int × Unit) × (OPopV × EnvP × Unit)) :=
 (ab3 y1.m y0.q.top).bind fun r1 =>
 (apH (wu (y0.b - 1)) r1.1.1).bind fun r2 =>
 if 0 < r2.1.1 then
  some ((5, ()), (({ y0 with t := r1.1.1 } : OPopV), ({ y1 with m := r1.2.1 } : EnvP), ()))
 else
 if r2.1.1 = 0 then
  some ((6, ()), (({ y0 with t := r1.1.1 } : OPopV), ({ y1 with m := r1.2.1 } : EnvP), ()))
 else
 some ((9, ()), (({ y0 with t := r1.1.1 } : OPopV), ({ y1 with m := r1.2.1 } : EnvP), ()))
noncomputable abbrev agv : Con SR1 := ⟨249, [.ref 50, .ref 27], [.sh sI_], fun x => afo x.1 x.2.1⟩
theorem ajO : CO Tryz.prog agv := aaq aap Tryz.func249 [ab2, ajK] ⟨abz, aiQ, trivial⟩ [] trivial (fun _ => []) [] fun x => by kernel_rfl
noncomputable def acL (y0 : OPopV) (y1 : EnvP) : Option ((Bool × Unit) × (OPopV × EnvP × Unit)) :=
 (aau y0.o).bind fun r1 =>
 if r1.1.1 = true then
  some ((true, ()), (({ y0 with o := r1.2.1 } : OPopV), y1, ()))
 else
 if y0.line = 1 then
  (ab3 y1.m y0.q.bottom).bind fun r2 =>
  some ((false, ()), (({ y0 with o := r1.2.1, line := wi (y0.line + 1), b := r2.1.1 } : OPopV), ({ y1 with m := r2.2.1 } : EnvP), ()))
 else
 if y0.line = 2 then
  (ab3 y1.m y0.q.top).bind fun r3 =>
  (apH y0.b r3.1.1).bind fun r4 =>
  if r4.1.1 ≤ 0 then
   (aaX r1.2.1 2 0).bind fun r5 =>
   some ((r5.1.1, ()), (({ y0 with o := r5.2.1, t := r3.1.1 } : OPopV), ({ y1 with m := r3.2.1 } : EnvP), ()))
  else
  some ((false, ()), (({ y0 with o := r1.2.1, line := wi (y0.line + 1), t := r3.1.1 } : OPopV), ({ y1 with m := r3.2.1 } : EnvP), ()))
 else
 if y0.line = 3 then
  (aa4 y1.m y0.q.bottom (wu (y0.b - 1))).bind fun r6 =>
  some ((false, ()), (({ y0 with o := r1.2.1, line := wi (y0.line + 1) } : OPopV), ({ y1 with m := r6.2.1 } : EnvP), ()))
 else
 if y0.line = 4 then
  (afo ({ y0 with o := r1.2.1 } : OPopV) y1).bind fun r7 =>
  some ((false, ()), (({ r7.2.1 with line := r7.1.1 } : OPopV), r7.2.2.1, ()))
 else
 if y0.line = 5 then
  if y0.line = 5 then
   (apM y0.q (wu (y0.b - 1))).bind fun r8 =>
   (ab3 y1.m r8.1.1).bind fun r9 =>
   (aaX r1.2.1 1 (wi (r9.1.1))).bind fun r10 =>
   some ((r10.1.1, ()), (({ y0 with o := r10.2.1 } : OPopV), ({ y1 with m := r9.2.1 } : EnvP), ()))
  else
  if y0.line = 6 then
   (an1 y1.m y0.q.top y0.t (wu (y0.t + 1))).bind fun r11 =>
   if (!r11.1.1) = true then
   some ((false, ()), (({ y0 with o := r1.2.1, line := 9 } : OPopV), ({ y1 with m := r11.2.1 } : EnvP), ()))
   else
   some ((false, ()), (({ y0 with o := r1.2.1, line := wi (y0.line + 1) } : OPopV), ({ y1 with m := r11.2.1 } : EnvP), ()))
  else
  if y0.line = 7 then
   (aa4 y1.m y0.q.bottom y0.b).bind fun r12 =>
   some ((false, ()), (({ y0 with o := r1.2.1, line := wi (y0.line + 1) } : OPopV), ({ y1 with m := r12.2.1 } : EnvP), ()))
  else
  (aa4 y1.m y0.q.bottom y0.b).bind fun r13 =>
  (aaX r1.2.1 2 0).bind fun r14 =>
  some ((r14.1.1, ()), (({ y0 with o := r14.2.1 } : OPopV), ({ y1 with m := r13.2.1 } : EnvP), ()))
 else
 if y0.line = 8 then
  (apM y0.q (wu (y0.b - 1))).bind fun r15 =>
  (ab3 y1.m r15.1.1).bind fun r16 =>
  (aaX r1.2.1 1 (wi (r16.1.1))).bind fun r17 =>
  some ((r17.1.1, ()), (({ y0 with o := r17.2.1 } : OPopV), ({ y1 with m := r16.2.1 } : EnvP), ()))
 else
 if y0.line = 6 then
  (an1 y1.m y0.q.top y0.t (wu (y0.t + 1))).bind fun r18 =>
  if (!r18.1.1) = true then
   some ((false, ()), (({ y0 with o := r1.2.1, line := 9 } : OPopV), ({ y1 with m := r18.2.1 } : EnvP), ()))
  else
  some ((false, ()), (({ y0 with o := r1.2.1, line := wi (y0.line + 1) } : OPopV), ({ y1 with m := r18.2.1 } : EnvP), ()))
 else
 if y0.line = 7 then
  (aa4 y1.m y0.q.bottom y0.b).bind fun r19 =>
  some ((false, ()), (({ y0 with o := r1.2.1, line := wi (y0.line + 1) } : OPopV), ({ y1 with m := r19.2.1 } : EnvP), ()))
 else
 (aa4 y1.m y0.q.bottom y0.b).bind fun r20 =>
 (aaX r1.2.1 2 0).bind fun r21 =>
 some ((r21.1.1, ()), (({ y0 with o := r21.2.1 } : OPopV), ({ y1 with m := r20.2.1 } : EnvP), ()))
noncomputable abbrev ame : Con SR1 := ⟨248, [.ref 50, .ref 27], [.sh .b], fun x => acL x.1 x.2.1⟩
theorem adB : CO Tryz.prog ame := aaq aap Tryz.func248 [aa8, ab2, ajK, abU, acW, agv, ano, aiX] ⟨aaT, abz, aiQ, abc, act, ajO, ann, ag5, trivial⟩ [] trivial (fun _ => []) [] fun x => by kernel_rfl
noncomputable def ab0 (y0 : StealV) (y1 : EnvP) : Option ((Bool × Unit) × (StealV × EnvP × Unit)) :=
 (aau y0.o).bind fun r1 =>
 if r1.1.1 = true then
  some ((true, ()), (({ y0 with o := r1.2.1 } : StealV), y1, ()))
 else
 if y0.line = 1 then
  (ab3 y1.m y0.q.top).bind fun r2 =>
  some ((false, ()), (({ y0 with o := r1.2.1, line := wi (y0.line + 1), t := r2.1.1 } : StealV), ({ y1 with m := r2.2.1 } : EnvP), ()))
 else
 if y0.line = 2 then
  (ab3 y1.m y0.q.bottom).bind fun r3 =>
  (apH r3.1.1 y0.t).bind fun r4 =>
  if r4.1.1 ≤ 0 then
   (aaX r1.2.1 2 0).bind fun r5 =>
   some ((r5.1.1, ()), (({ y0 with o := r5.2.1 } : StealV), ({ y1 with m := r3.2.1 } : EnvP), ()))
  else
  some ((false, ()), (({ y0 with o := r1.2.1, line := wi (y0.line + 1) } : StealV), ({ y1 with m := r3.2.1 } : EnvP), ()))
 else
 if y0.line = 3 then
  (apM y0.q y0.t).bind fun r6 =>
  (ab3 y1.m r6.1.1).bind fun r7 =>
  some ((false, ()), (({ y0 with o := r1.2.1, line := wi (y0.line + 1), value := r7.1.1 } : StealV), ({ y1 with m := r7.2.1 } : EnvP), ()))
 else
 (an1 y1.m y0.q.top y0.t (wu (y0.t + 1))).bind fun r8 =>
 if r8.1.1 = true then
  (aaX r1.2.1 1 (wi (y0.value))).bind fun r9 =>
  some ((r9.1.1, ()), (({ y0 with o := r9.2.1 } : StealV), ({ y1 with m := r8.2.1 } : EnvP), ()))
 else
 (aaX r1.2.1 4 0).bind fun r10 =>
 some ((r10.1.1, ()), (({ y0 with o := r10.2.1 } : StealV), ({ y1 with m := r8.2.1 } : EnvP), ()))
noncomputable abbrev akm : Con SR1 := ⟨199, [.ref 40, .ref 27], [.sh .b], fun x => ab0 x.1 x.2.1⟩
theorem acS : CO Tryz.prog akm := aaq aap Tryz.func199 [aa8, ab2, ajK, abU, ano, aiX] ⟨aaT, abz, aiQ, abc, ann, ag5, trivial⟩ [] trivial (fun _ => []) [] fun x => by kernel_rfl
noncomputable def aco (y0 : SetV) (y1 : EnvP) : Option ((Bool × Unit) × (SetV × EnvP × Unit)) :=
 (aau y0.o).bind fun r1 =>
 if r1.1.1 = true then
  some ((true, ()), (({ y0 with o := r1.2.1 } : SetV), y1, ()))
 else
 (aum y0.bit).bind fun r2 =>
 if y0.cell = y0.cell then
  (pOr y1.m y0.cell r2.1.1).bind fun r3 =>
  (aaX r1.2.1 0 0).bind fun r4 =>
  some ((r4.1.1, ()), (({ y0 with o := r4.2.1 } : SetV), ({ y1 with m := r3.2.1 } : EnvP), ()))
 else none
noncomputable abbrev al2 : Con SR1 := ⟨253, [.ref 52, .ref 27], [.sh .b], fun x => aco x.1 x.2.1⟩
theorem adh : CO Tryz.prog al2 := aaq aap Tryz.func253 [aa8, aoF, asQ, abU] ⟨aaT, anq, aqN, abc, trivial⟩ [] trivial (fun _ => []) [] fun x => by kernel_rfl
noncomputable def abR (y0 : ResetV) (y1 : EnvP) : Option ((Bool × Unit) × (ResetV × EnvP × Unit)) :=
 (aau y0.o).bind fun r1 =>
 if r1.1.1 = true then
  some ((true, ()), (({ y0 with o := r1.2.1 } : ResetV), y1, ()))
 else
 (aum y0.bit).bind fun r2 =>
 if y0.line = 1 then
  (av9 y1.m y0.cell (auo r2.1.1)).bind fun r3 =>
  some ((false, ()), (({ y0 with o := r1.2.1, line := wi (y0.line + 1) } : ResetV), ({ y1 with m := r3.2.1 } : EnvP), ()))
 else
 if y0.line = 2 then
  (ab3 y1.m y0.q.bottom).bind fun r4 =>
  some ((false, ()), (({ y0 with o := r1.2.1, line := wi (y0.line + 1), b := r4.1.1 } : ResetV), ({ y1 with m := r4.2.1 } : EnvP), ()))
 else
 if y0.line = 3 then
  (ab3 y1.m y0.q.top).bind fun r5 =>
  (apH y0.b r5.1.1).bind fun r6 =>
  if r6.1.1 ≤ 0 then
   (aaX r1.2.1 2 0).bind fun r7 =>
   some ((r7.1.1, ()), (({ y0 with o := r7.2.1 } : ResetV), ({ y1 with m := r5.2.1 } : EnvP), ()))
  else
  some ((false, ()), (({ y0 with o := r1.2.1, line := wi (y0.line + 1) } : ResetV), ({ y1 with m := r5.2.1 } : EnvP), ()))
 else
 (pOr y1.m y0.cell r2.1.1).bind fun r8 =>
 (aaX r1.2.1 1 0).bind fun r9 =>
 some ((r9.1.1, ()), (({ y0 with o := r9.2.1 } : ResetV), ({ y1 with m := r8.2.1 } : EnvP), ()))
noncomputable abbrev ajY : Con SR1 := ⟨203, [.ref 41, .ref 27], [.sh .b], fun x => abR x.1 x.2.1⟩
theorem acE : CO Tryz.prog ajY := aaq aap Tryz.func203 [aa8, aoF, aqV, ab2, ajK, abU, asQ] ⟨aaT, anq, apO, abz, aiQ, abc, aqN, trivial⟩ [] trivial (fun _ => []) [] fun x => by kernel_rfl
noncomputable def abu (y0 : RemoveV) : Option ((Int × Unit) × (RemoveV × Unit)) :=
 if y0.z < y0.y then
  some ((7, ()), (y0, ()))
 else
 some ((8, ()), (y0, ()))
noncomputable abbrev adD : Con SR1 := ⟨242, [.ref 49], [.sh sI_], fun x => abu x.1⟩
theorem afL : CO Tryz.prog adD := aaq aap Tryz.func242 [] trivial [] trivial (fun _ => []) [] fun x => by kernel_rfl
noncomputable def abS (y0 : RemoveV) : Option ((Int × Unit) × (RemoveV × Unit)) :=
 if (wi ((wi (2 * y0.i)) + 1)) < (wi (y0.n - 1)) then
  some ((5, ()), (y0, ()))
 else
 some ((8, ()), (y0, ()))
noncomputable abbrev acd : Con SR1 := ⟨243, [.ref 49], [.sh sI_], fun x => abS x.1⟩
theorem ac8 : CO Tryz.prog acd := aaq aap Tryz.func243 [] trivial [] trivial (fun _ => []) [] fun x => by kernel_rfl
noncomputable def abY (y0 : RemoveV) : Option ((Int × Unit) × (RemoveV × Unit)) :=
 (apF y0.x).bind fun r1 =>
 some ((r1.1.2.2.1, ()), (y0, ()))
noncomputable abbrev ac5 : Con SR1 := ⟨244, [.ref 49], [.sh sI_], fun x => abY x.1⟩
theorem aei : CO Tryz.prog ac5 := aaq aap Tryz.func244 [aoz] ⟨arF, trivial⟩ [] trivial (fun _ => []) [] fun x => by kernel_rfl
noncomputable def adn (y0 : RemoveV) (y1 : EnvP) : Option ((Bool × Unit) × (RemoveV × EnvP × Unit)) :=
 if y1.l.workers = y1.l.workers then
  if y1.l.levels = y1.l.levels then
   if y1.l.classes = y1.l.classes then
   if y1.l.tasks = y1.l.tasks then
   if y1.l.deque = y1.l.deque then
   if y1.l.heap = y1.l.heap then
   if y1.l.sleepers = y1.l.sleepers then
   if y1.l.epochs = y1.l.epochs then
   if y1.l.bitmaps = y1.l.bitmaps then
   if y1.l.queues = y1.l.queues then
   if y1.l.table = y1.l.table then
   if y0.line = 1 then
   (aiV y1.l).bind fun r1 =>
   (ab3 y1.m r1.1.1).bind fun r2 =>
   if (wi (r2.1.1)) ≤ 0 then
   (aaX y0.o 2 0).bind fun r3 =>
   some ((r3.1.1, ()), (({ y0 with o := r3.2.1, n := wi (r2.1.1) } : RemoveV), ({ y1 with m := r2.2.1 } : EnvP), ()))
   else
   some ((false, ()), (({ y0 with line := 2, n := wi (r2.1.1) } : RemoveV), ({ y1 with m := r2.2.1 } : EnvP), ()))
   else
   if y0.line = 2 then
   (ank y1.l 0).bind fun r4 =>
   (ab3 y1.m r4.1.1).bind fun r5 =>
   some ((false, ()), (({ y0 with line := 3, x := r5.1.1 } : RemoveV), ({ y1 with m := r5.2.1 } : EnvP), ()))
   else
   if y0.line = 3 then
   (ank y1.l (wi (y0.n - 1))).bind fun r6 =>
   (ab3 y1.m r6.1.1).bind fun r7 =>
   some ((false, ()), (({ y0 with line := 4, y := r7.1.1 } : RemoveV), ({ y1 with m := r7.2.1 } : EnvP), ()))
   else
   (aiV y1.l).bind fun r8 =>
   if y0.n = y0.n then
   (aa4 y1.m r8.1.1 (wu (wi (y0.n - 1)))).bind fun r9 =>
   (abY y0).bind fun r10 =>
   if y0.worker = r10.2.1.worker then
   (adu ({ y1 with m := r9.2.1 } : EnvP) (⟨13, y0.worker, r10.1.1, 0, 0⟩ : Ev)).bind fun r11 =>
   if r10.2.1.n = 1 then
   (abY r10.2.1).bind fun r12 =>
   (aaX r12.2.1.o 1 r12.1.1).bind fun r13 =>
   some ((r13.1.1, ()), (({ r12.2.1 with o := r13.2.1 } : RemoveV), r11.2.1, ()))
   else
   (abS r10.2.1).bind fun r14 =>
   some ((false, ()), (({ r14.2.1 with line := r14.1.1 } : RemoveV), r11.2.1, ()))
   else none
   else none
   else none
   else none
   else none
   else none
   else none
   else none
   else none
   else none
   else none
  else none
 else none
noncomputable abbrev aej : Con SR1 := ⟨245, [.ref 49, .ref 27], [.sh .b], fun x => adn x.1 x.2.1⟩
theorem agE : CO Tryz.prog aej := aaq aap Tryz.func245 [akQ, ab2, abU, apG, acW, ac5, ae0, acd] ⟨aln, abz, abc, aqM, act, aei, ad6, ac8, trivial⟩ [] trivial (fun _ => []) [] fun x => by kernel_rfl
end Go.Proofs.YtlcelajkhklkbaaGreat
