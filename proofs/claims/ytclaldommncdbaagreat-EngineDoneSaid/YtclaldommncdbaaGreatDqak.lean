/- The program's machines in the evaluator's form. -/
import Derived.Test.YtclaldommncdbaaGreatDqai
import Derived.Test.YtclaldommncdbaaGreatDqaj
set_option linter.all false
namespace Go.Proofs.YtclaldommncdbaaGreat
open Go Go.RowKit
set_option maxRecDepth 100000
variable [Tb]
noncomputable def aFR (x : Int) : Option ((Int × Unit) × (Unit)) :=
 if x = 0 then
  some (((-1), ()), (()))
 else
 (pTz x).bind fun r1 =>
 some ((r1.1.1, ()), (()))
noncomputable abbrev aBd : Con SR1 := ⟨167, [.sh sU_], [.sh sI_], fun x => aFR x.1⟩
theorem aCD : CO Tryz.prog aBd := aal aak Tryz.func167 [aCB] ⟨aEC, trivial⟩ [] trivial (fun _ => []) [] fun x => by kernel_rfl
noncomputable def aav (o : OutV) : Option ((Bool × Unit) × (OutV × Unit)) :=
 some ((o.ended, ()), (o, ()))
noncomputable abbrev abn : Con SR1 := ⟨132, [.ref 23], [.sh .b], fun x => aav x.1⟩
theorem aa7 : CO Tryz.prog abn := aal aak Tryz.func132 [] trivial [] trivial (fun _ => []) [] fun x => by kernel_rfl
noncomputable def abe (o : OutV) (code : Int) (value : Int) : Option ((Bool × Unit) × (OutV × Unit)) :=
 some ((true, ()), ((⟨true, code, value⟩ : OutV), ()))
noncomputable abbrev acD : Con SR1 := ⟨142, [.ref 23, .sh sI_, .sh sI_], [.sh .b], fun x => abe x.1 x.2.1 x.2.2.1⟩
theorem abx : CO Tryz.prog acD := aal aak Tryz.func142 [] trivial [] trivial (fun _ => []) [] fun x => by kernel_rfl
noncomputable def aCC (o : OutV) : Option ((Int × Int × Unit) × (OutV × Unit)) :=
 some ((o.code, o.value, ()), (o, ()))
noncomputable abbrev aa0 : Con SR1 := ⟨133, [.ref 23], [.sh sI_, .sh sI_], fun x => aCC x.1⟩
theorem aaT : CO Tryz.prog aa0 := aal aak Tryz.func133 [] trivial [] trivial (fun _ => []) [] fun x => by kernel_rfl
noncomputable def acy (m : MemV) (a : Int) : Option ((Int × Unit) × (MemV × Unit)) :=
 if a < 0 then
  some ((0, ()), (m, ()))
 else
 if ((m.cells.length : Nat) : Int) ≤ a then
  some ((0, ()), (m, ()))
 else
 if 0 ≤ a ∧ a < ((m.cells.length : Nat) : Int) then
  if 0 ≤ a ∧ a < ((m.cells.length : Nat) : Int) then
   if 0 ≤ a ∧ a < (((m.cells.set a.toNat (aeA m.cells a)).length : Nat) : Int) then
   some ((aeA m.cells a, ()), ((⟨m.cells.set a.toNat (aeA m.cells a), ⟨1, a, aeA m.cells a, aeA (m.cells.set a.toNat (aeA m.cells a)) a⟩, wi (m.count + 1)⟩ : MemV), ()))
   else none
  else none
 else none
noncomputable abbrev acC : Con SR1 := ⟨95, [.ref 9, .sh sI_], [.sh sU_], fun x => acy x.1 x.2.1⟩
noncomputable def az5 : List (Nat × Func) := [(105, Tryz.f105), (106, Tryz.f106)]
theorem abK : CO Tryz.prog acC := aal aak Tryz.func95 [] trivial az5 ⟨Tryz.func105, Tryz.func106, trivial⟩ (fun _ => []) [] fun x => by kernel_rfl
noncomputable def aa4 (m : MemV) (a : Int) (v : Int) : Option ((Unit) × (MemV × Unit)) :=
 if a < 0 then
  some ((()), (m, ()))
 else
 if ((m.cells.length : Nat) : Int) ≤ a then
  some ((()), (m, ()))
 else
 if 0 ≤ a ∧ a < ((m.cells.length : Nat) : Int) then
  if 0 ≤ a ∧ a < ((m.cells.length : Nat) : Int) then
   if 0 ≤ a ∧ a < (((m.cells.set a.toNat v).length : Nat) : Int) then
   some ((()), ((⟨m.cells.set a.toNat v, ⟨2, a, aeA m.cells a, aeA (m.cells.set a.toNat v) a⟩, wi (m.count + 1)⟩ : MemV), ()))
   else none
  else none
 else none
noncomputable abbrev adK : Con SR1 := ⟨98, [.ref 9, .sh sI_, .sh sU_], [], fun x => aa4 x.1 x.2.1 x.2.2.1⟩
noncomputable def axt : List (Nat × Func) := [(105, Tryz.f105), (107, Tryz.f107)]
theorem adb : CO Tryz.prog adK := aal aak Tryz.func98 [] trivial axt ⟨Tryz.func105, Tryz.func107, trivial⟩ (fun _ => []) [] fun x => by kernel_rfl
noncomputable def arD (m : MemV) (a : Int) (old : Int) (v : Int) : Option ((Bool × Unit) × (MemV × Unit)) :=
 if a < 0 then
  some ((false, ()), (m, ()))
 else
 if ((m.cells.length : Nat) : Int) ≤ a then
  some ((false, ()), (m, ()))
 else
 if 0 ≤ a ∧ a < ((m.cells.length : Nat) : Int) then
  if (aeA m.cells a) = old then
   if 0 ≤ a ∧ a < ((m.cells.length : Nat) : Int) then
   if 0 ≤ a ∧ a < (((m.cells.set a.toNat v).length : Nat) : Int) then
   some ((decide ((aeA m.cells a) = old), ()), ((⟨m.cells.set a.toNat v, ⟨3, a, aeA m.cells a, aeA (m.cells.set a.toNat v) a⟩, wi (m.count + 1)⟩ : MemV), ()))
   else none
   else none
  else
  if 0 ≤ a ∧ a < ((m.cells.length : Nat) : Int) then
   if 0 ≤ a ∧ a < (((m.cells.set a.toNat (aeA m.cells a)).length : Nat) : Int) then
   some ((decide ((aeA m.cells a) = old), ()), ((⟨m.cells.set a.toNat (aeA m.cells a), ⟨3, a, aeA m.cells a, aeA (m.cells.set a.toNat (aeA m.cells a)) a⟩, wi (m.count + 1)⟩ : MemV), ()))
   else none
  else none
 else none
noncomputable abbrev ak2 : Con SR1 := ⟨149, [.ref 9, .sh sI_, .sh sU_, .sh sU_], [.sh .b], fun x => arD x.1 x.2.1 x.2.2.1 x.2.2.2.1⟩
noncomputable def aCE : List (Nat × Func) := [(105, Tryz.f105), (151, Tryz.f151)]
theorem aiJ : CO Tryz.prog ak2 := aal aak Tryz.func149 [] trivial aCE ⟨Tryz.func105, Tryz.func151, trivial⟩ (fun _ => []) [] fun x => by kernel_rfl
noncomputable def pOr (m : MemV) (a : Int) (v : Int) : Option ((Int × Unit) × (MemV × Unit)) :=
 if a < 0 then
  some ((0, ()), (m, ()))
 else
 if ((m.cells.length : Nat) : Int) ≤ a then
  some ((0, ()), (m, ()))
 else
 if 0 ≤ a ∧ a < ((m.cells.length : Nat) : Int) then
  if 0 ≤ a ∧ a < ((m.cells.length : Nat) : Int) then
   if 0 ≤ a ∧ a < (((m.cells.set a.toNat (orU (aeA m.cells a) v)).length : Nat) : Int) then
   some ((aeA m.cells a, ()), ((⟨m.cells.set a.toNat (orU (aeA m.cells a) v), ⟨4, a, aeA m.cells a, aeA (m.cells.set a.toNat (orU (aeA m.cells a) v)) a⟩, wi (m.count + 1)⟩ : MemV), ()))
   else none
  else none
 else none
noncomputable abbrev az4 : Con SR1 := ⟨136, [.ref 9, .sh sI_, .sh sU_], [.sh sU_], fun x => pOr x.1 x.2.1 x.2.2.1⟩
noncomputable def aED : List (Nat × Func) := [(105, Tryz.f105), (143, Tryz.f143)]
theorem axv : CO Tryz.prog az4 := aal aak Tryz.func136 [] trivial aED ⟨Tryz.func105, Tryz.func143, trivial⟩ (fun _ => []) [] fun x => by kernel_rfl
noncomputable def aBe (m : MemV) (a : Int) (v : Int) : Option ((Int × Unit) × (MemV × Unit)) :=
 if a < 0 then
  some ((0, ()), (m, ()))
 else
 if ((m.cells.length : Nat) : Int) ≤ a then
  some ((0, ()), (m, ()))
 else
 if 0 ≤ a ∧ a < ((m.cells.length : Nat) : Int) then
  if 0 ≤ a ∧ a < ((m.cells.length : Nat) : Int) then
   if 0 ≤ a ∧ a < (((m.cells.set a.toNat (anO (aeA m.cells a) v)).length : Nat) : Int) then
   some ((aeA m.cells a, ()), ((⟨m.cells.set a.toNat (anO (aeA m.cells a) v), ⟨5, a, aeA m.cells a, aeA (m.cells.set a.toNat (anO (aeA m.cells a) v)) a⟩, wi (m.count + 1)⟩ : MemV), ()))
   else none
  else none
 else none
noncomputable abbrev au8 : Con SR1 := ⟨141, [.ref 9, .sh sI_, .sh sU_], [.sh sU_], fun x => aBe x.1 x.2.1 x.2.2.1⟩
noncomputable def aCF : List (Nat × Func) := [(105, Tryz.f105), (145, Tryz.f145)]
theorem atI : CO Tryz.prog au8 := aal aak Tryz.func141 [] trivial aCF ⟨Tryz.func105, Tryz.func145, trivial⟩ (fun _ => []) [] fun x => by kernel_rfl
noncomputable def aDQ (m : MemV) (a : Int) (v : Int) : Option ((Int × Unit) × (MemV × Unit)) :=
 if a < 0 then
  some ((0, ()), (m, ()))
 else
 if ((m.cells.length : Nat) : Int) ≤ a then
  some ((0, ()), (m, ()))
 else
 if 0 ≤ a ∧ a < ((m.cells.length : Nat) : Int) then
  if 0 ≤ a ∧ a < ((m.cells.length : Nat) : Int) then
   if 0 ≤ a ∧ a < (((m.cells.set a.toNat (wu ((aeA m.cells a) + v))).length : Nat) : Int) then
   some ((aeA m.cells a, ()), ((⟨m.cells.set a.toNat (wu ((aeA m.cells a) + v)), ⟨6, a, aeA m.cells a, aeA (m.cells.set a.toNat (wu ((aeA m.cells a) + v))) a⟩, wi (m.count + 1)⟩ : MemV), ()))
   else none
  else none
 else none
noncomputable abbrev au9 : Con SR1 := ⟨154, [.ref 9, .sh sI_, .sh sU_], [.sh sU_], fun x => aDQ x.1 x.2.1 x.2.2.1⟩
noncomputable def aCG : List (Nat × Func) := [(105, Tryz.f105), (156, Tryz.f156)]
theorem atJ : CO Tryz.prog au9 := aal aak Tryz.func154 [] trivial aCG ⟨Tryz.func105, Tryz.func156, trivial⟩ (fun _ => []) [] fun x => by kernel_rfl
noncomputable def aqx (k : ClkV) : Option ((Int × Unit) × (ClkV × Unit)) :=
 some ((k.now, ()), (k, ()))
noncomputable abbrev amO : Con SR1 := ⟨101, [.ref 25], [.sh sI_], fun x => aqx x.1⟩
theorem aj9 : CO Tryz.prog amO := aal aak Tryz.func101 [] trivial [] trivial (fun _ => []) [] fun x => by kernel_rfl
noncomputable def az9 (k : ClkV) (n : Int) : Option ((Int × Unit) × (ClkV × Unit)) :=
 if n < 1 then
  some ((0, ()), (k, ()))
 else
 if n ≠ 0 then
  if (Int.tmod k.draw n) < 0 then
   some ((wi ((Int.tmod k.draw n) + n), ()), (k, ()))
  else
  some (((Int.tmod k.draw n), ()), (k, ()))
 else none
noncomputable abbrev axz : Con SR1 := ⟨223, [.ref 25, .sh sI_], [.sh sI_], fun x => az9 x.1 x.2.1⟩
theorem az7 : CO Tryz.prog axz := aal aak Tryz.func223 [] trivial [] trivial (fun _ => []) [] fun x => by kernel_rfl
noncomputable def azc (n : Int) : Option ((Int × Unit) × (Unit)) :=
 if n < 0 then
  some ((0, ()), (()))
 else
 if 63 < n then
  some ((0, ()), (()))
 else
 if 0 ≤ wu (n) then
  some ((wu (1 * 2 ^ min (wu (n) : Int).toNat IntKind.u64.bits), ()), (()))
 else none
noncomputable abbrev asf : Con SR1 := ⟨138, [.sh sI_], [.sh sU_], fun x => azc x.1⟩
theorem aqD : CO Tryz.prog asf := aal aak Tryz.func138 [] trivial [] trivial (fun _ => []) [] fun x => by kernel_rfl
noncomputable def azb (a : Int) (n : Int) : Option ((Int × Unit) × (Unit)) :=
 if n < 1 then
  some ((0, ()), (()))
 else
 if n ≠ 0 then
  if (Int.tmod a n) < 0 then
   some ((wi ((Int.tmod a n) + n), ()), (()))
  else
  some (((Int.tmod a n), ()), (()))
 else none
noncomputable abbrev asc : Con SR1 := ⟨118, [.sh sI_, .sh sI_], [.sh sI_], fun x => azb x.1 x.2.1⟩
theorem aqy : CO Tryz.prog asc := aal aak Tryz.func118 [] trivial [] trivial (fun _ => []) [] fun x => by kernel_rfl
noncomputable def atA (b : Int) (t : Int) : Option ((Int × Unit) × (Unit)) :=
 some ((wi (wu (b - t)), ()), (()))
noncomputable abbrev amb : Con SR1 := ⟨189, [.sh sU_, .sh sU_], [.sh sI_], fun x => atA x.1 x.2.1⟩
theorem ak0 : CO Tryz.prog amb := aal aak Tryz.func189 [] trivial [] trivial (fun _ => []) [] fun x => by kernel_rfl
noncomputable def atF (q : QV) (i : Int) : Option ((Int × Unit) × (Unit)) :=
 if q.cap < 1 then
  some (((-1), ()), (()))
 else
 if (wu (q.cap)) ≠ 0 then
  some ((wi (q.ring + (wi ((Int.tmod i (wu (q.cap)))))), ()), (()))
 else none
noncomputable abbrev aqB : Con SR1 := ⟨190, [.val 14, .sh sU_], [.sh sI_], fun x => atF x.1 x.2.1⟩
theorem aqA : CO Tryz.prog aqB := aal aak Tryz.func190 [] trivial [] trivial (fun _ => []) [] fun x => by kernel_rfl
noncomputable def pAt (i : Int) (n : Int) (a : Int) (w : Int) : Option ((Int × Unit) × (Unit)) :=
 if i < 0 then
  some (((-1), ()), (()))
 else
 if n ≤ i then
  some (((-1), ()), (()))
 else
 some ((wi (a + (wi (i * w))), ()), (()))
noncomputable abbrev atG : Con SR1 := ⟨57, [.sh sI_, .sh sI_, .sh sI_, .sh sI_], [.sh sI_], fun x => pAt x.1 x.2.1 x.2.2.1 x.2.2.2.1⟩
theorem apK : CO Tryz.prog atG := aal aak Tryz.func57 [] trivial [] trivial (fun _ => []) [] fun x => by kernel_rfl
noncomputable def asb (l : LayV) (t : Int) (f : Int) : Option ((Int × Unit) × (Unit)) :=
 (pAt t l.tasks (wi (l.table + f)) 5).bind fun r1 =>
 some ((r1.1.1, ()), (()))
noncomputable abbrev ama : Con SR1 := ⟨51, [.val 24, .sh sI_, .sh sI_], [.sh sI_], fun x => asb x.1 x.2.1 x.2.2.1⟩
theorem akY : CO Tryz.prog ama := aal aak Tryz.func51 [atG] ⟨apK, trivial⟩ [] trivial (fun _ => []) [] fun x => by kernel_rfl
noncomputable def axw (l : LayV) : Option ((Int × Unit) × (Unit)) :=
 some ((0, ()), (()))
noncomputable abbrev aka : Con SR1 := ⟨33, [.val 24], [.sh sI_], fun x => axw x.1⟩
theorem ajj : CO Tryz.prog aka := aal aak Tryz.func33 [] trivial [] trivial (fun _ => []) [] fun x => by kernel_rfl
noncomputable def ade (l : LayV) (t : Int) : Option ((Int × Unit) × (Unit)) :=
 (asb l t 0).bind fun r1 =>
 some ((r1.1.1, ()), (()))
noncomputable abbrev adL : Con SR1 := ⟨34, [.val 24, .sh sI_], [.sh sI_], fun x => ade x.1 x.2.1⟩
theorem adc : CO Tryz.prog adL := aal aak Tryz.func34 [ama] ⟨akY, trivial⟩ [] trivial (fun _ => []) [] fun x => by kernel_rfl
noncomputable def aeR (l : LayV) (t : Int) : Option ((Int × Unit) × (Unit)) :=
 (asb l t 1).bind fun r1 =>
 some ((r1.1.1, ()), (()))
noncomputable abbrev af3 : Con SR1 := ⟨99, [.val 24, .sh sI_], [.sh sI_], fun x => aeR x.1 x.2.1⟩
theorem afp : CO Tryz.prog af3 := aal aak Tryz.func99 [ama] ⟨akY, trivial⟩ [] trivial (fun _ => []) [] fun x => by kernel_rfl
noncomputable def ah5 (l : LayV) (t : Int) : Option ((Int × Unit) × (Unit)) :=
 (asb l t 4).bind fun r1 =>
 some ((r1.1.1, ()), (()))
noncomputable abbrev ajh : Con SR1 := ⟨100, [.val 24, .sh sI_], [.sh sI_], fun x => ah5 x.1 x.2.1⟩
theorem aiE : CO Tryz.prog ajh := aal aak Tryz.func100 [ama] ⟨akY, trivial⟩ [] trivial (fun _ => []) [] fun x => by kernel_rfl
noncomputable def aiD (l : LayV) (t : Int) : Option ((Int × Unit) × (Unit)) :=
 (asb l t 3).bind fun r1 =>
 some ((r1.1.1, ()), (()))
noncomputable abbrev anC : Con SR1 := ⟨203, [.val 24, .sh sI_], [.sh sI_], fun x => aiD x.1 x.2.1⟩
theorem aoq : CO Tryz.prog anC := aal aak Tryz.func203 [ama] ⟨akY, trivial⟩ [] trivial (fun _ => []) [] fun x => by kernel_rfl
noncomputable def anh (l : LayV) (t : Int) : Option ((Int × Unit) × (Unit)) :=
 (asb l t 2).bind fun r1 =>
 some ((r1.1.1, ()), (()))
noncomputable abbrev atC : Con SR1 := ⟨208, [.val 24, .sh sI_], [.sh sI_], fun x => anh x.1 x.2.1⟩
theorem au2 : CO Tryz.prog atC := aal aak Tryz.func208 [ama] ⟨akY, trivial⟩ [] trivial (fun _ => []) [] fun x => by kernel_rfl
noncomputable def axy (l : LayV) : Option ((Int × Unit) × (Unit)) :=
 some ((1, ()), (()))
noncomputable abbrev atB : Con SR1 := ⟨150, [.val 24], [.sh sI_], fun x => axy x.1⟩
theorem au1 : CO Tryz.prog atB := aal aak Tryz.func150 [] trivial [] trivial (fun _ => []) [] fun x => by kernel_rfl
noncomputable def afN (l : LayV) : Option ((Int × Unit) × (Unit)) :=
 some ((2, ()), (()))
noncomputable abbrev ajk : Con SR1 := ⟨96, [.val 24], [.sh sI_], fun x => afN x.1⟩
theorem aiI : CO Tryz.prog ajk := aal aak Tryz.func96 [] trivial [] trivial (fun _ => []) [] fun x => by kernel_rfl
noncomputable def ang (l : LayV) (i : Int) : Option ((Int × Unit) × (Unit)) :=
 (pAt i l.heap 4 1).bind fun r1 =>
 some ((r1.1.1, ()), (()))
noncomputable abbrev aqw : Con SR1 := ⟨161, [.val 24, .sh sI_], [.sh sI_], fun x => ang x.1 x.2.1⟩
theorem aqv : CO Tryz.prog aqw := aal aak Tryz.func161 [atG] ⟨apK, trivial⟩ [] trivial (fun _ => []) [] fun x => by kernel_rfl
noncomputable def apJ (l : LayV) (w : Int) : Option ((Int × Unit) × (Unit)) :=
 (pAt w l.workers l.epochs 1).bind fun r1 =>
 some ((r1.1.1, ()), (()))
noncomputable abbrev anE : Con SR1 := ⟨135, [.val 24, .sh sI_], [.sh sI_], fun x => apJ x.1 x.2.1⟩
theorem aor : CO Tryz.prog anE := aal aak Tryz.func135 [atG] ⟨apK, trivial⟩ [] trivial (fun _ => []) [] fun x => by kernel_rfl
noncomputable def agt (l : LayV) (l0 : Int) : Option ((Int × Unit) × (Unit)) :=
 (pAt l0 l.classes l.sleepers 1).bind fun r1 =>
 some ((r1.1.1, ()), (()))
noncomputable abbrev aj8 : Con SR1 := ⟨144, [.val 24, .sh sI_], [.sh sI_], fun x => agt x.1 x.2.1⟩
theorem amN : CO Tryz.prog aj8 := aal aak Tryz.func144 [atG] ⟨apK, trivial⟩ [] trivial (fun _ => []) [] fun x => by kernel_rfl
noncomputable def agR (l : LayV) (w : Int) : Option ((Int × Unit) × (Unit)) :=
 (pAt w l.workers l.bitmaps 1).bind fun r1 =>
 some ((r1.1.1, ()), (()))
noncomputable abbrev agv : Con SR1 := ⟨126, [.val 24, .sh sI_], [.sh sI_], fun x => agR x.1 x.2.1⟩
theorem af9 : CO Tryz.prog agv := aal aak Tryz.func126 [atG] ⟨apK, trivial⟩ [] trivial (fun _ => []) [] fun x => by kernel_rfl
noncomputable def agu (l : LayV) (w : Int) (v : Int) : Option ((QV × Unit) × (Unit)) :=
 (pAt w l.workers l.queues (wi (l.levels * (wi (2 + l.deque))))).bind fun r1 =>
 (pAt v l.levels r1.1.1 (wi (2 + l.deque))).bind fun r2 =>
 if r1.1.1 < 0 then
  some (((⟨(-1), (-1), (-1), 0⟩ : QV), ()), (()))
 else
 if r2.1.1 < 0 then
  some (((⟨(-1), (-1), (-1), 0⟩ : QV), ()), (()))
 else
 some (((⟨r2.1.1, wi (r2.1.1 + 1), wi (r2.1.1 + 2), l.deque⟩ : QV), ()), (()))
noncomputable abbrev aji : Con SR1 := ⟨124, [.val 24, .sh sI_, .sh sI_], [.val 14], fun x => agu x.1 x.2.1 x.2.2.1⟩
theorem aiG : CO Tryz.prog aji := aal aak Tryz.func124 [atG] ⟨apK, trivial⟩ [] trivial (fun _ => []) [] fun x => by kernel_rfl
noncomputable def aqE (l : LayV) : Option ((Int × Unit) × (Unit)) :=
 some ((3, ()), (()))
noncomputable abbrev apM : Con SR1 := ⟨84, [.val 24], [.sh sI_], fun x => aqE x.1⟩
theorem atH : CO Tryz.prog apM := aal aak Tryz.func84 [] trivial [] trivial (fun _ => []) [] fun x => by kernel_rfl
noncomputable def au7 (l : LayV) : Option ((Int × Unit) × (Unit)) :=
 some ((wi (l.table + (wi (5 * l.tasks))), ()), (()))
noncomputable abbrev au6 : Con SR1 := ⟨55, [.val 24], [.sh sI_], fun x => au7 x.1⟩
theorem axB : CO Tryz.prog au6 := aal aak Tryz.func55 [] trivial [] trivial (fun _ => []) [] fun x => by kernel_rfl
noncomputable def ad6 (e : EnvP) (v : Ev) : Option ((Unit) × (EnvP × Unit)) :=
 if (((e.evs.length + ([v] : List Ev).length : Nat)) : Int) < 1000000000000 then
  some ((()), (({ e with evs := e.evs ++ ([v]) } : EnvP), ()))
 else none
noncomputable abbrev ae1 : Con SR1 := ⟨103, [.ref 27, .val 2], [], fun x => ad6 x.1 x.2.1⟩
theorem aej : CO Tryz.prog ae1 := aal aak Tryz.func103 [] trivial [] trivial (fun _ => []) [] fun x => by kernel_rfl
noncomputable def az3 (d : Int) (a : Int) (t : Int) : Option ((Int × Bool × Unit) × (Unit)) :=
 if d < 0 then
  some ((0, false, ()), (()))
 else
 if 16777215 < d then
  some ((0, false, ()), (()))
 else
 if a < 0 then
  some ((0, false, ()), (()))
 else
 if 16777215 < a then
  some ((0, false, ()), (()))
 else
 if t < 0 then
  some ((0, false, ()), (()))
 else
 if 65535 < t then
  some ((0, false, ()), (()))
 else
 some ((orU (orU (wu ((wu (d)) * 2 ^ min (40 : Int).toNat IntKind.u64.bits)) (wu ((wu (a)) * 2 ^ min (16 : Int).toNat IntKind.u64.bits))) (wu (t)), true, ()), (()))
noncomputable abbrev axu : Con SR1 := ⟨159, [.sh sI_, .sh sI_, .sh sI_], [.sh sU_, .sh .b], fun x => az3 x.1 x.2.1 x.2.2.1⟩
theorem az1 : CO Tryz.prog axu := aal aak Tryz.func159 [] trivial [] trivial (fun _ => []) [] fun x => by kernel_rfl
noncomputable def ase (l : Int) (n : Int) (c : Int) : Option ((Int × Unit) × (Unit)) :=
 if n < 1 then
  some ((0, ()), (()))
 else
 if 64 < n then
  some ((0, ()), (()))
 else
 if c < 1 then
  some ((0, ()), (()))
 else
 if 8 < c then
  some ((0, ()), (()))
 else
 if l < 0 then
  some ((0, ()), (()))
 else
 if n ≤ l then
  some ((0, ()), (()))
 else
 if n ≠ 0 then
  some ((wi (Int.tdiv (wi (l * c)) n), ()), (()))
 else none
noncomputable abbrev au5 : Con SR1 := ⟨168, [.sh sI_, .sh sI_, .sh sI_], [.sh sI_], fun x => ase x.1 x.2.1 x.2.2.1⟩
theorem axA : CO Tryz.prog au5 := aal aak Tryz.func168 [] trivial [] trivial (fun _ => []) [] fun x => by kernel_rfl
noncomputable def atz (k : Int) : Option ((Int × Int × Int × Unit) × (Unit)) :=
 some ((wi (Int.fdiv k (2 ^ min (40 : Int).toNat IntKind.u64.bits)), wi (anO (Int.fdiv k (2 ^ min (16 : Int).toNat IntKind.u64.bits)) 16777215), wi (anO k 65535), ()), (()))
noncomputable abbrev asa : Con SR1 := ⟨236, [.sh sU_], [.sh sI_, .sh sI_, .sh sI_], fun x => atz x.1⟩
theorem av5 : CO Tryz.prog asa := aal aak Tryz.func236 [] trivial [] trivial (fun _ => []) [] fun x => by kernel_rfl
noncomputable def agB (x : Int) : Option ((Int × Unit) × (Unit)) :=
 if 4294967296 ≤ x then
  if 65536 ≤ (Int.fdiv x (2 ^ min (32 : Int).toNat IntKind.u64.bits)) then
   if 256 ≤ (Int.fdiv (Int.fdiv x (2 ^ min (32 : Int).toNat IntKind.u64.bits)) (2 ^ min (16 : Int).toNat IntKind.u64.bits)) then
   if 0 ≤ IntKind.u8.wrap (Int.fdiv (Int.fdiv (Int.fdiv x (2 ^ min (32 : Int).toNat IntKind.u64.bits)) (2 ^ min (16 : Int).toNat IntKind.u64.bits)) (2 ^ min (8 : Int).toNat IntKind.u64.bits)) ∧ IntKind.u8.wrap (Int.fdiv (Int.fdiv (Int.fdiv x (2 ^ min (32 : Int).toNat IntKind.u64.bits)) (2 ^ min (16 : Int).toNat IntKind.u64.bits)) (2 ^ min (8 : Int).toNat IntKind.u64.bits)) < ((air.size : Nat) : Int) then
   some ((wi ((wi (56 + (wi ((((air[(IntKind.u8.wrap (Int.fdiv (Int.fdiv (Int.fdiv x (2 ^ min (32 : Int).toNat IntKind.u64.bits)) (2 ^ min (16 : Int).toNat IntKind.u64.bits)) (2 ^ min (8 : Int).toNat IntKind.u64.bits))).toNat]?).map fun b => ((b.toNat : Nat) : Int)).getD 0))))) - 1), ()), (()))
   else none
   else
   if 0 ≤ IntKind.u8.wrap (Int.fdiv (Int.fdiv x (2 ^ min (32 : Int).toNat IntKind.u64.bits)) (2 ^ min (16 : Int).toNat IntKind.u64.bits)) ∧ IntKind.u8.wrap (Int.fdiv (Int.fdiv x (2 ^ min (32 : Int).toNat IntKind.u64.bits)) (2 ^ min (16 : Int).toNat IntKind.u64.bits)) < ((air.size : Nat) : Int) then
   some ((wi ((wi (48 + (wi ((((air[(IntKind.u8.wrap (Int.fdiv (Int.fdiv x (2 ^ min (32 : Int).toNat IntKind.u64.bits)) (2 ^ min (16 : Int).toNat IntKind.u64.bits))).toNat]?).map fun b => ((b.toNat : Nat) : Int)).getD 0))))) - 1), ()), (()))
   else none
  else
  if 256 ≤ (Int.fdiv x (2 ^ min (32 : Int).toNat IntKind.u64.bits)) then
   if 0 ≤ IntKind.u8.wrap (Int.fdiv (Int.fdiv x (2 ^ min (32 : Int).toNat IntKind.u64.bits)) (2 ^ min (8 : Int).toNat IntKind.u64.bits)) ∧ IntKind.u8.wrap (Int.fdiv (Int.fdiv x (2 ^ min (32 : Int).toNat IntKind.u64.bits)) (2 ^ min (8 : Int).toNat IntKind.u64.bits)) < ((air.size : Nat) : Int) then
   some ((wi ((wi (40 + (wi ((((air[(IntKind.u8.wrap (Int.fdiv (Int.fdiv x (2 ^ min (32 : Int).toNat IntKind.u64.bits)) (2 ^ min (8 : Int).toNat IntKind.u64.bits))).toNat]?).map fun b => ((b.toNat : Nat) : Int)).getD 0))))) - 1), ()), (()))
   else none
  else
  if 0 ≤ IntKind.u8.wrap (Int.fdiv x (2 ^ min (32 : Int).toNat IntKind.u64.bits)) ∧ IntKind.u8.wrap (Int.fdiv x (2 ^ min (32 : Int).toNat IntKind.u64.bits)) < ((air.size : Nat) : Int) then
   some ((wi ((wi (32 + (wi ((((air[(IntKind.u8.wrap (Int.fdiv x (2 ^ min (32 : Int).toNat IntKind.u64.bits))).toNat]?).map fun b => ((b.toNat : Nat) : Int)).getD 0))))) - 1), ()), (()))
  else none
 else
 if 65536 ≤ x then
  if 256 ≤ (Int.fdiv x (2 ^ min (16 : Int).toNat IntKind.u64.bits)) then
   if 0 ≤ IntKind.u8.wrap (Int.fdiv (Int.fdiv x (2 ^ min (16 : Int).toNat IntKind.u64.bits)) (2 ^ min (8 : Int).toNat IntKind.u64.bits)) ∧ IntKind.u8.wrap (Int.fdiv (Int.fdiv x (2 ^ min (16 : Int).toNat IntKind.u64.bits)) (2 ^ min (8 : Int).toNat IntKind.u64.bits)) < ((air.size : Nat) : Int) then
   some ((wi ((wi (24 + (wi ((((air[(IntKind.u8.wrap (Int.fdiv (Int.fdiv x (2 ^ min (16 : Int).toNat IntKind.u64.bits)) (2 ^ min (8 : Int).toNat IntKind.u64.bits))).toNat]?).map fun b => ((b.toNat : Nat) : Int)).getD 0))))) - 1), ()), (()))
   else none
  else
  if 0 ≤ IntKind.u8.wrap (Int.fdiv x (2 ^ min (16 : Int).toNat IntKind.u64.bits)) ∧ IntKind.u8.wrap (Int.fdiv x (2 ^ min (16 : Int).toNat IntKind.u64.bits)) < ((air.size : Nat) : Int) then
   some ((wi ((wi (16 + (wi ((((air[(IntKind.u8.wrap (Int.fdiv x (2 ^ min (16 : Int).toNat IntKind.u64.bits))).toNat]?).map fun b => ((b.toNat : Nat) : Int)).getD 0))))) - 1), ()), (()))
  else none
 else
 if 256 ≤ x then
  if 0 ≤ IntKind.u8.wrap (Int.fdiv x (2 ^ min (8 : Int).toNat IntKind.u64.bits)) ∧ IntKind.u8.wrap (Int.fdiv x (2 ^ min (8 : Int).toNat IntKind.u64.bits)) < ((air.size : Nat) : Int) then
   some ((wi ((wi (8 + (wi ((((air[(IntKind.u8.wrap (Int.fdiv x (2 ^ min (8 : Int).toNat IntKind.u64.bits))).toNat]?).map fun b => ((b.toNat : Nat) : Int)).getD 0))))) - 1), ()), (()))
  else none
 else
 if 0 ≤ IntKind.u8.wrap (x) ∧ IntKind.u8.wrap (x) < ((air.size : Nat) : Int) then
  some ((wi ((wi (0 + (wi ((((air[(IntKind.u8.wrap (x)).toNat]?).map fun b => ((b.toNat : Nat) : Int)).getD 0))))) - 1), ()), (()))
 else none
noncomputable abbrev atD : Con SR1 := ⟨216, [.sh sU_], [.sh sI_], fun x => agB x.1⟩
noncomputable def az6 : List (Nat × Func) := [(218, Tryz.f218)]
theorem au3 : CO Tryz.prog atD := aal aak Tryz.func216 [] trivial az6 ⟨Tryz.func218, trivial⟩ (fun _ => []) [] fun x => by kernel_rfl
noncomputable def aee (y0 : ProbeV) (y1 : Int) : Option ((Bool × Unit) × (ProbeV × Unit)) :=
 ((
  if y0.next < y1 then
   if y1 ≠ 0 then
   some (decide ((Int.tmod (wi (y0.start + y0.next)) y1) = y0.worker), ())
   else none
  else
  some (false, ())
 ) : Option (Bool × Unit)).bind fun z1 =>
 if z1.1 = true then
  some ((decide (y1 ≤ (wi (y0.next + 1))), ()), (({ y0 with next := wi (y0.next + 1) } : ProbeV), ()))
 else
 some ((decide (y1 ≤ y0.next), ()), (y0, ()))
noncomputable abbrev ah3 : Con SR1 := ⟨224, [.ref 46, .sh sI_], [.sh .b], fun x => aee x.1 x.2.1⟩
theorem al5 : CO Tryz.prog ah3 := aal aak Tryz.func224 [] trivial [] trivial (fun _ => []) [(2, .cut [.rg 28 .b] [0])] fun x => by kernel_rfl
noncomputable def abk (y0 : ProbeV) (y1 : EnvP) : Option ((Bool × Unit) × (ProbeV × EnvP × Unit)) :=
 (aav y0.o).bind fun r1 =>
 if r1.1.1 = true then
  some ((true, ()), (({ y0 with o := r1.2.1 } : ProbeV), y1, ()))
 else
 ((
  if (!y0.begun) = true then
   (az9 y1.k (if 16 < y1.c.workers then 16 else y1.c.workers)).bind fun r2 =>
   some (({ y0 with o := r1.2.1, begun := true, start := r2.1.1 } : ProbeV), ({ y1 with k := r2.2.1 } : EnvP), ())
  else
  some (({ y0 with o := r1.2.1 } : ProbeV), y1, ())
 ) : Option (ProbeV × EnvP × Unit)).bind fun z3 =>
 (aee z3.1 (if 16 < y1.c.workers then 16 else y1.c.workers)).bind fun r4 =>
 if r4.1.1 = true then
  (abe r4.2.1.o 2 0).bind fun r5 =>
  some ((r5.1.1, ()), (({ r4.2.1 with o := r5.2.1 } : ProbeV), z3.2.1, ()))
 else
 if (if 16 < y1.c.workers then 16 else y1.c.workers) ≠ 0 then
  ((
   (agR z3.2.1.l (Int.tmod (wi (r4.2.1.start + r4.2.1.next)) (if 16 < y1.c.workers then 16 else y1.c.workers))).bind fun r6 =>
   (acy z3.2.1.m r6.1.1).bind fun r7 =>
   if (Int.tmod (wi (r4.2.1.start + r4.2.1.next)) (if 16 < y1.c.workers then 16 else y1.c.workers)) = ((15 : Nat) : Int) then
   some (({ r4.2.1 with bm := { r4.2.1.bm with b15 := r7.1.1 } } : ProbeV), ({ z3.2.1 with m := r7.2.1 } : EnvP), ())
   else
   if (Int.tmod (wi (r4.2.1.start + r4.2.1.next)) (if 16 < y1.c.workers then 16 else y1.c.workers)) = ((14 : Nat) : Int) then
   some (({ r4.2.1 with bm := { r4.2.1.bm with b14 := r7.1.1 } } : ProbeV), ({ z3.2.1 with m := r7.2.1 } : EnvP), ())
   else
   if (Int.tmod (wi (r4.2.1.start + r4.2.1.next)) (if 16 < y1.c.workers then 16 else y1.c.workers)) = ((13 : Nat) : Int) then
   some (({ r4.2.1 with bm := { r4.2.1.bm with b13 := r7.1.1 } } : ProbeV), ({ z3.2.1 with m := r7.2.1 } : EnvP), ())
   else
   if (Int.tmod (wi (r4.2.1.start + r4.2.1.next)) (if 16 < y1.c.workers then 16 else y1.c.workers)) = ((12 : Nat) : Int) then
   some (({ r4.2.1 with bm := { r4.2.1.bm with b12 := r7.1.1 } } : ProbeV), ({ z3.2.1 with m := r7.2.1 } : EnvP), ())
   else
   if (Int.tmod (wi (r4.2.1.start + r4.2.1.next)) (if 16 < y1.c.workers then 16 else y1.c.workers)) = ((11 : Nat) : Int) then
   some (({ r4.2.1 with bm := { r4.2.1.bm with b11 := r7.1.1 } } : ProbeV), ({ z3.2.1 with m := r7.2.1 } : EnvP), ())
   else
   if (Int.tmod (wi (r4.2.1.start + r4.2.1.next)) (if 16 < y1.c.workers then 16 else y1.c.workers)) = ((10 : Nat) : Int) then
   some (({ r4.2.1 with bm := { r4.2.1.bm with b10 := r7.1.1 } } : ProbeV), ({ z3.2.1 with m := r7.2.1 } : EnvP), ())
   else
   if (Int.tmod (wi (r4.2.1.start + r4.2.1.next)) (if 16 < y1.c.workers then 16 else y1.c.workers)) = ((9 : Nat) : Int) then
   some (({ r4.2.1 with bm := { r4.2.1.bm with b9 := r7.1.1 } } : ProbeV), ({ z3.2.1 with m := r7.2.1 } : EnvP), ())
   else
   if (Int.tmod (wi (r4.2.1.start + r4.2.1.next)) (if 16 < y1.c.workers then 16 else y1.c.workers)) = ((8 : Nat) : Int) then
   some (({ r4.2.1 with bm := { r4.2.1.bm with b8 := r7.1.1 } } : ProbeV), ({ z3.2.1 with m := r7.2.1 } : EnvP), ())
   else
   if (Int.tmod (wi (r4.2.1.start + r4.2.1.next)) (if 16 < y1.c.workers then 16 else y1.c.workers)) = ((7 : Nat) : Int) then
   some (({ r4.2.1 with bm := { r4.2.1.bm with b7 := r7.1.1 } } : ProbeV), ({ z3.2.1 with m := r7.2.1 } : EnvP), ())
   else
   if (Int.tmod (wi (r4.2.1.start + r4.2.1.next)) (if 16 < y1.c.workers then 16 else y1.c.workers)) = ((6 : Nat) : Int) then
   some (({ r4.2.1 with bm := { r4.2.1.bm with b6 := r7.1.1 } } : ProbeV), ({ z3.2.1 with m := r7.2.1 } : EnvP), ())
   else
   if (Int.tmod (wi (r4.2.1.start + r4.2.1.next)) (if 16 < y1.c.workers then 16 else y1.c.workers)) = ((5 : Nat) : Int) then
   some (({ r4.2.1 with bm := { r4.2.1.bm with b5 := r7.1.1 } } : ProbeV), ({ z3.2.1 with m := r7.2.1 } : EnvP), ())
   else
   if (Int.tmod (wi (r4.2.1.start + r4.2.1.next)) (if 16 < y1.c.workers then 16 else y1.c.workers)) = ((4 : Nat) : Int) then
   some (({ r4.2.1 with bm := { r4.2.1.bm with b4 := r7.1.1 } } : ProbeV), ({ z3.2.1 with m := r7.2.1 } : EnvP), ())
   else
   if (Int.tmod (wi (r4.2.1.start + r4.2.1.next)) (if 16 < y1.c.workers then 16 else y1.c.workers)) = ((3 : Nat) : Int) then
   some (({ r4.2.1 with bm := { r4.2.1.bm with b3 := r7.1.1 } } : ProbeV), ({ z3.2.1 with m := r7.2.1 } : EnvP), ())
   else
   if (Int.tmod (wi (r4.2.1.start + r4.2.1.next)) (if 16 < y1.c.workers then 16 else y1.c.workers)) = ((2 : Nat) : Int) then
   some (({ r4.2.1 with bm := { r4.2.1.bm with b2 := r7.1.1 } } : ProbeV), ({ z3.2.1 with m := r7.2.1 } : EnvP), ())
   else
   if (Int.tmod (wi (r4.2.1.start + r4.2.1.next)) (if 16 < y1.c.workers then 16 else y1.c.workers)) = ((1 : Nat) : Int) then
   some (({ r4.2.1 with bm := { r4.2.1.bm with b1 := r7.1.1 } } : ProbeV), ({ z3.2.1 with m := r7.2.1 } : EnvP), ())
   else
   if (Int.tmod (wi (r4.2.1.start + r4.2.1.next)) (if 16 < y1.c.workers then 16 else y1.c.workers)) = ((0 : Nat) : Int) then
   some (({ r4.2.1 with bm := { r4.2.1.bm with b0 := r7.1.1 } } : ProbeV), ({ z3.2.1 with m := r7.2.1 } : EnvP), ())
   else
   none
  ) : Option (ProbeV × EnvP × Unit)).bind fun z8 =>
  (aee ({ z8.1 with next := wi (z8.1.next + 1) } : ProbeV) (if 16 < y1.c.workers then 16 else y1.c.workers)).bind fun r9 =>
  if (!r9.1.1) = true then
   some ((false, ()), (r9.2.1, z8.2.1, ()))
  else
  if 0 ≤ (if 16 < y1.c.workers then 16 else y1.c.workers) ∧ (if 16 < y1.c.workers then 16 else y1.c.workers) ≤ ((16 : Nat) : Int) then
   (lpF (σ := Int × Int × Int × ProbeV × Unit) (β := Int × Int × Int × ProbeV × Unit) (fun self12 x10 =>
   if x10.2.2.1 < ((((if 16 < y1.c.workers then 16 else y1.c.workers)).toNat : Nat) : Int) then
   (azb r9.2.1.start ((((if 16 < y1.c.workers then 16 else y1.c.workers)).toNat : Nat) : Int)).bind fun r13 =>
   if ((((if 16 < y1.c.workers then 16 else y1.c.workers)).toNat : Nat) : Int) ≠ 0 then
   ((
   if (Int.tmod (wi (r13.1.1 + x10.2.2.1)) ((((if 16 < y1.c.workers then 16 else y1.c.workers)).toNat : Nat) : Int)) < (if 16 < y1.c.workers then 16 else y1.c.workers) then
   if (Int.tmod (wi (r13.1.1 + x10.2.2.1)) ((((if 16 < y1.c.workers then 16 else y1.c.workers)).toNat : Nat) : Int)) = ((15 : Nat) : Int) then
   (agB x10.2.2.2.1.bm.b15).bind fun r14 =>
   some (r14.1.1, x10.2.2.2.1, ())
   else
   if (Int.tmod (wi (r13.1.1 + x10.2.2.1)) ((((if 16 < y1.c.workers then 16 else y1.c.workers)).toNat : Nat) : Int)) = ((14 : Nat) : Int) then
   (agB x10.2.2.2.1.bm.b14).bind fun r15 =>
   some (r15.1.1, x10.2.2.2.1, ())
   else
   if (Int.tmod (wi (r13.1.1 + x10.2.2.1)) ((((if 16 < y1.c.workers then 16 else y1.c.workers)).toNat : Nat) : Int)) = ((13 : Nat) : Int) then
   (agB x10.2.2.2.1.bm.b13).bind fun r16 =>
   some (r16.1.1, x10.2.2.2.1, ())
   else
   if (Int.tmod (wi (r13.1.1 + x10.2.2.1)) ((((if 16 < y1.c.workers then 16 else y1.c.workers)).toNat : Nat) : Int)) = ((12 : Nat) : Int) then
   (agB x10.2.2.2.1.bm.b12).bind fun r17 =>
   some (r17.1.1, x10.2.2.2.1, ())
   else
   if (Int.tmod (wi (r13.1.1 + x10.2.2.1)) ((((if 16 < y1.c.workers then 16 else y1.c.workers)).toNat : Nat) : Int)) = ((11 : Nat) : Int) then
   (agB x10.2.2.2.1.bm.b11).bind fun r18 =>
   some (r18.1.1, x10.2.2.2.1, ())
   else
   if (Int.tmod (wi (r13.1.1 + x10.2.2.1)) ((((if 16 < y1.c.workers then 16 else y1.c.workers)).toNat : Nat) : Int)) = ((10 : Nat) : Int) then
   (agB x10.2.2.2.1.bm.b10).bind fun r19 =>
   some (r19.1.1, x10.2.2.2.1, ())
   else
   if (Int.tmod (wi (r13.1.1 + x10.2.2.1)) ((((if 16 < y1.c.workers then 16 else y1.c.workers)).toNat : Nat) : Int)) = ((9 : Nat) : Int) then
   (agB x10.2.2.2.1.bm.b9).bind fun r20 =>
   some (r20.1.1, x10.2.2.2.1, ())
   else
   if (Int.tmod (wi (r13.1.1 + x10.2.2.1)) ((((if 16 < y1.c.workers then 16 else y1.c.workers)).toNat : Nat) : Int)) = ((8 : Nat) : Int) then
   (agB x10.2.2.2.1.bm.b8).bind fun r21 =>
   some (r21.1.1, x10.2.2.2.1, ())
   else
   if (Int.tmod (wi (r13.1.1 + x10.2.2.1)) ((((if 16 < y1.c.workers then 16 else y1.c.workers)).toNat : Nat) : Int)) = ((7 : Nat) : Int) then
   (agB x10.2.2.2.1.bm.b7).bind fun r22 =>
   some (r22.1.1, x10.2.2.2.1, ())
   else
   if (Int.tmod (wi (r13.1.1 + x10.2.2.1)) ((((if 16 < y1.c.workers then 16 else y1.c.workers)).toNat : Nat) : Int)) = ((6 : Nat) : Int) then
   (agB x10.2.2.2.1.bm.b6).bind fun r23 =>
   some (r23.1.1, x10.2.2.2.1, ())
   else
   if (Int.tmod (wi (r13.1.1 + x10.2.2.1)) ((((if 16 < y1.c.workers then 16 else y1.c.workers)).toNat : Nat) : Int)) = ((5 : Nat) : Int) then
   (agB x10.2.2.2.1.bm.b5).bind fun r24 =>
   some (r24.1.1, x10.2.2.2.1, ())
   else
   if (Int.tmod (wi (r13.1.1 + x10.2.2.1)) ((((if 16 < y1.c.workers then 16 else y1.c.workers)).toNat : Nat) : Int)) = ((4 : Nat) : Int) then
   (agB x10.2.2.2.1.bm.b4).bind fun r25 =>
   some (r25.1.1, x10.2.2.2.1, ())
   else
   if (Int.tmod (wi (r13.1.1 + x10.2.2.1)) ((((if 16 < y1.c.workers then 16 else y1.c.workers)).toNat : Nat) : Int)) = ((3 : Nat) : Int) then
   (agB x10.2.2.2.1.bm.b3).bind fun r26 =>
   some (r26.1.1, x10.2.2.2.1, ())
   else
   if (Int.tmod (wi (r13.1.1 + x10.2.2.1)) ((((if 16 < y1.c.workers then 16 else y1.c.workers)).toNat : Nat) : Int)) = ((2 : Nat) : Int) then
   (agB x10.2.2.2.1.bm.b2).bind fun r27 =>
   some (r27.1.1, x10.2.2.2.1, ())
   else
   if (Int.tmod (wi (r13.1.1 + x10.2.2.1)) ((((if 16 < y1.c.workers then 16 else y1.c.workers)).toNat : Nat) : Int)) = ((1 : Nat) : Int) then
   (agB x10.2.2.2.1.bm.b1).bind fun r28 =>
   some (r28.1.1, x10.2.2.2.1, ())
   else
   if (Int.tmod (wi (r13.1.1 + x10.2.2.1)) ((((if 16 < y1.c.workers then 16 else y1.c.workers)).toNat : Nat) : Int)) = ((0 : Nat) : Int) then
   (agB x10.2.2.2.1.bm.b0).bind fun r29 =>
   some (r29.1.1, x10.2.2.2.1, ())
   else
   none
   else none
   ) : Option (Int × ProbeV × Unit)).bind fun z30 =>
   if (Int.tmod (wi (r13.1.1 + x10.2.2.1)) ((((if 16 < y1.c.workers then 16 else y1.c.workers)).toNat : Nat) : Int)) ≠ r9.2.1.worker then
   if x10.2.1 < z30.1 then
   self12 ((Int.tmod (wi (r13.1.1 + x10.2.2.1)) ((((if 16 < y1.c.workers then 16 else y1.c.workers)).toNat : Nat) : Int)), z30.1, wi (x10.2.2.1 + 1), z30.2.1, ())
   else
   self12 (x10.1, x10.2.1, wi (x10.2.2.1 + 1), z30.2.1, ())
   else
   self12 (x10.1, x10.2.1, wi (x10.2.2.1 + 1), z30.2.1, ())
   else none
   else
   some (x10.1, x10.2.1, x10.2.2.1, x10.2.2.2.1, ())
   ) 18446744073709551616 ((-1), (-1), 0, r9.2.1, ())).bind fun z11 =>
   if z11.1 < 0 then
   (abe z11.2.2.2.1.o 2 0).bind fun r31 =>
   some ((r31.1.1, ()), (({ z11.2.2.2.1 with o := r31.2.1 } : ProbeV), z8.2.1, ()))
   else
   (abe z11.2.2.2.1.o 1 (wi ((wi (z11.1 * 64)) + z11.2.1))).bind fun r32 =>
   some ((r32.1.1, ()), (({ z11.2.2.2.1 with o := r32.2.1 } : ProbeV), z8.2.1, ()))
  else none
 else none
noncomputable abbrev ana : Con SR1 := ⟨222, [.ref 46, .ref 27], [.sh .b], fun x => abk x.1 x.2.1⟩
noncomputable def al3 : List (Nat × Func) := [(225, Tryz.f225)]
theorem al4 : CO Tryz.prog ana := aal aak Tryz.func222 [abn, axz, ah3, acD, agv, acC, asc, atD] ⟨aa7, az7, al5, abx, af9, abK, aqy, au3, trivial⟩ al3 ⟨Tryz.func225, trivial⟩ (fun f => (get [(225, [(4, .loop [.rg 6 sI_, .rg 7 sI_, .rg 15 sI_, .ob 0 46] 18446744073709551616 0), (8, .cut [.rg 11 sI_, .ob 0 46] [])])] f).getD []) [(6, .cut [.ob 0 46, .ob 1 27] []), (10, .cut [.ob 0 46, .ob 1 27] [])] fun x => by kernel_rfl
noncomputable def aeX (y0 : EnvP) (y1 : Int) : Option ((Bool × Unit) × (EnvP × Unit)) :=
 if 0 ≤ y1 then
  some ((decide (y1 < y0.c.tasks), ()), (y0, ()))
 else
 some ((false, ()), (y0, ()))
noncomputable abbrev afZ : Con SR1 := ⟨155, [.ref 27, .sh sI_], [.sh .b], fun x => aeX x.1 x.2.1⟩
theorem agP : CO Tryz.prog afZ := aal aak Tryz.func155 [] trivial [] trivial (fun _ => []) [] fun x => by kernel_rfl
noncomputable def abQ (y0 : AllocV) (y1 : EnvP) : Option ((Bool × Unit) × (AllocV × EnvP × Unit)) :=
 (aav y0.o).bind fun r1 =>
 if r1.1.1 = true then
  some ((true, ()), ((⟨r1.2.1⟩ : AllocV), y1, ()))
 else
 (axw y1.l).bind fun r2 =>
 (aDQ y1.m r2.1.1 1).bind fun r3 =>
 (aeX ({ y1 with m := r3.2.1 } : EnvP) (wi (r3.1.1))).bind fun r4 =>
 if (!r4.1.1) = true then
  (abe r1.2.1 3 0).bind fun r5 =>
  some ((r5.1.1, ()), ((⟨r5.2.1⟩ : AllocV), r4.2.1, ()))
 else
 (abe r1.2.1 1 (wi (r3.1.1))).bind fun r6 =>
 some ((r6.1.1, ()), ((⟨r6.2.1⟩ : AllocV), r4.2.1, ()))
noncomputable abbrev aj5 : Con SR1 := ⟨153, [.ref 35, .ref 27], [.sh .b], fun x => abQ x.1 x.2.1⟩
theorem ajB : CO Tryz.prog aj5 := aal aak Tryz.func153 [abn, aka, au9, afZ, acD] ⟨aa7, ajj, atJ, agP, abx, trivial⟩ [] trivial (fun _ => []) [] fun x => by kernel_rfl
noncomputable def abI (y0 : PublishV) (y1 : EnvP) : Option ((Bool × Unit) × (PublishV × EnvP × Unit)) :=
 (aav y0.o).bind fun r1 =>
 if r1.1.1 = true then
  some ((true, ()), (({ y0 with o := r1.2.1 } : PublishV), y1, ()))
 else
 (aeX y1 y0.task).bind fun r2 =>
 if (!r2.1.1) = true then
  (abe r1.2.1 4 0).bind fun r3 =>
  some ((r3.1.1, ()), (({ y0 with o := r3.2.1 } : PublishV), r2.2.1, ()))
 else
 if y0.line = 1 then
  (aeR r2.2.1.l y0.task).bind fun r4 =>
  if y0.level = y0.level then
   (aa4 r2.2.1.m r4.1.1 (wu (y0.level))).bind fun r5 =>
   some ((false, ()), (({ y0 with o := r1.2.1, line := wi (y0.line + 1) } : PublishV), ({ r2.2.1 with m := r5.2.1 } : EnvP), ()))
  else none
 else
 if y0.line = 2 then
  (ah5 r2.2.1.l y0.task).bind fun r6 =>
  (aqx r2.2.1.k).bind fun r7 =>
  (aa4 r2.2.1.m r6.1.1 (wu (r7.1.1))).bind fun r8 =>
  some ((false, ()), (({ y0 with o := r1.2.1, line := wi (y0.line + 1) } : PublishV), ({ r2.2.1 with m := r8.2.1, k := r7.2.1 } : EnvP), ()))
 else
 (ade r2.2.1.l y0.task).bind fun r9 =>
 (aa4 r2.2.1.m r9.1.1 1).bind fun r10 =>
 (abe r1.2.1 0 0).bind fun r11 =>
 some ((r11.1.1, ()), (({ y0 with o := r11.2.1 } : PublishV), ({ r2.2.1 with m := r10.2.1 } : EnvP), ()))
noncomputable abbrev aky : Con SR1 := ⟨246, [.ref 50, .ref 27], [.sh .b], fun x => abI x.1 x.2.1⟩
theorem aj4 : CO Tryz.prog aky := aal aak Tryz.func246 [abn, afZ, acD, af3, adK, ajh, amO, adL] ⟨aa7, agP, abx, afp, adb, aiE, aj9, adc, trivial⟩ [] trivial (fun _ => []) [] fun x => by kernel_rfl
noncomputable def ac1 (y0 : ClaimV) (y1 : EnvP) : Option ((Bool × Unit) × (ClaimV × EnvP × Unit)) :=
 (aav y0.o).bind fun r1 =>
 if r1.1.1 = true then
  some ((true, ()), (({ y0 with o := r1.2.1 } : ClaimV), y1, ()))
 else
 if y0.task = y0.task then
  if y0.worker = y0.worker then
   (ade y1.l y0.task).bind fun r2 =>
   (arD y1.m r2.1.1 1 2).bind fun r3 =>
   if (!r3.1.1) = true then
   (ad6 ({ y1 with m := r3.2.1 } : EnvP) ({ y0 with kind := 15, other := 0, level := 0 } : Ev)).bind fun r4 =>
   (abe r1.2.1 4 0).bind fun r5 =>
   some ((r5.1.1, ()), (({ y0 with o := r5.2.1 } : ClaimV), r4.2.1, ()))
   else
   if 0 ≤ y0.task ∧ y0.task < ((y1.recs.length : Nat) : Int) then
   if (aab y1.recs y0.task).started = true then
   (ad6 ({ y1 with m := r3.2.1 } : EnvP) ({ y0 with kind := 9, other := 0, level := 0 } : Ev)).bind fun r6 =>
   (abe r1.2.1 1 y0.task).bind fun r7 =>
   some ((r7.1.1, ()), (({ y0 with o := r7.2.1 } : ClaimV), r6.2.1, ()))
   else
   (ad6 ({ y1 with m := r3.2.1, recs := y1.recs.set y0.task.toNat ({ aab y1.recs y0.task with started := true } : RecP) } : EnvP) ({ y0 with kind := 5, other := 0, level := 0 } : Ev)).bind fun r8 =>
   (abe r1.2.1 1 y0.task).bind fun r9 =>
   some ((r9.1.1, ()), (({ y0 with o := r9.2.1 } : ClaimV), r8.2.1, ()))
   else none
  else none
 else none
noncomputable abbrev am3 : Con SR1 := ⟨220, [.ref 45, .ref 27], [.sh .b], fun x => ac1 x.1 x.2.1⟩
theorem alN : CO Tryz.prog am3 := aal aak Tryz.func220 [abn, adL, ak2, ae1, acD] ⟨aa7, adc, aiJ, aej, abx, trivial⟩ [] trivial (fun _ => []) [] fun x => by kernel_rfl
noncomputable def acG (y0 : AttemptV) (y1 : EnvP) : Option ((Bool × Unit) × (AttemptV × EnvP × Unit)) :=
 (aav y0.o).bind fun r1 =>
 if r1.1.1 = true then
  some ((true, ()), (({ y0 with o := r1.2.1 } : AttemptV), y1, ()))
 else
 (axy y1.l).bind fun r2 =>
 if y0.owner = y0.owner then
  (arD y1.m r2.1.1 0 (wu (wi (y0.owner + 1)))).bind fun r3 =>
  if r3.1.1 = true then
   (abe r1.2.1 1 0).bind fun r4 =>
   some ((r4.1.1, ()), (({ y0 with o := r4.2.1 } : AttemptV), ({ y1 with m := r3.2.1 } : EnvP), ()))
  else
  if y0.once = true then
   (abe r1.2.1 5 0).bind fun r5 =>
   some ((r5.1.1, ()), (({ y0 with o := r5.2.1 } : AttemptV), ({ y1 with m := r3.2.1 } : EnvP), ()))
  else
  some ((false, ()), (({ y0 with o := r1.2.1 } : AttemptV), ({ y1 with m := r3.2.1 } : EnvP), ()))
 else none
noncomputable abbrev ami : Con SR1 := ⟨148, [.ref 34, .ref 27], [.sh .b], fun x => acG x.1 x.2.1⟩
theorem ale : CO Tryz.prog ami := aal aak Tryz.func148 [abn, atB, ak2, acD] ⟨aa7, au1, aiJ, abx, trivial⟩ [] trivial (fun _ => []) [] fun x => by kernel_rfl
noncomputable def acF (y0 : ReleaseV) (y1 : EnvP) : Option ((Bool × Unit) × (ReleaseV × EnvP × Unit)) :=
 (aav y0.o).bind fun r1 =>
 if r1.1.1 = true then
  some ((true, ()), ((⟨r1.2.1⟩ : ReleaseV), y1, ()))
 else
 (axy y1.l).bind fun r2 =>
 (aa4 y1.m r2.1.1 0).bind fun r3 =>
 (abe r1.2.1 0 0).bind fun r4 =>
 some ((r4.1.1, ()), ((⟨r4.2.1⟩ : ReleaseV), ({ y1 with m := r3.2.1 } : EnvP), ()))
noncomputable abbrev amh : Con SR1 := ⟨163, [.ref 37, .ref 27], [.sh .b], fun x => acF x.1 x.2.1⟩
theorem ald : CO Tryz.prog amh := aal aak Tryz.func163 [abn, atB, adK, acD] ⟨aa7, au1, adb, abx, trivial⟩ [] trivial (fun _ => []) [] fun x => by kernel_rfl
noncomputable def adr (y0 : OPushV) (y1 : EnvP) : Option ((Bool × Unit) × (OPushV × EnvP × Unit)) :=
 (aav y0.o).bind fun r1 =>
 if r1.1.1 = true then
  some ((true, ()), (({ y0 with o := r1.2.1 } : OPushV), y1, ()))
 else
 if y0.line = 1 then
  (acy y1.m y0.q.bottom).bind fun r2 =>
  some ((false, ()), (({ y0 with o := r1.2.1, line := wi (y0.line + 1), b := r2.1.1 } : OPushV), ({ y1 with m := r2.2.1 } : EnvP), ()))
 else
 if y0.line = 2 then
  (acy y1.m y0.q.top).bind fun r3 =>
  (atA y0.b r3.1.1).bind fun r4 =>
  if y0.q.cap = y0.q.cap then
   if y0.q.cap ≤ r4.1.1 then
   (abe r1.2.1 3 0).bind fun r5 =>
   some ((r5.1.1, ()), (({ y0 with o := r5.2.1 } : OPushV), ({ y1 with m := r3.2.1 } : EnvP), ()))
   else
   some ((false, ()), (({ y0 with o := r1.2.1, line := wi (y0.line + 1) } : OPushV), ({ y1 with m := r3.2.1 } : EnvP), ()))
  else none
 else
 if y0.line = 3 then
  (atF y0.q y0.b).bind fun r6 =>
  if y0.value = y0.value then
   (aa4 y1.m r6.1.1 (wu (y0.value))).bind fun r7 =>
   some ((false, ()), (({ y0 with o := r1.2.1, line := wi (y0.line + 1) } : OPushV), ({ y1 with m := r7.2.1 } : EnvP), ()))
  else none
 else
 (aa4 y1.m y0.q.bottom (wu (y0.b + 1))).bind fun r8 =>
 (abe r1.2.1 0 0).bind fun r9 =>
 some ((r9.1.1, ()), (({ y0 with o := r9.2.1 } : OPushV), ({ y1 with m := r8.2.1 } : EnvP), ()))
noncomputable abbrev aou : Con SR1 := ⟨251, [.ref 53, .ref 27], [.sh .b], fun x => adr x.1 x.2.1⟩
theorem ani : CO Tryz.prog aou := aal aak Tryz.func251 [abn, acC, amb, acD, aqB, adK] ⟨aa7, abK, ak0, abx, aqA, adb, trivial⟩ [] trivial (fun _ => []) [] fun x => by kernel_rfl
noncomputable def agS (y0 : OPopV) (y1 : EnvP) : Option ((Int × Unit) × (OPopV × EnvP × Unit)) :=
 (acy y1.m y0.q.top).bind fun r1 =>
 (atA (wu (y0.b - 1)) r1.1.1).bind fun r2 =>
 if 0 < r2.1.1 then
  some ((5, ()), (({ y0 with t := r1.1.1 } : OPopV), ({ y1 with m := r1.2.1 } : EnvP), ()))
 else
 if r2.1.1 = 0 then
  some ((6, ()), (({ y0 with t := r1.1.1 } : OPopV), ({ y1 with m := r1.2.1 } : EnvP), ()))
 else
 some ((9, ()), (({ y0 with t := r1.1.1 } : OPopV), ({ y1 with m := r1.2.1 } : EnvP), ()))
noncomputable abbrev ah6 : Con SR1 := ⟨249, [.ref 52, .ref 27], [.sh sI_], fun x => agS x.1 x.2.1⟩
theorem ame : CO Tryz.prog ah6 := aal aak Tryz.func249 [acC, amb] ⟨abK, ak0, trivial⟩ [] trivial (fun _ => []) [] fun x => by kernel_rfl
noncomputable def adS (y0 : OPopV) (y1 : EnvP) : Option ((Bool × Unit) × (OPopV × EnvP × Unit)) :=
 (aav y0.o).bind fun r1 =>
 if r1.1.1 = true then
  some ((true, ()), (({ y0 with o := r1.2.1 } : OPopV), y1, ()))
 else
 if y0.line = 1 then
  (acy y1.m y0.q.bottom).bind fun r2 =>
  some ((false, ()), (({ y0 with o := r1.2.1, line := wi (y0.line + 1), b := r2.1.1 } : OPopV), ({ y1 with m := r2.2.1 } : EnvP), ()))
 else
 if y0.line = 2 then
  (acy y1.m y0.q.top).bind fun r3 =>
  (atA y0.b r3.1.1).bind fun r4 =>
  if r4.1.1 ≤ 0 then
   (abe r1.2.1 2 0).bind fun r5 =>
   some ((r5.1.1, ()), (({ y0 with o := r5.2.1, t := r3.1.1 } : OPopV), ({ y1 with m := r3.2.1 } : EnvP), ()))
  else
  some ((false, ()), (({ y0 with o := r1.2.1, line := wi (y0.line + 1), t := r3.1.1 } : OPopV), ({ y1 with m := r3.2.1 } : EnvP), ()))
 else
 if y0.line = 3 then
  (aa4 y1.m y0.q.bottom (wu (y0.b - 1))).bind fun r6 =>
  some ((false, ()), (({ y0 with o := r1.2.1, line := wi (y0.line + 1) } : OPopV), ({ y1 with m := r6.2.1 } : EnvP), ()))
 else
 if y0.line = 4 then
  (agS ({ y0 with o := r1.2.1 } : OPopV) y1).bind fun r7 =>
  some ((false, ()), (({ r7.2.1 with line := r7.1.1 } : OPopV), r7.2.2.1, ()))
 else
 if y0.line = 5 then
  if y0.line = 5 then
   (atF y0.q (wu (y0.b - 1))).bind fun r8 =>
   (acy y1.m r8.1.1).bind fun r9 =>
   (abe r1.2.1 1 (wi (r9.1.1))).bind fun r10 =>
   some ((r10.1.1, ()), (({ y0 with o := r10.2.1 } : OPopV), ({ y1 with m := r9.2.1 } : EnvP), ()))
  else
  if y0.line = 6 then
   (arD y1.m y0.q.top y0.t (wu (y0.t + 1))).bind fun r11 =>
   if (!r11.1.1) = true then
   some ((false, ()), (({ y0 with o := r1.2.1, line := 9 } : OPopV), ({ y1 with m := r11.2.1 } : EnvP), ()))
   else
   some ((false, ()), (({ y0 with o := r1.2.1, line := wi (y0.line + 1) } : OPopV), ({ y1 with m := r11.2.1 } : EnvP), ()))
  else
  if y0.line = 7 then
   (aa4 y1.m y0.q.bottom y0.b).bind fun r12 =>
   some ((false, ()), (({ y0 with o := r1.2.1, line := wi (y0.line + 1) } : OPopV), ({ y1 with m := r12.2.1 } : EnvP), ()))
  else
  (aa4 y1.m y0.q.bottom y0.b).bind fun r13 =>
  (abe r1.2.1 2 0).bind fun r14 =>
  some ((r14.1.1, ()), (({ y0 with o := r14.2.1 } : OPopV), ({ y1 with m := r13.2.1 } : EnvP), ()))
 else
 if y0.line = 8 then
  (atF y0.q (wu (y0.b - 1))).bind fun r15 =>
  (acy y1.m r15.1.1).bind fun r16 =>
  (abe r1.2.1 1 (wi (r16.1.1))).bind fun r17 =>
  some ((r17.1.1, ()), (({ y0 with o := r17.2.1 } : OPopV), ({ y1 with m := r16.2.1 } : EnvP), ()))
 else
 if y0.line = 6 then
  (arD y1.m y0.q.top y0.t (wu (y0.t + 1))).bind fun r18 =>
  if (!r18.1.1) = true then
   some ((false, ()), (({ y0 with o := r1.2.1, line := 9 } : OPopV), ({ y1 with m := r18.2.1 } : EnvP), ()))
  else
  some ((false, ()), (({ y0 with o := r1.2.1, line := wi (y0.line + 1) } : OPopV), ({ y1 with m := r18.2.1 } : EnvP), ()))
 else
 if y0.line = 7 then
  (aa4 y1.m y0.q.bottom y0.b).bind fun r19 =>
  some ((false, ()), (({ y0 with o := r1.2.1, line := wi (y0.line + 1) } : OPopV), ({ y1 with m := r19.2.1 } : EnvP), ()))
 else
 (aa4 y1.m y0.q.bottom y0.b).bind fun r20 =>
 (abe r1.2.1 2 0).bind fun r21 =>
 some ((r21.1.1, ()), (({ y0 with o := r21.2.1 } : OPopV), ({ y1 with m := r20.2.1 } : EnvP), ()))
noncomputable abbrev app : Con SR1 := ⟨248, [.ref 52, .ref 27], [.sh .b], fun x => adS x.1 x.2.1⟩
theorem aow : CO Tryz.prog app := aal aak Tryz.func248 [abn, acC, amb, acD, adK, ah6, aqB, ak2] ⟨aa7, abK, ak0, abx, adb, ame, aqA, aiJ, trivial⟩ [] trivial (fun _ => []) [] fun x => by kernel_rfl
noncomputable def ac0 (y0 : StealV) (y1 : EnvP) : Option ((Bool × Unit) × (StealV × EnvP × Unit)) :=
 (aav y0.o).bind fun r1 =>
 if r1.1.1 = true then
  some ((true, ()), (({ y0 with o := r1.2.1 } : StealV), y1, ()))
 else
 if y0.line = 1 then
  (acy y1.m y0.q.top).bind fun r2 =>
  some ((false, ()), (({ y0 with o := r1.2.1, line := wi (y0.line + 1), t := r2.1.1 } : StealV), ({ y1 with m := r2.2.1 } : EnvP), ()))
 else
 if y0.line = 2 then
  (acy y1.m y0.q.bottom).bind fun r3 =>
  (atA r3.1.1 y0.t).bind fun r4 =>
  if r4.1.1 ≤ 0 then
   (abe r1.2.1 2 0).bind fun r5 =>
   some ((r5.1.1, ()), (({ y0 with o := r5.2.1 } : StealV), ({ y1 with m := r3.2.1 } : EnvP), ()))
  else
  some ((false, ()), (({ y0 with o := r1.2.1, line := wi (y0.line + 1) } : StealV), ({ y1 with m := r3.2.1 } : EnvP), ()))
 else
 if y0.line = 3 then
  (atF y0.q y0.t).bind fun r6 =>
  (acy y1.m r6.1.1).bind fun r7 =>
  some ((false, ()), (({ y0 with o := r1.2.1, line := wi (y0.line + 1), value := r7.1.1 } : StealV), ({ y1 with m := r7.2.1 } : EnvP), ()))
 else
 (arD y1.m y0.q.top y0.t (wu (y0.t + 1))).bind fun r8 =>
 if r8.1.1 = true then
  (abe r1.2.1 1 (wi (y0.value))).bind fun r9 =>
  some ((r9.1.1, ()), (({ y0 with o := r9.2.1 } : StealV), ({ y1 with m := r8.2.1 } : EnvP), ()))
 else
 (abe r1.2.1 4 0).bind fun r10 =>
 some ((r10.1.1, ()), (({ y0 with o := r10.2.1 } : StealV), ({ y1 with m := r8.2.1 } : EnvP), ()))
noncomputable abbrev am1 : Con SR1 := ⟨188, [.ref 42, .ref 27], [.sh .b], fun x => ac0 x.1 x.2.1⟩
theorem alK : CO Tryz.prog am1 := aal aak Tryz.func188 [abn, acC, amb, acD, aqB, ak2] ⟨aa7, abK, ak0, abx, aqA, aiJ, trivial⟩ [] trivial (fun _ => []) [] fun x => by kernel_rfl
noncomputable def adt (y0 : SetV) (y1 : EnvP) : Option ((Bool × Unit) × (SetV × EnvP × Unit)) :=
 (aav y0.o).bind fun r1 =>
 if r1.1.1 = true then
  some ((true, ()), (({ y0 with o := r1.2.1 } : SetV), y1, ()))
 else
 (azc y0.bit).bind fun r2 =>
 if y0.cell = y0.cell then
  (pOr y1.m y0.cell r2.1.1).bind fun r3 =>
  (abe r1.2.1 0 0).bind fun r4 =>
  some ((r4.1.1, ()), (({ y0 with o := r4.2.1 } : SetV), ({ y1 with m := r3.2.1 } : EnvP), ()))
 else none
noncomputable abbrev apg : Con SR1 := ⟨253, [.ref 54, .ref 27], [.sh .b], fun x => adt x.1 x.2.1⟩
theorem anu : CO Tryz.prog apg := aal aak Tryz.func253 [abn, asf, az4, acD] ⟨aa7, aqD, axv, abx, trivial⟩ [] trivial (fun _ => []) [] fun x => by kernel_rfl
noncomputable def acK (y0 : ResetV) (y1 : EnvP) : Option ((Bool × Unit) × (ResetV × EnvP × Unit)) :=
 (aav y0.o).bind fun r1 =>
 if r1.1.1 = true then
  some ((true, ()), (({ y0 with o := r1.2.1 } : ResetV), y1, ()))
 else
 (azc y0.bit).bind fun r2 =>
 if y0.line = 1 then
  (aBe y1.m y0.cell (aAP r2.1.1)).bind fun r3 =>
  some ((false, ()), (({ y0 with o := r1.2.1, line := wi (y0.line + 1) } : ResetV), ({ y1 with m := r3.2.1 } : EnvP), ()))
 else
 if y0.line = 2 then
  (acy y1.m y0.q.bottom).bind fun r4 =>
  some ((false, ()), (({ y0 with o := r1.2.1, line := wi (y0.line + 1), b := r4.1.1 } : ResetV), ({ y1 with m := r4.2.1 } : EnvP), ()))
 else
 if y0.line = 3 then
  (acy y1.m y0.q.top).bind fun r5 =>
  (atA y0.b r5.1.1).bind fun r6 =>
  if r6.1.1 ≤ 0 then
   (abe r1.2.1 2 0).bind fun r7 =>
   some ((r7.1.1, ()), (({ y0 with o := r7.2.1 } : ResetV), ({ y1 with m := r5.2.1 } : EnvP), ()))
  else
  some ((false, ()), (({ y0 with o := r1.2.1, line := wi (y0.line + 1) } : ResetV), ({ y1 with m := r5.2.1 } : EnvP), ()))
 else
 (pOr y1.m y0.cell r2.1.1).bind fun r8 =>
 (abe r1.2.1 1 0).bind fun r9 =>
 some ((r9.1.1, ()), (({ y0 with o := r9.2.1 } : ResetV), ({ y1 with m := r8.2.1 } : EnvP), ()))
noncomputable abbrev amu : Con SR1 := ⟨192, [.ref 43, .ref 27], [.sh .b], fun x => acK x.1 x.2.1⟩
theorem alB : CO Tryz.prog amu := aal aak Tryz.func192 [abn, asf, au8, acC, amb, acD, az4] ⟨aa7, aqD, atI, abK, ak0, abx, axv, trivial⟩ [] trivial (fun _ => []) [] fun x => by kernel_rfl
noncomputable def ads (y0 : InsertV) : Option ((Int × Unit) × (InsertV × Unit)) :=
 if 0 < y0.i then
  some ((3, ()), (y0, ()))
 else
 some ((5, ()), (y0, ()))
noncomputable abbrev afv : Con SR1 := ⟨160, [.ref 36], [.sh sI_], fun x => ads x.1⟩
theorem aig : CO Tryz.prog afv := aal aak Tryz.func160 [] trivial [] trivial (fun _ => []) [] fun x => by kernel_rfl
end Go.Proofs.YtclaldommncdbaaGreat
