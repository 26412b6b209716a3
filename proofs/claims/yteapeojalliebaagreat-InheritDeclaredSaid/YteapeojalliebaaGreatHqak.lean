/- The program's machines in the evaluator's form. -/
import Derived.Test.YteapeojalliebaaGreatHqai
import Derived.Test.YteapeojalliebaaGreatHqaj
set_option linter.all false
namespace Go.Proofs.YteapeojalliebaaGreat
open Go Go.RowKit
set_option maxRecDepth 100000
variable [Tb]
noncomputable def aFY (x : Int) : Option ((Int × Unit) × (Unit)) :=
 if x = 0 then
  some (((-1), ()), (()))
 else
 (pTz x).bind fun r1 =>
 some ((r1.1.1, ()), (()))
noncomputable abbrev aBw : Con SR1 := ⟨195, [.sh sU_], [.sh sI_], fun x => aFY x.1⟩
theorem aCP : CO Tryz.prog aBw := aai aah Tryz.func195 [aCM] ⟨aEN, trivial⟩ [] trivial (fun _ => []) [] fun x => by kernel_rfl
noncomputable def aau (o : OutV) : Option ((Bool × Unit) × (OutV × Unit)) :=
 some ((o.ended, ()), (o, ()))
noncomputable abbrev abj : Con SR1 := ⟨160, [.ref 23], [.sh .b], fun x => aau x.1⟩
theorem aa4 : CO Tryz.prog abj := aai aah Tryz.func160 [] trivial [] trivial (fun _ => []) [] fun x => by kernel_rfl
noncomputable def aba (o : OutV) (code : Int) (value : Int) : Option ((Bool × Unit) × (OutV × Unit)) :=
 some ((true, ()), ((⟨true, code, value⟩ : OutV), ()))
noncomputable abbrev acr : Con SR1 := ⟨170, [.ref 23, .sh sI_, .sh sI_], [.sh .b], fun x => aba x.1 x.2.1 x.2.2.1⟩
theorem abu : CO Tryz.prog acr := aai aah Tryz.func170 [] trivial [] trivial (fun _ => []) [] fun x => by kernel_rfl
noncomputable def aCN (o : OutV) : Option ((Int × Int × Unit) × (OutV × Unit)) :=
 some ((o.code, o.value, ()), (o, ()))
noncomputable abbrev aaX : Con SR1 := ⟨161, [.ref 23], [.sh sI_, .sh sI_], fun x => aCN x.1⟩
theorem aaQ : CO Tryz.prog aaX := aai aah Tryz.func161 [] trivial [] trivial (fun _ => []) [] fun x => by kernel_rfl
noncomputable def aco (m : MemV) (a : Int) : Option ((Int × Unit) × (MemV × Unit)) :=
 if a < 0 then
  some ((0, ()), (m, ()))
 else
 if ((m.cells.length : Nat) : Int) ≤ a then
  some ((0, ()), (m, ()))
 else
 if 0 ≤ a ∧ a < ((m.cells.length : Nat) : Int) then
  if 0 ≤ a ∧ a < ((m.cells.length : Nat) : Int) then
   if 0 ≤ a ∧ a < (((m.cells.set a.toNat (afQ m.cells a)).length : Nat) : Int) then
   some ((afQ m.cells a, ()), ((⟨m.cells.set a.toNat (afQ m.cells a), ⟨1, a, afQ m.cells a, afQ (m.cells.set a.toNat (afQ m.cells a)) a⟩, wi (m.count + 1)⟩ : MemV), ()))
   else none
  else none
 else none
noncomputable abbrev acq : Con SR1 := ⟨123, [.ref 9, .sh sI_], [.sh sU_], fun x => aco x.1 x.2.1⟩
noncomputable def aAh : List (Nat × Func) := [(133, Tryz.f133), (134, Tryz.f134)]
theorem abD : CO Tryz.prog acq := aai aah Tryz.func123 [] trivial aAh ⟨Tryz.func133, Tryz.func134, trivial⟩ (fun _ => []) [] fun x => by kernel_rfl
noncomputable def aa2 (m : MemV) (a : Int) (v : Int) : Option ((Unit) × (MemV × Unit)) :=
 if a < 0 then
  some ((()), (m, ()))
 else
 if ((m.cells.length : Nat) : Int) ≤ a then
  some ((()), (m, ()))
 else
 if 0 ≤ a ∧ a < ((m.cells.length : Nat) : Int) then
  if 0 ≤ a ∧ a < ((m.cells.length : Nat) : Int) then
   if 0 ≤ a ∧ a < (((m.cells.set a.toNat v).length : Nat) : Int) then
   some ((()), ((⟨m.cells.set a.toNat v, ⟨2, a, afQ m.cells a, afQ (m.cells.set a.toNat v) a⟩, wi (m.count + 1)⟩ : MemV), ()))
   else none
  else none
 else none
noncomputable abbrev adC : Con SR1 := ⟨126, [.ref 9, .sh sI_, .sh sU_], [], fun x => aa2 x.1 x.2.1 x.2.2.1⟩
noncomputable def axK : List (Nat × Func) := [(133, Tryz.f133), (135, Tryz.f135)]
theorem ac3 : CO Tryz.prog adC := aai aah Tryz.func126 [] trivial axK ⟨Tryz.func133, Tryz.func135, trivial⟩ (fun _ => []) [] fun x => by kernel_rfl
noncomputable def ask (m : MemV) (a : Int) (old : Int) (v : Int) : Option ((Bool × Unit) × (MemV × Unit)) :=
 if a < 0 then
  some ((false, ()), (m, ()))
 else
 if ((m.cells.length : Nat) : Int) ≤ a then
  some ((false, ()), (m, ()))
 else
 if 0 ≤ a ∧ a < ((m.cells.length : Nat) : Int) then
  if (afQ m.cells a) = old then
   if 0 ≤ a ∧ a < ((m.cells.length : Nat) : Int) then
   if 0 ≤ a ∧ a < (((m.cells.set a.toNat v).length : Nat) : Int) then
   some ((decide ((afQ m.cells a) = old), ()), ((⟨m.cells.set a.toNat v, ⟨3, a, afQ m.cells a, afQ (m.cells.set a.toNat v) a⟩, wi (m.count + 1)⟩ : MemV), ()))
   else none
   else none
  else
  if 0 ≤ a ∧ a < ((m.cells.length : Nat) : Int) then
   if 0 ≤ a ∧ a < (((m.cells.set a.toNat (afQ m.cells a)).length : Nat) : Int) then
   some ((decide ((afQ m.cells a) = old), ()), ((⟨m.cells.set a.toNat (afQ m.cells a), ⟨3, a, afQ m.cells a, afQ (m.cells.set a.toNat (afQ m.cells a)) a⟩, wi (m.count + 1)⟩ : MemV), ()))
   else none
  else none
 else none
noncomputable abbrev alL : Con SR1 := ⟨177, [.ref 9, .sh sI_, .sh sU_, .sh sU_], [.sh .b], fun x => ask x.1 x.2.1 x.2.2.1 x.2.2.2.1⟩
noncomputable def aCQ : List (Nat × Func) := [(133, Tryz.f133), (179, Tryz.f179)]
theorem ajn : CO Tryz.prog alL := aai aah Tryz.func177 [] trivial aCQ ⟨Tryz.func133, Tryz.func179, trivial⟩ (fun _ => []) [] fun x => by kernel_rfl
noncomputable def pOr (m : MemV) (a : Int) (v : Int) : Option ((Int × Unit) × (MemV × Unit)) :=
 if a < 0 then
  some ((0, ()), (m, ()))
 else
 if ((m.cells.length : Nat) : Int) ≤ a then
  some ((0, ()), (m, ()))
 else
 if 0 ≤ a ∧ a < ((m.cells.length : Nat) : Int) then
  if 0 ≤ a ∧ a < ((m.cells.length : Nat) : Int) then
   if 0 ≤ a ∧ a < (((m.cells.set a.toNat (orU (afQ m.cells a) v)).length : Nat) : Int) then
   some ((afQ m.cells a, ()), ((⟨m.cells.set a.toNat (orU (afQ m.cells a) v), ⟨4, a, afQ m.cells a, afQ (m.cells.set a.toNat (orU (afQ m.cells a) v)) a⟩, wi (m.count + 1)⟩ : MemV), ()))
   else none
  else none
 else none
noncomputable abbrev aAf : Con SR1 := ⟨164, [.ref 9, .sh sI_, .sh sU_], [.sh sU_], fun x => pOr x.1 x.2.1 x.2.2.1⟩
noncomputable def aEO : List (Nat × Func) := [(133, Tryz.f133), (171, Tryz.f171)]
theorem axM : CO Tryz.prog aAf := aai aah Tryz.func164 [] trivial aEO ⟨Tryz.func133, Tryz.func171, trivial⟩ (fun _ => []) [] fun x => by kernel_rfl
noncomputable def aBx (m : MemV) (a : Int) (v : Int) : Option ((Int × Unit) × (MemV × Unit)) :=
 if a < 0 then
  some ((0, ()), (m, ()))
 else
 if ((m.cells.length : Nat) : Int) ≤ a then
  some ((0, ()), (m, ()))
 else
 if 0 ≤ a ∧ a < ((m.cells.length : Nat) : Int) then
  if 0 ≤ a ∧ a < ((m.cells.length : Nat) : Int) then
   if 0 ≤ a ∧ a < (((m.cells.set a.toNat (aot (afQ m.cells a) v)).length : Nat) : Int) then
   some ((afQ m.cells a, ()), ((⟨m.cells.set a.toNat (aot (afQ m.cells a) v), ⟨5, a, afQ m.cells a, afQ (m.cells.set a.toNat (aot (afQ m.cells a) v)) a⟩, wi (m.count + 1)⟩ : MemV), ()))
   else none
  else none
 else none
noncomputable abbrev avz : Con SR1 := ⟨169, [.ref 9, .sh sI_, .sh sU_], [.sh sU_], fun x => aBx x.1 x.2.1 x.2.2.1⟩
noncomputable def aCR : List (Nat × Func) := [(133, Tryz.f133), (173, Tryz.f173)]
theorem aue : CO Tryz.prog avz := aai aah Tryz.func169 [] trivial aCR ⟨Tryz.func133, Tryz.func173, trivial⟩ (fun _ => []) [] fun x => by kernel_rfl
noncomputable def aDY (m : MemV) (a : Int) (v : Int) : Option ((Int × Unit) × (MemV × Unit)) :=
 if a < 0 then
  some ((0, ()), (m, ()))
 else
 if ((m.cells.length : Nat) : Int) ≤ a then
  some ((0, ()), (m, ()))
 else
 if 0 ≤ a ∧ a < ((m.cells.length : Nat) : Int) then
  if 0 ≤ a ∧ a < ((m.cells.length : Nat) : Int) then
   if 0 ≤ a ∧ a < (((m.cells.set a.toNat (wu ((afQ m.cells a) + v))).length : Nat) : Int) then
   some ((afQ m.cells a, ()), ((⟨m.cells.set a.toNat (wu ((afQ m.cells a) + v)), ⟨6, a, afQ m.cells a, afQ (m.cells.set a.toNat (wu ((afQ m.cells a) + v))) a⟩, wi (m.count + 1)⟩ : MemV), ()))
   else none
  else none
 else none
noncomputable abbrev avA : Con SR1 := ⟨182, [.ref 9, .sh sI_, .sh sU_], [.sh sU_], fun x => aDY x.1 x.2.1 x.2.2.1⟩
noncomputable def aCS : List (Nat × Func) := [(133, Tryz.f133), (184, Tryz.f184)]
theorem auf : CO Tryz.prog avA := aai aah Tryz.func182 [] trivial aCS ⟨Tryz.func133, Tryz.func184, trivial⟩ (fun _ => []) [] fun x => by kernel_rfl
noncomputable def arf (k : ClkV) : Option ((Int × Unit) × (ClkV × Unit)) :=
 some ((k.now, ()), (k, ()))
noncomputable abbrev ant : Con SR1 := ⟨129, [.ref 25], [.sh sI_], fun x => arf x.1⟩
theorem akT : CO Tryz.prog ant := aai aah Tryz.func129 [] trivial [] trivial (fun _ => []) [] fun x => by kernel_rfl
noncomputable def aAl (k : ClkV) (n : Int) : Option ((Int × Unit) × (ClkV × Unit)) :=
 if n < 1 then
  some ((0, ()), (k, ()))
 else
 if n ≠ 0 then
  if (Int.tmod k.draw n) < 0 then
   some ((wi ((Int.tmod k.draw n) + n), ()), (k, ()))
  else
  some (((Int.tmod k.draw n), ()), (k, ()))
 else none
noncomputable abbrev axQ : Con SR1 := ⟨251, [.ref 25, .sh sI_], [.sh sI_], fun x => aAl x.1 x.2.1⟩
theorem aAj : CO Tryz.prog axQ := aai aah Tryz.func251 [] trivial [] trivial (fun _ => []) [] fun x => by kernel_rfl
noncomputable def azs (n : Int) : Option ((Int × Unit) × (Unit)) :=
 if n < 0 then
  some ((0, ()), (()))
 else
 if 63 < n then
  some ((0, ()), (()))
 else
 if 0 ≤ wu (n) then
  some ((wu (1 * 2 ^ min (wu (n) : Int).toNat IntKind.u64.bits), ()), (()))
 else none
noncomputable abbrev as0 : Con SR1 := ⟨166, [.sh sI_], [.sh sU_], fun x => azs x.1⟩
theorem arm : CO Tryz.prog as0 := aai aah Tryz.func166 [] trivial [] trivial (fun _ => []) [] fun x => by kernel_rfl
noncomputable def azr (a : Int) (n : Int) : Option ((Int × Unit) × (Unit)) :=
 if n < 1 then
  some ((0, ()), (()))
 else
 if n ≠ 0 then
  if (Int.tmod a n) < 0 then
   some ((wi ((Int.tmod a n) + n), ()), (()))
  else
  some (((Int.tmod a n), ()), (()))
 else none
noncomputable abbrev asX : Con SR1 := ⟨146, [.sh sI_, .sh sI_], [.sh sI_], fun x => azr x.1 x.2.1⟩
theorem arh : CO Tryz.prog asX := aai aah Tryz.func146 [] trivial [] trivial (fun _ => []) [] fun x => by kernel_rfl
noncomputable def at7 (b : Int) (t : Int) : Option ((Int × Unit) × (Unit)) :=
 some ((wi (wu (b - t)), ()), (()))
noncomputable abbrev amQ : Con SR1 := ⟨217, [.sh sU_, .sh sU_], [.sh sI_], fun x => at7 x.1 x.2.1⟩
theorem alJ : CO Tryz.prog amQ := aai aah Tryz.func217 [] trivial [] trivial (fun _ => []) [] fun x => by kernel_rfl
noncomputable def aub (q : QV) (i : Int) : Option ((Int × Unit) × (Unit)) :=
 if q.cap < 1 then
  some (((-1), ()), (()))
 else
 if (wu (q.cap)) ≠ 0 then
  some ((wi (q.ring + (wi ((Int.tmod i (wu (q.cap)))))), ()), (()))
 else none
noncomputable abbrev ark : Con SR1 := ⟨218, [.val 14, .sh sU_], [.sh sI_], fun x => aub x.1 x.2.1⟩
theorem arj : CO Tryz.prog ark := aai aah Tryz.func218 [] trivial [] trivial (fun _ => []) [] fun x => by kernel_rfl
noncomputable def pAt (i : Int) (n : Int) (a : Int) (w : Int) : Option ((Int × Unit) × (Unit)) :=
 if i < 0 then
  some (((-1), ()), (()))
 else
 if n ≤ i then
  some (((-1), ()), (()))
 else
 some ((wi (a + (wi (i * w))), ()), (()))
noncomputable abbrev auc : Con SR1 := ⟨91, [.sh sI_, .sh sI_, .sh sI_, .sh sI_], [.sh sI_], fun x => pAt x.1 x.2.1 x.2.2.1 x.2.2.2.1⟩
theorem aqo : CO Tryz.prog auc := aai aah Tryz.func91 [] trivial [] trivial (fun _ => []) [] fun x => by kernel_rfl
noncomputable def asW (l : LayV) (t : Int) (f : Int) : Option ((Int × Unit) × (Unit)) :=
 (pAt t l.tasks (wi (l.table + f)) 5).bind fun r1 =>
 some ((r1.1.1, ()), (()))
noncomputable abbrev amP : Con SR1 := ⟨79, [.val 24, .sh sI_, .sh sI_], [.sh sI_], fun x => asW x.1 x.2.1 x.2.2.1⟩
theorem alH : CO Tryz.prog amP := aai aah Tryz.func79 [auc] ⟨aqo, trivial⟩ [] trivial (fun _ => []) [] fun x => by kernel_rfl
noncomputable def aCO (l : LayV) : Option ((Int × Unit) × (Unit)) :=
 some ((0, ()), (()))
noncomputable abbrev axN : Con SR1 := ⟨57, [.val 24], [.sh sI_], fun x => aCO x.1⟩
theorem aAg : CO Tryz.prog axN := aai aah Tryz.func57 [] trivial [] trivial (fun _ => []) [] fun x => by kernel_rfl
noncomputable def aer (l : LayV) (t : Int) : Option ((Int × Unit) × (Unit)) :=
 (asW l t 0).bind fun r1 =>
 some ((r1.1.1, ()), (()))
noncomputable abbrev agi : Con SR1 := ⟨58, [.val 24, .sh sI_], [.sh sI_], fun x => aer x.1 x.2.1⟩
theorem afB : CO Tryz.prog agi := aai aah Tryz.func58 [amP] ⟨alH, trivial⟩ [] trivial (fun _ => []) [] fun x => by kernel_rfl
noncomputable def ae5 (l : LayV) (t : Int) : Option ((Int × Unit) × (Unit)) :=
 (asW l t 1).bind fun r1 =>
 some ((r1.1.1, ()), (()))
noncomputable abbrev agj : Con SR1 := ⟨127, [.val 24, .sh sI_], [.sh sI_], fun x => ae5 x.1 x.2.1⟩
theorem afC : CO Tryz.prog agj := aai aah Tryz.func127 [amP] ⟨alH, trivial⟩ [] trivial (fun _ => []) [] fun x => by kernel_rfl
noncomputable def aiF (l : LayV) (t : Int) : Option ((Int × Unit) × (Unit)) :=
 (asW l t 4).bind fun r1 =>
 some ((r1.1.1, ()), (()))
noncomputable abbrev ajZ : Con SR1 := ⟨128, [.val 24, .sh sI_], [.sh sI_], fun x => aiF x.1 x.2.1⟩
theorem aji : CO Tryz.prog ajZ := aai aah Tryz.func128 [amP] ⟨alH, trivial⟩ [] trivial (fun _ => []) [] fun x => by kernel_rfl
noncomputable def ajh (l : LayV) (t : Int) : Option ((Int × Unit) × (Unit)) :=
 (asW l t 3).bind fun r1 =>
 some ((r1.1.1, ()), (()))
noncomputable abbrev aog : Con SR1 := ⟨231, [.val 24, .sh sI_], [.sh sI_], fun x => ajh x.1 x.2.1⟩
theorem ao7 : CO Tryz.prog aog := aai aah Tryz.func231 [amP] ⟨alH, trivial⟩ [] trivial (fun _ => []) [] fun x => by kernel_rfl
noncomputable def anV (l : LayV) (t : Int) : Option ((Int × Unit) × (Unit)) :=
 (asW l t 2).bind fun r1 =>
 some ((r1.1.1, ()), (()))
noncomputable abbrev at9 : Con SR1 := ⟨236, [.val 24, .sh sI_], [.sh sI_], fun x => anV x.1 x.2.1⟩
theorem avt : CO Tryz.prog at9 := aai aah Tryz.func236 [amP] ⟨alH, trivial⟩ [] trivial (fun _ => []) [] fun x => by kernel_rfl
noncomputable def axP (l : LayV) : Option ((Int × Unit) × (Unit)) :=
 some ((1, ()), (()))
noncomputable abbrev at8 : Con SR1 := ⟨178, [.val 24], [.sh sI_], fun x => axP x.1⟩
theorem avs : CO Tryz.prog at8 := aai aah Tryz.func178 [] trivial [] trivial (fun _ => []) [] fun x => by kernel_rfl
noncomputable def af5 (l : LayV) : Option ((Int × Unit) × (Unit)) :=
 some ((2, ()), (()))
noncomputable abbrev aj1 : Con SR1 := ⟨124, [.val 24], [.sh sI_], fun x => af5 x.1⟩
theorem ajm : CO Tryz.prog aj1 := aai aah Tryz.func124 [] trivial [] trivial (fun _ => []) [] fun x => by kernel_rfl
noncomputable def anU (l : LayV) (i : Int) : Option ((Int × Unit) × (Unit)) :=
 (pAt i l.heap 4 1).bind fun r1 =>
 some ((r1.1.1, ()), (()))
noncomputable abbrev ard : Con SR1 := ⟨189, [.val 24, .sh sI_], [.sh sI_], fun x => anU x.1 x.2.1⟩
theorem arc : CO Tryz.prog ard := aai aah Tryz.func189 [auc] ⟨aqo, trivial⟩ [] trivial (fun _ => []) [] fun x => by kernel_rfl
noncomputable def aqn (l : LayV) (w : Int) : Option ((Int × Unit) × (Unit)) :=
 (pAt w l.workers l.epochs 1).bind fun r1 =>
 some ((r1.1.1, ()), (()))
noncomputable abbrev aoi : Con SR1 := ⟨163, [.val 24, .sh sI_], [.sh sI_], fun x => aqn x.1 x.2.1⟩
theorem ao8 : CO Tryz.prog aoi := aai aah Tryz.func163 [auc] ⟨aqo, trivial⟩ [] trivial (fun _ => []) [] fun x => by kernel_rfl
noncomputable def agG (l : LayV) (l0 : Int) : Option ((Int × Unit) × (Unit)) :=
 (pAt l0 l.classes l.sleepers 1).bind fun r1 =>
 some ((r1.1.1, ()), (()))
noncomputable abbrev akS : Con SR1 := ⟨172, [.val 24, .sh sI_], [.sh sI_], fun x => agG x.1 x.2.1⟩
theorem ans : CO Tryz.prog akS := aai aah Tryz.func172 [auc] ⟨aqo, trivial⟩ [] trivial (fun _ => []) [] fun x => by kernel_rfl
noncomputable def ahd (l : LayV) (w : Int) : Option ((Int × Unit) × (Unit)) :=
 (pAt w l.workers l.bitmaps 1).bind fun r1 =>
 some ((r1.1.1, ()), (()))
noncomputable abbrev agI : Con SR1 := ⟨154, [.val 24, .sh sI_], [.sh sI_], fun x => ahd x.1 x.2.1⟩
theorem agt : CO Tryz.prog agI := aai aah Tryz.func154 [auc] ⟨aqo, trivial⟩ [] trivial (fun _ => []) [] fun x => by kernel_rfl
noncomputable def agH (l : LayV) (w : Int) (v : Int) : Option ((QV × Unit) × (Unit)) :=
 (pAt w l.workers l.queues (wi (l.levels * (wi (2 + l.deque))))).bind fun r1 =>
 (pAt v l.levels r1.1.1 (wi (2 + l.deque))).bind fun r2 =>
 if r1.1.1 < 0 then
  some (((⟨(-1), (-1), (-1), 0⟩ : QV), ()), (()))
 else
 if r2.1.1 < 0 then
  some (((⟨(-1), (-1), (-1), 0⟩ : QV), ()), (()))
 else
 some (((⟨r2.1.1, wi (r2.1.1 + 1), wi (r2.1.1 + 2), l.deque⟩ : QV), ()), (()))
noncomputable abbrev aj0 : Con SR1 := ⟨152, [.val 24, .sh sI_, .sh sI_], [.val 14], fun x => agH x.1 x.2.1 x.2.2.1⟩
theorem ajk : CO Tryz.prog aj0 := aai aah Tryz.func152 [auc] ⟨aqo, trivial⟩ [] trivial (fun _ => []) [] fun x => by kernel_rfl
noncomputable def arn (l : LayV) : Option ((Int × Unit) × (Unit)) :=
 some ((3, ()), (()))
noncomputable abbrev aqq : Con SR1 := ⟨112, [.val 24], [.sh sI_], fun x => arn x.1⟩
theorem aud : CO Tryz.prog aqq := aai aah Tryz.func112 [] trivial [] trivial (fun _ => []) [] fun x => by kernel_rfl
noncomputable def avy (l : LayV) : Option ((Int × Unit) × (Unit)) :=
 some ((wi (l.table + (wi (5 * l.tasks))), ()), (()))
noncomputable abbrev avx : Con SR1 := ⟨82, [.val 24], [.sh sI_], fun x => avy x.1⟩
theorem axS : CO Tryz.prog avx := aai aah Tryz.func82 [] trivial [] trivial (fun _ => []) [] fun x => by kernel_rfl
noncomputable def adW (e : EnvP) (v : Ev) : Option ((Unit) × (EnvP × Unit)) :=
 if (((e.evs.length + ([v] : List Ev).length : Nat)) : Int) < 1000000000000 then
  some ((()), (({ e with evs := e.evs ++ ([v]) } : EnvP), ()))
 else none
noncomputable abbrev afe : Con SR1 := ⟨131, [.ref 27, .val 2], [], fun x => adW x.1 x.2.1⟩
theorem aee : CO Tryz.prog afe := aai aah Tryz.func131 [] trivial [] trivial (fun _ => []) [] fun x => by kernel_rfl
noncomputable def aAe (d : Int) (a : Int) (t : Int) : Option ((Int × Bool × Unit) × (Unit)) :=
 if d < 0 then
  some ((0, false, ()), (()))
 else
 if 16777215 < d then
  some ((0, false, ()), (()))
 else
 if a < 0 then
  some ((0, false, ()), (()))
 else
 if 16777215 < a then
  some ((0, false, ()), (()))
 else
 if t < 0 then
  some ((0, false, ()), (()))
 else
 if 65535 < t then
  some ((0, false, ()), (()))
 else
 some ((orU (orU (wu ((wu (d)) * 2 ^ min (40 : Int).toNat IntKind.u64.bits)) (wu ((wu (a)) * 2 ^ min (16 : Int).toNat IntKind.u64.bits))) (wu (t)), true, ()), (()))
noncomputable abbrev axL : Con SR1 := ⟨187, [.sh sI_, .sh sI_, .sh sI_], [.sh sU_, .sh .b], fun x => aAe x.1 x.2.1 x.2.2.1⟩
theorem aAc : CO Tryz.prog axL := aai aah Tryz.func187 [] trivial [] trivial (fun _ => []) [] fun x => by kernel_rfl
noncomputable def asZ (l : Int) (n : Int) (c : Int) : Option ((Int × Unit) × (Unit)) :=
 if n < 1 then
  some ((0, ()), (()))
 else
 if 64 < n then
  some ((0, ()), (()))
 else
 if c < 1 then
  some ((0, ()), (()))
 else
 if 8 < c then
  some ((0, ()), (()))
 else
 if l < 0 then
  some ((0, ()), (()))
 else
 if n ≤ l then
  some ((0, ()), (()))
 else
 if n ≠ 0 then
  some ((wi (Int.tdiv (wi (l * c)) n), ()), (()))
 else none
noncomputable abbrev avw : Con SR1 := ⟨196, [.sh sI_, .sh sI_, .sh sI_], [.sh sI_], fun x => asZ x.1 x.2.1 x.2.2.1⟩
theorem axR : CO Tryz.prog avw := aai aah Tryz.func196 [] trivial [] trivial (fun _ => []) [] fun x => by kernel_rfl
noncomputable def at6 (k : Int) : Option ((Int × Int × Int × Unit) × (Unit)) :=
 some ((wi (Int.fdiv k (2 ^ min (40 : Int).toNat IntKind.u64.bits)), wi (aot (Int.fdiv k (2 ^ min (16 : Int).toNat IntKind.u64.bits)) 16777215), wi (aot k 65535), ()), (()))
noncomputable abbrev asV : Con SR1 := ⟨264, [.sh sU_], [.sh sI_, .sh sI_, .sh sI_], fun x => at6 x.1⟩
theorem aws : CO Tryz.prog asV := aai aah Tryz.func264 [] trivial [] trivial (fun _ => []) [] fun x => by kernel_rfl
noncomputable def agT (x : Int) : Option ((Int × Unit) × (Unit)) :=
 if 4294967296 ≤ x then
  if 65536 ≤ (Int.fdiv x (2 ^ min (32 : Int).toNat IntKind.u64.bits)) then
   if 256 ≤ (Int.fdiv (Int.fdiv x (2 ^ min (32 : Int).toNat IntKind.u64.bits)) (2 ^ min (16 : Int).toNat IntKind.u64.bits)) then
   if 0 ≤ IntKind.u8.wrap (Int.fdiv (Int.fdiv (Int.fdiv x (2 ^ min (32 : Int).toNat IntKind.u64.bits)) (2 ^ min (16 : Int).toNat IntKind.u64.bits)) (2 ^ min (8 : Int).toNat IntKind.u64.bits)) ∧ IntKind.u8.wrap (Int.fdiv (Int.fdiv (Int.fdiv x (2 ^ min (32 : Int).toNat IntKind.u64.bits)) (2 ^ min (16 : Int).toNat IntKind.u64.bits)) (2 ^ min (8 : Int).toNat IntKind.u64.bits)) < ((ai6.size : Nat) : Int) then
   some ((wi ((wi (56 + (wi ((((ai6[(IntKind.u8.wrap (Int.fdiv (Int.fdiv (Int.fdiv x (2 ^ min (32 : Int).toNat IntKind.u64.bits)) (2 ^ min (16 : Int).toNat IntKind.u64.bits)) (2 ^ min (8 : Int).toNat IntKind.u64.bits))).toNat]?).map fun b => ((b.toNat : Nat) : Int)).getD 0))))) - 1), ()), (()))
   else none
   else
   if 0 ≤ IntKind.u8.wrap (Int.fdiv (Int.fdiv x (2 ^ min (32 : Int).toNat IntKind.u64.bits)) (2 ^ min (16 : Int).toNat IntKind.u64.bits)) ∧ IntKind.u8.wrap (Int.fdiv (Int.fdiv x (2 ^ min (32 : Int).toNat IntKind.u64.bits)) (2 ^ min (16 : Int).toNat IntKind.u64.bits)) < ((ai6.size : Nat) : Int) then
   some ((wi ((wi (48 + (wi ((((ai6[(IntKind.u8.wrap (Int.fdiv (Int.fdiv x (2 ^ min (32 : Int).toNat IntKind.u64.bits)) (2 ^ min (16 : Int).toNat IntKind.u64.bits))).toNat]?).map fun b => ((b.toNat : Nat) : Int)).getD 0))))) - 1), ()), (()))
   else none
  else
  if 256 ≤ (Int.fdiv x (2 ^ min (32 : Int).toNat IntKind.u64.bits)) then
   if 0 ≤ IntKind.u8.wrap (Int.fdiv (Int.fdiv x (2 ^ min (32 : Int).toNat IntKind.u64.bits)) (2 ^ min (8 : Int).toNat IntKind.u64.bits)) ∧ IntKind.u8.wrap (Int.fdiv (Int.fdiv x (2 ^ min (32 : Int).toNat IntKind.u64.bits)) (2 ^ min (8 : Int).toNat IntKind.u64.bits)) < ((ai6.size : Nat) : Int) then
   some ((wi ((wi (40 + (wi ((((ai6[(IntKind.u8.wrap (Int.fdiv (Int.fdiv x (2 ^ min (32 : Int).toNat IntKind.u64.bits)) (2 ^ min (8 : Int).toNat IntKind.u64.bits))).toNat]?).map fun b => ((b.toNat : Nat) : Int)).getD 0))))) - 1), ()), (()))
   else none
  else
  if 0 ≤ IntKind.u8.wrap (Int.fdiv x (2 ^ min (32 : Int).toNat IntKind.u64.bits)) ∧ IntKind.u8.wrap (Int.fdiv x (2 ^ min (32 : Int).toNat IntKind.u64.bits)) < ((ai6.size : Nat) : Int) then
   some ((wi ((wi (32 + (wi ((((ai6[(IntKind.u8.wrap (Int.fdiv x (2 ^ min (32 : Int).toNat IntKind.u64.bits))).toNat]?).map fun b => ((b.toNat : Nat) : Int)).getD 0))))) - 1), ()), (()))
  else none
 else
 if 65536 ≤ x then
  if 256 ≤ (Int.fdiv x (2 ^ min (16 : Int).toNat IntKind.u64.bits)) then
   if 0 ≤ IntKind.u8.wrap (Int.fdiv (Int.fdiv x (2 ^ min (16 : Int).toNat IntKind.u64.bits)) (2 ^ min (8 : Int).toNat IntKind.u64.bits)) ∧ IntKind.u8.wrap (Int.fdiv (Int.fdiv x (2 ^ min (16 : Int).toNat IntKind.u64.bits)) (2 ^ min (8 : Int).toNat IntKind.u64.bits)) < ((ai6.size : Nat) : Int) then
   some ((wi ((wi (24 + (wi ((((ai6[(IntKind.u8.wrap (Int.fdiv (Int.fdiv x (2 ^ min (16 : Int).toNat IntKind.u64.bits)) (2 ^ min (8 : Int).toNat IntKind.u64.bits))).toNat]?).map fun b => ((b.toNat : Nat) : Int)).getD 0))))) - 1), ()), (()))
   else none
  else
  if 0 ≤ IntKind.u8.wrap (Int.fdiv x (2 ^ min (16 : Int).toNat IntKind.u64.bits)) ∧ IntKind.u8.wrap (Int.fdiv x (2 ^ min (16 : Int).toNat IntKind.u64.bits)) < ((ai6.size : Nat) : Int) then
   some ((wi ((wi (16 + (wi ((((ai6[(IntKind.u8.wrap (Int.fdiv x (2 ^ min (16 : Int).toNat IntKind.u64.bits))).toNat]?).map fun b => ((b.toNat : Nat) : Int)).getD 0))))) - 1), ()), (()))
  else none
 else
 if 256 ≤ x then
  if 0 ≤ IntKind.u8.wrap (Int.fdiv x (2 ^ min (8 : Int).toNat IntKind.u64.bits)) ∧ IntKind.u8.wrap (Int.fdiv x (2 ^ min (8 : Int).toNat IntKind.u64.bits)) < ((ai6.size : Nat) : Int) then
   some ((wi ((wi (8 + (wi ((((ai6[(IntKind.u8.wrap (Int.fdiv x (2 ^ min (8 : Int).toNat IntKind.u64.bits))).toNat]?).map fun b => ((b.toNat : Nat) : Int)).getD 0))))) - 1), ()), (()))
  else none
 else
 if 0 ≤ IntKind.u8.wrap (x) ∧ IntKind.u8.wrap (x) < ((ai6.size : Nat) : Int) then
  some ((wi ((wi (0 + (wi ((((ai6[(IntKind.u8.wrap (x)).toNat]?).map fun b => ((b.toNat : Nat) : Int)).getD 0))))) - 1), ()), (()))
 else none
noncomputable abbrev aua : Con SR1 := ⟨244, [.sh sU_], [.sh sI_], fun x => agT x.1⟩
noncomputable def aAi : List (Nat × Func) := [(246, Tryz.f246)]
theorem avu : CO Tryz.prog aua := aai aah Tryz.func244 [] trivial aAi ⟨Tryz.func246, trivial⟩ (fun _ => []) [] fun x => by kernel_rfl
noncomputable def ad5 (y0 : ProbeV) (y1 : Int) : Option ((Bool × Unit) × (ProbeV × Unit)) :=
 ((
  if y0.next < y1 then
   if y1 ≠ 0 then
   some (decide ((Int.tmod (wi (y0.start + y0.next)) y1) = y0.worker), ())
   else none
  else
  some (false, ())
 ) : Option (Bool × Unit)).bind fun z1 =>
 if z1.1 = true then
  some ((decide (y1 ≤ (wi (y0.next + 1))), ()), (({ y0 with next := wi (y0.next + 1) } : ProbeV), ()))
 else
 some ((decide (y1 ≤ y0.next), ()), (y0, ()))
noncomputable abbrev aiE : Con SR1 := ⟨252, [.ref 46, .sh sI_], [.sh .b], fun x => ad5 x.1 x.2.1⟩
theorem amL : CO Tryz.prog aiE := aai aah Tryz.func252 [] trivial [] trivial (fun _ => []) [(2, .cut [.rg 28 .b] [0])] fun x => by kernel_rfl
noncomputable def abg (y0 : ProbeV) (y1 : EnvP) : Option ((Bool × Unit) × (ProbeV × EnvP × Unit)) :=
 (aau y0.o).bind fun r1 =>
 if r1.1.1 = true then
  some ((true, ()), (({ y0 with o := r1.2.1 } : ProbeV), y1, ()))
 else
 ((
  if (!y0.begun) = true then
   (aAl y1.k (if 16 < y1.c.workers then 16 else y1.c.workers)).bind fun r2 =>
   some (({ y0 with o := r1.2.1, begun := true, start := r2.1.1 } : ProbeV), ({ y1 with k := r2.2.1 } : EnvP), ())
  else
  some (({ y0 with o := r1.2.1 } : ProbeV), y1, ())
 ) : Option (ProbeV × EnvP × Unit)).bind fun z3 =>
 (ad5 z3.1 (if 16 < y1.c.workers then 16 else y1.c.workers)).bind fun r4 =>
 if r4.1.1 = true then
  (aba r4.2.1.o 2 0).bind fun r5 =>
  some ((r5.1.1, ()), (({ r4.2.1 with o := r5.2.1 } : ProbeV), z3.2.1, ()))
 else
 if (if 16 < y1.c.workers then 16 else y1.c.workers) ≠ 0 then
  ((
   (ahd z3.2.1.l (Int.tmod (wi (r4.2.1.start + r4.2.1.next)) (if 16 < y1.c.workers then 16 else y1.c.workers))).bind fun r6 =>
   (aco z3.2.1.m r6.1.1).bind fun r7 =>
   if (Int.tmod (wi (r4.2.1.start + r4.2.1.next)) (if 16 < y1.c.workers then 16 else y1.c.workers)) = ((15 : Nat) : Int) then
   some (({ r4.2.1 with bm := { r4.2.1.bm with b15 := r7.1.1 } } : ProbeV), ({ z3.2.1 with m := r7.2.1 } : EnvP), ())
   else
   if (Int.tmod (wi (r4.2.1.start + r4.2.1.next)) (if 16 < y1.c.workers then 16 else y1.c.workers)) = ((14 : Nat) : Int) then
   some (({ r4.2.1 with bm := { r4.2.1.bm with b14 := r7.1.1 } } : ProbeV), ({ z3.2.1 with m := r7.2.1 } : EnvP), ())
   else
   if (Int.tmod (wi (r4.2.1.start + r4.2.1.next)) (if 16 < y1.c.workers then 16 else y1.c.workers)) = ((13 : Nat) : Int) then
   some (({ r4.2.1 with bm := { r4.2.1.bm with b13 := r7.1.1 } } : ProbeV), ({ z3.2.1 with m := r7.2.1 } : EnvP), ())
   else
   if (Int.tmod (wi (r4.2.1.start + r4.2.1.next)) (if 16 < y1.c.workers then 16 else y1.c.workers)) = ((12 : Nat) : Int) then
   some (({ r4.2.1 with bm := { r4.2.1.bm with b12 := r7.1.1 } } : ProbeV), ({ z3.2.1 with m := r7.2.1 } : EnvP), ())
   else
   if (Int.tmod (wi (r4.2.1.start + r4.2.1.next)) (if 16 < y1.c.workers then 16 else y1.c.workers)) = ((11 : Nat) : Int) then
   some (({ r4.2.1 with bm := { r4.2.1.bm with b11 := r7.1.1 } } : ProbeV), ({ z3.2.1 with m := r7.2.1 } : EnvP), ())
   else
   if (Int.tmod (wi (r4.2.1.start + r4.2.1.next)) (if 16 < y1.c.workers then 16 else y1.c.workers)) = ((10 : Nat) : Int) then
   some (({ r4.2.1 with bm := { r4.2.1.bm with b10 := r7.1.1 } } : ProbeV), ({ z3.2.1 with m := r7.2.1 } : EnvP), ())
   else
   if (Int.tmod (wi (r4.2.1.start + r4.2.1.next)) (if 16 < y1.c.workers then 16 else y1.c.workers)) = ((9 : Nat) : Int) then
   some (({ r4.2.1 with bm := { r4.2.1.bm with b9 := r7.1.1 } } : ProbeV), ({ z3.2.1 with m := r7.2.1 } : EnvP), ())
   else
   if (Int.tmod (wi (r4.2.1.start + r4.2.1.next)) (if 16 < y1.c.workers then 16 else y1.c.workers)) = ((8 : Nat) : Int) then
   some (({ r4.2.1 with bm := { r4.2.1.bm with b8 := r7.1.1 } } : ProbeV), ({ z3.2.1 with m := r7.2.1 } : EnvP), ())
   else
   if (Int.tmod (wi (r4.2.1.start + r4.2.1.next)) (if 16 < y1.c.workers then 16 else y1.c.workers)) = ((7 : Nat) : Int) then
   some (({ r4.2.1 with bm := { r4.2.1.bm with b7 := r7.1.1 } } : ProbeV), ({ z3.2.1 with m := r7.2.1 } : EnvP), ())
   else
   if (Int.tmod (wi (r4.2.1.start + r4.2.1.next)) (if 16 < y1.c.workers then 16 else y1.c.workers)) = ((6 : Nat) : Int) then
   some (({ r4.2.1 with bm := { r4.2.1.bm with b6 := r7.1.1 } } : ProbeV), ({ z3.2.1 with m := r7.2.1 } : EnvP), ())
   else
   if (Int.tmod (wi (r4.2.1.start + r4.2.1.next)) (if 16 < y1.c.workers then 16 else y1.c.workers)) = ((5 : Nat) : Int) then
   some (({ r4.2.1 with bm := { r4.2.1.bm with b5 := r7.1.1 } } : ProbeV), ({ z3.2.1 with m := r7.2.1 } : EnvP), ())
   else
   if (Int.tmod (wi (r4.2.1.start + r4.2.1.next)) (if 16 < y1.c.workers then 16 else y1.c.workers)) = ((4 : Nat) : Int) then
   some (({ r4.2.1 with bm := { r4.2.1.bm with b4 := r7.1.1 } } : ProbeV), ({ z3.2.1 with m := r7.2.1 } : EnvP), ())
   else
   if (Int.tmod (wi (r4.2.1.start + r4.2.1.next)) (if 16 < y1.c.workers then 16 else y1.c.workers)) = ((3 : Nat) : Int) then
   some (({ r4.2.1 with bm := { r4.2.1.bm with b3 := r7.1.1 } } : ProbeV), ({ z3.2.1 with m := r7.2.1 } : EnvP), ())
   else
   if (Int.tmod (wi (r4.2.1.start + r4.2.1.next)) (if 16 < y1.c.workers then 16 else y1.c.workers)) = ((2 : Nat) : Int) then
   some (({ r4.2.1 with bm := { r4.2.1.bm with b2 := r7.1.1 } } : ProbeV), ({ z3.2.1 with m := r7.2.1 } : EnvP), ())
   else
   if (Int.tmod (wi (r4.2.1.start + r4.2.1.next)) (if 16 < y1.c.workers then 16 else y1.c.workers)) = ((1 : Nat) : Int) then
   some (({ r4.2.1 with bm := { r4.2.1.bm with b1 := r7.1.1 } } : ProbeV), ({ z3.2.1 with m := r7.2.1 } : EnvP), ())
   else
   if (Int.tmod (wi (r4.2.1.start + r4.2.1.next)) (if 16 < y1.c.workers then 16 else y1.c.workers)) = ((0 : Nat) : Int) then
   some (({ r4.2.1 with bm := { r4.2.1.bm with b0 := r7.1.1 } } : ProbeV), ({ z3.2.1 with m := r7.2.1 } : EnvP), ())
   else
   none
  ) : Option (ProbeV × EnvP × Unit)).bind fun z8 =>
  (ad5 ({ z8.1 with next := wi (z8.1.next + 1) } : ProbeV) (if 16 < y1.c.workers then 16 else y1.c.workers)).bind fun r9 =>
  if (!r9.1.1) = true then
   some ((false, ()), (r9.2.1, z8.2.1, ()))
  else
  if 0 ≤ (if 16 < y1.c.workers then 16 else y1.c.workers) ∧ (if 16 < y1.c.workers then 16 else y1.c.workers) ≤ ((16 : Nat) : Int) then
   (lpF (σ := Int × Int × Int × ProbeV × Unit) (β := Int × Int × Int × ProbeV × Unit) (fun self12 x10 =>
   if x10.2.2.1 < ((((if 16 < y1.c.workers then 16 else y1.c.workers)).toNat : Nat) : Int) then
   (azr r9.2.1.start ((((if 16 < y1.c.workers then 16 else y1.c.workers)).toNat : Nat) : Int)).bind fun r13 =>
   if ((((if 16 < y1.c.workers then 16 else y1.c.workers)).toNat : Nat) : Int) ≠ 0 then
   ((
   if (Int.tmod (wi (r13.1.1 + x10.2.2.1)) ((((if 16 < y1.c.workers then 16 else y1.c.workers)).toNat : Nat) : Int)) < (if 16 < y1.c.workers then 16 else y1.c.workers) then
   if (Int.tmod (wi (r13.1.1 + x10.2.2.1)) ((((if 16 < y1.c.workers then 16 else y1.c.workers)).toNat : Nat) : Int)) = ((15 : Nat) : Int) then
   (agT x10.2.2.2.1.bm.b15).bind fun r14 =>
   some (r14.1.1, x10.2.2.2.1, ())
   else
   if (Int.tmod (wi (r13.1.1 + x10.2.2.1)) ((((if 16 < y1.c.workers then 16 else y1.c.workers)).toNat : Nat) : Int)) = ((14 : Nat) : Int) then
   (agT x10.2.2.2.1.bm.b14).bind fun r15 =>
   some (r15.1.1, x10.2.2.2.1, ())
   else
   if (Int.tmod (wi (r13.1.1 + x10.2.2.1)) ((((if 16 < y1.c.workers then 16 else y1.c.workers)).toNat : Nat) : Int)) = ((13 : Nat) : Int) then
   (agT x10.2.2.2.1.bm.b13).bind fun r16 =>
   some (r16.1.1, x10.2.2.2.1, ())
   else
   if (Int.tmod (wi (r13.1.1 + x10.2.2.1)) ((((if 16 < y1.c.workers then 16 else y1.c.workers)).toNat : Nat) : Int)) = ((12 : Nat) : Int) then
   (agT x10.2.2.2.1.bm.b12).bind fun r17 =>
   some (r17.1.1, x10.2.2.2.1, ())
   else
   if (Int.tmod (wi (r13.1.1 + x10.2.2.1)) ((((if 16 < y1.c.workers then 16 else y1.c.workers)).toNat : Nat) : Int)) = ((11 : Nat) : Int) then
   (agT x10.2.2.2.1.bm.b11).bind fun r18 =>
   some (r18.1.1, x10.2.2.2.1, ())
   else
   if (Int.tmod (wi (r13.1.1 + x10.2.2.1)) ((((if 16 < y1.c.workers then 16 else y1.c.workers)).toNat : Nat) : Int)) = ((10 : Nat) : Int) then
   (agT x10.2.2.2.1.bm.b10).bind fun r19 =>
   some (r19.1.1, x10.2.2.2.1, ())
   else
   if (Int.tmod (wi (r13.1.1 + x10.2.2.1)) ((((if 16 < y1.c.workers then 16 else y1.c.workers)).toNat : Nat) : Int)) = ((9 : Nat) : Int) then
   (agT x10.2.2.2.1.bm.b9).bind fun r20 =>
   some (r20.1.1, x10.2.2.2.1, ())
   else
   if (Int.tmod (wi (r13.1.1 + x10.2.2.1)) ((((if 16 < y1.c.workers then 16 else y1.c.workers)).toNat : Nat) : Int)) = ((8 : Nat) : Int) then
   (agT x10.2.2.2.1.bm.b8).bind fun r21 =>
   some (r21.1.1, x10.2.2.2.1, ())
   else
   if (Int.tmod (wi (r13.1.1 + x10.2.2.1)) ((((if 16 < y1.c.workers then 16 else y1.c.workers)).toNat : Nat) : Int)) = ((7 : Nat) : Int) then
   (agT x10.2.2.2.1.bm.b7).bind fun r22 =>
   some (r22.1.1, x10.2.2.2.1, ())
   else
   if (Int.tmod (wi (r13.1.1 + x10.2.2.1)) ((((if 16 < y1.c.workers then 16 else y1.c.workers)).toNat : Nat) : Int)) = ((6 : Nat) : Int) then
   (agT x10.2.2.2.1.bm.b6).bind fun r23 =>
   some (r23.1.1, x10.2.2.2.1, ())
   else
   if (Int.tmod (wi (r13.1.1 + x10.2.2.1)) ((((if 16 < y1.c.workers then 16 else y1.c.workers)).toNat : Nat) : Int)) = ((5 : Nat) : Int) then
   (agT x10.2.2.2.1.bm.b5).bind fun r24 =>
   some (r24.1.1, x10.2.2.2.1, ())
   else
   if (Int.tmod (wi (r13.1.1 + x10.2.2.1)) ((((if 16 < y1.c.workers then 16 else y1.c.workers)).toNat : Nat) : Int)) = ((4 : Nat) : Int) then
   (agT x10.2.2.2.1.bm.b4).bind fun r25 =>
   some (r25.1.1, x10.2.2.2.1, ())
   else
   if (Int.tmod (wi (r13.1.1 + x10.2.2.1)) ((((if 16 < y1.c.workers then 16 else y1.c.workers)).toNat : Nat) : Int)) = ((3 : Nat) : Int) then
   (agT x10.2.2.2.1.bm.b3).bind fun r26 =>
   some (r26.1.1, x10.2.2.2.1, ())
   else
   if (Int.tmod (wi (r13.1.1 + x10.2.2.1)) ((((if 16 < y1.c.workers then 16 else y1.c.workers)).toNat : Nat) : Int)) = ((2 : Nat) : Int) then
   (agT x10.2.2.2.1.bm.b2).bind fun r27 =>
   some (r27.1.1, x10.2.2.2.1, ())
   else
   if (Int.tmod (wi (r13.1.1 + x10.2.2.1)) ((((if 16 < y1.c.workers then 16 else y1.c.workers)).toNat : Nat) : Int)) = ((1 : Nat) : Int) then
   (agT x10.2.2.2.1.bm.b1).bind fun r28 =>
   some (r28.1.1, x10.2.2.2.1, ())
   else
   if (Int.tmod (wi (r13.1.1 + x10.2.2.1)) ((((if 16 < y1.c.workers then 16 else y1.c.workers)).toNat : Nat) : Int)) = ((0 : Nat) : Int) then
   (agT x10.2.2.2.1.bm.b0).bind fun r29 =>
   some (r29.1.1, x10.2.2.2.1, ())
   else
   none
   else none
   ) : Option (Int × ProbeV × Unit)).bind fun z30 =>
   if (Int.tmod (wi (r13.1.1 + x10.2.2.1)) ((((if 16 < y1.c.workers then 16 else y1.c.workers)).toNat : Nat) : Int)) ≠ r9.2.1.worker then
   if x10.2.1 < z30.1 then
   self12 ((Int.tmod (wi (r13.1.1 + x10.2.2.1)) ((((if 16 < y1.c.workers then 16 else y1.c.workers)).toNat : Nat) : Int)), z30.1, wi (x10.2.2.1 + 1), z30.2.1, ())
   else
   self12 (x10.1, x10.2.1, wi (x10.2.2.1 + 1), z30.2.1, ())
   else
   self12 (x10.1, x10.2.1, wi (x10.2.2.1 + 1), z30.2.1, ())
   else none
   else
   some (x10.1, x10.2.1, x10.2.2.1, x10.2.2.2.1, ())
   ) 18446744073709551616 ((-1), (-1), 0, r9.2.1, ())).bind fun z11 =>
   if z11.1 < 0 then
   (aba z11.2.2.2.1.o 2 0).bind fun r31 =>
   some ((r31.1.1, ()), (({ z11.2.2.2.1 with o := r31.2.1 } : ProbeV), z8.2.1, ()))
   else
   (aba z11.2.2.2.1.o 1 (wi ((wi (z11.1 * 64)) + z11.2.1))).bind fun r32 =>
   some ((r32.1.1, ()), (({ z11.2.2.2.1 with o := r32.2.1 } : ProbeV), z8.2.1, ()))
  else none
 else none
noncomputable abbrev anP : Con SR1 := ⟨250, [.ref 46, .ref 27], [.sh .b], fun x => abg x.1 x.2.1⟩
noncomputable def amJ : List (Nat × Func) := [(253, Tryz.f253)]
theorem amK : CO Tryz.prog anP := aai aah Tryz.func250 [abj, axQ, aiE, acr, agI, acq, asX, aua] ⟨aa4, aAj, amL, abu, agt, abD, arh, avu, trivial⟩ amJ ⟨Tryz.func253, trivial⟩ (fun f => (get [(253, [(4, .loop [.rg 6 sI_, .rg 7 sI_, .rg 15 sI_, .ob 0 46] 18446744073709551616 0), (8, .cut [.rg 11 sI_, .ob 0 46] [])])] f).getD []) [(6, .cut [.ob 0 46, .ob 1 27] []), (10, .cut [.ob 0 46, .ob 1 27] [])] fun x => by kernel_rfl
noncomputable def afa (y0 : EnvP) (y1 : Int) : Option ((Bool × Unit) × (EnvP × Unit)) :=
 if 0 ≤ y1 then
  some ((decide (y1 < y0.c.tasks), ()), (y0, ()))
 else
 some ((false, ()), (y0, ()))
noncomputable abbrev agb : Con SR1 := ⟨183, [.ref 27, .sh sI_], [.sh .b], fun x => afa x.1 x.2.1⟩
theorem ahb : CO Tryz.prog agb := aai aah Tryz.func183 [] trivial [] trivial (fun _ => []) [] fun x => by kernel_rfl
noncomputable def abK (y0 : AllocV) (y1 : EnvP) : Option ((Bool × Unit) × (AllocV × EnvP × Unit)) :=
 (aau y0.o).bind fun r1 =>
 if r1.1.1 = true then
  some ((true, ()), ((⟨r1.2.1⟩ : AllocV), y1, ()))
 else
 (aCO y1.l).bind fun r2 =>
 (aDY y1.m r2.1.1 1).bind fun r3 =>
 (afa ({ y1 with m := r3.2.1 } : EnvP) (wi (r3.1.1))).bind fun r4 =>
 if (!r4.1.1) = true then
  (aba r1.2.1 3 0).bind fun r5 =>
  some ((r5.1.1, ()), ((⟨r5.2.1⟩ : AllocV), r4.2.1, ()))
 else
 (aba r1.2.1 1 (wi (r3.1.1))).bind fun r6 =>
 some ((r6.1.1, ()), ((⟨r6.2.1⟩ : AllocV), r4.2.1, ()))
noncomputable abbrev akN : Con SR1 := ⟨181, [.ref 35, .ref 27], [.sh .b], fun x => abK x.1 x.2.1⟩
theorem akk : CO Tryz.prog akN := aai aah Tryz.func181 [abj, axN, avA, agb, acr] ⟨aa4, aAg, auf, ahb, abu, trivial⟩ [] trivial (fun _ => []) [] fun x => by kernel_rfl
noncomputable def abC (y0 : PublishV) (y1 : EnvP) : Option ((Bool × Unit) × (PublishV × EnvP × Unit)) :=
 (aau y0.o).bind fun r1 =>
 if r1.1.1 = true then
  some ((true, ()), (({ y0 with o := r1.2.1 } : PublishV), y1, ()))
 else
 (afa y1 y0.task).bind fun r2 =>
 if (!r2.1.1) = true then
  (aba r1.2.1 4 0).bind fun r3 =>
  some ((r3.1.1, ()), (({ y0 with o := r3.2.1 } : PublishV), r2.2.1, ()))
 else
 if y0.line = 1 then
  (ae5 r2.2.1.l y0.task).bind fun r4 =>
  if y0.level = y0.level then
   (aa2 r2.2.1.m r4.1.1 (wu (y0.level))).bind fun r5 =>
   some ((false, ()), (({ y0 with o := r1.2.1, line := wi (y0.line + 1) } : PublishV), ({ r2.2.1 with m := r5.2.1 } : EnvP), ()))
  else none
 else
 if y0.line = 2 then
  (aiF r2.2.1.l y0.task).bind fun r6 =>
  (arf r2.2.1.k).bind fun r7 =>
  (aa2 r2.2.1.m r6.1.1 (wu (r7.1.1))).bind fun r8 =>
  some ((false, ()), (({ y0 with o := r1.2.1, line := wi (y0.line + 1) } : PublishV), ({ r2.2.1 with m := r8.2.1, k := r7.2.1 } : EnvP), ()))
 else
 (aer r2.2.1.l y0.task).bind fun r9 =>
 (aa2 r2.2.1.m r9.1.1 1).bind fun r10 =>
 (aba r1.2.1 0 0).bind fun r11 =>
 some ((r11.1.1, ()), (({ y0 with o := r11.2.1 } : PublishV), ({ r2.2.1 with m := r10.2.1 } : EnvP), ()))
noncomputable abbrev alf : Con SR1 := ⟨274, [.ref 50, .ref 27], [.sh .b], fun x => abC x.1 x.2.1⟩
theorem akM : CO Tryz.prog alf := aai aah Tryz.func274 [abj, agb, acr, agj, adC, ajZ, ant, agi] ⟨aa4, ahb, abu, afC, ac3, aji, akT, afB, trivial⟩ [] trivial (fun _ => []) [] fun x => by kernel_rfl
noncomputable def acS (y0 : ClaimV) (y1 : EnvP) : Option ((Bool × Unit) × (ClaimV × EnvP × Unit)) :=
 (aau y0.o).bind fun r1 =>
 if r1.1.1 = true then
  some ((true, ()), (({ y0 with o := r1.2.1 } : ClaimV), y1, ()))
 else
 if y0.task = y0.task then
  if y0.worker = y0.worker then
   (aer y1.l y0.task).bind fun r2 =>
   (ask y1.m r2.1.1 1 2).bind fun r3 =>
   if (!r3.1.1) = true then
   (adW ({ y1 with m := r3.2.1 } : EnvP) ({ y0 with kind := 15, other := 0, level := 0 } : Ev)).bind fun r4 =>
   (aba r1.2.1 4 0).bind fun r5 =>
   some ((r5.1.1, ()), (({ y0 with o := r5.2.1 } : ClaimV), r4.2.1, ()))
   else
   if 0 ≤ y0.task ∧ y0.task < ((y1.recs.length : Nat) : Int) then
   if (aab y1.recs y0.task).started = true then
   (adW ({ y1 with m := r3.2.1 } : EnvP) ({ y0 with kind := 9, other := 0, level := 0 } : Ev)).bind fun r6 =>
   (aba r1.2.1 1 y0.task).bind fun r7 =>
   some ((r7.1.1, ()), (({ y0 with o := r7.2.1 } : ClaimV), r6.2.1, ()))
   else
   (adW ({ y1 with m := r3.2.1, recs := y1.recs.set y0.task.toNat ({ aab y1.recs y0.task with started := true } : RecP) } : EnvP) ({ y0 with kind := 5, other := 0, level := 0 } : Ev)).bind fun r8 =>
   (aba r1.2.1 1 y0.task).bind fun r9 =>
   some ((r9.1.1, ()), (({ y0 with o := r9.2.1 } : ClaimV), r8.2.1, ()))
   else none
  else none
 else none
noncomputable abbrev anI : Con SR1 := ⟨248, [.ref 45, .ref 27], [.sh .b], fun x => acS x.1 x.2.1⟩
theorem amu : CO Tryz.prog anI := aai aah Tryz.func248 [abj, agi, alL, afe, acr] ⟨aa4, afB, ajn, aee, abu, trivial⟩ [] trivial (fun _ => []) [] fun x => by kernel_rfl
noncomputable def acv (y0 : AttemptV) (y1 : EnvP) : Option ((Bool × Unit) × (AttemptV × EnvP × Unit)) :=
 (aau y0.o).bind fun r1 =>
 if r1.1.1 = true then
  some ((true, ()), (({ y0 with o := r1.2.1 } : AttemptV), y1, ()))
 else
 (axP y1.l).bind fun r2 =>
 if y0.owner = y0.owner then
  (ask y1.m r2.1.1 0 (wu (wi (y0.owner + 1)))).bind fun r3 =>
  if r3.1.1 = true then
   (aba r1.2.1 1 0).bind fun r4 =>
   some ((r4.1.1, ()), (({ y0 with o := r4.2.1 } : AttemptV), ({ y1 with m := r3.2.1 } : EnvP), ()))
  else
  if y0.once = true then
   (aba r1.2.1 5 0).bind fun r5 =>
   some ((r5.1.1, ()), (({ y0 with o := r5.2.1 } : AttemptV), ({ y1 with m := r3.2.1 } : EnvP), ()))
  else
  some ((false, ()), (({ y0 with o := r1.2.1 } : AttemptV), ({ y1 with m := r3.2.1 } : EnvP), ()))
 else none
noncomputable abbrev amX : Con SR1 := ⟨176, [.ref 34, .ref 27], [.sh .b], fun x => acv x.1 x.2.1⟩
theorem alV : CO Tryz.prog amX := aai aah Tryz.func176 [abj, at8, alL, acr] ⟨aa4, avs, ajn, abu, trivial⟩ [] trivial (fun _ => []) [] fun x => by kernel_rfl
noncomputable def acu (y0 : ReleaseV) (y1 : EnvP) : Option ((Bool × Unit) × (ReleaseV × EnvP × Unit)) :=
 (aau y0.o).bind fun r1 =>
 if r1.1.1 = true then
  some ((true, ()), ((⟨r1.2.1⟩ : ReleaseV), y1, ()))
 else
 (axP y1.l).bind fun r2 =>
 (aa2 y1.m r2.1.1 0).bind fun r3 =>
 (aba r1.2.1 0 0).bind fun r4 =>
 some ((r4.1.1, ()), ((⟨r4.2.1⟩ : ReleaseV), ({ y1 with m := r3.2.1 } : EnvP), ()))
noncomputable abbrev amW : Con SR1 := ⟨191, [.ref 37, .ref 27], [.sh .b], fun x => acu x.1 x.2.1⟩
theorem alU : CO Tryz.prog amW := aai aah Tryz.func191 [abj, at8, adC, acr] ⟨aa4, avs, ac3, abu, trivial⟩ [] trivial (fun _ => []) [] fun x => by kernel_rfl
noncomputable def adi (y0 : OPushV) (y1 : EnvP) : Option ((Bool × Unit) × (OPushV × EnvP × Unit)) :=
 (aau y0.o).bind fun r1 =>
 if r1.1.1 = true then
  some ((true, ()), (({ y0 with o := r1.2.1 } : OPushV), y1, ()))
 else
 if y0.line = 1 then
  (aco y1.m y0.q.bottom).bind fun r2 =>
  some ((false, ()), (({ y0 with o := r1.2.1, line := wi (y0.line + 1), b := r2.1.1 } : OPushV), ({ y1 with m := r2.2.1 } : EnvP), ()))
 else
 if y0.line = 2 then
  (aco y1.m y0.q.top).bind fun r3 =>
  (at7 y0.b r3.1.1).bind fun r4 =>
  if y0.q.cap = y0.q.cap then
   if y0.q.cap ≤ r4.1.1 then
   (aba r1.2.1 3 0).bind fun r5 =>
   some ((r5.1.1, ()), (({ y0 with o := r5.2.1 } : OPushV), ({ y1 with m := r3.2.1 } : EnvP), ()))
   else
   some ((false, ()), (({ y0 with o := r1.2.1, line := wi (y0.line + 1) } : OPushV), ({ y1 with m := r3.2.1 } : EnvP), ()))
  else none
 else
 if y0.line = 3 then
  (aub y0.q y0.b).bind fun r6 =>
  if y0.value = y0.value then
   (aa2 y1.m r6.1.1 (wu (y0.value))).bind fun r7 =>
   some ((false, ()), (({ y0 with o := r1.2.1, line := wi (y0.line + 1) } : OPushV), ({ y1 with m := r7.2.1 } : EnvP), ()))
  else none
 else
 (aa2 y1.m y0.q.bottom (wu (y0.b + 1))).bind fun r8 =>
 (aba r1.2.1 0 0).bind fun r9 =>
 some ((r9.1.1, ()), (({ y0 with o := r9.2.1 } : OPushV), ({ y1 with m := r8.2.1 } : EnvP), ()))
noncomputable abbrev apb : Con SR1 := ⟨279, [.ref 53, .ref 27], [.sh .b], fun x => adi x.1 x.2.1⟩
theorem anW : CO Tryz.prog apb := aai aah Tryz.func279 [abj, acq, amQ, acr, ark, adC] ⟨aa4, abD, alJ, abu, arj, ac3, trivial⟩ [] trivial (fun _ => []) [] fun x => by kernel_rfl
noncomputable def ahe (y0 : OPopV) (y1 : EnvP) : Option ((Int × Unit) × (OPopV × EnvP × Unit)) :=
 (aco y1.m y0.q.top).bind fun r1 =>
 (at7 (wu (y0.b - 1)) r1.1.1).bind fun r2 =>
 if 0 < r2.1.1 then
  some ((5, ()), (({ y0 with t := r1.1.1 } : OPopV), ({ y1 with m := r1.2.1 } : EnvP), ()))
 else
 if r2.1.1 = 0 then
  some ((6, ()), (({ y0 with t := r1.1.1 } : OPopV), ({ y1 with m := r1.2.1 } : EnvP), ()))
 else
 some ((9, ()), (({ y0 with t := r1.1.1 } : OPopV), ({ y1 with m := r1.2.1 } : EnvP), ()))
noncomputable abbrev aiG : Con SR1 := ⟨277, [.ref 52, .ref 27], [.sh sI_], fun x => ahe x.1 x.2.1⟩
theorem amT : CO Tryz.prog aiG := aai aah Tryz.func277 [acq, amQ] ⟨abD, alJ, trivial⟩ [] trivial (fun _ => []) [] fun x => by kernel_rfl
noncomputable def adJ (y0 : OPopV) (y1 : EnvP) : Option ((Bool × Unit) × (OPopV × EnvP × Unit)) :=
 (aau y0.o).bind fun r1 =>
 if r1.1.1 = true then
  some ((true, ()), (({ y0 with o := r1.2.1 } : OPopV), y1, ()))
 else
 if y0.line = 1 then
  (aco y1.m y0.q.bottom).bind fun r2 =>
  some ((false, ()), (({ y0 with o := r1.2.1, line := wi (y0.line + 1), b := r2.1.1 } : OPopV), ({ y1 with m := r2.2.1 } : EnvP), ()))
 else
 if y0.line = 2 then
  (aco y1.m y0.q.top).bind fun r3 =>
  (at7 y0.b r3.1.1).bind fun r4 =>
  if r4.1.1 ≤ 0 then
   (aba r1.2.1 2 0).bind fun r5 =>
   some ((r5.1.1, ()), (({ y0 with o := r5.2.1, t := r3.1.1 } : OPopV), ({ y1 with m := r3.2.1 } : EnvP), ()))
  else
  some ((false, ()), (({ y0 with o := r1.2.1, line := wi (y0.line + 1), t := r3.1.1 } : OPopV), ({ y1 with m := r3.2.1 } : EnvP), ()))
 else
 if y0.line = 3 then
  (aa2 y1.m y0.q.bottom (wu (y0.b - 1))).bind fun r6 =>
  some ((false, ()), (({ y0 with o := r1.2.1, line := wi (y0.line + 1) } : OPopV), ({ y1 with m := r6.2.1 } : EnvP), ()))
 else
 if y0.line = 4 then
  (ahe ({ y0 with o := r1.2.1 } : OPopV) y1).bind fun r7 =>
  some ((false, ()), (({ r7.2.1 with line := r7.1.1 } : OPopV), r7.2.2.1, ()))
 else
 if y0.line = 5 then
  if y0.line = 5 then
   (aub y0.q (wu (y0.b - 1))).bind fun r8 =>
   (aco y1.m r8.1.1).bind fun r9 =>
   (aba r1.2.1 1 (wi (r9.1.1))).bind fun r10 =>
   some ((r10.1.1, ()), (({ y0 with o := r10.2.1 } : OPopV), ({ y1 with m := r9.2.1 } : EnvP), ()))
  else
  if y0.line = 6 then
   (ask y1.m y0.q.top y0.t (wu (y0.t + 1))).bind fun r11 =>
   if (!r11.1.1) = true then
   some ((false, ()), (({ y0 with o := r1.2.1, line := 9 } : OPopV), ({ y1 with m := r11.2.1 } : EnvP), ()))
   else
   some ((false, ()), (({ y0 with o := r1.2.1, line := wi (y0.line + 1) } : OPopV), ({ y1 with m := r11.2.1 } : EnvP), ()))
  else
  if y0.line = 7 then
   (aa2 y1.m y0.q.bottom y0.b).bind fun r12 =>
   some ((false, ()), (({ y0 with o := r1.2.1, line := wi (y0.line + 1) } : OPopV), ({ y1 with m := r12.2.1 } : EnvP), ()))
  else
  (aa2 y1.m y0.q.bottom y0.b).bind fun r13 =>
  (aba r1.2.1 2 0).bind fun r14 =>
  some ((r14.1.1, ()), (({ y0 with o := r14.2.1 } : OPopV), ({ y1 with m := r13.2.1 } : EnvP), ()))
 else
 if y0.line = 8 then
  (aub y0.q (wu (y0.b - 1))).bind fun r15 =>
  (aco y1.m r15.1.1).bind fun r16 =>
  (aba r1.2.1 1 (wi (r16.1.1))).bind fun r17 =>
  some ((r17.1.1, ()), (({ y0 with o := r17.2.1 } : OPopV), ({ y1 with m := r16.2.1 } : EnvP), ()))
 else
 if y0.line = 6 then
  (ask y1.m y0.q.top y0.t (wu (y0.t + 1))).bind fun r18 =>
  if (!r18.1.1) = true then
   some ((false, ()), (({ y0 with o := r1.2.1, line := 9 } : OPopV), ({ y1 with m := r18.2.1 } : EnvP), ()))
  else
  some ((false, ()), (({ y0 with o := r1.2.1, line := wi (y0.line + 1) } : OPopV), ({ y1 with m := r18.2.1 } : EnvP), ()))
 else
 if y0.line = 7 then
  (aa2 y1.m y0.q.bottom y0.b).bind fun r19 =>
  some ((false, ()), (({ y0 with o := r1.2.1, line := wi (y0.line + 1) } : OPopV), ({ y1 with m := r19.2.1 } : EnvP), ()))
 else
 (aa2 y1.m y0.q.bottom y0.b).bind fun r20 =>
 (aba r1.2.1 2 0).bind fun r21 =>
 some ((r21.1.1, ()), (({ y0 with o := r21.2.1 } : OPopV), ({ y1 with m := r20.2.1 } : EnvP), ()))
noncomputable abbrev ap2 : Con SR1 := ⟨276, [.ref 52, .ref 27], [.sh .b], fun x => adJ x.1 x.2.1⟩
theorem apd : CO Tryz.prog ap2 := aai aah Tryz.func276 [abj, acq, amQ, acr, adC, aiG, ark, alL] ⟨aa4, abD, alJ, abu, ac3, amT, arj, ajn, trivial⟩ [] trivial (fun _ => []) [] fun x => by kernel_rfl
noncomputable def acR (y0 : StealV) (y1 : EnvP) : Option ((Bool × Unit) × (StealV × EnvP × Unit)) :=
 (aau y0.o).bind fun r1 =>
 if r1.1.1 = true then
  some ((true, ()), (({ y0 with o := r1.2.1 } : StealV), y1, ()))
 else
 if y0.line = 1 then
  (aco y1.m y0.q.top).bind fun r2 =>
  some ((false, ()), (({ y0 with o := r1.2.1, line := wi (y0.line + 1), t := r2.1.1 } : StealV), ({ y1 with m := r2.2.1 } : EnvP), ()))
 else
 if y0.line = 2 then
  (aco y1.m y0.q.bottom).bind fun r3 =>
  (at7 r3.1.1 y0.t).bind fun r4 =>
  if r4.1.1 ≤ 0 then
   (aba r1.2.1 2 0).bind fun r5 =>
   some ((r5.1.1, ()), (({ y0 with o := r5.2.1 } : StealV), ({ y1 with m := r3.2.1 } : EnvP), ()))
  else
  some ((false, ()), (({ y0 with o := r1.2.1, line := wi (y0.line + 1) } : StealV), ({ y1 with m := r3.2.1 } : EnvP), ()))
 else
 if y0.line = 3 then
  (aub y0.q y0.t).bind fun r6 =>
  (aco y1.m r6.1.1).bind fun r7 =>
  some ((false, ()), (({ y0 with o := r1.2.1, line := wi (y0.line + 1), value := r7.1.1 } : StealV), ({ y1 with m := r7.2.1 } : EnvP), ()))
 else
 (ask y1.m y0.q.top y0.t (wu (y0.t + 1))).bind fun r8 =>
 if r8.1.1 = true then
  (aba r1.2.1 1 (wi (y0.value))).bind fun r9 =>
  some ((r9.1.1, ()), (({ y0 with o := r9.2.1 } : StealV), ({ y1 with m := r8.2.1 } : EnvP), ()))
 else
 (aba r1.2.1 4 0).bind fun r10 =>
 some ((r10.1.1, ()), (({ y0 with o := r10.2.1 } : StealV), ({ y1 with m := r8.2.1 } : EnvP), ()))
noncomputable abbrev anF : Con SR1 := ⟨216, [.ref 42, .ref 27], [.sh .b], fun x => acR x.1 x.2.1⟩
theorem amr : CO Tryz.prog anF := aai aah Tryz.func216 [abj, acq, amQ, acr, ark, alL] ⟨aa4, abD, alJ, abu, arj, ajn, trivial⟩ [] trivial (fun _ => []) [] fun x => by kernel_rfl
noncomputable def adm (y0 : SetV) (y1 : EnvP) : Option ((Bool × Unit) × (SetV × EnvP × Unit)) :=
 (aau y0.o).bind fun r1 =>
 if r1.1.1 = true then
  some ((true, ()), (({ y0 with o := r1.2.1 } : SetV), y1, ()))
 else
 (azs y0.bit).bind fun r2 =>
 if y0.cell = y0.cell then
  (pOr y1.m y0.cell r2.1.1).bind fun r3 =>
  (aba r1.2.1 0 0).bind fun r4 =>
  some ((r4.1.1, ()), (({ y0 with o := r4.2.1 } : SetV), ({ y1 with m := r3.2.1 } : EnvP), ()))
 else none
noncomputable abbrev apT : Con SR1 := ⟨281, [.ref 54, .ref 27], [.sh .b], fun x => adm x.1 x.2.1⟩
theorem an8 : CO Tryz.prog apT := aai aah Tryz.func281 [abj, as0, aAf, acr] ⟨aa4, arm, axM, abu, trivial⟩ [] trivial (fun _ => []) [] fun x => by kernel_rfl
noncomputable def acx (y0 : ResetV) (y1 : EnvP) : Option ((Bool × Unit) × (ResetV × EnvP × Unit)) :=
 (aau y0.o).bind fun r1 =>
 if r1.1.1 = true then
  some ((true, ()), (({ y0 with o := r1.2.1 } : ResetV), y1, ()))
 else
 (azs y0.bit).bind fun r2 =>
 if y0.line = 1 then
  (aBx y1.m y0.cell (aA5 r2.1.1)).bind fun r3 =>
  some ((false, ()), (({ y0 with o := r1.2.1, line := wi (y0.line + 1) } : ResetV), ({ y1 with m := r3.2.1 } : EnvP), ()))
 else
 if y0.line = 2 then
  (aco y1.m y0.q.bottom).bind fun r4 =>
  some ((false, ()), (({ y0 with o := r1.2.1, line := wi (y0.line + 1), b := r4.1.1 } : ResetV), ({ y1 with m := r4.2.1 } : EnvP), ()))
 else
 if y0.line = 3 then
  (aco y1.m y0.q.top).bind fun r5 =>
  (at7 y0.b r5.1.1).bind fun r6 =>
  if r6.1.1 ≤ 0 then
   (aba r1.2.1 2 0).bind fun r7 =>
   some ((r7.1.1, ()), (({ y0 with o := r7.2.1 } : ResetV), ({ y1 with m := r5.2.1 } : EnvP), ()))
  else
  some ((false, ()), (({ y0 with o := r1.2.1, line := wi (y0.line + 1) } : ResetV), ({ y1 with m := r5.2.1 } : EnvP), ()))
 else
 (pOr y1.m y0.cell r2.1.1).bind fun r8 =>
 (aba r1.2.1 1 0).bind fun r9 =>
 some ((r9.1.1, ()), (({ y0 with o := r9.2.1 } : ResetV), ({ y1 with m := r8.2.1 } : EnvP), ()))
noncomputable abbrev am9 : Con SR1 := ⟨220, [.ref 43, .ref 27], [.sh .b], fun x => acx x.1 x.2.1⟩
theorem amk : CO Tryz.prog am9 := aai aah Tryz.func220 [abj, as0, avz, acq, amQ, acr, aAf] ⟨aa4, arm, aue, abD, alJ, abu, axM, trivial⟩ [] trivial (fun _ => []) [] fun x => by kernel_rfl
noncomputable def adk (y0 : InsertV) : Option ((Int × Unit) × (InsertV × Unit)) :=
 if 0 < y0.i then
  some ((3, ()), (y0, ()))
 else
 some ((5, ()), (y0, ()))
noncomputable abbrev afJ : Con SR1 := ⟨188, [.ref 36], [.sh sI_], fun x => adk x.1⟩
theorem aiS : CO Tryz.prog afJ := aai aah Tryz.func188 [] trivial [] trivial (fun _ => []) [] fun x => by kernel_rfl
end Go.Proofs.YteapeojalliebaaGreat
