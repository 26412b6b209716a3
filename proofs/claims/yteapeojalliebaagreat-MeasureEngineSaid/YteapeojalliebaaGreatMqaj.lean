/- The program's machines in the evaluator's form. -/
import Derived.Test.YteapeojalliebaaGreatMqah
import Derived.Test.YteapeojalliebaaGreatMqai
set_option linter.all false
namespace Go.Proofs.YteapeojalliebaaGreat
open Go Go.RowKit
set_option maxRecDepth 100000
variable [Tb]
noncomputable def aH9 (x : Int) : Option ((Int × Unit) × (Unit)) :=
 if x = 0 then
 some (((-1),()),())
 else
 (pTz x).bind fun r1 =>
 some ((r1.1.1,()),())
noncomputable abbrev aCP : Con SR1 := ⟨195,[.sh sU_],[.sh sI_],fun x =>aH9 x.1⟩
theorem aEp : CO Tryz.prog aCP := aal aak Tryz.func195 [aEn] ⟨aGD,trivial⟩ [] trivial (fun _ =>[]) [] fun x =>by kernel_rfl
noncomputable def aax (o : OutV) : Option ((Bool × Unit) × (OutV × Unit)) :=
 some ((o.ended,()),(o,()))
noncomputable abbrev abn : Con SR1 := ⟨160,[.ref 23],[.sh .b],fun x =>aax x.1⟩
theorem aa7 : CO Tryz.prog abn := aal aak Tryz.func160 [] trivial [] trivial (fun _ =>[]) [] fun x =>by kernel_rfl
noncomputable def abe (o : OutV) (code : Int) (value : Int) : Option ((Bool × Unit) × (OutV × Unit)) :=
 some ((true,()),((⟨true,code,value⟩ : OutV),()))
noncomputable abbrev acD : Con SR1 := ⟨170,[.ref 23,.sh sI_,.sh sI_],[.sh .b],fun x =>abe x.1 x.2.1 x.2.2.1⟩
theorem abB : CO Tryz.prog acD := aal aak Tryz.func170 [] trivial [] trivial (fun _ =>[]) [] fun x =>by kernel_rfl
noncomputable def aEo (o : OutV) : Option ((Int × Int × Unit) × (OutV × Unit)) :=
 some ((o.code,o.value,()),(o,()))
noncomputable abbrev aaZ : Con SR1 := ⟨161,[.ref 23],[.sh sI_,.sh sI_],fun x =>aEo x.1⟩
theorem aaT : CO Tryz.prog aaZ := aal aak Tryz.func161 [] trivial [] trivial (fun _ =>[]) [] fun x =>by kernel_rfl
noncomputable def acA (m : MemV) (a : Int) : Option ((Int × Unit) × (MemV × Unit)) :=
 if a < 0 then
 some ((0,()),(m,()))
 else
 if ((m.cells.length : Nat) : Int) ≤ a then
 some ((0,()),(m,()))
 else
 if 0 ≤ a ∧ a < ((m.cells.length : Nat) : Int) then
 if 0 ≤ a ∧ a < ((m.cells.length : Nat) : Int) then
 if 0 ≤ a ∧ a < (((m.cells.set a.toNat (ae7 m.cells a)).length : Nat) : Int) then
 some ((ae7 m.cells a,()),((⟨m.cells.set a.toNat (ae7 m.cells a),⟨1,a,ae7 m.cells a,ae7 (m.cells.set a.toNat (ae7 m.cells a)) a⟩,wi (m.count + 1)⟩ : MemV),()))
 else none
 else none
 else none
noncomputable abbrev acC : Con SR1 := ⟨123,[.ref 9,.sh sI_],[.sh sU_],fun x =>acA x.1 x.2.1⟩
noncomputable def aBy : List (Nat × Func) := [(133,Tryz.f133),(134,Tryz.f134)]
theorem abR : CO Tryz.prog acC := aal aak Tryz.func123 [] trivial aBy ⟨Tryz.func133,Tryz.func134,trivial⟩ (fun _ =>[]) [] fun x =>by kernel_rfl
noncomputable def aa4 (m : MemV) (a : Int) (v : Int) : Option ((Unit) × (MemV × Unit)) :=
 if a < 0 then
 some ((()),(m,()))
 else
 if ((m.cells.length : Nat) : Int) ≤ a then
 some ((()),(m,()))
 else
 if 0 ≤ a ∧ a < ((m.cells.length : Nat) : Int) then
 if 0 ≤ a ∧ a < ((m.cells.length : Nat) : Int) then
 if 0 ≤ a ∧ a < (((m.cells.set a.toNat v).length : Nat) : Int) then
 some ((()),((⟨m.cells.set a.toNat v,⟨2,a,ae7 m.cells a,ae7 (m.cells.set a.toNat v) a⟩,wi (m.count + 1)⟩ : MemV),()))
 else none
 else none
 else none
noncomputable abbrev adS : Con SR1 := ⟨126,[.ref 9,.sh sI_,.sh sU_],[],fun x =>aa4 x.1 x.2.1 x.2.2.1⟩
noncomputable def ayX : List (Nat × Func) := [(133,Tryz.f133),(135,Tryz.f135)]
theorem adg : CO Tryz.prog adS := aal aak Tryz.func126 [] trivial ayX ⟨Tryz.func133,Tryz.func135,trivial⟩ (fun _ =>[]) [] fun x =>by kernel_rfl
noncomputable def as3 (m : MemV) (a : Int) (old : Int) (v : Int) : Option ((Bool × Unit) × (MemV × Unit)) :=
 if a < 0 then
 some ((false,()),(m,()))
 else
 if ((m.cells.length : Nat) : Int) ≤ a then
 some ((false,()),(m,()))
 else
 if 0 ≤ a ∧ a < ((m.cells.length : Nat) : Int) then
 if (ae7 m.cells a) = old then
 if 0 ≤ a ∧ a < ((m.cells.length : Nat) : Int) then
 if 0 ≤ a ∧ a < (((m.cells.set a.toNat v).length : Nat) : Int) then
 some ((decide ((ae7 m.cells a) = old),()),((⟨m.cells.set a.toNat v,⟨3,a,ae7 m.cells a,ae7 (m.cells.set a.toNat v) a⟩,wi (m.count + 1)⟩ : MemV),()))
 else none
 else none
 else
 if 0 ≤ a ∧ a < ((m.cells.length : Nat) : Int) then
 if 0 ≤ a ∧ a < (((m.cells.set a.toNat (ae7 m.cells a)).length : Nat) : Int) then
 some ((decide ((ae7 m.cells a) = old),()),((⟨m.cells.set a.toNat (ae7 m.cells a),⟨3,a,ae7 m.cells a,ae7 (m.cells.set a.toNat (ae7 m.cells a)) a⟩,wi (m.count + 1)⟩ : MemV),()))
 else none
 else none
 else none
noncomputable abbrev alu : Con SR1 := ⟨177,[.ref 9,.sh sI_,.sh sU_,.sh sU_],[.sh .b],fun x =>as3 x.1 x.2.1 x.2.2.1 x.2.2.2.1⟩
noncomputable def aEq : List (Nat × Func) := [(133,Tryz.f133),(179,Tryz.f179)]
theorem ajc : CO Tryz.prog alu := aal aak Tryz.func177 [] trivial aEq ⟨Tryz.func133,Tryz.func179,trivial⟩ (fun _ =>[]) [] fun x =>by kernel_rfl
noncomputable def pOr (m : MemV) (a : Int) (v : Int) : Option ((Int × Unit) × (MemV × Unit)) :=
 if a < 0 then
 some ((0,()),(m,()))
 else
 if ((m.cells.length : Nat) : Int) ≤ a then
 some ((0,()),(m,()))
 else
 if 0 ≤ a ∧ a < ((m.cells.length : Nat) : Int) then
 if 0 ≤ a ∧ a < ((m.cells.length : Nat) : Int) then
 if 0 ≤ a ∧ a < (((m.cells.set a.toNat (orU (ae7 m.cells a) v)).length : Nat) : Int) then
 some ((ae7 m.cells a,()),((⟨m.cells.set a.toNat (orU (ae7 m.cells a) v),⟨4,a,ae7 m.cells a,ae7 (m.cells.set a.toNat (orU (ae7 m.cells a) v)) a⟩,wi (m.count + 1)⟩ : MemV),()))
 else none
 else none
 else none
noncomputable abbrev aBw : Con SR1 := ⟨164,[.ref 9,.sh sI_,.sh sU_],[.sh sU_],fun x =>pOr x.1 x.2.1 x.2.2.1⟩
noncomputable def aGE : List (Nat × Func) := [(133,Tryz.f133),(171,Tryz.f171)]
theorem ayZ : CO Tryz.prog aBw := aal aak Tryz.func164 [] trivial aGE ⟨Tryz.func133,Tryz.func171,trivial⟩ (fun _ =>[]) [] fun x =>by kernel_rfl
noncomputable def aCQ (m : MemV) (a : Int) (v : Int) : Option ((Int × Unit) × (MemV × Unit)) :=
 if a < 0 then
 some ((0,()),(m,()))
 else
 if ((m.cells.length : Nat) : Int) ≤ a then
 some ((0,()),(m,()))
 else
 if 0 ≤ a ∧ a < ((m.cells.length : Nat) : Int) then
 if 0 ≤ a ∧ a < ((m.cells.length : Nat) : Int) then
 if 0 ≤ a ∧ a < (((m.cells.set a.toNat (aos (ae7 m.cells a) v)).length : Nat) : Int) then
 some ((ae7 m.cells a,()),((⟨m.cells.set a.toNat (aos (ae7 m.cells a) v),⟨5,a,ae7 m.cells a,ae7 (m.cells.set a.toNat (aos (ae7 m.cells a) v)) a⟩,wi (m.count + 1)⟩ : MemV),()))
 else none
 else none
 else none
noncomputable abbrev awo : Con SR1 := ⟨169,[.ref 9,.sh sI_,.sh sU_],[.sh sU_],fun x =>aCQ x.1 x.2.1 x.2.2.1⟩
noncomputable def aEr : List (Nat × Func) := [(133,Tryz.f133),(173,Tryz.f173)]
theorem au3 : CO Tryz.prog awo := aal aak Tryz.func169 [] trivial aEr ⟨Tryz.func133,Tryz.func173,trivial⟩ (fun _ =>[]) [] fun x =>by kernel_rfl
noncomputable def aFN (m : MemV) (a : Int) (v : Int) : Option ((Int × Unit) × (MemV × Unit)) :=
 if a < 0 then
 some ((0,()),(m,()))
 else
 if ((m.cells.length : Nat) : Int) ≤ a then
 some ((0,()),(m,()))
 else
 if 0 ≤ a ∧ a < ((m.cells.length : Nat) : Int) then
 if 0 ≤ a ∧ a < ((m.cells.length : Nat) : Int) then
 if 0 ≤ a ∧ a < (((m.cells.set a.toNat (wu ((ae7 m.cells a) + v))).length : Nat) : Int) then
 some ((ae7 m.cells a,()),((⟨m.cells.set a.toNat (wu ((ae7 m.cells a) + v)),⟨6,a,ae7 m.cells a,ae7 (m.cells.set a.toNat (wu ((ae7 m.cells a) + v))) a⟩,wi (m.count + 1)⟩ : MemV),()))
 else none
 else none
 else none
noncomputable abbrev awp : Con SR1 := ⟨182,[.ref 9,.sh sI_,.sh sU_],[.sh sU_],fun x =>aFN x.1 x.2.1 x.2.2.1⟩
noncomputable def aEs : List (Nat × Func) := [(133,Tryz.f133),(184,Tryz.f184)]
theorem au4 : CO Tryz.prog awp := aal aak Tryz.func182 [] trivial aEs ⟨Tryz.func133,Tryz.func184,trivial⟩ (fun _ =>[]) [] fun x =>by kernel_rfl
noncomputable def arD (k : ClkV) : Option ((Int × Unit) × (ClkV × Unit)) :=
 some ((k.now,()),(k,()))
noncomputable abbrev anr : Con SR1 := ⟨129,[.ref 25],[.sh sI_],fun x =>arD x.1⟩
theorem akE : CO Tryz.prog anr := aal aak Tryz.func129 [] trivial [] trivial (fun _ =>[]) [] fun x =>by kernel_rfl
noncomputable def aBC (k : ClkV) (n : Int) : Option ((Int × Unit) × (ClkV × Unit)) :=
 if n < 1 then
 some ((0,()),(k,()))
 else
 if n ≠ 0 then
 if (Int.tmod k.draw n) < 0 then
 some ((wi ((Int.tmod k.draw n) + n),()),(k,()))
 else
 some (((Int.tmod k.draw n),()),(k,()))
 else none
noncomputable abbrev ay2 : Con SR1 := ⟨251,[.ref 25,.sh sI_],[.sh sI_],fun x =>aBC x.1 x.2.1⟩
theorem aBA : CO Tryz.prog ay2 := aal aak Tryz.func251 [] trivial [] trivial (fun _ =>[]) [] fun x =>by kernel_rfl
noncomputable def aAC (n : Int) : Option ((Int × Unit) × (Unit)) :=
 if n < 0 then
 some ((0,()),())
 else
 if 63 < n then
 some ((0,()),())
 else
 if 0 ≤ wu (n) then
 some ((wu (1 * 2 ^ min (wu (n) : Int).toNat IntKind.u64.bits),()),())
 else none
noncomputable abbrev atH : Con SR1 := ⟨166,[.sh sI_],[.sh sU_],fun x =>aAC x.1⟩
theorem arJ : CO Tryz.prog atH := aal aak Tryz.func166 [] trivial [] trivial (fun _ =>[]) [] fun x =>by kernel_rfl
noncomputable def aAB (a : Int) (n : Int) : Option ((Int × Unit) × (Unit)) :=
 if n < 1 then
 some ((0,()),())
 else
 if n ≠ 0 then
 if (Int.tmod a n) < 0 then
 some ((wi ((Int.tmod a n) + n),()),())
 else
 some (((Int.tmod a n),()),())
 else none
noncomputable abbrev atD : Con SR1 := ⟨146,[.sh sI_,.sh sI_],[.sh sI_],fun x =>aAB x.1 x.2.1⟩
theorem arE : CO Tryz.prog atD := aal aak Tryz.func146 [] trivial [] trivial (fun _ =>[]) [] fun x =>by kernel_rfl
noncomputable def auW (b : Int) (t : Int) : Option ((Int × Unit) × (Unit)) :=
 some ((wi (wu (b - t)),()),())
noncomputable abbrev amJ : Con SR1 := ⟨217,[.sh sU_,.sh sU_],[.sh sI_],fun x =>auW x.1 x.2.1⟩
theorem alr : CO Tryz.prog amJ := aal aak Tryz.func217 [] trivial [] trivial (fun _ =>[]) [] fun x =>by kernel_rfl
noncomputable def au0 (q : QV) (i : Int) : Option ((Int × Unit) × (Unit)) :=
 if q.cap < 1 then
 some (((-1),()),())
 else
 if (wu (q.cap)) ≠ 0 then
 some ((wi (q.ring + (wi ((Int.tmod i (wu (q.cap)))))),()),())
 else none
noncomputable abbrev arH : Con SR1 := ⟨218,[.val 14,.sh sU_],[.sh sI_],fun x =>au0 x.1 x.2.1⟩
theorem arG : CO Tryz.prog arH := aal aak Tryz.func218 [] trivial [] trivial (fun _ =>[]) [] fun x =>by kernel_rfl
noncomputable def pAt (i : Int) (n : Int) (a : Int) (w : Int) : Option ((Int × Unit) × (Unit)) :=
 if i < 0 then
 some (((-1),()),())
 else
 if n ≤ i then
 some (((-1),()),())
 else
 some ((wi (a + (wi (i * w))),()),())
noncomputable abbrev au1 : Con SR1 := ⟨91,[.sh sI_,.sh sI_,.sh sI_,.sh sI_],[.sh sI_],fun x =>pAt x.1 x.2.1 x.2.2.1 x.2.2.2.1⟩
theorem aqI : CO Tryz.prog au1 := aal aak Tryz.func91 [] trivial [] trivial (fun _ =>[]) [] fun x =>by kernel_rfl
noncomputable def atC (l : LayV) (t : Int) (f : Int) : Option ((Int × Unit) × (Unit)) :=
 (pAt t l.tasks (wi (l.table + f)) 5).bind fun r1 =>
 some ((r1.1.1,()),())
noncomputable abbrev amI : Con SR1 := ⟨79,[.val 24,.sh sI_,.sh sI_],[.sh sI_],fun x =>atC x.1 x.2.1 x.2.2.1⟩
theorem alp : CO Tryz.prog amI := aal aak Tryz.func79 [au1] ⟨aqI,trivial⟩ [] trivial (fun _ =>[]) [] fun x =>by kernel_rfl
noncomputable def aBx (l : LayV) : Option ((Int × Unit) × (Unit)) :=
 some ((0,()),())
noncomputable abbrev amK : Con SR1 := ⟨57,[.val 24],[.sh sI_],fun x =>aBx x.1⟩
theorem als : CO Tryz.prog amK := aal aak Tryz.func57 [] trivial [] trivial (fun _ =>[]) [] fun x =>by kernel_rfl
noncomputable def adT (l : LayV) (t : Int) : Option ((Int × Unit) × (Unit)) :=
 (atC l t 0).bind fun r1 =>
 some ((r1.1.1,()),())
noncomputable abbrev ad9 : Con SR1 := ⟨58,[.val 24,.sh sI_],[.sh sI_],fun x =>adT x.1 x.2.1⟩
theorem adD : CO Tryz.prog ad9 := aal aak Tryz.func58 [amI] ⟨alp,trivial⟩ [] trivial (fun _ =>[]) [] fun x =>by kernel_rfl
noncomputable def afc (l : LayV) (t : Int) : Option ((Int × Unit) × (Unit)) :=
 (atC l t 1).bind fun r1 =>
 some ((r1.1.1,()),())
noncomputable abbrev agt : Con SR1 := ⟨127,[.val 24,.sh sI_],[.sh sI_],fun x =>afc x.1 x.2.1⟩
theorem afS : CO Tryz.prog agt := aal aak Tryz.func127 [amI] ⟨alp,trivial⟩ [] trivial (fun _ =>[]) [] fun x =>by kernel_rfl
noncomputable def aiy (l : LayV) (t : Int) : Option ((Int × Unit) × (Unit)) :=
 (atC l t 4).bind fun r1 =>
 some ((r1.1.1,()),())
noncomputable abbrev ajP : Con SR1 := ⟨128,[.val 24,.sh sI_],[.sh sI_],fun x =>aiy x.1 x.2.1⟩
theorem ai7 : CO Tryz.prog ajP := aal aak Tryz.func128 [amI] ⟨alp,trivial⟩ [] trivial (fun _ =>[]) [] fun x =>by kernel_rfl
noncomputable def ai6 (l : LayV) (t : Int) : Option ((Int × Unit) × (Unit)) :=
 (atC l t 3).bind fun r1 =>
 some ((r1.1.1,()),())
noncomputable abbrev aoe : Con SR1 := ⟨231,[.val 24,.sh sI_],[.sh sI_],fun x =>ai6 x.1 x.2.1⟩
theorem apa : CO Tryz.prog aoe := aal aak Tryz.func231 [amI] ⟨alp,trivial⟩ [] trivial (fun _ =>[]) [] fun x =>by kernel_rfl
noncomputable def anU (l : LayV) (t : Int) : Option ((Int × Unit) × (Unit)) :=
 (atC l t 2).bind fun r1 =>
 some ((r1.1.1,()),())
noncomputable abbrev auY : Con SR1 := ⟨236,[.val 24,.sh sI_],[.sh sI_],fun x =>anU x.1 x.2.1⟩
theorem awi : CO Tryz.prog auY := aal aak Tryz.func236 [amI] ⟨alp,trivial⟩ [] trivial (fun _ =>[]) [] fun x =>by kernel_rfl
noncomputable def ay1 (l : LayV) : Option ((Int × Unit) × (Unit)) :=
 some ((1,()),())
noncomputable abbrev auX : Con SR1 := ⟨178,[.val 24],[.sh sI_],fun x =>ay1 x.1⟩
theorem awh : CO Tryz.prog auX := aal aak Tryz.func178 [] trivial [] trivial (fun _ =>[]) [] fun x =>by kernel_rfl
noncomputable def agl (l : LayV) : Option ((Int × Unit) × (Unit)) :=
 some ((2,()),())
noncomputable abbrev ajR : Con SR1 := ⟨124,[.val 24],[.sh sI_],fun x =>agl x.1⟩
theorem ajb : CO Tryz.prog ajR := aal aak Tryz.func124 [] trivial [] trivial (fun _ =>[]) [] fun x =>by kernel_rfl
noncomputable def anT (l : LayV) (i : Int) : Option ((Int × Unit) × (Unit)) :=
 (pAt i l.heap 4 1).bind fun r1 =>
 some ((r1.1.1,()),())
noncomputable abbrev arC : Con SR1 := ⟨189,[.val 24,.sh sI_],[.sh sI_],fun x =>anT x.1 x.2.1⟩
theorem arB : CO Tryz.prog arC := aal aak Tryz.func189 [au1] ⟨aqI,trivial⟩ [] trivial (fun _ =>[]) [] fun x =>by kernel_rfl
noncomputable def aqH (l : LayV) (w : Int) : Option ((Int × Unit) × (Unit)) :=
 (pAt w l.workers l.epochs 1).bind fun r1 =>
 some ((r1.1.1,()),())
noncomputable abbrev aog : Con SR1 := ⟨163,[.val 24,.sh sI_],[.sh sI_],fun x =>aqH x.1 x.2.1⟩
theorem apb : CO Tryz.prog aog := aal aak Tryz.func163 [au1] ⟨aqI,trivial⟩ [] trivial (fun _ =>[]) [] fun x =>by kernel_rfl
noncomputable def agP (l : LayV) (l0 : Int) : Option ((Int × Unit) × (Unit)) :=
 (pAt l0 l.classes l.sleepers 1).bind fun r1 =>
 some ((r1.1.1,()),())
noncomputable abbrev akD : Con SR1 := ⟨172,[.val 24,.sh sI_],[.sh sI_],fun x =>agP x.1 x.2.1⟩
theorem anq : CO Tryz.prog akD := aal aak Tryz.func172 [au1] ⟨aqI,trivial⟩ [] trivial (fun _ =>[]) [] fun x =>by kernel_rfl
noncomputable def ahk (l : LayV) (w : Int) : Option ((Int × Unit) × (Unit)) :=
 (pAt w l.workers l.bitmaps 1).bind fun r1 =>
 some ((r1.1.1,()),())
noncomputable abbrev agR : Con SR1 := ⟨154,[.val 24,.sh sI_],[.sh sI_],fun x =>ahk x.1 x.2.1⟩
theorem agD : CO Tryz.prog agR := aal aak Tryz.func154 [au1] ⟨aqI,trivial⟩ [] trivial (fun _ =>[]) [] fun x =>by kernel_rfl
noncomputable def agQ (l : LayV) (w : Int) (v : Int) : Option ((QV × Unit) × (Unit)) :=
 (pAt w l.workers l.queues (wi (l.levels * (wi (2 + l.deque))))).bind fun r1 =>
 (pAt v l.levels r1.1.1 (wi (2 + l.deque))).bind fun r2 =>
 if r1.1.1 < 0 then
 some (((⟨(-1),(-1),(-1),0⟩ : QV),()),())
 else
 if r2.1.1 < 0 then
 some (((⟨(-1),(-1),(-1),0⟩ : QV),()),())
 else
 some (((⟨r2.1.1,wi (r2.1.1 + 1),wi (r2.1.1 + 2),l.deque⟩ : QV),()),())
noncomputable abbrev ajQ : Con SR1 := ⟨152,[.val 24,.sh sI_,.sh sI_],[.val 14],fun x =>agQ x.1 x.2.1 x.2.2.1⟩
theorem ai9 : CO Tryz.prog ajQ := aal aak Tryz.func152 [au1] ⟨aqI,trivial⟩ [] trivial (fun _ =>[]) [] fun x =>by kernel_rfl
noncomputable def arK (l : LayV) : Option ((Int × Unit) × (Unit)) :=
 some ((3,()),())
noncomputable abbrev aqK : Con SR1 := ⟨112,[.val 24],[.sh sI_],fun x =>arK x.1⟩
theorem au2 : CO Tryz.prog aqK := aal aak Tryz.func112 [] trivial [] trivial (fun _ =>[]) [] fun x =>by kernel_rfl
noncomputable def awn (l : LayV) : Option ((Int × Unit) × (Unit)) :=
 some ((wi (l.table + (wi (5 * l.tasks))),()),())
noncomputable abbrev awm : Con SR1 := ⟨82,[.val 24],[.sh sI_],fun x =>awn x.1⟩
theorem ay4 : CO Tryz.prog awm := aal aak Tryz.func82 [] trivial [] trivial (fun _ =>[]) [] fun x =>by kernel_rfl
noncomputable def aef (e : EnvP) (v : Ev) : Option ((Unit) × (EnvP × Unit)) :=
 if (((e.evs.length + ([v] : List Ev).length : Nat)) : Int) < 1000000000000 then
 some ((()),(({ e with evs := e.evs ++ ([v]) } : EnvP),()))
 else none
noncomputable abbrev afu : Con SR1 := ⟨131,[.ref 27,.val 2],[],fun x =>aef x.1 x.2.1⟩
theorem aew : CO Tryz.prog afu := aal aak Tryz.func131 [] trivial [] trivial (fun _ =>[]) [] fun x =>by kernel_rfl
noncomputable def aBv (d : Int) (a : Int) (t : Int) : Option ((Int × Bool × Unit) × (Unit)) :=
 if d < 0 then
 some ((0,false,()),())
 else
 if 16777215 < d then
 some ((0,false,()),())
 else
 if a < 0 then
 some ((0,false,()),())
 else
 if 16777215 < a then
 some ((0,false,()),())
 else
 if t < 0 then
 some ((0,false,()),())
 else
 if 65535 < t then
 some ((0,false,()),())
 else
 some ((orU (orU (wu ((wu (d)) * 2 ^ min (40 : Int).toNat IntKind.u64.bits)) (wu ((wu (a)) * 2 ^ min (16 : Int).toNat IntKind.u64.bits))) (wu (t)),true,()),())
noncomputable abbrev ayY : Con SR1 := ⟨187,[.sh sI_,.sh sI_,.sh sI_],[.sh sU_,.sh .b],fun x =>aBv x.1 x.2.1 x.2.2.1⟩
theorem aBt : CO Tryz.prog ayY := aal aak Tryz.func187 [] trivial [] trivial (fun _ =>[]) [] fun x =>by kernel_rfl
noncomputable def atG (l : Int) (n : Int) (c : Int) : Option ((Int × Unit) × (Unit)) :=
 if n < 1 then
 some ((0,()),())
 else
 if 64 < n then
 some ((0,()),())
 else
 if c < 1 then
 some ((0,()),())
 else
 if 8 < c then
 some ((0,()),())
 else
 if l < 0 then
 some ((0,()),())
 else
 if n ≤ l then
 some ((0,()),())
 else
 if n ≠ 0 then
 some ((wi (Int.tdiv (wi (l * c)) n),()),())
 else none
noncomputable abbrev awl : Con SR1 := ⟨196,[.sh sI_,.sh sI_,.sh sI_],[.sh sI_],fun x =>atG x.1 x.2.1 x.2.2.1⟩
theorem ay3 : CO Tryz.prog awl := aal aak Tryz.func196 [] trivial [] trivial (fun _ =>[]) [] fun x =>by kernel_rfl
noncomputable def auV (k : Int) : Option ((Int × Int × Int × Unit) × (Unit)) :=
 some ((wi (Int.fdiv k (2 ^ min (40 : Int).toNat IntKind.u64.bits)),wi (aos (Int.fdiv k (2 ^ min (16 : Int).toNat IntKind.u64.bits)) 16777215),wi (aos k 65535),()),())
noncomputable abbrev atB : Con SR1 := ⟨264,[.sh sU_],[.sh sI_,.sh sI_,.sh sI_],fun x =>auV x.1⟩
theorem axv : CO Tryz.prog atB := aal aak Tryz.func264 [] trivial [] trivial (fun _ =>[]) [] fun x =>by kernel_rfl
noncomputable def ag0 (x : Int) : Option ((Int × Unit) × (Unit)) :=
 if 4294967296 ≤ x then
 if 65536 ≤ (Int.fdiv x (2 ^ min (32 : Int).toNat IntKind.u64.bits)) then
 if 256 ≤ (Int.fdiv (Int.fdiv x (2 ^ min (32 : Int).toNat IntKind.u64.bits)) (2 ^ min (16 : Int).toNat IntKind.u64.bits)) then
 if 0 ≤ IntKind.u8.wrap (Int.fdiv (Int.fdiv (Int.fdiv x (2 ^ min (32 : Int).toNat IntKind.u64.bits)) (2 ^ min (16 : Int).toNat IntKind.u64.bits)) (2 ^ min (8 : Int).toNat IntKind.u64.bits)) ∧ IntKind.u8.wrap (Int.fdiv (Int.fdiv (Int.fdiv x (2 ^ min (32 : Int).toNat IntKind.u64.bits)) (2 ^ min (16 : Int).toNat IntKind.u64.bits)) (2 ^ min (8 : Int).toNat IntKind.u64.bits)) < ((aiU.size : Nat) : Int) then
 some ((wi ((wi (56 + (wi ((((aiU[(IntKind.u8.wrap (Int.fdiv (Int.fdiv (Int.fdiv x (2 ^ min (32 : Int).toNat IntKind.u64.bits)) (2 ^ min (16 : Int).toNat IntKind.u64.bits)) (2 ^ min (8 : Int).toNat IntKind.u64.bits))).toNat]?).map fun b =>((b.toNat : Nat) : Int)).getD 0))))) - 1),()),())
 else none
 else
 if 0 ≤ IntKind.u8.wrap (Int.fdiv (Int.fdiv x (2 ^ min (32 : Int).toNat IntKind.u64.bits)) (2 ^ min (16 : Int).toNat IntKind.u64.bits)) ∧ IntKind.u8.wrap (Int.fdiv (Int.fdiv x (2 ^ min (32 : Int).toNat IntKind.u64.bits)) (2 ^ min (16 : Int).toNat IntKind.u64.bits)) < ((aiU.size : Nat) : Int) then
 some ((wi ((wi (48 + (wi ((((aiU[(IntKind.u8.wrap (Int.fdiv (Int.fdiv x (2 ^ min (32 : Int).toNat IntKind.u64.bits)) (2 ^ min (16 : Int).toNat IntKind.u64.bits))).toNat]?).map fun b =>((b.toNat : Nat) : Int)).getD 0))))) - 1),()),())
 else none
 else
 if 256 ≤ (Int.fdiv x (2 ^ min (32 : Int).toNat IntKind.u64.bits)) then
 if 0 ≤ IntKind.u8.wrap (Int.fdiv (Int.fdiv x (2 ^ min (32 : Int).toNat IntKind.u64.bits)) (2 ^ min (8 : Int).toNat IntKind.u64.bits)) ∧ IntKind.u8.wrap (Int.fdiv (Int.fdiv x (2 ^ min (32 : Int).toNat IntKind.u64.bits)) (2 ^ min (8 : Int).toNat IntKind.u64.bits)) < ((aiU.size : Nat) : Int) then
 some ((wi ((wi (40 + (wi ((((aiU[(IntKind.u8.wrap (Int.fdiv (Int.fdiv x (2 ^ min (32 : Int).toNat IntKind.u64.bits)) (2 ^ min (8 : Int).toNat IntKind.u64.bits))).toNat]?).map fun b =>((b.toNat : Nat) : Int)).getD 0))))) - 1),()),())
 else none
 else
 if 0 ≤ IntKind.u8.wrap (Int.fdiv x (2 ^ min (32 : Int).toNat IntKind.u64.bits)) ∧ IntKind.u8.wrap (Int.fdiv x (2 ^ min (32 : Int).toNat IntKind.u64.bits)) < ((aiU.size : Nat) : Int) then
 some ((wi ((wi (32 + (wi ((((aiU[(IntKind.u8.wrap (Int.fdiv x (2 ^ min (32 : Int).toNat IntKind.u64.bits))).toNat]?).map fun b =>((b.toNat : Nat) : Int)).getD 0))))) - 1),()),())
 else none
 else
 if 65536 ≤ x then
 if 256 ≤ (Int.fdiv x (2 ^ min (16 : Int).toNat IntKind.u64.bits)) then
 if 0 ≤ IntKind.u8.wrap (Int.fdiv (Int.fdiv x (2 ^ min (16 : Int).toNat IntKind.u64.bits)) (2 ^ min (8 : Int).toNat IntKind.u64.bits)) ∧ IntKind.u8.wrap (Int.fdiv (Int.fdiv x (2 ^ min (16 : Int).toNat IntKind.u64.bits)) (2 ^ min (8 : Int).toNat IntKind.u64.bits)) < ((aiU.size : Nat) : Int) then
 some ((wi ((wi (24 + (wi ((((aiU[(IntKind.u8.wrap (Int.fdiv (Int.fdiv x (2 ^ min (16 : Int).toNat IntKind.u64.bits)) (2 ^ min (8 : Int).toNat IntKind.u64.bits))).toNat]?).map fun b =>((b.toNat : Nat) : Int)).getD 0))))) - 1),()),())
 else none
 else
 if 0 ≤ IntKind.u8.wrap (Int.fdiv x (2 ^ min (16 : Int).toNat IntKind.u64.bits)) ∧ IntKind.u8.wrap (Int.fdiv x (2 ^ min (16 : Int).toNat IntKind.u64.bits)) < ((aiU.size : Nat) : Int) then
 some ((wi ((wi (16 + (wi ((((aiU[(IntKind.u8.wrap (Int.fdiv x (2 ^ min (16 : Int).toNat IntKind.u64.bits))).toNat]?).map fun b =>((b.toNat : Nat) : Int)).getD 0))))) - 1),()),())
 else none
 else
 if 256 ≤ x then
 if 0 ≤ IntKind.u8.wrap (Int.fdiv x (2 ^ min (8 : Int).toNat IntKind.u64.bits)) ∧ IntKind.u8.wrap (Int.fdiv x (2 ^ min (8 : Int).toNat IntKind.u64.bits)) < ((aiU.size : Nat) : Int) then
 some ((wi ((wi (8 + (wi ((((aiU[(IntKind.u8.wrap (Int.fdiv x (2 ^ min (8 : Int).toNat IntKind.u64.bits))).toNat]?).map fun b =>((b.toNat : Nat) : Int)).getD 0))))) - 1),()),())
 else none
 else
 if 0 ≤ IntKind.u8.wrap (x) ∧ IntKind.u8.wrap (x) < ((aiU.size : Nat) : Int) then
 some ((wi ((wi (0 + (wi ((((aiU[(IntKind.u8.wrap (x)).toNat]?).map fun b =>((b.toNat : Nat) : Int)).getD 0))))) - 1),()),())
 else none
noncomputable abbrev auZ : Con SR1 := ⟨244,[.sh sU_],[.sh sI_],fun x =>ag0 x.1⟩
noncomputable def aBz : List (Nat × Func) := [(246,Tryz.f246)]
theorem awj : CO Tryz.prog auZ := aal aak Tryz.func244 [] trivial aBz ⟨Tryz.func246,trivial⟩ (fun _ =>[]) [] fun x =>by kernel_rfl
noncomputable def ael (y0 : ProbeV) (y1 : Int) : Option ((Bool × Unit) × (ProbeV × Unit)) :=
 ((
 if y0.next < y1 then
 if y1 ≠ 0 then
 some (decide ((Int.tmod (wi (y0.start + y0.next)) y1) = y0.worker),())
 else none
 else
 some (false,())
 ) : Option (Bool × Unit)).bind fun z1 =>
 if z1.1 = true then
 some ((decide (y1 ≤ (wi (y0.next + 1))),()),(({ y0 with next := wi (y0.next + 1) } : ProbeV),()))
 else
 some ((decide (y1 ≤ y0.next),()),(y0,()))
noncomputable abbrev aix : Con SR1 := ⟨252,[.ref 46,.sh sI_],[.sh .b],fun x =>ael x.1 x.2.1⟩
theorem amC : CO Tryz.prog aix := aal aak Tryz.func252 [] trivial [] trivial (fun _ =>[]) [(2,.cut [.rg 28 .b] [0])] fun x =>by kernel_rfl
noncomputable def abj (y0 : ProbeV) (y1 : EnvP) : Option ((Bool × Unit) × (ProbeV × EnvP × Unit)) :=
 (aax y0.o).bind fun r1 =>
 if r1.1.1 = true then
 some ((true,()),(({ y0 with o := r1.2.1 } : ProbeV),y1,()))
 else
 ((
 if (!y0.begun) = true then
 (aBC y1.k (if 16 < y1.c.workers then 16 else y1.c.workers)).bind fun r2 =>
 some (({ y0 with o := r1.2.1,begun := true,start := r2.1.1 } : ProbeV),({ y1 with k := r2.2.1 } : EnvP),())
 else
 some (({ y0 with o := r1.2.1 } : ProbeV),y1,())
 ) : Option (ProbeV × EnvP × Unit)).bind fun z3 =>
 (ael z3.1 (if 16 < y1.c.workers then 16 else y1.c.workers)).bind fun r4 =>
 if r4.1.1 = true then
 (abe r4.2.1.o 2 0).bind fun r5 =>
 some ((r5.1.1,()),(({ r4.2.1 with o := r5.2.1 } : ProbeV),z3.2.1,()))
 else
 if (if 16 < y1.c.workers then 16 else y1.c.workers) ≠ 0 then
 ((
 (ahk z3.2.1.l (Int.tmod (wi (r4.2.1.start + r4.2.1.next)) (if 16 < y1.c.workers then 16 else y1.c.workers))).bind fun r6 =>
 (acA z3.2.1.m r6.1.1).bind fun r7 =>
 if (Int.tmod (wi (r4.2.1.start + r4.2.1.next)) (if 16 < y1.c.workers then 16 else y1.c.workers)) = ((15 : Nat) : Int) then
 some (({ r4.2.1 with bm := { r4.2.1.bm with b15 := r7.1.1 } } : ProbeV),({ z3.2.1 with m := r7.2.1 } : EnvP),())
 else
 if (Int.tmod (wi (r4.2.1.start + r4.2.1.next)) (if 16 < y1.c.workers then 16 else y1.c.workers)) = ((14 : Nat) : Int) then
 some (({ r4.2.1 with bm := { r4.2.1.bm with b14 := r7.1.1 } } : ProbeV),({ z3.2.1 with m := r7.2.1 } : EnvP),())
 else
 if (Int.tmod (wi (r4.2.1.start + r4.2.1.next)) (if 16 < y1.c.workers then 16 else y1.c.workers)) = ((13 : Nat) : Int) then
 some (({ r4.2.1 with bm := { r4.2.1.bm with b13 := r7.1.1 } } : ProbeV),({ z3.2.1 with m := r7.2.1 } : EnvP),())
 else
 if (Int.tmod (wi (r4.2.1.start + r4.2.1.next)) (if 16 < y1.c.workers then 16 else y1.c.workers)) = ((12 : Nat) : Int) then
 some (({ r4.2.1 with bm := { r4.2.1.bm with b12 := r7.1.1 } } : ProbeV),({ z3.2.1 with m := r7.2.1 } : EnvP),())
 else
 if (Int.tmod (wi (r4.2.1.start + r4.2.1.next)) (if 16 < y1.c.workers then 16 else y1.c.workers)) = ((11 : Nat) : Int) then
 some (({ r4.2.1 with bm := { r4.2.1.bm with b11 := r7.1.1 } } : ProbeV),({ z3.2.1 with m := r7.2.1 } : EnvP),())
 else
 if (Int.tmod (wi (r4.2.1.start + r4.2.1.next)) (if 16 < y1.c.workers then 16 else y1.c.workers)) = ((10 : Nat) : Int) then
 some (({ r4.2.1 with bm := { r4.2.1.bm with b10 := r7.1.1 } } : ProbeV),({ z3.2.1 with m := r7.2.1 } : EnvP),())
 else
 if (Int.tmod (wi (r4.2.1.start + r4.2.1.next)) (if 16 < y1.c.workers then 16 else y1.c.workers)) = ((9 : Nat) : Int) then
 some (({ r4.2.1 with bm := { r4.2.1.bm with b9 := r7.1.1 } } : ProbeV),({ z3.2.1 with m := r7.2.1 } : EnvP),())
 else
 if (Int.tmod (wi (r4.2.1.start + r4.2.1.next)) (if 16 < y1.c.workers then 16 else y1.c.workers)) = ((8 : Nat) : Int) then
 some (({ r4.2.1 with bm := { r4.2.1.bm with b8 := r7.1.1 } } : ProbeV),({ z3.2.1 with m := r7.2.1 } : EnvP),())
 else
 if (Int.tmod (wi (r4.2.1.start + r4.2.1.next)) (if 16 < y1.c.workers then 16 else y1.c.workers)) = ((7 : Nat) : Int) then
 some (({ r4.2.1 with bm := { r4.2.1.bm with b7 := r7.1.1 } } : ProbeV),({ z3.2.1 with m := r7.2.1 } : EnvP),())
 else
 if (Int.tmod (wi (r4.2.1.start + r4.2.1.next)) (if 16 < y1.c.workers then 16 else y1.c.workers)) = ((6 : Nat) : Int) then
 some (({ r4.2.1 with bm := { r4.2.1.bm with b6 := r7.1.1 } } : ProbeV),({ z3.2.1 with m := r7.2.1 } : EnvP),())
 else
 if (Int.tmod (wi (r4.2.1.start + r4.2.1.next)) (if 16 < y1.c.workers then 16 else y1.c.workers)) = ((5 : Nat) : Int) then
 some (({ r4.2.1 with bm := { r4.2.1.bm with b5 := r7.1.1 } } : ProbeV),({ z3.2.1 with m := r7.2.1 } : EnvP),())
 else
 if (Int.tmod (wi (r4.2.1.start + r4.2.1.next)) (if 16 < y1.c.workers then 16 else y1.c.workers)) = ((4 : Nat) : Int) then
 some (({ r4.2.1 with bm := { r4.2.1.bm with b4 := r7.1.1 } } : ProbeV),({ z3.2.1 with m := r7.2.1 } : EnvP),())
 else
 if (Int.tmod (wi (r4.2.1.start + r4.2.1.next)) (if 16 < y1.c.workers then 16 else y1.c.workers)) = ((3 : Nat) : Int) then
 some (({ r4.2.1 with bm := { r4.2.1.bm with b3 := r7.1.1 } } : ProbeV),({ z3.2.1 with m := r7.2.1 } : EnvP),())
 else
 if (Int.tmod (wi (r4.2.1.start + r4.2.1.next)) (if 16 < y1.c.workers then 16 else y1.c.workers)) = ((2 : Nat) : Int) then
 some (({ r4.2.1 with bm := { r4.2.1.bm with b2 := r7.1.1 } } : ProbeV),({ z3.2.1 with m := r7.2.1 } : EnvP),())
 else
 if (Int.tmod (wi (r4.2.1.start + r4.2.1.next)) (if 16 < y1.c.workers then 16 else y1.c.workers)) = ((1 : Nat) : Int) then
 some (({ r4.2.1 with bm := { r4.2.1.bm with b1 := r7.1.1 } } : ProbeV),({ z3.2.1 with m := r7.2.1 } : EnvP),())
 else
 if (Int.tmod (wi (r4.2.1.start + r4.2.1.next)) (if 16 < y1.c.workers then 16 else y1.c.workers)) = ((0 : Nat) : Int) then
 some (({ r4.2.1 with bm := { r4.2.1.bm with b0 := r7.1.1 } } : ProbeV),({ z3.2.1 with m := r7.2.1 } : EnvP),())
 else
 none
 ) : Option (ProbeV × EnvP × Unit)).bind fun z8 =>
 (ael ({ z8.1 with next := wi (z8.1.next + 1) } : ProbeV) (if 16 < y1.c.workers then 16 else y1.c.workers)).bind fun r9 =>
 if (!r9.1.1) = true then
 some ((false,()),(r9.2.1,z8.2.1,()))
 else
 if 0 ≤ (if 16 < y1.c.workers then 16 else y1.c.workers) ∧ (if 16 < y1.c.workers then 16 else y1.c.workers) ≤ ((16 : Nat) : Int) then
 (lpF (σ := Int × Int × Int × ProbeV × Unit) (β := Int × Int × Int × ProbeV × Unit) (fun self12 x10 =>
 if x10.2.2.1 < ((((if 16 < y1.c.workers then 16 else y1.c.workers)).toNat : Nat) : Int) then
 (aAB r9.2.1.start ((((if 16 < y1.c.workers then 16 else y1.c.workers)).toNat : Nat) : Int)).bind fun r13 =>
 if ((((if 16 < y1.c.workers then 16 else y1.c.workers)).toNat : Nat) : Int) ≠ 0 then
 ((
 if (Int.tmod (wi (r13.1.1 + x10.2.2.1)) ((((if 16 < y1.c.workers then 16 else y1.c.workers)).toNat : Nat) : Int)) < (if 16 < y1.c.workers then 16 else y1.c.workers) then
 if (Int.tmod (wi (r13.1.1 + x10.2.2.1)) ((((if 16 < y1.c.workers then 16 else y1.c.workers)).toNat : Nat) : Int)) = ((15 : Nat) : Int) then
 (ag0 x10.2.2.2.1.bm.b15).bind fun r14 =>
 some (r14.1.1,x10.2.2.2.1,())
 else
 if (Int.tmod (wi (r13.1.1 + x10.2.2.1)) ((((if 16 < y1.c.workers then 16 else y1.c.workers)).toNat : Nat) : Int)) = ((14 : Nat) : Int) then
 (ag0 x10.2.2.2.1.bm.b14).bind fun r15 =>
 some (r15.1.1,x10.2.2.2.1,())
 else
 if (Int.tmod (wi (r13.1.1 + x10.2.2.1)) ((((if 16 < y1.c.workers then 16 else y1.c.workers)).toNat : Nat) : Int)) = ((13 : Nat) : Int) then
 (ag0 x10.2.2.2.1.bm.b13).bind fun r16 =>
 some (r16.1.1,x10.2.2.2.1,())
 else
 if (Int.tmod (wi (r13.1.1 + x10.2.2.1)) ((((if 16 < y1.c.workers then 16 else y1.c.workers)).toNat : Nat) : Int)) = ((12 : Nat) : Int) then
 (ag0 x10.2.2.2.1.bm.b12).bind fun r17 =>
 some (r17.1.1,x10.2.2.2.1,())
 else
 if (Int.tmod (wi (r13.1.1 + x10.2.2.1)) ((((if 16 < y1.c.workers then 16 else y1.c.workers)).toNat : Nat) : Int)) = ((11 : Nat) : Int) then
 (ag0 x10.2.2.2.1.bm.b11).bind fun r18 =>
 some (r18.1.1,x10.2.2.2.1,())
 else
 if (Int.tmod (wi (r13.1.1 + x10.2.2.1)) ((((if 16 < y1.c.workers then 16 else y1.c.workers)).toNat : Nat) : Int)) = ((10 : Nat) : Int) then
 (ag0 x10.2.2.2.1.bm.b10).bind fun r19 =>
 some (r19.1.1,x10.2.2.2.1,())
 else
 if (Int.tmod (wi (r13.1.1 + x10.2.2.1)) ((((if 16 < y1.c.workers then 16 else y1.c.workers)).toNat : Nat) : Int)) = ((9 : Nat) : Int) then
 (ag0 x10.2.2.2.1.bm.b9).bind fun r20 =>
 some (r20.1.1,x10.2.2.2.1,())
 else
 if (Int.tmod (wi (r13.1.1 + x10.2.2.1)) ((((if 16 < y1.c.workers then 16 else y1.c.workers)).toNat : Nat) : Int)) = ((8 : Nat) : Int) then
 (ag0 x10.2.2.2.1.bm.b8).bind fun r21 =>
 some (r21.1.1,x10.2.2.2.1,())
 else
 if (Int.tmod (wi (r13.1.1 + x10.2.2.1)) ((((if 16 < y1.c.workers then 16 else y1.c.workers)).toNat : Nat) : Int)) = ((7 : Nat) : Int) then
 (ag0 x10.2.2.2.1.bm.b7).bind fun r22 =>
 some (r22.1.1,x10.2.2.2.1,())
 else
 if (Int.tmod (wi (r13.1.1 + x10.2.2.1)) ((((if 16 < y1.c.workers then 16 else y1.c.workers)).toNat : Nat) : Int)) = ((6 : Nat) : Int) then
 (ag0 x10.2.2.2.1.bm.b6).bind fun r23 =>
 some (r23.1.1,x10.2.2.2.1,())
 else
 if (Int.tmod (wi (r13.1.1 + x10.2.2.1)) ((((if 16 < y1.c.workers then 16 else y1.c.workers)).toNat : Nat) : Int)) = ((5 : Nat) : Int) then
 (ag0 x10.2.2.2.1.bm.b5).bind fun r24 =>
 some (r24.1.1,x10.2.2.2.1,())
 else
 if (Int.tmod (wi (r13.1.1 + x10.2.2.1)) ((((if 16 < y1.c.workers then 16 else y1.c.workers)).toNat : Nat) : Int)) = ((4 : Nat) : Int) then
 (ag0 x10.2.2.2.1.bm.b4).bind fun r25 =>
 some (r25.1.1,x10.2.2.2.1,())
 else
 if (Int.tmod (wi (r13.1.1 + x10.2.2.1)) ((((if 16 < y1.c.workers then 16 else y1.c.workers)).toNat : Nat) : Int)) = ((3 : Nat) : Int) then
 (ag0 x10.2.2.2.1.bm.b3).bind fun r26 =>
 some (r26.1.1,x10.2.2.2.1,())
 else
 if (Int.tmod (wi (r13.1.1 + x10.2.2.1)) ((((if 16 < y1.c.workers then 16 else y1.c.workers)).toNat : Nat) : Int)) = ((2 : Nat) : Int) then
 (ag0 x10.2.2.2.1.bm.b2).bind fun r27 =>
 some (r27.1.1,x10.2.2.2.1,())
 else
 if (Int.tmod (wi (r13.1.1 + x10.2.2.1)) ((((if 16 < y1.c.workers then 16 else y1.c.workers)).toNat : Nat) : Int)) = ((1 : Nat) : Int) then
 (ag0 x10.2.2.2.1.bm.b1).bind fun r28 =>
 some (r28.1.1,x10.2.2.2.1,())
 else
 if (Int.tmod (wi (r13.1.1 + x10.2.2.1)) ((((if 16 < y1.c.workers then 16 else y1.c.workers)).toNat : Nat) : Int)) = ((0 : Nat) : Int) then
 (ag0 x10.2.2.2.1.bm.b0).bind fun r29 =>
 some (r29.1.1,x10.2.2.2.1,())
 else
 none
 else none
 ) : Option (Int × ProbeV × Unit)).bind fun z30 =>
 if (Int.tmod (wi (r13.1.1 + x10.2.2.1)) ((((if 16 < y1.c.workers then 16 else y1.c.workers)).toNat : Nat) : Int)) ≠ r9.2.1.worker then
 if x10.2.1 < z30.1 then
 self12 ((Int.tmod (wi (r13.1.1 + x10.2.2.1)) ((((if 16 < y1.c.workers then 16 else y1.c.workers)).toNat : Nat) : Int)),z30.1,wi (x10.2.2.1 + 1),z30.2.1,())
 else
 self12 (x10.1,x10.2.1,wi (x10.2.2.1 + 1),z30.2.1,())
 else
 self12 (x10.1,x10.2.1,wi (x10.2.2.1 + 1),z30.2.1,())
 else none
 else
 some (x10.1,x10.2.1,x10.2.2.1,x10.2.2.2.1,())
 ) 18446744073709551616 ((-1),(-1),0,r9.2.1,())).bind fun z11 =>
 if z11.1 < 0 then
 (abe z11.2.2.2.1.o 2 0).bind fun r31 =>
 some ((r31.1.1,()),(({ z11.2.2.2.1 with o := r31.2.1 } : ProbeV),z8.2.1,()))
 else
 (abe z11.2.2.2.1.o 1 (wi ((wi (z11.1 * 64)) + z11.2.1))).bind fun r32 =>
 some ((r32.1.1,()),(({ z11.2.2.2.1 with o := r32.2.1 } : ProbeV),z8.2.1,()))
 else none
 else none
noncomputable abbrev anO : Con SR1 := ⟨250,[.ref 46,.ref 27],[.sh .b],fun x =>abj x.1 x.2.1⟩
noncomputable def amA : List (Nat × Func) := [(253,Tryz.f253)]
theorem amB : CO Tryz.prog anO := aal aak Tryz.func250 [abn,ay2,aix,acD,agR,acC,atD,auZ] ⟨aa7,aBA,amC,abB,agD,abR,arE,awj,trivial⟩ amA ⟨Tryz.func253,trivial⟩ (fun f =>(get [(253,[(4,.loop [.rg 6 sI_,.rg 7 sI_,.rg 15 sI_,.ob 0 46] 18446744073709551616 0),(8,.cut [.rg 11 sI_,.ob 0 46] [])])] f).getD []) [(6,.cut [.ob 0 46,.ob 1 27] []),(10,.cut [.ob 0 46,.ob 1 27] [])] fun x =>by kernel_rfl
noncomputable def afq (y0 : EnvP) (y1 : Int) : Option ((Bool × Unit) × (EnvP × Unit)) :=
 if 0 ≤ y1 then
 some ((decide (y1 < y0.c.tasks),()),(y0,()))
 else
 some ((false,()),(y0,()))
noncomputable abbrev ago : Con SR1 := ⟨183,[.ref 27,.sh sI_],[.sh .b],fun x =>afq x.1 x.2.1⟩
theorem ahi : CO Tryz.prog ago := aal aak Tryz.func183 [] trivial [] trivial (fun _ =>[]) [] fun x =>by kernel_rfl
noncomputable def abZ (y0 : AllocV) (y1 : EnvP) : Option ((Bool × Unit) × (AllocV × EnvP × Unit)) :=
 (aax y0.o).bind fun r1 =>
 if r1.1.1 = true then
 some ((true,()),((⟨r1.2.1⟩ : AllocV),y1,()))
 else
 (aBx y1.l).bind fun r2 =>
 (aFN y1.m r2.1.1 1).bind fun r3 =>
 (afq ({ y1 with m := r3.2.1 } : EnvP) (wi (r3.1.1))).bind fun r4 =>
 if (!r4.1.1) = true then
 (abe r1.2.1 3 0).bind fun r5 =>
 some ((r5.1.1,()),((⟨r5.2.1⟩ : AllocV),r4.2.1,()))
 else
 (abe r1.2.1 1 (wi (r3.1.1))).bind fun r6 =>
 some ((r6.1.1,()),((⟨r6.2.1⟩ : AllocV),r4.2.1,()))
noncomputable abbrev akA : Con SR1 := ⟨181,[.ref 35,.ref 27],[.sh .b],fun x =>abZ x.1 x.2.1⟩
theorem aj9 : CO Tryz.prog akA := aal aak Tryz.func181 [abn,amK,awp,ago,acD] ⟨aa7,als,au4,ahi,abB,trivial⟩ [] trivial (fun _ =>[]) [] fun x =>by kernel_rfl
noncomputable def abN (y0 : PublishV) (y1 : EnvP) : Option ((Bool × Unit) × (PublishV × EnvP × Unit)) :=
 (aax y0.o).bind fun r1 =>
 if r1.1.1 = true then
 some ((true,()),(({ y0 with o := r1.2.1 } : PublishV),y1,()))
 else
 (afq y1 y0.task).bind fun r2 =>
 if (!r2.1.1) = true then
 (abe r1.2.1 4 0).bind fun r3 =>
 some ((r3.1.1,()),(({ y0 with o := r3.2.1 } : PublishV),r2.2.1,()))
 else
 if y0.line = 1 then
 (afc r2.2.1.l y0.task).bind fun r4 =>
 if y0.level = y0.level then
 (aa4 r2.2.1.m r4.1.1 (wu (y0.level))).bind fun r5 =>
 some ((false,()),(({ y0 with o := r1.2.1,line := wi (y0.line + 1) } : PublishV),({ r2.2.1 with m := r5.2.1 } : EnvP),()))
 else none
 else
 if y0.line = 2 then
 (aiy r2.2.1.l y0.task).bind fun r6 =>
 (arD r2.2.1.k).bind fun r7 =>
 (aa4 r2.2.1.m r6.1.1 (wu (r7.1.1))).bind fun r8 =>
 some ((false,()),(({ y0 with o := r1.2.1,line := wi (y0.line + 1) } : PublishV),({ r2.2.1 with m := r8.2.1,k := r7.2.1 } : EnvP),()))
 else
 (adT r2.2.1.l y0.task).bind fun r9 =>
 (aa4 r2.2.1.m r9.1.1 1).bind fun r10 =>
 (abe r1.2.1 0 0).bind fun r11 =>
 some ((r11.1.1,()),(({ y0 with o := r11.2.1 } : PublishV),({ r2.2.1 with m := r10.2.1 } : EnvP),()))
noncomputable abbrev akZ : Con SR1 := ⟨274,[.ref 50,.ref 27],[.sh .b],fun x =>abN x.1 x.2.1⟩
theorem akz : CO Tryz.prog akZ := aal aak Tryz.func274 [abn,ago,acD,agt,adS,ajP,anr,ad9] ⟨aa7,ahi,abB,afS,adg,ai7,akE,adD,trivial⟩ [] trivial (fun _ =>[]) [] fun x =>by kernel_rfl
noncomputable def ac7 (y0 : ClaimV) (y1 : EnvP) : Option ((Bool × Unit) × (ClaimV × EnvP × Unit)) :=
 (aax y0.o).bind fun r1 =>
 if r1.1.1 = true then
 some ((true,()),(({ y0 with o := r1.2.1 } : ClaimV),y1,()))
 else
 if y0.task = y0.task then
 if y0.worker = y0.worker then
 (adT y1.l y0.task).bind fun r2 =>
 (as3 y1.m r2.1.1 1 2).bind fun r3 =>
 if (!r3.1.1) = true then
 (aef ({ y1 with m := r3.2.1 } : EnvP) ({ y0 with kind := 15,other := 0,level := 0 } : Ev)).bind fun r4 =>
 (abe r1.2.1 4 0).bind fun r5 =>
 some ((r5.1.1,()),(({ y0 with o := r5.2.1 } : ClaimV),r4.2.1,()))
 else
 if 0 ≤ y0.task ∧ y0.task < ((y1.recs.length : Nat) : Int) then
 if (aab y1.recs y0.task).started = true then
 (aef ({ y1 with m := r3.2.1 } : EnvP) ({ y0 with kind := 9,other := 0,level := 0 } : Ev)).bind fun r6 =>
 (abe r1.2.1 1 y0.task).bind fun r7 =>
 some ((r7.1.1,()),(({ y0 with o := r7.2.1 } : ClaimV),r6.2.1,()))
 else
 (aef ({ y1 with m := r3.2.1,recs := y1.recs.set y0.task.toNat ({ aab y1.recs y0.task with started := true } : RecP) } : EnvP) ({ y0 with kind := 5,other := 0,level := 0 } : Ev)).bind fun r8 =>
 (abe r1.2.1 1 y0.task).bind fun r9 =>
 some ((r9.1.1,()),(({ y0 with o := r9.2.1 } : ClaimV),r8.2.1,()))
 else none
 else none
 else none
noncomputable abbrev anH : Con SR1 := ⟨248,[.ref 45,.ref 27],[.sh .b],fun x =>ac7 x.1 x.2.1⟩
theorem amk : CO Tryz.prog anH := aal aak Tryz.func248 [abn,ad9,alu,afu,acD] ⟨aa7,adD,ajc,aew,abB,trivial⟩ [] trivial (fun _ =>[]) [] fun x =>by kernel_rfl
noncomputable def acH (y0 : AttemptV) (y1 : EnvP) : Option ((Bool × Unit) × (AttemptV × EnvP × Unit)) :=
 (aax y0.o).bind fun r1 =>
 if r1.1.1 = true then
 some ((true,()),(({ y0 with o := r1.2.1 } : AttemptV),y1,()))
 else
 (ay1 y1.l).bind fun r2 =>
 if y0.owner = y0.owner then
 (as3 y1.m r2.1.1 0 (wu (wi (y0.owner + 1)))).bind fun r3 =>
 if r3.1.1 = true then
 (abe r1.2.1 1 0).bind fun r4 =>
 some ((r4.1.1,()),(({ y0 with o := r4.2.1 } : AttemptV),({ y1 with m := r3.2.1 } : EnvP),()))
 else
 if y0.once = true then
 (abe r1.2.1 5 0).bind fun r5 =>
 some ((r5.1.1,()),(({ y0 with o := r5.2.1 } : AttemptV),({ y1 with m := r3.2.1 } : EnvP),()))
 else
 some ((false,()),(({ y0 with o := r1.2.1 } : AttemptV),({ y1 with m := r3.2.1 } : EnvP),()))
 else none
noncomputable abbrev amR : Con SR1 := ⟨176,[.ref 34,.ref 27],[.sh .b],fun x =>acH x.1 x.2.1⟩
theorem alI : CO Tryz.prog amR := aal aak Tryz.func176 [abn,auX,alu,acD] ⟨aa7,awh,ajc,abB,trivial⟩ [] trivial (fun _ =>[]) [] fun x =>by kernel_rfl
noncomputable def acG (y0 : ReleaseV) (y1 : EnvP) : Option ((Bool × Unit) × (ReleaseV × EnvP × Unit)) :=
 (aax y0.o).bind fun r1 =>
 if r1.1.1 = true then
 some ((true,()),((⟨r1.2.1⟩ : ReleaseV),y1,()))
 else
 (ay1 y1.l).bind fun r2 =>
 (aa4 y1.m r2.1.1 0).bind fun r3 =>
 (abe r1.2.1 0 0).bind fun r4 =>
 some ((r4.1.1,()),((⟨r4.2.1⟩ : ReleaseV),({ y1 with m := r3.2.1 } : EnvP),()))
noncomputable abbrev amQ : Con SR1 := ⟨191,[.ref 37,.ref 27],[.sh .b],fun x =>acG x.1 x.2.1⟩
theorem alH : CO Tryz.prog amQ := aal aak Tryz.func191 [abn,auX,adS,acD] ⟨aa7,awh,adg,abB,trivial⟩ [] trivial (fun _ =>[]) [] fun x =>by kernel_rfl
noncomputable def adu (y0 : OPushV) (y1 : EnvP) : Option ((Bool × Unit) × (OPushV × EnvP × Unit)) :=
 (aax y0.o).bind fun r1 =>
 if r1.1.1 = true then
 some ((true,()),(({ y0 with o := r1.2.1 } : OPushV),y1,()))
 else
 if y0.line = 1 then
 (acA y1.m y0.q.bottom).bind fun r2 =>
 some ((false,()),(({ y0 with o := r1.2.1,line := wi (y0.line + 1),b := r2.1.1 } : OPushV),({ y1 with m := r2.2.1 } : EnvP),()))
 else
 if y0.line = 2 then
 (acA y1.m y0.q.top).bind fun r3 =>
 (auW y0.b r3.1.1).bind fun r4 =>
 if y0.q.cap = y0.q.cap then
 if y0.q.cap ≤ r4.1.1 then
 (abe r1.2.1 3 0).bind fun r5 =>
 some ((r5.1.1,()),(({ y0 with o := r5.2.1 } : OPushV),({ y1 with m := r3.2.1 } : EnvP),()))
 else
 some ((false,()),(({ y0 with o := r1.2.1,line := wi (y0.line + 1) } : OPushV),({ y1 with m := r3.2.1 } : EnvP),()))
 else none
 else
 if y0.line = 3 then
 (au0 y0.q y0.b).bind fun r6 =>
 if y0.value = y0.value then
 (aa4 y1.m r6.1.1 (wu (y0.value))).bind fun r7 =>
 some ((false,()),(({ y0 with o := r1.2.1,line := wi (y0.line + 1) } : OPushV),({ y1 with m := r7.2.1 } : EnvP),()))
 else none
 else
 (aa4 y1.m y0.q.bottom (wu (y0.b + 1))).bind fun r8 =>
 (abe r1.2.1 0 0).bind fun r9 =>
 some ((r9.1.1,()),(({ y0 with o := r9.2.1 } : OPushV),({ y1 with m := r8.2.1 } : EnvP),()))
noncomputable abbrev ape : Con SR1 := ⟨279,[.ref 53,.ref 27],[.sh .b],fun x =>adu x.1 x.2.1⟩
theorem anV : CO Tryz.prog ape := aal aak Tryz.func279 [abn,acC,amJ,acD,arH,adS] ⟨aa7,abR,alr,abB,arG,adg,trivial⟩ [] trivial (fun _ =>[]) [] fun x =>by kernel_rfl
noncomputable def ahl (y0 : OPopV) (y1 : EnvP) : Option ((Int × Unit) × (OPopV × EnvP × Unit)) :=
 (acA y1.m y0.q.top).bind fun r1 =>
 (auW (wu (y0.b - 1)) r1.1.1).bind fun r2 =>
 if 0 < r2.1.1 then
 some ((5,()),(({ y0 with t := r1.1.1 } : OPopV),({ y1 with m := r1.2.1 } : EnvP),()))
 else
 if r2.1.1 = 0 then
 some ((6,()),(({ y0 with t := r1.1.1 } : OPopV),({ y1 with m := r1.2.1 } : EnvP),()))
 else
 some ((9,()),(({ y0 with t := r1.1.1 } : OPopV),({ y1 with m := r1.2.1 } : EnvP),()))
noncomputable abbrev aiz : Con SR1 := ⟨277,[.ref 52,.ref 27],[.sh sI_],fun x =>ahl x.1 x.2.1⟩
theorem amN : CO Tryz.prog aiz := aal aak Tryz.func277 [acC,amJ] ⟨abR,alr,trivial⟩ [] trivial (fun _ =>[]) [] fun x =>by kernel_rfl
noncomputable def ad1 (y0 : OPopV) (y1 : EnvP) : Option ((Bool × Unit) × (OPopV × EnvP × Unit)) :=
 (aax y0.o).bind fun r1 =>
 if r1.1.1 = true then
 some ((true,()),(({ y0 with o := r1.2.1 } : OPopV),y1,()))
 else
 if y0.line = 1 then
 (acA y1.m y0.q.bottom).bind fun r2 =>
 some ((false,()),(({ y0 with o := r1.2.1,line := wi (y0.line + 1),b := r2.1.1 } : OPopV),({ y1 with m := r2.2.1 } : EnvP),()))
 else
 if y0.line = 2 then
 (acA y1.m y0.q.top).bind fun r3 =>
 (auW y0.b r3.1.1).bind fun r4 =>
 if r4.1.1 ≤ 0 then
 (abe r1.2.1 2 0).bind fun r5 =>
 some ((r5.1.1,()),(({ y0 with o := r5.2.1,t := r3.1.1 } : OPopV),({ y1 with m := r3.2.1 } : EnvP),()))
 else
 some ((false,()),(({ y0 with o := r1.2.1,line := wi (y0.line + 1),t := r3.1.1 } : OPopV),({ y1 with m := r3.2.1 } : EnvP),()))
 else
 if y0.line = 3 then
 (aa4 y1.m y0.q.bottom (wu (y0.b - 1))).bind fun r6 =>
 some ((false,()),(({ y0 with o := r1.2.1,line := wi (y0.line + 1) } : OPopV),({ y1 with m := r6.2.1 } : EnvP),()))
 else
 if y0.line = 4 then
 (ahl ({ y0 with o := r1.2.1 } : OPopV) y1).bind fun r7 =>
 some ((false,()),(({ r7.2.1 with line := r7.1.1 } : OPopV),r7.2.2.1,()))
 else
 if y0.line = 5 then
 if y0.line = 5 then
 (au0 y0.q (wu (y0.b - 1))).bind fun r8 =>
 (acA y1.m r8.1.1).bind fun r9 =>
 (abe r1.2.1 1 (wi (r9.1.1))).bind fun r10 =>
 some ((r10.1.1,()),(({ y0 with o := r10.2.1 } : OPopV),({ y1 with m := r9.2.1 } : EnvP),()))
 else
 if y0.line = 6 then
 (as3 y1.m y0.q.top y0.t (wu (y0.t + 1))).bind fun r11 =>
 if (!r11.1.1) = true then
 some ((false,()),(({ y0 with o := r1.2.1,line := 9 } : OPopV),({ y1 with m := r11.2.1 } : EnvP),()))
 else
 some ((false,()),(({ y0 with o := r1.2.1,line := wi (y0.line + 1) } : OPopV),({ y1 with m := r11.2.1 } : EnvP),()))
 else
 if y0.line = 7 then
 (aa4 y1.m y0.q.bottom y0.b).bind fun r12 =>
 some ((false,()),(({ y0 with o := r1.2.1,line := wi (y0.line + 1) } : OPopV),({ y1 with m := r12.2.1 } : EnvP),()))
 else
 (aa4 y1.m y0.q.bottom y0.b).bind fun r13 =>
 (abe r1.2.1 2 0).bind fun r14 =>
 some ((r14.1.1,()),(({ y0 with o := r14.2.1 } : OPopV),({ y1 with m := r13.2.1 } : EnvP),()))
 else
 if y0.line = 8 then
 (au0 y0.q (wu (y0.b - 1))).bind fun r15 =>
 (acA y1.m r15.1.1).bind fun r16 =>
 (abe r1.2.1 1 (wi (r16.1.1))).bind fun r17 =>
 some ((r17.1.1,()),(({ y0 with o := r17.2.1 } : OPopV),({ y1 with m := r16.2.1 } : EnvP),()))
 else
 if y0.line = 6 then
 (as3 y1.m y0.q.top y0.t (wu (y0.t + 1))).bind fun r18 =>
 if (!r18.1.1) = true then
 some ((false,()),(({ y0 with o := r1.2.1,line := 9 } : OPopV),({ y1 with m := r18.2.1 } : EnvP),()))
 else
 some ((false,()),(({ y0 with o := r1.2.1,line := wi (y0.line + 1) } : OPopV),({ y1 with m := r18.2.1 } : EnvP),()))
 else
 if y0.line = 7 then
 (aa4 y1.m y0.q.bottom y0.b).bind fun r19 =>
 some ((false,()),(({ y0 with o := r1.2.1,line := wi (y0.line + 1) } : OPopV),({ y1 with m := r19.2.1 } : EnvP),()))
 else
 (aa4 y1.m y0.q.bottom y0.b).bind fun r20 =>
 (abe r1.2.1 2 0).bind fun r21 =>
 some ((r21.1.1,()),(({ y0 with o := r21.2.1 } : OPopV),({ y1 with m := r20.2.1 } : EnvP),()))
noncomputable abbrev aqk : Con SR1 := ⟨276,[.ref 52,.ref 27],[.sh .b],fun x =>ad1 x.1 x.2.1⟩
theorem apg : CO Tryz.prog aqk := aal aak Tryz.func276 [abn,acC,amJ,acD,adS,aiz,arH,alu] ⟨aa7,abR,alr,abB,adg,amN,arG,ajc,trivial⟩ [] trivial (fun _ =>[]) [] fun x =>by kernel_rfl
noncomputable def ac6 (y0 : StealV) (y1 : EnvP) : Option ((Bool × Unit) × (StealV × EnvP × Unit)) :=
 (aax y0.o).bind fun r1 =>
 if r1.1.1 = true then
 some ((true,()),(({ y0 with o := r1.2.1 } : StealV),y1,()))
 else
 if y0.line = 1 then
 (acA y1.m y0.q.top).bind fun r2 =>
 some ((false,()),(({ y0 with o := r1.2.1,line := wi (y0.line + 1),t := r2.1.1 } : StealV),({ y1 with m := r2.2.1 } : EnvP),()))
 else
 if y0.line = 2 then
 (acA y1.m y0.q.bottom).bind fun r3 =>
 (auW r3.1.1 y0.t).bind fun r4 =>
 if r4.1.1 ≤ 0 then
 (abe r1.2.1 2 0).bind fun r5 =>
 some ((r5.1.1,()),(({ y0 with o := r5.2.1 } : StealV),({ y1 with m := r3.2.1 } : EnvP),()))
 else
 some ((false,()),(({ y0 with o := r1.2.1,line := wi (y0.line + 1) } : StealV),({ y1 with m := r3.2.1 } : EnvP),()))
 else
 if y0.line = 3 then
 (au0 y0.q y0.t).bind fun r6 =>
 (acA y1.m r6.1.1).bind fun r7 =>
 some ((false,()),(({ y0 with o := r1.2.1,line := wi (y0.line + 1),value := r7.1.1 } : StealV),({ y1 with m := r7.2.1 } : EnvP),()))
 else
 (as3 y1.m y0.q.top y0.t (wu (y0.t + 1))).bind fun r8 =>
 if r8.1.1 = true then
 (abe r1.2.1 1 (wi (y0.value))).bind fun r9 =>
 some ((r9.1.1,()),(({ y0 with o := r9.2.1 } : StealV),({ y1 with m := r8.2.1 } : EnvP),()))
 else
 (abe r1.2.1 4 0).bind fun r10 =>
 some ((r10.1.1,()),(({ y0 with o := r10.2.1 } : StealV),({ y1 with m := r8.2.1 } : EnvP),()))
noncomputable abbrev anF : Con SR1 := ⟨216,[.ref 42,.ref 27],[.sh .b],fun x =>ac6 x.1 x.2.1⟩
theorem amh : CO Tryz.prog anF := aal aak Tryz.func216 [abn,acC,amJ,acD,arH,alu] ⟨aa7,abR,alr,abB,arG,ajc,trivial⟩ [] trivial (fun _ =>[]) [] fun x =>by kernel_rfl
noncomputable def ady (y0 : SetV) (y1 : EnvP) : Option ((Bool × Unit) × (SetV × EnvP × Unit)) :=
 (aax y0.o).bind fun r1 =>
 if r1.1.1 = true then
 some ((true,()),(({ y0 with o := r1.2.1 } : SetV),y1,()))
 else
 (aAC y0.bit).bind fun r2 =>
 if y0.cell = y0.cell then
 (pOr y1.m y0.cell r2.1.1).bind fun r3 =>
 (abe r1.2.1 0 0).bind fun r4 =>
 some ((r4.1.1,()),(({ y0 with o := r4.2.1 } : SetV),({ y1 with m := r3.2.1 } : EnvP),()))
 else none
noncomputable abbrev aqb : Con SR1 := ⟨281,[.ref 54,.ref 27],[.sh .b],fun x =>ady x.1 x.2.1⟩
theorem an6 : CO Tryz.prog aqb := aal aak Tryz.func281 [abn,atH,aBw,acD] ⟨aa7,arJ,ayZ,abB,trivial⟩ [] trivial (fun _ =>[]) [] fun x =>by kernel_rfl
noncomputable def acJ (y0 : ResetV) (y1 : EnvP) : Option ((Bool × Unit) × (ResetV × EnvP × Unit)) :=
 (aax y0.o).bind fun r1 =>
 if r1.1.1 = true then
 some ((true,()),(({ y0 with o := r1.2.1 } : ResetV),y1,()))
 else
 (aAC y0.bit).bind fun r2 =>
 if y0.line = 1 then
 (aCQ y1.m y0.cell (aCo r2.1.1)).bind fun r3 =>
 some ((false,()),(({ y0 with o := r1.2.1,line := wi (y0.line + 1) } : ResetV),({ y1 with m := r3.2.1 } : EnvP),()))
 else
 if y0.line = 2 then
 (acA y1.m y0.q.bottom).bind fun r4 =>
 some ((false,()),(({ y0 with o := r1.2.1,line := wi (y0.line + 1),b := r4.1.1 } : ResetV),({ y1 with m := r4.2.1 } : EnvP),()))
 else
 if y0.line = 3 then
 (acA y1.m y0.q.top).bind fun r5 =>
 (auW y0.b r5.1.1).bind fun r6 =>
 if r6.1.1 ≤ 0 then
 (abe r1.2.1 2 0).bind fun r7 =>
 some ((r7.1.1,()),(({ y0 with o := r7.2.1 } : ResetV),({ y1 with m := r5.2.1 } : EnvP),()))
 else
 some ((false,()),(({ y0 with o := r1.2.1,line := wi (y0.line + 1) } : ResetV),({ y1 with m := r5.2.1 } : EnvP),()))
 else
 (pOr y1.m y0.cell r2.1.1).bind fun r8 =>
 (abe r1.2.1 1 0).bind fun r9 =>
 some ((r9.1.1,()),(({ y0 with o := r9.2.1 } : ResetV),({ y1 with m := r8.2.1 } : EnvP),()))
noncomputable abbrev am7 : Con SR1 := ⟨220,[.ref 43,.ref 27],[.sh .b],fun x =>acJ x.1 x.2.1⟩
theorem al9 : CO Tryz.prog am7 := aal aak Tryz.func220 [abn,atH,awo,acC,amJ,acD,aBw] ⟨aa7,arJ,au3,abR,alr,abB,ayZ,trivial⟩ [] trivial (fun _ =>[]) [] fun x =>by kernel_rfl
noncomputable def adw (y0 : InsertV) : Option ((Int × Unit) × (InsertV × Unit)) :=
 if 0 < y0.i then
 some ((3,()),(y0,()))
 else
 some ((5,()),(y0,()))
noncomputable abbrev af1 : Con SR1 := ⟨188,[.ref 36],[.sh sI_],fun x =>adw x.1⟩
theorem aiJ : CO Tryz.prog af1 := aal aak Tryz.func188 [] trivial [] trivial (fun _ =>[]) [] fun x =>by kernel_rfl
end Go.Proofs.YteapeojalliebaaGreat
