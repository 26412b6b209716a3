/- The program's machines in the evaluator's form. The program's machines in the evaluator's form. -/
import Derived.Test.YtdnimkpfgjcjeaaGreatEzah
import Derived.Test.YtdnimkpfgjcjeaaGreatEzai
set_option linter.all false
namespace Go.Proofs.YtdnimkpfgjcjeaaGreat
section
open Go Go.RowKit
set_option maxRecDepth 100000
variable [Tb]
noncomputable def aH9 (x:Int):Option ((Int×Unit)×(Unit)) :=
 if x=0 then
 some (((-1),()),())
 else
 (pTz x).bind fun r1 =>
 some ((r1.1.1,()),())
noncomputable abbrev aCZ:Con SR1:=⟨184,[.sh sU_],[.sh sI_],fun x =>aH9 x.1⟩
theorem aEs:CO Tryz.prog aCZ:=aak aaj Tryz.func184 [aEq] ⟨aGJ,trivial⟩ [] trivial (fun _ =>[]) [] fun x =>by kernel_rfl
noncomputable def aav (o:OutV):Option ((Bool×Unit)×(OutV×Unit)) :=
 some ((o.ended,()),(o,()))
noncomputable abbrev abn:Con SR1:=⟨149,[.ref 23],[.sh .b],fun x =>aav x.1⟩
theorem aa6:CO Tryz.prog abn:=aak aaj Tryz.func149 [] trivial [] trivial (fun _ =>[]) [] fun x =>by kernel_rfl
noncomputable def abh (o:OutV) (code:Int) (value:Int):Option ((Bool×Unit)×(OutV×Unit)) :=
 some ((true,()),((⟨true,code,value⟩:OutV),()))
noncomputable abbrev acN:Con SR1:=⟨159,[.ref 23,.sh sI_,.sh sI_],[.sh .b],fun x =>abh x.1 x.2.1 x.2.2.1⟩
theorem abz:CO Tryz.prog acN:=aak aaj Tryz.func159 [] trivial [] trivial (fun _ =>[]) [] fun x =>by kernel_rfl
noncomputable def aEr (o:OutV):Option ((Int×Int×Unit)×(OutV×Unit)) :=
 some ((o.code,o.value,()),(o,()))
noncomputable abbrev aaZ:Con SR1:=⟨150,[.ref 23],[.sh sI_,.sh sI_],fun x =>aEr x.1⟩
theorem aaR:CO Tryz.prog aaZ:=aak aaj Tryz.func150 [] trivial [] trivial (fun _ =>[]) [] fun x =>by kernel_rfl
noncomputable def acG (m:MemV) (a:Int):Option ((Int×Unit)×(MemV×Unit)) :=
 if a<0 then
 some ((0,()),(m,()))
 else
 if ((m.cells.length:Nat):Int)≤a then
 some ((0,()),(m,()))
 else
 if 0≤a∧a<((m.cells.length:Nat):Int) then
 if 0≤a∧a<((m.cells.length:Nat):Int) then
 if 0≤a∧a<(((m.cells.set a.toNat (aeu m.cells a)).length:Nat):Int) then
 some ((aeu m.cells a,()),((⟨m.cells.set a.toNat (aeu m.cells a),⟨1,a,aeu m.cells a,aeu (m.cells.set a.toNat (aeu m.cells a)) a⟩,wi (m.count+1)⟩:MemV),()))
 else none
 else none
 else none
noncomputable abbrev acM:Con SR1:=⟨111,[.ref 9,.sh sI_],[.sh sU_],fun x =>acG x.1 x.2.1⟩
noncomputable def aBD:List (Nat×Func):=[(121,Tryz.f121),(122,Tryz.f122)]
theorem abT:CO Tryz.prog acM:=aak aaj Tryz.func111 [] trivial aBD ⟨Tryz.func121,Tryz.func122,trivial⟩ (fun _ =>[]) [] fun x =>by kernel_rfl
noncomputable def aa3 (m:MemV) (a:Int) (v:Int):Option ((Unit)×(MemV×Unit)) :=
 if a<0 then
 some ((()),(m,()))
 else
 if ((m.cells.length:Nat):Int)≤a then
 some ((()),(m,()))
 else
 if 0≤a∧a<((m.cells.length:Nat):Int) then
 if 0≤a∧a<((m.cells.length:Nat):Int) then
 if 0≤a∧a<(((m.cells.set a.toNat v).length:Nat):Int) then
 some ((()),((⟨m.cells.set a.toNat v,⟨2,a,aeu m.cells a,aeu (m.cells.set a.toNat v) a⟩,wi (m.count+1)⟩:MemV),()))
 else none
 else none
 else none
noncomputable abbrev adY:Con SR1:=⟨114,[.ref 9,.sh sI_,.sh sU_],[],fun x =>aa3 x.1 x.2.1 x.2.2.1⟩
noncomputable def ayP:List (Nat×Func):=[(121,Tryz.f121),(123,Tryz.f123)]
theorem adt:CO Tryz.prog adY:=aak aaj Tryz.func114 [] trivial ayP ⟨Tryz.func121,Tryz.func123,trivial⟩ (fun _ =>[]) [] fun x =>by kernel_rfl
noncomputable def atb (m:MemV) (a:Int) (old:Int) (v:Int):Option ((Bool×Unit)×(MemV×Unit)) :=
 if a<0 then
 some ((false,()),(m,()))
 else
 if ((m.cells.length:Nat):Int)≤a then
 some ((false,()),(m,()))
 else
 if 0≤a∧a<((m.cells.length:Nat):Int) then
 if (aeu m.cells a)=old then
 if 0≤a∧a<((m.cells.length:Nat):Int) then
 if 0≤a∧a<(((m.cells.set a.toNat v).length:Nat):Int) then
 some ((decide ((aeu m.cells a)=old),()),((⟨m.cells.set a.toNat v,⟨3,a,aeu m.cells a,aeu (m.cells.set a.toNat v) a⟩,wi (m.count+1)⟩:MemV),()))
 else none
 else none
 else
 if 0≤a∧a<((m.cells.length:Nat):Int) then
 if 0≤a∧a<(((m.cells.set a.toNat (aeu m.cells a)).length:Nat):Int) then
 some ((decide ((aeu m.cells a)=old),()),((⟨m.cells.set a.toNat (aeu m.cells a),⟨3,a,aeu m.cells a,aeu (m.cells.set a.toNat (aeu m.cells a)) a⟩,wi (m.count+1)⟩:MemV),()))
 else none
 else none
 else none
noncomputable abbrev al0:Con SR1:=⟨166,[.ref 9,.sh sI_,.sh sU_,.sh sU_],[.sh .b],fun x =>atb x.1 x.2.1 x.2.2.1 x.2.2.2.1⟩
noncomputable def aEt:List (Nat×Func):=[(121,Tryz.f121),(168,Tryz.f168)]
theorem ajA:CO Tryz.prog al0:=aak aaj Tryz.func166 [] trivial aEt ⟨Tryz.func121,Tryz.func168,trivial⟩ (fun _ =>[]) [] fun x =>by kernel_rfl
noncomputable def pOr (m:MemV) (a:Int) (v:Int):Option ((Int×Unit)×(MemV×Unit)) :=
 if a<0 then
 some ((0,()),(m,()))
 else
 if ((m.cells.length:Nat):Int)≤a then
 some ((0,()),(m,()))
 else
 if 0≤a∧a<((m.cells.length:Nat):Int) then
 if 0≤a∧a<((m.cells.length:Nat):Int) then
 if 0≤a∧a<(((m.cells.set a.toNat (orU (aeu m.cells a) v)).length:Nat):Int) then
 some ((aeu m.cells a,()),((⟨m.cells.set a.toNat (orU (aeu m.cells a) v),⟨4,a,aeu m.cells a,aeu (m.cells.set a.toNat (orU (aeu m.cells a) v)) a⟩,wi (m.count+1)⟩:MemV),()))
 else none
 else none
 else none
noncomputable abbrev aBB:Con SR1:=⟨153,[.ref 9,.sh sI_,.sh sU_],[.sh sU_],fun x =>pOr x.1 x.2.1 x.2.2.1⟩
noncomputable def aGK:List (Nat×Func):=[(121,Tryz.f121),(160,Tryz.f160)]
theorem ayR:CO Tryz.prog aBB:=aak aaj Tryz.func153 [] trivial aGK ⟨Tryz.func121,Tryz.func160,trivial⟩ (fun _ =>[]) [] fun x =>by kernel_rfl
noncomputable def aC0 (m:MemV) (a:Int) (v:Int):Option ((Int×Unit)×(MemV×Unit)) :=
 if a<0 then
 some ((0,()),(m,()))
 else
 if ((m.cells.length:Nat):Int)≤a then
 some ((0,()),(m,()))
 else
 if 0≤a∧a<((m.cells.length:Nat):Int) then
 if 0≤a∧a<((m.cells.length:Nat):Int) then
 if 0≤a∧a<(((m.cells.set a.toNat (aoz (aeu m.cells a) v)).length:Nat):Int) then
 some ((aeu m.cells a,()),((⟨m.cells.set a.toNat (aoz (aeu m.cells a) v),⟨5,a,aeu m.cells a,aeu (m.cells.set a.toNat (aoz (aeu m.cells a) v)) a⟩,wi (m.count+1)⟩:MemV),()))
 else none
 else none
 else none
noncomputable abbrev awE:Con SR1:=⟨158,[.ref 9,.sh sI_,.sh sU_],[.sh sU_],fun x =>aC0 x.1 x.2.1 x.2.2.1⟩
noncomputable def aEu:List (Nat×Func):=[(121,Tryz.f121),(162,Tryz.f162)]
theorem avj:CO Tryz.prog awE:=aak aaj Tryz.func158 [] trivial aEu ⟨Tryz.func121,Tryz.func162,trivial⟩ (fun _ =>[]) [] fun x =>by kernel_rfl
noncomputable def aFR (m:MemV) (a:Int) (v:Int):Option ((Int×Unit)×(MemV×Unit)) :=
 if a<0 then
 some ((0,()),(m,()))
 else
 if ((m.cells.length:Nat):Int)≤a then
 some ((0,()),(m,()))
 else
 if 0≤a∧a<((m.cells.length:Nat):Int) then
 if 0≤a∧a<((m.cells.length:Nat):Int) then
 if 0≤a∧a<(((m.cells.set a.toNat (wu ((aeu m.cells a)+v))).length:Nat):Int) then
 some ((aeu m.cells a,()),((⟨m.cells.set a.toNat (wu ((aeu m.cells a)+v)),⟨6,a,aeu m.cells a,aeu (m.cells.set a.toNat (wu ((aeu m.cells a)+v))) a⟩,wi (m.count+1)⟩:MemV),()))
 else none
 else none
 else none
noncomputable abbrev awF:Con SR1:=⟨171,[.ref 9,.sh sI_,.sh sU_],[.sh sU_],fun x =>aFR x.1 x.2.1 x.2.2.1⟩
noncomputable def aEv:List (Nat×Func):=[(121,Tryz.f121),(173,Tryz.f173)]
theorem avk:CO Tryz.prog awF:=aak aaj Tryz.func171 [] trivial aEv ⟨Tryz.func121,Tryz.func173,trivial⟩ (fun _ =>[]) [] fun x =>by kernel_rfl
noncomputable def arX (k:ClkV):Option ((Int×Unit)×(ClkV×Unit)) :=
 some ((k.now,()),(k,()))
noncomputable abbrev anT:Con SR1:=⟨117,[.ref 25],[.sh sI_],fun x =>arX x.1⟩
theorem ak8:CO Tryz.prog anT:=aak aaj Tryz.func117 [] trivial [] trivial (fun _ =>[]) [] fun x =>by kernel_rfl
noncomputable def aBH (k:ClkV) (n:Int):Option ((Int×Unit)×(ClkV×Unit)) :=
 if n<1 then
 some ((0,()),(k,()))
 else
 if n≠0 then
 if (Int.tmod k.draw n)<0 then
 some ((wi ((Int.tmod k.draw n)+n),()),(k,()))
 else
 some (((Int.tmod k.draw n),()),(k,()))
 else none
noncomputable abbrev ayU:Con SR1:=⟨240,[.ref 25,.sh sI_],[.sh sI_],fun x =>aBH x.1 x.2.1⟩
theorem aBF:CO Tryz.prog ayU:=aak aaj Tryz.func240 [] trivial [] trivial (fun _ =>[]) [] fun x =>by kernel_rfl
noncomputable def aAM (n:Int):Option ((Int×Unit)×(Unit)) :=
 if n<0 then
 some ((0,()),())
 else
 if 63<n then
 some ((0,()),())
 else
 if 0≤wu (n) then
 some ((wu (1*2 ^ min (wu (n):Int).toNat IntKind.u64.bits),()),())
 else none
noncomputable abbrev atV:Con SR1:=⟨155,[.sh sI_],[.sh sU_],fun x =>aAM x.1⟩
theorem ar3:CO Tryz.prog atV:=aak aaj Tryz.func155 [] trivial [] trivial (fun _ =>[]) [] fun x =>by kernel_rfl
noncomputable def aAL (a:Int) (n:Int):Option ((Int×Unit)×(Unit)) :=
 if n<1 then
 some ((0,()),())
 else
 if n≠0 then
 if (Int.tmod a n)<0 then
 some ((wi ((Int.tmod a n)+n),()),())
 else
 some (((Int.tmod a n),()),())
 else none
noncomputable abbrev atS:Con SR1:=⟨135,[.sh sI_,.sh sI_],[.sh sI_],fun x =>aAL x.1 x.2.1⟩
theorem arY:CO Tryz.prog atS:=aak aaj Tryz.func135 [] trivial [] trivial (fun _ =>[]) [] fun x =>by kernel_rfl
noncomputable def avb (b:Int) (t:Int):Option ((Int×Unit)×(Unit)) :=
 some ((wi (wu (b-t)),()),())
noncomputable abbrev am9:Con SR1:=⟨206,[.sh sU_,.sh sU_],[.sh sI_],fun x =>avb x.1 x.2.1⟩
theorem alY:CO Tryz.prog am9:=aak aaj Tryz.func206 [] trivial [] trivial (fun _ =>[]) [] fun x =>by kernel_rfl
noncomputable def avg (q:QV) (i:Int):Option ((Int×Unit)×(Unit)) :=
 if q.cap<1 then
 some (((-1),()),())
 else
 if (wu (q.cap))≠0 then
 some ((wi (q.ring+(wi ((Int.tmod i (wu (q.cap)))))),()),())
 else none
noncomputable abbrev ar1:Con SR1:=⟨207,[.val 14,.sh sU_],[.sh sI_],fun x =>avg x.1 x.2.1⟩
theorem ar0:CO Tryz.prog ar1:=aak aaj Tryz.func207 [] trivial [] trivial (fun _ =>[]) [] fun x =>by kernel_rfl
noncomputable def pAt (i:Int) (n:Int) (a:Int) (w:Int):Option ((Int×Unit)×(Unit)) :=
 if i<0 then
 some (((-1),()),())
 else
 if n≤i then
 some (((-1),()),())
 else
 some ((wi (a+(wi (i*w))),()),())
noncomputable abbrev avh:Con SR1:=⟨72,[.sh sI_,.sh sI_,.sh sI_,.sh sI_],[.sh sI_],fun x =>pAt x.1 x.2.1 x.2.2.1 x.2.2.2.1⟩
theorem aq4:CO Tryz.prog avh:=aak aaj Tryz.func72 [] trivial [] trivial (fun _ =>[]) [] fun x =>by kernel_rfl
noncomputable def atR (l:LayV) (t:Int) (f:Int):Option ((Int×Unit)×(Unit)) :=
 (pAt t l.tasks (wi (l.table+f)) 5).bind fun r1 =>
 some ((r1.1.1,()),())
noncomputable abbrev am8:Con SR1:=⟨62,[.val 24,.sh sI_,.sh sI_],[.sh sI_],fun x =>atR x.1 x.2.1 x.2.2.1⟩
theorem alW:CO Tryz.prog am8:=aak aaj Tryz.func62 [avh] ⟨aq4,trivial⟩ [] trivial (fun _ =>[]) [] fun x =>by kernel_rfl
noncomputable def aBC (l:LayV):Option ((Int×Unit)×(Unit)) :=
 some ((0,()),())
noncomputable abbrev avc:Con SR1:=⟨47,[.val 24],[.sh sI_],fun x =>aBC x.1⟩
theorem aww:CO Tryz.prog avc:=aak aaj Tryz.func47 [] trivial [] trivial (fun _ =>[]) [] fun x =>by kernel_rfl
noncomputable def ad8 (l:LayV) (t:Int):Option ((Int×Unit)×(Unit)) :=
 (atR l t 0).bind fun r1 =>
 some ((r1.1.1,()),())
noncomputable abbrev afz:Con SR1:=⟨48,[.val 24,.sh sI_],[.sh sI_],fun x =>ad8 x.1 x.2.1⟩
theorem aeZ:CO Tryz.prog afz:=aak aaj Tryz.func48 [am8] ⟨alW,trivial⟩ [] trivial (fun _ =>[]) [] fun x =>by kernel_rfl
noncomputable def afb (l:LayV) (t:Int):Option ((Int×Unit)×(Unit)) :=
 (atR l t 1).bind fun r1 =>
 some ((r1.1.1,()),())
noncomputable abbrev agB:Con SR1:=⟨115,[.val 24,.sh sI_],[.sh sI_],fun x =>afb x.1 x.2.1⟩
theorem afL:CO Tryz.prog agB:=aak aaj Tryz.func115 [am8] ⟨alW,trivial⟩ [] trivial (fun _ =>[]) [] fun x =>by kernel_rfl
noncomputable def aiX (l:LayV) (t:Int):Option ((Int×Unit)×(Unit)) :=
 (atR l t 4).bind fun r1 =>
 some ((r1.1.1,()),())
noncomputable abbrev aka:Con SR1:=⟨116,[.val 24,.sh sI_],[.sh sI_],fun x =>aiX x.1 x.2.1⟩
theorem ajv:CO Tryz.prog aka:=aak aaj Tryz.func116 [am8] ⟨alW,trivial⟩ [] trivial (fun _ =>[]) [] fun x =>by kernel_rfl
noncomputable def aju (l:LayV) (t:Int):Option ((Int×Unit)×(Unit)) :=
 (atR l t 3).bind fun r1 =>
 some ((r1.1.1,()),())
noncomputable abbrev aoK:Con SR1:=⟨220,[.val 24,.sh sI_],[.sh sI_],fun x =>aju x.1 x.2.1⟩
theorem apD:CO Tryz.prog aoK:=aak aaj Tryz.func220 [am8] ⟨alW,trivial⟩ [] trivial (fun _ =>[]) [] fun x =>by kernel_rfl
noncomputable def aok (l:LayV) (t:Int):Option ((Int×Unit)×(Unit)) :=
 (atR l t 2).bind fun r1 =>
 some ((r1.1.1,()),())
noncomputable abbrev ave:Con SR1:=⟨225,[.val 24,.sh sI_],[.sh sI_],fun x =>aok x.1 x.2.1⟩
theorem awy:CO Tryz.prog ave:=aak aaj Tryz.func225 [am8] ⟨alW,trivial⟩ [] trivial (fun _ =>[]) [] fun x =>by kernel_rfl
noncomputable def ayT (l:LayV):Option ((Int×Unit)×(Unit)) :=
 some ((1,()),())
noncomputable abbrev avd:Con SR1:=⟨167,[.val 24],[.sh sI_],fun x =>ayT x.1⟩
theorem awx:CO Tryz.prog avd:=aak aaj Tryz.func167 [] trivial [] trivial (fun _ =>[]) [] fun x =>by kernel_rfl
noncomputable def agn (l:LayV):Option ((Int×Unit)×(Unit)) :=
 some ((2,()),())
noncomputable abbrev akc:Con SR1:=⟨112,[.val 24],[.sh sI_],fun x =>agn x.1⟩
theorem ajz:CO Tryz.prog akc:=aak aaj Tryz.func112 [] trivial [] trivial (fun _ =>[]) [] fun x =>by kernel_rfl
noncomputable def aoj (l:LayV) (i:Int):Option ((Int×Unit)×(Unit)) :=
 (pAt i l.heap 4 1).bind fun r1 =>
 some ((r1.1.1,()),())
noncomputable abbrev arW:Con SR1:=⟨178,[.val 24,.sh sI_],[.sh sI_],fun x =>aoj x.1 x.2.1⟩
theorem arV:CO Tryz.prog arW:=aak aaj Tryz.func178 [avh] ⟨aq4,trivial⟩ [] trivial (fun _ =>[]) [] fun x =>by kernel_rfl
noncomputable def aq3 (l:LayV) (w:Int):Option ((Int×Unit)×(Unit)) :=
 (pAt w l.workers l.epochs 1).bind fun r1 =>
 some ((r1.1.1,()),())
noncomputable abbrev aoM:Con SR1:=⟨152,[.val 24,.sh sI_],[.sh sI_],fun x =>aq3 x.1 x.2.1⟩
theorem apE:CO Tryz.prog aoM:=aak aaj Tryz.func152 [avh] ⟨aq4,trivial⟩ [] trivial (fun _ =>[]) [] fun x =>by kernel_rfl
noncomputable def agX (l:LayV) (l0:Int):Option ((Int×Unit)×(Unit)) :=
 (pAt l0 l.classes l.sleepers 1).bind fun r1 =>
 some ((r1.1.1,()),())
noncomputable abbrev ak7:Con SR1:=⟨161,[.val 24,.sh sI_],[.sh sI_],fun x =>agX x.1 x.2.1⟩
theorem anS:CO Tryz.prog ak7:=aak aaj Tryz.func161 [avh] ⟨aq4,trivial⟩ [] trivial (fun _ =>[]) [] fun x =>by kernel_rfl
noncomputable def ahs (l:LayV) (w:Int):Option ((Int×Unit)×(Unit)) :=
 (pAt w l.workers l.bitmaps 1).bind fun r1 =>
 some ((r1.1.1,()),())
noncomputable abbrev agZ:Con SR1:=⟨143,[.val 24,.sh sI_],[.sh sI_],fun x =>ahs x.1 x.2.1⟩
theorem agJ:CO Tryz.prog agZ:=aak aaj Tryz.func143 [avh] ⟨aq4,trivial⟩ [] trivial (fun _ =>[]) [] fun x =>by kernel_rfl
noncomputable def agY (l:LayV) (w:Int) (v:Int):Option ((QV×Unit)×(Unit)) :=
 (pAt w l.workers l.queues (wi (l.levels*(wi (2+l.deque))))).bind fun r1 =>
 (pAt v l.levels r1.1.1 (wi (2+l.deque))).bind fun r2 =>
 if r1.1.1<0 then
 some (((⟨(-1),(-1),(-1),0⟩:QV),()),())
 else
 if r2.1.1<0 then
 some (((⟨(-1),(-1),(-1),0⟩:QV),()),())
 else
 some (((⟨r2.1.1,wi (r2.1.1+1),wi (r2.1.1+2),l.deque⟩:QV),()),())
noncomputable abbrev akb:Con SR1:=⟨141,[.val 24,.sh sI_,.sh sI_],[.val 14],fun x =>agY x.1 x.2.1 x.2.2.1⟩
theorem ajx:CO Tryz.prog akb:=aak aaj Tryz.func141 [avh] ⟨aq4,trivial⟩ [] trivial (fun _ =>[]) [] fun x =>by kernel_rfl
noncomputable def ar4 (l:LayV):Option ((Int×Unit)×(Unit)) :=
 some ((3,()),())
noncomputable abbrev aq6:Con SR1:=⟨100,[.val 24],[.sh sI_],fun x =>ar4 x.1⟩
theorem avi:CO Tryz.prog aq6:=aak aaj Tryz.func100 [] trivial [] trivial (fun _ =>[]) [] fun x =>by kernel_rfl
noncomputable def awD (l:LayV):Option ((Int×Unit)×(Unit)) :=
 some ((wi (l.table+(wi (5*l.tasks))),()),())
noncomputable abbrev awC:Con SR1:=⟨70,[.val 24],[.sh sI_],fun x =>awD x.1⟩
theorem ayW:CO Tryz.prog awC:=aak aaj Tryz.func70 [] trivial [] trivial (fun _ =>[]) [] fun x =>by kernel_rfl
noncomputable def aep (e:EnvP) (v:Ev):Option ((Unit)×(EnvP×Unit)) :=
 if (((e.evs.length+([v]:List Ev).length:Nat)):Int)<1000000000000 then
 some ((()),(({ e with evs:=e.evs++([v]) }:EnvP),()))
 else none
noncomputable abbrev afn:Con SR1:=⟨119,[.ref 27,.val 2],[],fun x =>aep x.1 x.2.1⟩
theorem aeD:CO Tryz.prog afn:=aak aaj Tryz.func119 [] trivial [] trivial (fun _ =>[]) [] fun x =>by kernel_rfl
noncomputable def aBA (d:Int) (a:Int) (t:Int):Option ((Int×Bool×Unit)×(Unit)) :=
 if d<0 then
 some ((0,false,()),())
 else
 if 16777215<d then
 some ((0,false,()),())
 else
 if a<0 then
 some ((0,false,()),())
 else
 if 16777215<a then
 some ((0,false,()),())
 else
 if t<0 then
 some ((0,false,()),())
 else
 if 65535<t then
 some ((0,false,()),())
 else
 some ((orU (orU (wu ((wu (d))*2 ^ min (40:Int).toNat IntKind.u64.bits)) (wu ((wu (a))*2 ^ min (16:Int).toNat IntKind.u64.bits))) (wu (t)),true,()),())
noncomputable abbrev ayQ:Con SR1:=⟨176,[.sh sI_,.sh sI_,.sh sI_],[.sh sU_,.sh .b],fun x =>aBA x.1 x.2.1 x.2.2.1⟩
theorem aBy:CO Tryz.prog ayQ:=aak aaj Tryz.func176 [] trivial [] trivial (fun _ =>[]) [] fun x =>by kernel_rfl
noncomputable def atU (l:Int) (n:Int) (c:Int):Option ((Int×Unit)×(Unit)) :=
 if n<1 then
 some ((0,()),())
 else
 if 64<n then
 some ((0,()),())
 else
 if c<1 then
 some ((0,()),())
 else
 if 8<c then
 some ((0,()),())
 else
 if l<0 then
 some ((0,()),())
 else
 if n≤l then
 some ((0,()),())
 else
 if n≠0 then
 some ((wi (Int.tdiv (wi (l*c)) n),()),())
 else none
noncomputable abbrev awB:Con SR1:=⟨185,[.sh sI_,.sh sI_,.sh sI_],[.sh sI_],fun x =>atU x.1 x.2.1 x.2.2.1⟩
theorem ayV:CO Tryz.prog awB:=aak aaj Tryz.func185 [] trivial [] trivial (fun _ =>[]) [] fun x =>by kernel_rfl
noncomputable def ava (k:Int):Option ((Int×Int×Int×Unit)×(Unit)) :=
 some ((wi (Int.fdiv k (2 ^ min (40:Int).toNat IntKind.u64.bits)),wi (aoz (Int.fdiv k (2 ^ min (16:Int).toNat IntKind.u64.bits)) 16777215),wi (aoz k 65535),()),())
noncomputable abbrev atQ:Con SR1:=⟨253,[.sh sU_],[.sh sI_,.sh sI_,.sh sI_],fun x =>ava x.1⟩
theorem axA:CO Tryz.prog atQ:=aak aaj Tryz.func253 [] trivial [] trivial (fun _ =>[]) [] fun x =>by kernel_rfl
noncomputable def ag8 (x:Int):Option ((Int×Unit)×(Unit)) :=
 if 4294967296≤x then
 if 65536≤(Int.fdiv x (2 ^ min (32:Int).toNat IntKind.u64.bits)) then
 if 256≤(Int.fdiv (Int.fdiv x (2 ^ min (32:Int).toNat IntKind.u64.bits)) (2 ^ min (16:Int).toNat IntKind.u64.bits)) then
 if 0≤IntKind.u8.wrap (Int.fdiv (Int.fdiv (Int.fdiv x (2 ^ min (32:Int).toNat IntKind.u64.bits)) (2 ^ min (16:Int).toNat IntKind.u64.bits)) (2 ^ min (8:Int).toNat IntKind.u64.bits))∧IntKind.u8.wrap (Int.fdiv (Int.fdiv (Int.fdiv x (2 ^ min (32:Int).toNat IntKind.u64.bits)) (2 ^ min (16:Int).toNat IntKind.u64.bits)) (2 ^ min (8:Int).toNat IntKind.u64.bits))<((ajj.size:Nat):Int) then
 some ((wi ((wi (56+(wi ((((ajj[(IntKind.u8.wrap (Int.fdiv (Int.fdiv (Int.fdiv x (2 ^ min (32:Int).toNat IntKind.u64.bits)) (2 ^ min (16:Int).toNat IntKind.u64.bits)) (2 ^ min (8:Int).toNat IntKind.u64.bits))).toNat]?).map fun b =>((b.toNat:Nat):Int)).getD 0)))))-1),()),())
 else none
 else
 if 0≤IntKind.u8.wrap (Int.fdiv (Int.fdiv x (2 ^ min (32:Int).toNat IntKind.u64.bits)) (2 ^ min (16:Int).toNat IntKind.u64.bits))∧IntKind.u8.wrap (Int.fdiv (Int.fdiv x (2 ^ min (32:Int).toNat IntKind.u64.bits)) (2 ^ min (16:Int).toNat IntKind.u64.bits))<((ajj.size:Nat):Int) then
 some ((wi ((wi (48+(wi ((((ajj[(IntKind.u8.wrap (Int.fdiv (Int.fdiv x (2 ^ min (32:Int).toNat IntKind.u64.bits)) (2 ^ min (16:Int).toNat IntKind.u64.bits))).toNat]?).map fun b =>((b.toNat:Nat):Int)).getD 0)))))-1),()),())
 else none
 else
 if 256≤(Int.fdiv x (2 ^ min (32:Int).toNat IntKind.u64.bits)) then
 if 0≤IntKind.u8.wrap (Int.fdiv (Int.fdiv x (2 ^ min (32:Int).toNat IntKind.u64.bits)) (2 ^ min (8:Int).toNat IntKind.u64.bits))∧IntKind.u8.wrap (Int.fdiv (Int.fdiv x (2 ^ min (32:Int).toNat IntKind.u64.bits)) (2 ^ min (8:Int).toNat IntKind.u64.bits))<((ajj.size:Nat):Int) then
 some ((wi ((wi (40+(wi ((((ajj[(IntKind.u8.wrap (Int.fdiv (Int.fdiv x (2 ^ min (32:Int).toNat IntKind.u64.bits)) (2 ^ min (8:Int).toNat IntKind.u64.bits))).toNat]?).map fun b =>((b.toNat:Nat):Int)).getD 0)))))-1),()),())
 else none
 else
 if 0≤IntKind.u8.wrap (Int.fdiv x (2 ^ min (32:Int).toNat IntKind.u64.bits))∧IntKind.u8.wrap (Int.fdiv x (2 ^ min (32:Int).toNat IntKind.u64.bits))<((ajj.size:Nat):Int) then
 some ((wi ((wi (32+(wi ((((ajj[(IntKind.u8.wrap (Int.fdiv x (2 ^ min (32:Int).toNat IntKind.u64.bits))).toNat]?).map fun b =>((b.toNat:Nat):Int)).getD 0)))))-1),()),())
 else none
 else
 if 65536≤x then
 if 256≤(Int.fdiv x (2 ^ min (16:Int).toNat IntKind.u64.bits)) then
 if 0≤IntKind.u8.wrap (Int.fdiv (Int.fdiv x (2 ^ min (16:Int).toNat IntKind.u64.bits)) (2 ^ min (8:Int).toNat IntKind.u64.bits))∧IntKind.u8.wrap (Int.fdiv (Int.fdiv x (2 ^ min (16:Int).toNat IntKind.u64.bits)) (2 ^ min (8:Int).toNat IntKind.u64.bits))<((ajj.size:Nat):Int) then
 some ((wi ((wi (24+(wi ((((ajj[(IntKind.u8.wrap (Int.fdiv (Int.fdiv x (2 ^ min (16:Int).toNat IntKind.u64.bits)) (2 ^ min (8:Int).toNat IntKind.u64.bits))).toNat]?).map fun b =>((b.toNat:Nat):Int)).getD 0)))))-1),()),())
 else none
 else
 if 0≤IntKind.u8.wrap (Int.fdiv x (2 ^ min (16:Int).toNat IntKind.u64.bits))∧IntKind.u8.wrap (Int.fdiv x (2 ^ min (16:Int).toNat IntKind.u64.bits))<((ajj.size:Nat):Int) then
 some ((wi ((wi (16+(wi ((((ajj[(IntKind.u8.wrap (Int.fdiv x (2 ^ min (16:Int).toNat IntKind.u64.bits))).toNat]?).map fun b =>((b.toNat:Nat):Int)).getD 0)))))-1),()),())
 else none
 else
 if 256≤x then
 if 0≤IntKind.u8.wrap (Int.fdiv x (2 ^ min (8:Int).toNat IntKind.u64.bits))∧IntKind.u8.wrap (Int.fdiv x (2 ^ min (8:Int).toNat IntKind.u64.bits))<((ajj.size:Nat):Int) then
 some ((wi ((wi (8+(wi ((((ajj[(IntKind.u8.wrap (Int.fdiv x (2 ^ min (8:Int).toNat IntKind.u64.bits))).toNat]?).map fun b =>((b.toNat:Nat):Int)).getD 0)))))-1),()),())
 else none
 else
 if 0≤IntKind.u8.wrap (x)∧IntKind.u8.wrap (x)<((ajj.size:Nat):Int) then
 some ((wi ((wi (0+(wi ((((ajj[(IntKind.u8.wrap (x)).toNat]?).map fun b =>((b.toNat:Nat):Int)).getD 0)))))-1),()),())
 else none
noncomputable abbrev avf:Con SR1:=⟨233,[.sh sU_],[.sh sI_],fun x =>ag8 x.1⟩
noncomputable def aBE:List (Nat×Func):=[(235,Tryz.f235)]
theorem awz:CO Tryz.prog avf:=aak aaj Tryz.func233 [] trivial aBE ⟨Tryz.func235,trivial⟩ (fun _ =>[]) [] fun x =>by kernel_rfl
noncomputable def aex (y0:ProbeV) (y1:Int):Option ((Bool×Unit)×(ProbeV×Unit)) :=
 ((
 if y0.next<y1 then
 if y1≠0 then
 some (decide ((Int.tmod (wi (y0.start+y0.next)) y1)=y0.worker),())
 else none
 else
 some (false,())
 ):Option (Bool×Unit)).bind fun z1 =>
 if z1.1=true then
 some ((decide (y1≤(wi (y0.next+1))),()),(({ y0 with next:=wi (y0.next+1) }:ProbeV),()))
 else
 some ((decide (y1≤y0.next),()),(y0,()))
noncomputable abbrev aiV:Con SR1:=⟨241,[.ref 46,.sh sI_],[.sh .b],fun x =>aex x.1 x.2.1⟩
theorem am3:CO Tryz.prog aiV:=aak aaj Tryz.func241 [] trivial [] trivial (fun _ =>[]) [(2,.cut [.rg 28 .b] [0])] fun x =>by kernel_rfl
noncomputable def abk (y0:ProbeV) (y1:EnvP):Option ((Bool×Unit)×(ProbeV×EnvP×Unit)) :=
 (aav y0.o).bind fun r1 =>
 if r1.1.1=true then
 some ((true,()),(({ y0 with o:=r1.2.1 }:ProbeV),y1,()))
 else
 ((
 if (!y0.begun)=true then
 (aBH y1.k (if 16<y1.c.workers then 16 else y1.c.workers)).bind fun r2 =>
 some (({ y0 with o:=r1.2.1,begun:=true,start:=r2.1.1 }:ProbeV),({ y1 with k:=r2.2.1 }:EnvP),())
 else
 some (({ y0 with o:=r1.2.1 }:ProbeV),y1,())
 ):Option (ProbeV×EnvP×Unit)).bind fun z3 =>
 (aex z3.1 (if 16<y1.c.workers then 16 else y1.c.workers)).bind fun r4 =>
 if r4.1.1=true then
 (abh r4.2.1.o 2 0).bind fun r5 =>
 some ((r5.1.1,()),(({ r4.2.1 with o:=r5.2.1 }:ProbeV),z3.2.1,()))
 else
 if (if 16<y1.c.workers then 16 else y1.c.workers)≠0 then
 ((
 (ahs z3.2.1.l (Int.tmod (wi (r4.2.1.start+r4.2.1.next)) (if 16<y1.c.workers then 16 else y1.c.workers))).bind fun r6 =>
 (acG z3.2.1.m r6.1.1).bind fun r7 =>
 if (Int.tmod (wi (r4.2.1.start+r4.2.1.next)) (if 16<y1.c.workers then 16 else y1.c.workers))=((15:Nat):Int) then
 some (({ r4.2.1 with bm:={ r4.2.1.bm with b15:=r7.1.1 } }:ProbeV),({ z3.2.1 with m:=r7.2.1 }:EnvP),())
 else
 if (Int.tmod (wi (r4.2.1.start+r4.2.1.next)) (if 16<y1.c.workers then 16 else y1.c.workers))=((14:Nat):Int) then
 some (({ r4.2.1 with bm:={ r4.2.1.bm with b14:=r7.1.1 } }:ProbeV),({ z3.2.1 with m:=r7.2.1 }:EnvP),())
 else
 if (Int.tmod (wi (r4.2.1.start+r4.2.1.next)) (if 16<y1.c.workers then 16 else y1.c.workers))=((13:Nat):Int) then
 some (({ r4.2.1 with bm:={ r4.2.1.bm with b13:=r7.1.1 } }:ProbeV),({ z3.2.1 with m:=r7.2.1 }:EnvP),())
 else
 if (Int.tmod (wi (r4.2.1.start+r4.2.1.next)) (if 16<y1.c.workers then 16 else y1.c.workers))=((12:Nat):Int) then
 some (({ r4.2.1 with bm:={ r4.2.1.bm with b12:=r7.1.1 } }:ProbeV),({ z3.2.1 with m:=r7.2.1 }:EnvP),())
 else
 if (Int.tmod (wi (r4.2.1.start+r4.2.1.next)) (if 16<y1.c.workers then 16 else y1.c.workers))=((11:Nat):Int) then
 some (({ r4.2.1 with bm:={ r4.2.1.bm with b11:=r7.1.1 } }:ProbeV),({ z3.2.1 with m:=r7.2.1 }:EnvP),())
 else
 if (Int.tmod (wi (r4.2.1.start+r4.2.1.next)) (if 16<y1.c.workers then 16 else y1.c.workers))=((10:Nat):Int) then
 some (({ r4.2.1 with bm:={ r4.2.1.bm with b10:=r7.1.1 } }:ProbeV),({ z3.2.1 with m:=r7.2.1 }:EnvP),())
 else
 if (Int.tmod (wi (r4.2.1.start+r4.2.1.next)) (if 16<y1.c.workers then 16 else y1.c.workers))=((9:Nat):Int) then
 some (({ r4.2.1 with bm:={ r4.2.1.bm with b9:=r7.1.1 } }:ProbeV),({ z3.2.1 with m:=r7.2.1 }:EnvP),())
 else
 if (Int.tmod (wi (r4.2.1.start+r4.2.1.next)) (if 16<y1.c.workers then 16 else y1.c.workers))=((8:Nat):Int) then
 some (({ r4.2.1 with bm:={ r4.2.1.bm with b8:=r7.1.1 } }:ProbeV),({ z3.2.1 with m:=r7.2.1 }:EnvP),())
 else
 if (Int.tmod (wi (r4.2.1.start+r4.2.1.next)) (if 16<y1.c.workers then 16 else y1.c.workers))=((7:Nat):Int) then
 some (({ r4.2.1 with bm:={ r4.2.1.bm with b7:=r7.1.1 } }:ProbeV),({ z3.2.1 with m:=r7.2.1 }:EnvP),())
 else
 if (Int.tmod (wi (r4.2.1.start+r4.2.1.next)) (if 16<y1.c.workers then 16 else y1.c.workers))=((6:Nat):Int) then
 some (({ r4.2.1 with bm:={ r4.2.1.bm with b6:=r7.1.1 } }:ProbeV),({ z3.2.1 with m:=r7.2.1 }:EnvP),())
 else
 if (Int.tmod (wi (r4.2.1.start+r4.2.1.next)) (if 16<y1.c.workers then 16 else y1.c.workers))=((5:Nat):Int) then
 some (({ r4.2.1 with bm:={ r4.2.1.bm with b5:=r7.1.1 } }:ProbeV),({ z3.2.1 with m:=r7.2.1 }:EnvP),())
 else
 if (Int.tmod (wi (r4.2.1.start+r4.2.1.next)) (if 16<y1.c.workers then 16 else y1.c.workers))=((4:Nat):Int) then
 some (({ r4.2.1 with bm:={ r4.2.1.bm with b4:=r7.1.1 } }:ProbeV),({ z3.2.1 with m:=r7.2.1 }:EnvP),())
 else
 if (Int.tmod (wi (r4.2.1.start+r4.2.1.next)) (if 16<y1.c.workers then 16 else y1.c.workers))=((3:Nat):Int) then
 some (({ r4.2.1 with bm:={ r4.2.1.bm with b3:=r7.1.1 } }:ProbeV),({ z3.2.1 with m:=r7.2.1 }:EnvP),())
 else
 if (Int.tmod (wi (r4.2.1.start+r4.2.1.next)) (if 16<y1.c.workers then 16 else y1.c.workers))=((2:Nat):Int) then
 some (({ r4.2.1 with bm:={ r4.2.1.bm with b2:=r7.1.1 } }:ProbeV),({ z3.2.1 with m:=r7.2.1 }:EnvP),())
 else
 if (Int.tmod (wi (r4.2.1.start+r4.2.1.next)) (if 16<y1.c.workers then 16 else y1.c.workers))=((1:Nat):Int) then
 some (({ r4.2.1 with bm:={ r4.2.1.bm with b1:=r7.1.1 } }:ProbeV),({ z3.2.1 with m:=r7.2.1 }:EnvP),())
 else
 if (Int.tmod (wi (r4.2.1.start+r4.2.1.next)) (if 16<y1.c.workers then 16 else y1.c.workers))=((0:Nat):Int) then
 some (({ r4.2.1 with bm:={ r4.2.1.bm with b0:=r7.1.1 } }:ProbeV),({ z3.2.1 with m:=r7.2.1 }:EnvP),())
 else
 none
 ):Option (ProbeV×EnvP×Unit)).bind fun z8 =>
 (aex ({ z8.1 with next:=wi (z8.1.next+1) }:ProbeV) (if 16<y1.c.workers then 16 else y1.c.workers)).bind fun r9 =>
 if (!r9.1.1)=true then
 some ((false,()),(r9.2.1,z8.2.1,()))
 else
 if 0≤(if 16<y1.c.workers then 16 else y1.c.workers)∧(if 16<y1.c.workers then 16 else y1.c.workers)≤((16:Nat):Int) then
 (lpF (σ:=Int×Int×Int×ProbeV×Unit) (β:=Int×Int×Int×ProbeV×Unit) (fun self12 x10 =>
 if x10.2.2.1<((((if 16<y1.c.workers then 16 else y1.c.workers)).toNat:Nat):Int) then
 (aAL r9.2.1.start ((((if 16<y1.c.workers then 16 else y1.c.workers)).toNat:Nat):Int)).bind fun r13 =>
 if ((((if 16<y1.c.workers then 16 else y1.c.workers)).toNat:Nat):Int)≠0 then
 ((
 if (Int.tmod (wi (r13.1.1+x10.2.2.1)) ((((if 16<y1.c.workers then 16 else y1.c.workers)).toNat:Nat):Int))<(if 16<y1.c.workers then 16 else y1.c.workers) then
 if (Int.tmod (wi (r13.1.1+x10.2.2.1)) ((((if 16<y1.c.workers then 16 else y1.c.workers)).toNat:Nat):Int))=((15:Nat):Int) then
 (ag8 x10.2.2.2.1.bm.b15).bind fun r14 =>
 some (r14.1.1,x10.2.2.2.1,())
 else
 if (Int.tmod (wi (r13.1.1+x10.2.2.1)) ((((if 16<y1.c.workers then 16 else y1.c.workers)).toNat:Nat):Int))=((14:Nat):Int) then
 (ag8 x10.2.2.2.1.bm.b14).bind fun r15 =>
 some (r15.1.1,x10.2.2.2.1,())
 else
 if (Int.tmod (wi (r13.1.1+x10.2.2.1)) ((((if 16<y1.c.workers then 16 else y1.c.workers)).toNat:Nat):Int))=((13:Nat):Int) then
 (ag8 x10.2.2.2.1.bm.b13).bind fun r16 =>
 some (r16.1.1,x10.2.2.2.1,())
 else
 if (Int.tmod (wi (r13.1.1+x10.2.2.1)) ((((if 16<y1.c.workers then 16 else y1.c.workers)).toNat:Nat):Int))=((12:Nat):Int) then
 (ag8 x10.2.2.2.1.bm.b12).bind fun r17 =>
 some (r17.1.1,x10.2.2.2.1,())
 else
 if (Int.tmod (wi (r13.1.1+x10.2.2.1)) ((((if 16<y1.c.workers then 16 else y1.c.workers)).toNat:Nat):Int))=((11:Nat):Int) then
 (ag8 x10.2.2.2.1.bm.b11).bind fun r18 =>
 some (r18.1.1,x10.2.2.2.1,())
 else
 if (Int.tmod (wi (r13.1.1+x10.2.2.1)) ((((if 16<y1.c.workers then 16 else y1.c.workers)).toNat:Nat):Int))=((10:Nat):Int) then
 (ag8 x10.2.2.2.1.bm.b10).bind fun r19 =>
 some (r19.1.1,x10.2.2.2.1,())
 else
 if (Int.tmod (wi (r13.1.1+x10.2.2.1)) ((((if 16<y1.c.workers then 16 else y1.c.workers)).toNat:Nat):Int))=((9:Nat):Int) then
 (ag8 x10.2.2.2.1.bm.b9).bind fun r20 =>
 some (r20.1.1,x10.2.2.2.1,())
 else
 if (Int.tmod (wi (r13.1.1+x10.2.2.1)) ((((if 16<y1.c.workers then 16 else y1.c.workers)).toNat:Nat):Int))=((8:Nat):Int) then
 (ag8 x10.2.2.2.1.bm.b8).bind fun r21 =>
 some (r21.1.1,x10.2.2.2.1,())
 else
 if (Int.tmod (wi (r13.1.1+x10.2.2.1)) ((((if 16<y1.c.workers then 16 else y1.c.workers)).toNat:Nat):Int))=((7:Nat):Int) then
 (ag8 x10.2.2.2.1.bm.b7).bind fun r22 =>
 some (r22.1.1,x10.2.2.2.1,())
 else
 if (Int.tmod (wi (r13.1.1+x10.2.2.1)) ((((if 16<y1.c.workers then 16 else y1.c.workers)).toNat:Nat):Int))=((6:Nat):Int) then
 (ag8 x10.2.2.2.1.bm.b6).bind fun r23 =>
 some (r23.1.1,x10.2.2.2.1,())
 else
 if (Int.tmod (wi (r13.1.1+x10.2.2.1)) ((((if 16<y1.c.workers then 16 else y1.c.workers)).toNat:Nat):Int))=((5:Nat):Int) then
 (ag8 x10.2.2.2.1.bm.b5).bind fun r24 =>
 some (r24.1.1,x10.2.2.2.1,())
 else
 if (Int.tmod (wi (r13.1.1+x10.2.2.1)) ((((if 16<y1.c.workers then 16 else y1.c.workers)).toNat:Nat):Int))=((4:Nat):Int) then
 (ag8 x10.2.2.2.1.bm.b4).bind fun r25 =>
 some (r25.1.1,x10.2.2.2.1,())
 else
 if (Int.tmod (wi (r13.1.1+x10.2.2.1)) ((((if 16<y1.c.workers then 16 else y1.c.workers)).toNat:Nat):Int))=((3:Nat):Int) then
 (ag8 x10.2.2.2.1.bm.b3).bind fun r26 =>
 some (r26.1.1,x10.2.2.2.1,())
 else
 if (Int.tmod (wi (r13.1.1+x10.2.2.1)) ((((if 16<y1.c.workers then 16 else y1.c.workers)).toNat:Nat):Int))=((2:Nat):Int) then
 (ag8 x10.2.2.2.1.bm.b2).bind fun r27 =>
 some (r27.1.1,x10.2.2.2.1,())
 else
 if (Int.tmod (wi (r13.1.1+x10.2.2.1)) ((((if 16<y1.c.workers then 16 else y1.c.workers)).toNat:Nat):Int))=((1:Nat):Int) then
 (ag8 x10.2.2.2.1.bm.b1).bind fun r28 =>
 some (r28.1.1,x10.2.2.2.1,())
 else
 if (Int.tmod (wi (r13.1.1+x10.2.2.1)) ((((if 16<y1.c.workers then 16 else y1.c.workers)).toNat:Nat):Int))=((0:Nat):Int) then
 (ag8 x10.2.2.2.1.bm.b0).bind fun r29 =>
 some (r29.1.1,x10.2.2.2.1,())
 else
 none
 else none
 ):Option (Int×ProbeV×Unit)).bind fun z30 =>
 if (Int.tmod (wi (r13.1.1+x10.2.2.1)) ((((if 16<y1.c.workers then 16 else y1.c.workers)).toNat:Nat):Int))≠r9.2.1.worker then
 if x10.2.1<z30.1 then
 self12 ((Int.tmod (wi (r13.1.1+x10.2.2.1)) ((((if 16<y1.c.workers then 16 else y1.c.workers)).toNat:Nat):Int)),z30.1,wi (x10.2.2.1+1),z30.2.1,())
 else
 self12 (x10.1,x10.2.1,wi (x10.2.2.1+1),z30.2.1,())
 else
 self12 (x10.1,x10.2.1,wi (x10.2.2.1+1),z30.2.1,())
 else none
 else
 some (x10.1,x10.2.1,x10.2.2.1,x10.2.2.2.1,())
 ) 18446744073709551616 ((-1),(-1),0,r9.2.1,())).bind fun z11 =>
 if z11.1<0 then
 (abh z11.2.2.2.1.o 2 0).bind fun r31 =>
 some ((r31.1.1,()),(({ z11.2.2.2.1 with o:=r31.2.1 }:ProbeV),z8.2.1,()))
 else
 (abh z11.2.2.2.1.o 1 (wi ((wi (z11.1*64))+z11.2.1))).bind fun r32 =>
 some ((r32.1.1,()),(({ z11.2.2.2.1 with o:=r32.2.1 }:ProbeV),z8.2.1,()))
 else none
 else none
noncomputable abbrev aoe:Con SR1:=⟨239,[.ref 46,.ref 27],[.sh .b],fun x =>abk x.1 x.2.1⟩
noncomputable def am1:List (Nat×Func):=[(242,Tryz.f242)]
theorem am2:CO Tryz.prog aoe:=aak aaj Tryz.func239 [abn,ayU,aiV,acN,agZ,acM,atS,avf] ⟨aa6,aBF,am3,abz,agJ,abT,arY,awz,trivial⟩ am1 ⟨Tryz.func242,trivial⟩ (fun f =>(get [(242,[(4,.loop [.rg 6 sI_,.rg 7 sI_,.rg 15 sI_,.ob 0 46] 18446744073709551616 0),(8,.cut [.rg 11 sI_,.ob 0 46] [])])] f).getD []) [(6,.cut [.ob 0 46,.ob 1 27] []),(10,.cut [.ob 0 46,.ob 1 27] [])] fun x =>by kernel_rfl
noncomputable def afj (y0:EnvP) (y1:Int):Option ((Bool×Unit)×(EnvP×Unit)) :=
 if 0≤y1 then
 some ((decide (y1<y0.c.tasks),()),(y0,()))
 else
 some ((false,()),(y0,()))
noncomputable abbrev agx:Con SR1:=⟨172,[.ref 27,.sh sI_],[.sh .b],fun x =>afj x.1 x.2.1⟩
theorem ahq:CO Tryz.prog agx:=aak aaj Tryz.func172 [] trivial [] trivial (fun _ =>[]) [] fun x =>by kernel_rfl
noncomputable def ab2 (y0:AllocV) (y1:EnvP):Option ((Bool×Unit)×(AllocV×EnvP×Unit)) :=
 (aav y0.o).bind fun r1 =>
 if r1.1.1=true then
 some ((true,()),((⟨r1.2.1⟩:AllocV),y1,()))
 else
 (aBC y1.l).bind fun r2 =>
 (aFR y1.m r2.1.1 1).bind fun r3 =>
 (afj ({ y1 with m:=r3.2.1 }:EnvP) (wi (r3.1.1))).bind fun r4 =>
 if (!r4.1.1)=true then
 (abh r1.2.1 3 0).bind fun r5 =>
 some ((r5.1.1,()),((⟨r5.2.1⟩:AllocV),r4.2.1,()))
 else
 (abh r1.2.1 1 (wi (r3.1.1))).bind fun r6 =>
 some ((r6.1.1,()),((⟨r6.2.1⟩:AllocV),r4.2.1,()))
noncomputable abbrev ak2:Con SR1:=⟨170,[.ref 35,.ref 27],[.sh .b],fun x =>ab2 x.1 x.2.1⟩
theorem akv:CO Tryz.prog ak2:=aak aaj Tryz.func170 [abn,avc,awF,agx,acN] ⟨aa6,aww,avk,ahq,abz,trivial⟩ [] trivial (fun _ =>[]) [] fun x =>by kernel_rfl
noncomputable def abO (y0:PublishV) (y1:EnvP):Option ((Bool×Unit)×(PublishV×EnvP×Unit)) :=
 (aav y0.o).bind fun r1 =>
 if r1.1.1=true then
 some ((true,()),(({ y0 with o:=r1.2.1 }:PublishV),y1,()))
 else
 (afj y1 y0.task).bind fun r2 =>
 if (!r2.1.1)=true then
 (abh r1.2.1 4 0).bind fun r3 =>
 some ((r3.1.1,()),(({ y0 with o:=r3.2.1 }:PublishV),r2.2.1,()))
 else
 if y0.line=1 then
 (afb r2.2.1.l y0.task).bind fun r4 =>
 if y0.level=y0.level then
 (aa3 r2.2.1.m r4.1.1 (wu (y0.level))).bind fun r5 =>
 some ((false,()),(({ y0 with o:=r1.2.1,line:=wi (y0.line+1) }:PublishV),({ r2.2.1 with m:=r5.2.1 }:EnvP),()))
 else none
 else
 if y0.line=2 then
 (aiX r2.2.1.l y0.task).bind fun r6 =>
 (arX r2.2.1.k).bind fun r7 =>
 (aa3 r2.2.1.m r6.1.1 (wu (r7.1.1))).bind fun r8 =>
 some ((false,()),(({ y0 with o:=r1.2.1,line:=wi (y0.line+1) }:PublishV),({ r2.2.1 with m:=r8.2.1,k:=r7.2.1 }:EnvP),()))
 else
 (ad8 r2.2.1.l y0.task).bind fun r9 =>
 (aa3 r2.2.1.m r9.1.1 1).bind fun r10 =>
 (abh r1.2.1 0 0).bind fun r11 =>
 some ((r11.1.1,()),(({ y0 with o:=r11.2.1 }:PublishV),({ r2.2.1 with m:=r10.2.1 }:EnvP),()))
noncomputable abbrev alw:Con SR1:=⟨263,[.ref 50,.ref 27],[.sh .b],fun x =>abO x.1 x.2.1⟩
theorem ak1:CO Tryz.prog alw:=aak aaj Tryz.func263 [abn,agx,acN,agB,adY,aka,anT,afz] ⟨aa6,ahq,abz,afL,adt,ajv,ak8,aeZ,trivial⟩ [] trivial (fun _ =>[]) [] fun x =>by kernel_rfl
noncomputable def adh (y0:ClaimV) (y1:EnvP):Option ((Bool×Unit)×(ClaimV×EnvP×Unit)) :=
 (aav y0.o).bind fun r1 =>
 if r1.1.1=true then
 some ((true,()),(({ y0 with o:=r1.2.1 }:ClaimV),y1,()))
 else
 if y0.task=y0.task then
 if y0.worker=y0.worker then
 (ad8 y1.l y0.task).bind fun r2 =>
 (atb y1.m r2.1.1 1 2).bind fun r3 =>
 if (!r3.1.1)=true then
 (aep ({ y1 with m:=r3.2.1 }:EnvP) ({ y0 with kind:=15,other:=0,level:=0 }:Ev)).bind fun r4 =>
 (abh r1.2.1 4 0).bind fun r5 =>
 some ((r5.1.1,()),(({ y0 with o:=r5.2.1 }:ClaimV),r4.2.1,()))
 else
 if 0≤y0.task∧y0.task<((y1.recs.length:Nat):Int) then
 if (aab y1.recs y0.task).started=true then
 (aep ({ y1 with m:=r3.2.1 }:EnvP) ({ y0 with kind:=9,other:=0,level:=0 }:Ev)).bind fun r6 =>
 (abh r1.2.1 1 y0.task).bind fun r7 =>
 some ((r7.1.1,()),(({ y0 with o:=r7.2.1 }:ClaimV),r6.2.1,()))
 else
 (aep ({ y1 with m:=r3.2.1,recs:=y1.recs.set y0.task.toNat ({ aab y1.recs y0.task with started:=true }:RecP) }:EnvP) ({ y0 with kind:=5,other:=0,level:=0 }:Ev)).bind fun r8 =>
 (abh r1.2.1 1 y0.task).bind fun r9 =>
 some ((r9.1.1,()),(({ y0 with o:=r9.2.1 }:ClaimV),r8.2.1,()))
 else none
 else none
 else none
noncomputable abbrev an7:Con SR1:=⟨237,[.ref 45,.ref 27],[.sh .b],fun x =>adh x.1 x.2.1⟩
theorem amN:CO Tryz.prog an7:=aak aaj Tryz.func237 [abn,afz,al0,afn,acN] ⟨aa6,aeZ,ajA,aeD,abz,trivial⟩ [] trivial (fun _ =>[]) [] fun x =>by kernel_rfl
noncomputable def acR (y0:AttemptV) (y1:EnvP):Option ((Bool×Unit)×(AttemptV×EnvP×Unit)) :=
 (aav y0.o).bind fun r1 =>
 if r1.1.1=true then
 some ((true,()),(({ y0 with o:=r1.2.1 }:AttemptV),y1,()))
 else
 (ayT y1.l).bind fun r2 =>
 if y0.owner=y0.owner then
 (atb y1.m r2.1.1 0 (wu (wi (y0.owner+1)))).bind fun r3 =>
 if r3.1.1=true then
 (abh r1.2.1 1 0).bind fun r4 =>
 some ((r4.1.1,()),(({ y0 with o:=r4.2.1 }:AttemptV),({ y1 with m:=r3.2.1 }:EnvP),()))
 else
 if y0.once=true then
 (abh r1.2.1 5 0).bind fun r5 =>
 some ((r5.1.1,()),(({ y0 with o:=r5.2.1 }:AttemptV),({ y1 with m:=r3.2.1 }:EnvP),()))
 else
 some ((false,()),(({ y0 with o:=r1.2.1 }:AttemptV),({ y1 with m:=r3.2.1 }:EnvP),()))
 else none
noncomputable abbrev anh:Con SR1:=⟨165,[.ref 34,.ref 27],[.sh .b],fun x =>acR x.1 x.2.1⟩
theorem amd:CO Tryz.prog anh:=aak aaj Tryz.func165 [abn,avd,al0,acN] ⟨aa6,awx,ajA,abz,trivial⟩ [] trivial (fun _ =>[]) [] fun x =>by kernel_rfl
noncomputable def acQ (y0:ReleaseV) (y1:EnvP):Option ((Bool×Unit)×(ReleaseV×EnvP×Unit)) :=
 (aav y0.o).bind fun r1 =>
 if r1.1.1=true then
 some ((true,()),((⟨r1.2.1⟩:ReleaseV),y1,()))
 else
 (ayT y1.l).bind fun r2 =>
 (aa3 y1.m r2.1.1 0).bind fun r3 =>
 (abh r1.2.1 0 0).bind fun r4 =>
 some ((r4.1.1,()),((⟨r4.2.1⟩:ReleaseV),({ y1 with m:=r3.2.1 }:EnvP),()))
noncomputable abbrev anf:Con SR1:=⟨180,[.ref 37,.ref 27],[.sh .b],fun x =>acQ x.1 x.2.1⟩
theorem amc:CO Tryz.prog anf:=aak aaj Tryz.func180 [abn,avd,adY,acN] ⟨aa6,awx,adt,abz,trivial⟩ [] trivial (fun _ =>[]) [] fun x =>by kernel_rfl
noncomputable def adF (y0:OPushV) (y1:EnvP):Option ((Bool×Unit)×(OPushV×EnvP×Unit)) :=
 (aav y0.o).bind fun r1 =>
 if r1.1.1=true then
 some ((true,()),(({ y0 with o:=r1.2.1 }:OPushV),y1,()))
 else
 if y0.line=1 then
 (acG y1.m y0.q.bottom).bind fun r2 =>
 some ((false,()),(({ y0 with o:=r1.2.1,line:=wi (y0.line+1),b:=r2.1.1 }:OPushV),({ y1 with m:=r2.2.1 }:EnvP),()))
 else
 if y0.line=2 then
 (acG y1.m y0.q.top).bind fun r3 =>
 (avb y0.b r3.1.1).bind fun r4 =>
 if y0.q.cap=y0.q.cap then
 if y0.q.cap≤r4.1.1 then
 (abh r1.2.1 3 0).bind fun r5 =>
 some ((r5.1.1,()),(({ y0 with o:=r5.2.1 }:OPushV),({ y1 with m:=r3.2.1 }:EnvP),()))
 else
 some ((false,()),(({ y0 with o:=r1.2.1,line:=wi (y0.line+1) }:OPushV),({ y1 with m:=r3.2.1 }:EnvP),()))
 else none
 else
 if y0.line=3 then
 (avg y0.q y0.b).bind fun r6 =>
 if y0.value=y0.value then
 (aa3 y1.m r6.1.1 (wu (y0.value))).bind fun r7 =>
 some ((false,()),(({ y0 with o:=r1.2.1,line:=wi (y0.line+1) }:OPushV),({ y1 with m:=r7.2.1 }:EnvP),()))
 else none
 else
 (aa3 y1.m y0.q.bottom (wu (y0.b+1))).bind fun r8 =>
 (abh r1.2.1 0 0).bind fun r9 =>
 some ((r9.1.1,()),(({ y0 with o:=r9.2.1 }:OPushV),({ y1 with m:=r8.2.1 }:EnvP),()))
noncomputable abbrev apH:Con SR1:=⟨268,[.ref 53,.ref 27],[.sh .b],fun x =>adF x.1 x.2.1⟩
theorem aol:CO Tryz.prog apH:=aak aaj Tryz.func268 [abn,acM,am9,acN,ar1,adY] ⟨aa6,abT,alY,abz,ar0,adt,trivial⟩ [] trivial (fun _ =>[]) [] fun x =>by kernel_rfl
noncomputable def aht (y0:OPopV) (y1:EnvP):Option ((Int×Unit)×(OPopV×EnvP×Unit)) :=
 (acG y1.m y0.q.top).bind fun r1 =>
 (avb (wu (y0.b-1)) r1.1.1).bind fun r2 =>
 if 0<r2.1.1 then
 some ((5,()),(({ y0 with t:=r1.1.1 }:OPopV),({ y1 with m:=r1.2.1 }:EnvP),()))
 else
 if r2.1.1=0 then
 some ((6,()),(({ y0 with t:=r1.1.1 }:OPopV),({ y1 with m:=r1.2.1 }:EnvP),()))
 else
 some ((9,()),(({ y0 with t:=r1.1.1 }:OPopV),({ y1 with m:=r1.2.1 }:EnvP),()))
noncomputable abbrev aiY:Con SR1:=⟨266,[.ref 52,.ref 27],[.sh sI_],fun x =>aht x.1 x.2.1⟩
theorem anc:CO Tryz.prog aiY:=aak aaj Tryz.func266 [acM,am9] ⟨abT,alY,trivial⟩ [] trivial (fun _ =>[]) [] fun x =>by kernel_rfl
noncomputable def ad9 (y0:OPopV) (y1:EnvP):Option ((Bool×Unit)×(OPopV×EnvP×Unit)) :=
 (aav y0.o).bind fun r1 =>
 if r1.1.1=true then
 some ((true,()),(({ y0 with o:=r1.2.1 }:OPopV),y1,()))
 else
 if y0.line=1 then
 (acG y1.m y0.q.bottom).bind fun r2 =>
 some ((false,()),(({ y0 with o:=r1.2.1,line:=wi (y0.line+1),b:=r2.1.1 }:OPopV),({ y1 with m:=r2.2.1 }:EnvP),()))
 else
 if y0.line=2 then
 (acG y1.m y0.q.top).bind fun r3 =>
 (avb y0.b r3.1.1).bind fun r4 =>
 if r4.1.1≤0 then
 (abh r1.2.1 2 0).bind fun r5 =>
 some ((r5.1.1,()),(({ y0 with o:=r5.2.1,t:=r3.1.1 }:OPopV),({ y1 with m:=r3.2.1 }:EnvP),()))
 else
 some ((false,()),(({ y0 with o:=r1.2.1,line:=wi (y0.line+1),t:=r3.1.1 }:OPopV),({ y1 with m:=r3.2.1 }:EnvP),()))
 else
 if y0.line=3 then
 (aa3 y1.m y0.q.bottom (wu (y0.b-1))).bind fun r6 =>
 some ((false,()),(({ y0 with o:=r1.2.1,line:=wi (y0.line+1) }:OPopV),({ y1 with m:=r6.2.1 }:EnvP),()))
 else
 if y0.line=4 then
 (aht ({ y0 with o:=r1.2.1 }:OPopV) y1).bind fun r7 =>
 some ((false,()),(({ r7.2.1 with line:=r7.1.1 }:OPopV),r7.2.2.1,()))
 else
 if y0.line=5 then
 if y0.line=5 then
 (avg y0.q (wu (y0.b-1))).bind fun r8 =>
 (acG y1.m r8.1.1).bind fun r9 =>
 (abh r1.2.1 1 (wi (r9.1.1))).bind fun r10 =>
 some ((r10.1.1,()),(({ y0 with o:=r10.2.1 }:OPopV),({ y1 with m:=r9.2.1 }:EnvP),()))
 else
 if y0.line=6 then
 (atb y1.m y0.q.top y0.t (wu (y0.t+1))).bind fun r11 =>
 if (!r11.1.1)=true then
 some ((false,()),(({ y0 with o:=r1.2.1,line:=9 }:OPopV),({ y1 with m:=r11.2.1 }:EnvP),()))
 else
 some ((false,()),(({ y0 with o:=r1.2.1,line:=wi (y0.line+1) }:OPopV),({ y1 with m:=r11.2.1 }:EnvP),()))
 else
 if y0.line=7 then
 (aa3 y1.m y0.q.bottom y0.b).bind fun r12 =>
 some ((false,()),(({ y0 with o:=r1.2.1,line:=wi (y0.line+1) }:OPopV),({ y1 with m:=r12.2.1 }:EnvP),()))
 else
 (aa3 y1.m y0.q.bottom y0.b).bind fun r13 =>
 (abh r1.2.1 2 0).bind fun r14 =>
 some ((r14.1.1,()),(({ y0 with o:=r14.2.1 }:OPopV),({ y1 with m:=r13.2.1 }:EnvP),()))
 else
 if y0.line=8 then
 (avg y0.q (wu (y0.b-1))).bind fun r15 =>
 (acG y1.m r15.1.1).bind fun r16 =>
 (abh r1.2.1 1 (wi (r16.1.1))).bind fun r17 =>
 some ((r17.1.1,()),(({ y0 with o:=r17.2.1 }:OPopV),({ y1 with m:=r16.2.1 }:EnvP),()))
 else
 if y0.line=6 then
 (atb y1.m y0.q.top y0.t (wu (y0.t+1))).bind fun r18 =>
 if (!r18.1.1)=true then
 some ((false,()),(({ y0 with o:=r1.2.1,line:=9 }:OPopV),({ y1 with m:=r18.2.1 }:EnvP),()))
 else
 some ((false,()),(({ y0 with o:=r1.2.1,line:=wi (y0.line+1) }:OPopV),({ y1 with m:=r18.2.1 }:EnvP),()))
 else
 if y0.line=7 then
 (aa3 y1.m y0.q.bottom y0.b).bind fun r19 =>
 some ((false,()),(({ y0 with o:=r1.2.1,line:=wi (y0.line+1) }:OPopV),({ y1 with m:=r19.2.1 }:EnvP),()))
 else
 (aa3 y1.m y0.q.bottom y0.b).bind fun r20 =>
 (abh r1.2.1 2 0).bind fun r21 =>
 some ((r21.1.1,()),(({ y0 with o:=r21.2.1 }:OPopV),({ y1 with m:=r20.2.1 }:EnvP),()))
noncomputable abbrev aqI:Con SR1:=⟨265,[.ref 52,.ref 27],[.sh .b],fun x =>ad9 x.1 x.2.1⟩
theorem apJ:CO Tryz.prog aqI:=aak aaj Tryz.func265 [abn,acM,am9,acN,adY,aiY,ar1,al0] ⟨aa6,abT,alY,abz,adt,anc,ar0,ajA,trivial⟩ [] trivial (fun _ =>[]) [] fun x =>by kernel_rfl
noncomputable def adg (y0:StealV) (y1:EnvP):Option ((Bool×Unit)×(StealV×EnvP×Unit)) :=
 (aav y0.o).bind fun r1 =>
 if r1.1.1=true then
 some ((true,()),(({ y0 with o:=r1.2.1 }:StealV),y1,()))
 else
 if y0.line=1 then
 (acG y1.m y0.q.top).bind fun r2 =>
 some ((false,()),(({ y0 with o:=r1.2.1,line:=wi (y0.line+1),t:=r2.1.1 }:StealV),({ y1 with m:=r2.2.1 }:EnvP),()))
 else
 if y0.line=2 then
 (acG y1.m y0.q.bottom).bind fun r3 =>
 (avb r3.1.1 y0.t).bind fun r4 =>
 if r4.1.1≤0 then
 (abh r1.2.1 2 0).bind fun r5 =>
 some ((r5.1.1,()),(({ y0 with o:=r5.2.1 }:StealV),({ y1 with m:=r3.2.1 }:EnvP),()))
 else
 some ((false,()),(({ y0 with o:=r1.2.1,line:=wi (y0.line+1) }:StealV),({ y1 with m:=r3.2.1 }:EnvP),()))
 else
 if y0.line=3 then
 (avg y0.q y0.t).bind fun r6 =>
 (acG y1.m r6.1.1).bind fun r7 =>
 some ((false,()),(({ y0 with o:=r1.2.1,line:=wi (y0.line+1),value:=r7.1.1 }:StealV),({ y1 with m:=r7.2.1 }:EnvP),()))
 else
 (atb y1.m y0.q.top y0.t (wu (y0.t+1))).bind fun r8 =>
 if r8.1.1=true then
 (abh r1.2.1 1 (wi (y0.value))).bind fun r9 =>
 some ((r9.1.1,()),(({ y0 with o:=r9.2.1 }:StealV),({ y1 with m:=r8.2.1 }:EnvP),()))
 else
 (abh r1.2.1 4 0).bind fun r10 =>
 some ((r10.1.1,()),(({ y0 with o:=r10.2.1 }:StealV),({ y1 with m:=r8.2.1 }:EnvP),()))
noncomputable abbrev an5:Con SR1:=⟨205,[.ref 42,.ref 27],[.sh .b],fun x =>adg x.1 x.2.1⟩
theorem amK:CO Tryz.prog an5:=aak aaj Tryz.func205 [abn,acM,am9,acN,ar1,al0] ⟨aa6,abT,alY,abz,ar0,ajA,trivial⟩ [] trivial (fun _ =>[]) [] fun x =>by kernel_rfl
noncomputable def adJ (y0:SetV) (y1:EnvP):Option ((Bool×Unit)×(SetV×EnvP×Unit)) :=
 (aav y0.o).bind fun r1 =>
 if r1.1.1=true then
 some ((true,()),(({ y0 with o:=r1.2.1 }:SetV),y1,()))
 else
 (aAM y0.bit).bind fun r2 =>
 if y0.cell=y0.cell then
 (pOr y1.m y0.cell r2.1.1).bind fun r3 =>
 (abh r1.2.1 0 0).bind fun r4 =>
 some ((r4.1.1,()),(({ y0 with o:=r4.2.1 }:SetV),({ y1 with m:=r3.2.1 }:EnvP),()))
 else none
noncomputable abbrev aqy:Con SR1:=⟨270,[.ref 54,.ref 27],[.sh .b],fun x =>adJ x.1 x.2.1⟩
theorem aox:CO Tryz.prog aqy:=aak aaj Tryz.func270 [abn,atV,aBB,acN] ⟨aa6,ar3,ayR,abz,trivial⟩ [] trivial (fun _ =>[]) [] fun x =>by kernel_rfl
noncomputable def acU (y0:ResetV) (y1:EnvP):Option ((Bool×Unit)×(ResetV×EnvP×Unit)) :=
 (aav y0.o).bind fun r1 =>
 if r1.1.1=true then
 some ((true,()),(({ y0 with o:=r1.2.1 }:ResetV),y1,()))
 else
 (aAM y0.bit).bind fun r2 =>
 if y0.line=1 then
 (aC0 y1.m y0.cell (aCu r2.1.1)).bind fun r3 =>
 some ((false,()),(({ y0 with o:=r1.2.1,line:=wi (y0.line+1) }:ResetV),({ y1 with m:=r3.2.1 }:EnvP),()))
 else
 if y0.line=2 then
 (acG y1.m y0.q.bottom).bind fun r4 =>
 some ((false,()),(({ y0 with o:=r1.2.1,line:=wi (y0.line+1),b:=r4.1.1 }:ResetV),({ y1 with m:=r4.2.1 }:EnvP),()))
 else
 if y0.line=3 then
 (acG y1.m y0.q.top).bind fun r5 =>
 (avb y0.b r5.1.1).bind fun r6 =>
 if r6.1.1≤0 then
 (abh r1.2.1 2 0).bind fun r7 =>
 some ((r7.1.1,()),(({ y0 with o:=r7.2.1 }:ResetV),({ y1 with m:=r5.2.1 }:EnvP),()))
 else
 some ((false,()),(({ y0 with o:=r1.2.1,line:=wi (y0.line+1) }:ResetV),({ y1 with m:=r5.2.1 }:EnvP),()))
 else
 (pOr y1.m y0.cell r2.1.1).bind fun r8 =>
 (abh r1.2.1 1 0).bind fun r9 =>
 some ((r9.1.1,()),(({ y0 with o:=r9.2.1 }:ResetV),({ y1 with m:=r8.2.1 }:EnvP),()))
noncomputable abbrev anv:Con SR1:=⟨209,[.ref 43,.ref 27],[.sh .b],fun x =>acU x.1 x.2.1⟩
theorem amD:CO Tryz.prog anv:=aak aaj Tryz.func209 [abn,atV,awE,acM,am9,acN,aBB] ⟨aa6,ar3,avj,abT,alY,abz,ayR,trivial⟩ [] trivial (fun _ =>[]) [] fun x =>by kernel_rfl
noncomputable def adG (y0:InsertV):Option ((Int×Unit)×(InsertV×Unit)) :=
 if 0<y0.i then
 some ((3,()),(y0,()))
 else
 some ((5,()),(y0,()))
noncomputable abbrev afS:Con SR1:=⟨177,[.ref 36],[.sh sI_],fun x =>adG x.1⟩
theorem aja:CO Tryz.prog afS:=aak aaj Tryz.func177 [] trivial [] trivial (fun _ =>[]) [] fun x =>by kernel_rfl
noncomputable def abH (y0:InsertV) (y1:EnvP):Option ((Bool×Unit)×(InsertV×EnvP×Unit)) :=
 (aav y0.o).bind fun r1 =>
 if r1.1.1=true then
 some ((true,()),(({ y0 with o:=r1.2.1 }:InsertV),y1,()))
 else
 if y1.l.workers=y1.l.workers then
 if y1.l.levels=y1.l.levels then
 if y1.l.classes=y1.l.classes then
 if y1.l.tasks=y1.l.tasks then
 if y1.l.deque=y1.l.deque then
 if y1.l.heap=y1.l.heap then
 if y1.l.sleepers=y1.l.sleepers then
 if y1.l.epochs=y1.l.epochs then
 if y1.l.bitmaps=y1.l.bitmaps then
 if y1.l.queues=y1.l.queues then
 if y1.l.table=y1.l.table then
 if y0.line=1 then
 (agn y1.l).bind fun r2 =>
 (acG y1.m r2.1.1).bind fun r3 =>
 if y1.c.heap≤(wi (r3.1.1)) then
 (abh r1.2.1 3 0).bind fun r4 =>
 some ((r4.1.1,()),(({ y0 with o:=r4.2.1,n:=wi (r3.1.1) }:InsertV),({ y1 with m:=r3.2.1 }:EnvP),()))
 else
 some ((false,()),(({ y0 with o:=r1.2.1,line:=2,n:=wi (r3.1.1) }:InsertV),({ y1 with m:=r3.2.1 }:EnvP),()))
 else
 if y0.line=2 then
 (ar4 y1.l).bind fun r5 =>
 if y0.task=y0.task then
 if y0.deadline=y0.deadline then
 (aFR y1.m r5.1.1 1).bind fun r6 =>
 if y0.task=y0.task then
 if y0.deadline=y0.deadline then
 (aBA y0.deadline (wi (r6.1.1)) y0.task).bind fun r7 =>
 if (!r7.1.2.1)=true then
 (abh r1.2.1 4 0).bind fun r8 =>
 some ((r8.1.1,()),(({ y0 with o:=r8.2.1 }:InsertV),({ y1 with m:=r6.2.1 }:EnvP),()))
 else
 (adG ({ y0 with o:=r1.2.1,i:=y0.n,k:=r7.1.1 }:InsertV)).bind fun r9 =>
 some ((false,()),(({ r9.2.1 with line:=r9.1.1 }:InsertV),({ y1 with m:=r6.2.1 }:EnvP),()))
 else none
 else none
 else none
 else none
 else
 if y0.line=3 then
 (aoj y1.l (wi (Int.tdiv (wi (y0.i-1)) 2))).bind fun r10 =>
 (acG y1.m r10.1.1).bind fun r11 =>
 if y0.k<r11.1.1 then
 some ((false,()),(({ y0 with o:=r1.2.1,line:=4,x:=r11.1.1 }:InsertV),({ y1 with m:=r11.2.1 }:EnvP),()))
 else
 some ((false,()),(({ y0 with o:=r1.2.1,line:=5,x:=r11.1.1 }:InsertV),({ y1 with m:=r11.2.1 }:EnvP),()))
 else
 if y0.line=4 then
 (aoj y1.l y0.i).bind fun r12 =>
 if y0.x=y0.x then
 (aa3 y1.m r12.1.1 y0.x).bind fun r13 =>
 (adG ({ y0 with o:=r1.2.1,i:=wi (Int.tdiv (wi (y0.i-1)) 2) }:InsertV)).bind fun r14 =>
 some ((false,()),(({ r14.2.1 with line:=r14.1.1 }:InsertV),({ y1 with m:=r13.2.1 }:EnvP),()))
 else none
 else
 if y0.line=5 then
 (aoj y1.l y0.i).bind fun r15 =>
 if y0.k=y0.k then
 (aa3 y1.m r15.1.1 y0.k).bind fun r16 =>
 some ((false,()),(({ y0 with o:=r1.2.1,line:=6 }:InsertV),({ y1 with m:=r16.2.1 }:EnvP),()))
 else none
 else
 (agn y1.l).bind fun r17 =>
 if y0.n=y0.n then
 (aa3 y1.m r17.1.1 (wu (wi (y0.n+1)))).bind fun r18 =>
 (abh r1.2.1 0 0).bind fun r19 =>
 some ((r19.1.1,()),(({ y0 with o:=r19.2.1 }:InsertV),({ y1 with m:=r18.2.1 }:EnvP),()))
 else none
 else none
 else none
 else none
 else none
 else none
 else none
 else none
 else none
 else none
 else none
 else none
noncomputable abbrev akD:Con SR1:=⟨175,[.ref 36,.ref 27],[.sh .b],fun x =>abH x.1 x.2.1⟩
theorem ajK:CO Tryz.prog akD:=aak aaj Tryz.func175 [abn,akc,acM,acN,aq6,awF,ayQ,afS,arW,adY] ⟨aa6,ajz,abT,abz,avi,avk,aBy,aja,arV,adt,trivial⟩ [] trivial (fun _ =>[]) [] fun x =>by kernel_rfl
noncomputable def acf (y0:RemoveV):Option ((Int×Unit)×(RemoveV×Unit)) :=
 if y0.z<y0.y then
 some ((7,()),(y0,()))
 else
 some ((8,()),(y0,()))
noncomputable abbrev ae3:Con SR1:=⟨249,[.ref 51],[.sh sI_],fun x =>acf x.1⟩
theorem ahZ:CO Tryz.prog ae3:=aak aaj Tryz.func249 [] trivial [] trivial (fun _ =>[]) [] fun x =>by kernel_rfl
noncomputable def acY (y0:RemoveV):Option ((Int×Unit)×(RemoveV×Unit)) :=
 if (wi ((wi (2*y0.i))+1))<(wi (y0.n-1)) then
 some ((5,()),(y0,()))
 else
 some ((8,()),(y0,()))
noncomputable abbrev adv:Con SR1:=⟨250,[.ref 51],[.sh sI_],fun x =>acY x.1⟩
theorem aey:CO Tryz.prog adv:=aak aaj Tryz.func250 [] trivial [] trivial (fun _ =>[]) [] fun x =>by kernel_rfl
noncomputable def adb (y0:RemoveV):Option ((Int×Unit)×(RemoveV×Unit)) :=
 (ava y0.x).bind fun r1 =>
 some ((r1.1.2.2.1,()),(y0,()))
noncomputable abbrev aer:Con SR1:=⟨251,[.ref 51],[.sh sI_],fun x =>adb x.1⟩
theorem afQ:CO Tryz.prog aer:=aak aaj Tryz.func251 [atQ] ⟨axA,trivial⟩ [] trivial (fun _ =>[]) [] fun x =>by kernel_rfl
noncomputable def aeI (y0:RemoveV) (y1:EnvP):Option ((Bool×Unit)×(RemoveV×EnvP×Unit)) :=
 if y1.l.workers=y1.l.workers then
 if y1.l.levels=y1.l.levels then
 if y1.l.classes=y1.l.classes then
 if y1.l.tasks=y1.l.tasks then
 if y1.l.deque=y1.l.deque then
 if y1.l.heap=y1.l.heap then
 if y1.l.sleepers=y1.l.sleepers then
 if y1.l.epochs=y1.l.epochs then
 if y1.l.bitmaps=y1.l.bitmaps then
 if y1.l.queues=y1.l.queues then
 if y1.l.table=y1.l.table then
 if y0.line=1 then
 (agn y1.l).bind fun r1 =>
 (acG y1.m r1.1.1).bind fun r2 =>
 if (wi (r2.1.1))≤0 then
 (abh y0.o 2 0).bind fun r3 =>
 some ((r3.1.1,()),(({ y0 with o:=r3.2.1,n:=wi (r2.1.1) }:RemoveV),({ y1 with m:=r2.2.1 }:EnvP),()))
 else
 some ((false,()),(({ y0 with line:=2,n:=wi (r2.1.1) }:RemoveV),({ y1 with m:=r2.2.1 }:EnvP),()))
 else
 if y0.line=2 then
 (aoj y1.l 0).bind fun r4 =>
 (acG y1.m r4.1.1).bind fun r5 =>
 some ((false,()),(({ y0 with line:=3,x:=r5.1.1 }:RemoveV),({ y1 with m:=r5.2.1 }:EnvP),()))
 else
 if y0.line=3 then
 (aoj y1.l (wi (y0.n-1))).bind fun r6 =>
 (acG y1.m r6.1.1).bind fun r7 =>
 some ((false,()),(({ y0 with line:=4,y:=r7.1.1 }:RemoveV),({ y1 with m:=r7.2.1 }:EnvP),()))
 else
 (agn y1.l).bind fun r8 =>
 if y0.n=y0.n then
 (aa3 y1.m r8.1.1 (wu (wi (y0.n-1)))).bind fun r9 =>
 (adb y0).bind fun r10 =>
 if y0.worker=r10.2.1.worker then
 (aep ({ y1 with m:=r9.2.1 }:EnvP) (⟨13,y0.worker,r10.1.1,0,0⟩:Ev)).bind fun r11 =>
 if r10.2.1.n=1 then
 (adb r10.2.1).bind fun r12 =>
 (abh r12.2.1.o 1 r12.1.1).bind fun r13 =>
 some ((r13.1.1,()),(({ r12.2.1 with o:=r13.2.1 }:RemoveV),r11.2.1,()))
 else
 (acY r10.2.1).bind fun r14 =>
 some ((false,()),(({ r14.2.1 with line:=r14.1.1 }:RemoveV),r11.2.1,()))
 else none
 else none
 else none
 else none
 else none
 else none
 else none
 else none
 else none
 else none
 else none
 else none
 else none
noncomputable abbrev afR:Con SR1:=⟨252,[.ref 51,.ref 27],[.sh .b],fun x =>aeI x.1 x.2.1⟩
theorem ai9:CO Tryz.prog afR:=aak aaj Tryz.func252 [akc,acM,acN,arW,adY,aer,afn,adv] ⟨ajz,abT,abz,arV,adt,afQ,aeD,aey,trivial⟩ [] trivial (fun _ =>[]) [] fun x =>by kernel_rfl
noncomputable def abG (y0:RemoveV) (y1:EnvP):Option ((Bool×Unit)×(RemoveV×EnvP×Unit)) :=
 (aav y0.o).bind fun r1 =>
 if r1.1.1=true then
 some ((true,()),(({ y0 with o:=r1.2.1 }:RemoveV),y1,()))
 else
 if y1.l.workers=y1.l.workers then
 if y1.l.levels=y1.l.levels then
 if y1.l.classes=y1.l.classes then
 if y1.l.tasks=y1.l.tasks then
 if y1.l.deque=y1.l.deque then
 if y1.l.heap=y1.l.heap then
 if y1.l.sleepers=y1.l.sleepers then
 if y1.l.epochs=y1.l.epochs then
 if y1.l.bitmaps=y1.l.bitmaps then
 if y1.l.queues=y1.l.queues then
 if y1.l.table=y1.l.table then
 if y0.line=5 then
 (aoj y1.l (wi ((wi (2*y0.i))+1))).bind fun r2 =>
 (acG y1.m r2.1.1).bind fun r3 =>
 (acf ({ y0 with o:=r1.2.1,c:=wi ((wi (2*y0.i))+1),z:=r3.1.1 }:RemoveV)).bind fun r4 =>
 if (wi (r4.2.1.c+1))<(wi (r4.2.1.n-1)) then
 some ((false,()),(({ r4.2.1 with line:=6 }:RemoveV),({ y1 with m:=r3.2.1 }:EnvP),()))
 else
 some ((false,()),(({ r4.2.1 with line:=r4.1.1 }:RemoveV),({ y1 with m:=r3.2.1 }:EnvP),()))
 else
 if y0.line=6 then
 (aoj y1.l (wi ((wi (2*y0.i))+2))).bind fun r5 =>
 (acG y1.m r5.1.1).bind fun r6 =>
 if r6.1.1<y0.z then
 (acf ({ y0 with o:=r1.2.1,c:=wi ((wi (2*y0.i))+2),z:=r6.1.1 }:RemoveV)).bind fun r7 =>
 some ((false,()),(({ r7.2.1 with line:=r7.1.1 }:RemoveV),({ y1 with m:=r6.2.1 }:EnvP),()))
 else
 (acf ({ y0 with o:=r1.2.1 }:RemoveV)).bind fun r8 =>
 some ((false,()),(({ r8.2.1 with line:=r8.1.1 }:RemoveV),({ y1 with m:=r6.2.1 }:EnvP),()))
 else
 if y0.line=7 then
 (aoj y1.l y0.i).bind fun r9 =>
 if y0.z=y0.z then
 (aa3 y1.m r9.1.1 y0.z).bind fun r10 =>
 (acY ({ y0 with o:=r1.2.1,i:=y0.c }:RemoveV)).bind fun r11 =>
 some ((false,()),(({ r11.2.1 with line:=r11.1.1 }:RemoveV),({ y1 with m:=r10.2.1 }:EnvP),()))
 else none
 else
 if y0.line=8 then
 (aoj y1.l y0.i).bind fun r12 =>
 if y0.y=y0.y then
 (aa3 y1.m r12.1.1 y0.y).bind fun r13 =>
 (adb ({ y0 with o:=r1.2.1 }:RemoveV)).bind fun r14 =>
 (abh r14.2.1.o 1 r14.1.1).bind fun r15 =>
 some ((r15.1.1,()),(({ r14.2.1 with o:=r15.2.1 }:RemoveV),({ y1 with m:=r13.2.1 }:EnvP),()))
 else none
 else
 (aeI ({ y0 with o:=r1.2.1 }:RemoveV) y1).bind fun r16 =>
 some ((r16.1.1,()),(r16.2.1,r16.2.2.1,()))
 else none
 else none
 else none
 else none
 else none
 else none
 else none
 else none
 else none
 else none
 else none
noncomputable abbrev akC:Con SR1:=⟨248,[.ref 51,.ref 27],[.sh .b],fun x =>abG x.1 x.2.1⟩
theorem ajJ:CO Tryz.prog akC:=aak aaj Tryz.func248 [abn,arW,acM,ae3,adY,adv,aer,acN,afR] ⟨aa6,arV,abT,ahZ,adt,aey,afQ,abz,ai9,trivial⟩ [] trivial (fun _ =>[]) [] fun x =>by kernel_rfl
noncomputable def agA (y0:SleepV) (y1:EnvP):Option ((Unit)×(SleepV×EnvP×Unit)) :=
 (ahs y1.l y0.v).bind fun r1 =>
 (acG y1.m r1.1.1).bind fun r2 =>
 if r2.1.1≠0 then
 some ((()),(({ y0 with line:=7 }:SleepV),({ y1 with m:=r2.2.1 }:EnvP),()))
 else
 if y1.c.workers≤(wi (y0.v+1)) then
 (aep ({ y1 with m:=r2.2.1 }:EnvP) (⟨16,y0.worker,0,0,0⟩:Ev)).bind fun r3 =>
 (arX r3.2.1.k).bind fun r4 =>
 some ((()),(({ y0 with line:=5,v:=wi (y0.v+1),since:=r4.1.1 }:SleepV),({ r3.2.1 with k:=r4.2.1 }:EnvP),()))
 else
 some ((()),(({ y0 with v:=wi (y0.v+1) }:SleepV),({ y1 with m:=r2.2.1 }:EnvP),()))
noncomputable abbrev ajs:Con SR1:=⟨156,[.ref 32,.ref 27],[],fun x =>agA x.1 x.2.1⟩
theorem aoi:CO Tryz.prog ajs:=aak aaj Tryz.func156 [agZ,acM,afn,anT] ⟨agJ,abT,aeD,ak8,trivial⟩ [] trivial (fun _ =>[]) [] fun x =>by kernel_rfl
noncomputable def agz (y0:SleepV) (y1:EnvP):Option ((Unit)×(SleepV×EnvP×Unit)) :=
 (aq3 y1.l y0.worker).bind fun r1 =>
 (acG y1.m r1.1.1).bind fun r2 =>
 if r2.1.1≠y0.ep then
 (aep ({ y1 with m:=r2.2.1 }:EnvP) (⟨17,y0.worker,0,1,0⟩:Ev)).bind fun r3 =>
 some ((()),(({ y0 with line:=6 }:SleepV),r3.2.1,()))
 else
 (arX y1.k).bind fun r4 =>
 if y1.c.patience=y1.c.patience then
 if y0.since=y0.since then
 if y1.c.patience≤(wi (r4.1.1-y0.since)) then
 (aep ({ y1 with m:=r2.2.1,k:=r4.2.1 }:EnvP) (⟨17,y0.worker,0,2,0⟩:Ev)).bind fun r5 =>
 some ((()),(({ y0 with line:=6 }:SleepV),r5.2.1,()))
 else
 some ((()),(y0,({ y1 with m:=r2.2.1,k:=r4.2.1 }:EnvP),()))
 else none
 else none
noncomputable abbrev ajr:Con SR1:=⟨157,[.ref 32,.ref 27],[],fun x =>agz x.1 x.2.1⟩
theorem aof:CO Tryz.prog ajr:=aak aaj Tryz.func157 [aoM,acM,afn,anT] ⟨apE,abT,aeD,ak8,trivial⟩ [] trivial (fun _ =>[]) [] fun x =>by kernel_rfl
noncomputable def ac9 (y0:SleepV) (y1:EnvP):Option ((Bool×Unit)×(SleepV×EnvP×Unit)) :=
 (aav y0.o).bind fun r1 =>
 if r1.1.1=true then
 some ((true,()),(({ y0 with o:=r1.2.1 }:SleepV),y1,()))
 else
 if y0.line=1 then
 (aq3 y1.l y0.worker).bind fun r2 =>
 (acG y1.m r2.1.1).bind fun r3 =>
 some ((false,()),(({ y0 with o:=r1.2.1,line:=2,ep:=r3.1.1 }:SleepV),({ y1 with m:=r3.2.1 }:EnvP),()))
 else
 if y0.line=2 then
 ((
 if y1.c.classes<1 then
 if y0.worker=y0.worker then
 (aAM y0.worker).bind fun r4 =>
 (pOr y1.m (-1) r4.1.1).bind fun r5 =>
 some (({ y1 with m:=r5.2.1 }:EnvP),())
 else none
 else
 (aAL y0.worker y1.c.classes).bind fun r6 =>
 if y1.l.workers=y1.l.workers then
 if y1.l.levels=y1.l.levels then
 if y1.l.classes=y1.l.classes then
 if y1.l.tasks=y1.l.tasks then
 if y1.l.deque=y1.l.deque then
 if y1.l.heap=y1.l.heap then
 if y1.l.sleepers=y1.l.sleepers then
 if y1.l.epochs=y1.l.epochs then
 if y1.l.bitmaps=y1.l.bitmaps then
 if y1.l.queues=y1.l.queues then
 if y1.l.table=y1.l.table then
 (agX y1.l r6.1.1).bind fun r7 =>
 if y0.worker=y0.worker then
 (aAM y0.worker).bind fun r8 =>
 (pOr y1.m r7.1.1 r8.1.1).bind fun r9 =>
 some (({ y1 with m:=r9.2.1 }:EnvP),())
 else none
 else none
 else none
 else none
 else none
 else none
 else none
 else none
 else none
 else none
 else none
 else none
 ):Option (EnvP×Unit)).bind fun z10 =>
 some ((false,()),(({ y0 with o:=r1.2.1,line:=3 }:SleepV),z10.1,()))
 else
 if y0.line=3 then
 (agn y1.l).bind fun r11 =>
 (acG y1.m r11.1.1).bind fun r12 =>
 if r12.1.1≠0 then
 some ((false,()),(({ y0 with o:=r1.2.1,line:=7 }:SleepV),({ y1 with m:=r12.2.1 }:EnvP),()))
 else
 some ((false,()),(({ y0 with o:=r1.2.1,line:=4 }:SleepV),({ y1 with m:=r12.2.1 }:EnvP),()))
 else
 if y0.line=4 then
 (agA ({ y0 with o:=r1.2.1 }:SleepV) y1).bind fun r13 =>
 some ((false,()),(r13.2.1,r13.2.2.1,()))
 else
 if y0.line=5 then
 (agz ({ y0 with o:=r1.2.1 }:SleepV) y1).bind fun r14 =>
 some ((false,()),(r14.2.1,r14.2.2.1,()))
 else
 ((
 if y1.c.classes<1 then
 if y0.worker=y0.worker then
 (aAM y0.worker).bind fun r15 =>
 (aC0 y1.m (-1) (aCu r15.1.1)).bind fun r16 =>
 some (({ y1 with m:=r16.2.1 }:EnvP),())
 else none
 else
 (aAL y0.worker y1.c.classes).bind fun r17 =>
 if y1.l.workers=y1.l.workers then
 if y1.l.levels=y1.l.levels then
 if y1.l.classes=y1.l.classes then
 if y1.l.tasks=y1.l.tasks then
 if y1.l.deque=y1.l.deque then
 if y1.l.heap=y1.l.heap then
 if y1.l.sleepers=y1.l.sleepers then
 if y1.l.epochs=y1.l.epochs then
 if y1.l.bitmaps=y1.l.bitmaps then
 if y1.l.queues=y1.l.queues then
 if y1.l.table=y1.l.table then
 (agX y1.l r17.1.1).bind fun r18 =>
 if y0.worker=y0.worker then
 (aAM y0.worker).bind fun r19 =>
 (aC0 y1.m r18.1.1 (aCu r19.1.1)).bind fun r20 =>
 some (({ y1 with m:=r20.2.1 }:EnvP),())
 else none
 else none
 else none
 else none
 else none
 else none
 else none
 else none
 else none
 else none
 else none
 else none
 ):Option (EnvP×Unit)).bind fun z21 =>
 if y0.line=6 then
 (abh r1.2.1 1 0).bind fun r22 =>
 some ((r22.1.1,()),(({ y0 with o:=r22.2.1 }:SleepV),z21.1,()))
 else
 (abh r1.2.1 5 0).bind fun r23 =>
 some ((r23.1.1,()),(({ y0 with o:=r23.2.1 }:SleepV),z21.1,()))
noncomputable abbrev apC:Con SR1:=⟨151,[.ref 32,.ref 27],[.sh .b],fun x =>ac9 x.1 x.2.1⟩
noncomputable def aog:List (Nat×Func):=[(154,Tryz.f154)]
theorem aoh:CO Tryz.prog apC:=aak aaj Tryz.func151 [abn,aoM,acM,atV,aBB,atS,ak7,akc,ajs,ajr,awE,acN] ⟨aa6,apE,abT,ar3,ayR,arY,anS,ajz,aoi,aof,avj,abz,trivial⟩ aog ⟨Tryz.func154,trivial⟩ (fun _ =>[]) [(13,.cut [.ob 1 27] [0]),(5,.cut [.ob 1 27] [0])] fun x =>by kernel_rfl
noncomputable def adz (y0:WakeV) (y1:EnvP):Option ((Bool×Unit)×(WakeV×EnvP×Unit)) :=
 (aav y0.o).bind fun r1 =>
 if r1.1.1=true then
 some ((true,()),(({ y0 with o:=r1.2.1 }:WakeV),y1,()))
 else
 if y0.line=1 then
 ((
 if y1.c.classes<1 then
 (acG y1.m (-1)).bind fun r2 =>
 some (r2.1.1,({ y1 with m:=r2.2.1 }:EnvP),())
 else
 (atU y0.level y1.c.levels y1.c.classes).bind fun r3 =>
 if y1.c.classes=y1.c.classes then
 if y0.j=y0.j then
 if y1.l.workers=y1.l.workers then
 if y1.l.levels=y1.l.levels then
 if y1.l.classes=y1.l.classes then
 if y1.l.tasks=y1.l.tasks then
 if y1.l.deque=y1.l.deque then
 if y1.l.heap=y1.l.heap then
 if y1.l.sleepers=y1.l.sleepers then
 if y1.l.epochs=y1.l.epochs then
 if y1.l.bitmaps=y1.l.bitmaps then
 if y1.l.queues=y1.l.queues then
 if y1.l.table=y1.l.table then
 (aAL (wi (r3.1.1+y0.j)) y1.c.classes).bind fun r4 =>
 if y1.l.workers=y1.l.workers then
 if y1.l.levels=y1.l.levels then
 if y1.l.classes=y1.l.classes then
 if y1.l.tasks=y1.l.tasks then
 if y1.l.deque=y1.l.deque then
 if y1.l.heap=y1.l.heap then
 if y1.l.sleepers=y1.l.sleepers then
 if y1.l.epochs=y1.l.epochs then
 if y1.l.bitmaps=y1.l.bitmaps then
 if y1.l.queues=y1.l.queues then
 if y1.l.table=y1.l.table then
 (agX y1.l r4.1.1).bind fun r5 =>
 (acG y1.m r5.1.1).bind fun r6 =>
 some (r6.1.1,({ y1 with m:=r6.2.1 }:EnvP),())
 else none
 else none
 else none
 else none
 else none
 else none
 else none
 else none
 else none
 else none
 else none
 else none
 else none
 else none
 else none
 else none
 else none
 else none
 else none
 else none
 else none
 else none
 else none
 else none
 ):Option (Int×EnvP×Unit)).bind fun z7 =>
 if z7.1≠0 then
 (aH9 z7.1).bind fun r8 =>
 some ((false,()),(({ y0 with o:=r1.2.1,line:=2,v:=r8.1.1 }:WakeV),z7.2.1,()))
 else
 if z7.2.1.c.classes≤(wi (y0.j+1)) then
 (abh r1.2.1 2 0).bind fun r9 =>
 some ((r9.1.1,()),(({ y0 with o:=r9.2.1,j:=wi (y0.j+1) }:WakeV),z7.2.1,()))
 else
 some ((false,()),(({ y0 with o:=r1.2.1,j:=wi (y0.j+1) }:WakeV),z7.2.1,()))
 else
 if y0.line=2 then
 (aAM y0.v).bind fun r10 =>
 ((
 if y1.c.classes<1 then
 (aC0 y1.m (-1) (aCu r10.1.1)).bind fun r11 =>
 some (decide ((aoz r11.1.1 r10.1.1)=0),({ y1 with m:=r11.2.1 }:EnvP),())
 else
 (atU y0.level y1.c.levels y1.c.classes).bind fun r12 =>
 if y1.c.classes=y1.c.classes then
 if y0.j=y0.j then
 if y1.l.workers=y1.l.workers then
 if y1.l.levels=y1.l.levels then
 if y1.l.classes=y1.l.classes then
 if y1.l.tasks=y1.l.tasks then
 if y1.l.deque=y1.l.deque then
 if y1.l.heap=y1.l.heap then
 if y1.l.sleepers=y1.l.sleepers then
 if y1.l.epochs=y1.l.epochs then
 if y1.l.bitmaps=y1.l.bitmaps then
 if y1.l.queues=y1.l.queues then
 if y1.l.table=y1.l.table then
 (aAL (wi (r12.1.1+y0.j)) y1.c.classes).bind fun r13 =>
 if y1.l.workers=y1.l.workers then
 if y1.l.levels=y1.l.levels then
 if y1.l.classes=y1.l.classes then
 if y1.l.tasks=y1.l.tasks then
 if y1.l.deque=y1.l.deque then
 if y1.l.heap=y1.l.heap then
 if y1.l.sleepers=y1.l.sleepers then
 if y1.l.epochs=y1.l.epochs then
 if y1.l.bitmaps=y1.l.bitmaps then
 if y1.l.queues=y1.l.queues then
 if y1.l.table=y1.l.table then
 (agX y1.l r13.1.1).bind fun r14 =>
 (aC0 y1.m r14.1.1 (aCu r10.1.1)).bind fun r15 =>
 some (decide ((aoz r15.1.1 r10.1.1)=0),({ y1 with m:=r15.2.1 }:EnvP),())
 else none
 else none
 else none
 else none
 else none
 else none
 else none
 else none
 else none
 else none
 else none
 else none
 else none
 else none
 else none
 else none
 else none
 else none
 else none
 else none
 else none
 else none
 else none
 else none
 ):Option (Bool×EnvP×Unit)).bind fun z16 =>
 if z16.1=true then
 (abh r1.2.1 4 0).bind fun r17 =>
 some ((r17.1.1,()),(({ y0 with o:=r17.2.1 }:WakeV),z16.2.1,()))
 else
 some ((false,()),(({ y0 with o:=r1.2.1,line:=3 }:WakeV),z16.2.1,()))
 else
 (aq3 y1.l y0.v).bind fun r18 =>
 (aFR y1.m r18.1.1 1).bind fun r19 =>
 (aep ({ y1 with m:=r19.2.1 }:EnvP) (⟨18,y0.me,0,y0.v,0⟩:Ev)).bind fun r20 =>
 (abh r1.2.1 1 y0.v).bind fun r21 =>
 some ((r21.1.1,()),(({ y0 with o:=r21.2.1 }:WakeV),r20.2.1,()))
noncomputable abbrev aqH:Con SR1:=⟨182,[.ref 38,.ref 27],[.sh .b],fun x =>adz x.1 x.2.1⟩
noncomputable def apA:List (Nat×Func):=[(183,Tryz.f183)]
theorem apB:CO Tryz.prog aqH:=aak aaj Tryz.func182 [abn,acM,awB,atS,ak7,aCZ,acN,atV,awE,aoM,awF,afn] ⟨aa6,abT,ayV,arY,anS,aEs,abz,ar3,avj,apE,avk,aeD,trivial⟩ apA ⟨Tryz.func183,trivial⟩ (fun _ =>[]) [(9,.cut [.rg 5 sU_,.ob 1 27] [0]),(18,.cut [.rg 108 .b,.ob 1 27] [0])] fun x =>by kernel_rfl
noncomputable def ajV (y0:EnvP) (y1:Int) (y2:Int):Option ((Bool×Unit)×(EnvP×Unit)) :=
 if 0≤y1 then
 if y1<y0.c.tasks then
 if 0≤y2 then
 some ((decide (y2<y0.c.levels),()),(y0,()))
 else
 some ((false,()),(y0,()))
 else
 some ((false,()),(y0,()))
 else
 some ((false,()),(y0,()))
noncomputable abbrev aln:Con SR1:=⟨258,[.ref 27,.sh sI_,.sh sI_],[.sh .b],fun x =>ajV x.1 x.2.1 x.2.2.1⟩
theorem an2:CO Tryz.prog aln:=aak aaj Tryz.func258 [] trivial [] trivial (fun _ =>[]) [] fun x =>by kernel_rfl
noncomputable def acB (y0:RaiseV) (y1:EnvP):Option ((Bool×Unit)×(RaiseV×EnvP×Unit)) :=
 (aav y0.o).bind fun r1 =>
 if r1.1.1=true then
 some ((true,()),(({ y0 with o:=r1.2.1 }:RaiseV),y1,()))
 else
 (ajV y1 y0.task y0.level).bind fun r2 =>
 if (!r2.1.1)=true then
 (abh r1.2.1 4 0).bind fun r3 =>
 some ((r3.1.1,()),(({ y0 with o:=r3.2.1 }:RaiseV),r2.2.1,()))
 else
 if y0.line=1 then
 (afb r2.2.1.l y0.task).bind fun r4 =>
 (acG r2.2.1.m r4.1.1).bind fun r5 =>
 if y0.level≤(wi (r5.1.1)) then
 (abh r1.2.1 0 0).bind fun r6 =>
 some ((r6.1.1,()),(({ y0 with o:=r6.2.1,q:=r5.1.1 }:RaiseV),({ r2.2.1 with m:=r5.2.1 }:EnvP),()))
 else
 some ((false,()),(({ y0 with o:=r1.2.1,line:=2,q:=r5.1.1 }:RaiseV),({ r2.2.1 with m:=r5.2.1 }:EnvP),()))
 else
 (afb r2.2.1.l y0.task).bind fun r7 =>
 if y0.level=y0.level then
 if y0.q=y0.q then
 (atb r2.2.1.m r7.1.1 y0.q (wu (y0.level))).bind fun r8 =>
 if r8.1.1=true then
 (aep ({ r2.2.1 with m:=r8.2.1 }:EnvP) ({ y0 with kind:=11,other:=0 }:Ev)).bind fun r9 =>
 (abh r1.2.1 1 0).bind fun r10 =>
 some ((r10.1.1,()),(({ y0 with o:=r10.2.1 }:RaiseV),r9.2.1,()))
 else
 some ((false,()),(({ y0 with o:=r1.2.1,line:=1 }:RaiseV),({ r2.2.1 with m:=r8.2.1 }:EnvP),()))
 else none
 else none
noncomputable abbrev aow:Con SR1:=⟨272,[.ref 55,.ref 27],[.sh .b],fun x =>acB x.1 x.2.1⟩
theorem ant:CO Tryz.prog aow:=aak aaj Tryz.func272 [abn,aln,acN,agB,acM,al0,afn] ⟨aa6,an2,abz,afL,abT,ajA,aeD,trivial⟩ [] trivial (fun _ =>[]) [] fun x =>by kernel_rfl
noncomputable def ajk (m:MV) (e:EnvP):Option ((Bool×Unit)×(MV×EnvP×Unit)) :=
 match m with
 | .alloc x =>(ab2 x e).bind fun o =>some (o.1,(MV.alloc o.2.1,o.2.2))
 | .publish x =>(abO x e).bind fun o =>some (o.1,(MV.publish o.2.1,o.2.2))
 | .claim x =>(adh x e).bind fun o =>some (o.1,(MV.claim o.2.1,o.2.2))
 | .attempt x =>(acR x e).bind fun o =>some (o.1,(MV.attempt o.2.1,o.2.2))
 | .release x =>(acQ x e).bind fun o =>some (o.1,(MV.release o.2.1,o.2.2))
 | .opush x =>(adF x e).bind fun o =>some (o.1,(MV.opush o.2.1,o.2.2))
 | .opop x =>(ad9 x e).bind fun o =>some (o.1,(MV.opop o.2.1,o.2.2))
 | .steal x =>(adg x e).bind fun o =>some (o.1,(MV.steal o.2.1,o.2.2))
 | .set x =>(adJ x e).bind fun o =>some (o.1,(MV.set o.2.1,o.2.2))
 | .reset x =>(acU x e).bind fun o =>some (o.1,(MV.reset o.2.1,o.2.2))
 | .insert x =>(abH x e).bind fun o =>some (o.1,(MV.insert o.2.1,o.2.2))
 | .remove x =>(abG x e).bind fun o =>some (o.1,(MV.remove o.2.1,o.2.2))
 | .sleep x =>(ac9 x e).bind fun o =>some (o.1,(MV.sleep o.2.1,o.2.2))
 | .wake x =>(adz x e).bind fun o =>some (o.1,(MV.wake o.2.1,o.2.2))
 | .raise x =>(acB x e).bind fun o =>some (o.1,(MV.raise o.2.1,o.2.2))
 | .probe x =>(abk x e).bind fun o =>some (o.1,(MV.probe o.2.1,o.2.2))
 | _ =>none
noncomputable abbrev arB:Con SR1:=⟨1000000000,[.mch,.ref 27],[.sh .b],fun x =>ajk x.1 x.2.1⟩
theorem aaz (m:MV) (xs:alp SR1 [.ref 27]) (out:alr SR1 [.sh .b]×(MV×aj0 SR1 [.ref 27])) (h:ajk m xs.1=some out):aqR SR1 Tryz.prog 0 [.ref 27] [.sh .b] m xs out:=by
 cases m with
 | alloc x =>exact aa8 (S:=SR1) (ps:=[.ref 27]) (rs:=[.sh .b]) (c:=35) (mk:=MV.alloc) (fun _ =>rfl) rfl (fun _ _ _ _ =>by kernel_rfl) akv h
 | publish x =>exact aa8 (S:=SR1) (ps:=[.ref 27]) (rs:=[.sh .b]) (c:=50) (mk:=MV.publish) (fun _ =>rfl) rfl (fun _ _ _ _ =>by kernel_rfl) ak1 h
 | claim x =>exact aa8 (S:=SR1) (ps:=[.ref 27]) (rs:=[.sh .b]) (c:=45) (mk:=MV.claim) (fun _ =>rfl) rfl (fun _ _ _ _ =>by kernel_rfl) amN h
 | attempt x =>exact aa8 (S:=SR1) (ps:=[.ref 27]) (rs:=[.sh .b]) (c:=34) (mk:=MV.attempt) (fun _ =>rfl) rfl (fun _ _ _ _ =>by kernel_rfl) amd h
 | release x =>exact aa8 (S:=SR1) (ps:=[.ref 27]) (rs:=[.sh .b]) (c:=37) (mk:=MV.release) (fun _ =>rfl) rfl (fun _ _ _ _ =>by kernel_rfl) amc h
 | opush x =>exact aa8 (S:=SR1) (ps:=[.ref 27]) (rs:=[.sh .b]) (c:=53) (mk:=MV.opush) (fun _ =>rfl) rfl (fun _ _ _ _ =>by kernel_rfl) aol h
 | opop x =>exact aa8 (S:=SR1) (ps:=[.ref 27]) (rs:=[.sh .b]) (c:=52) (mk:=MV.opop) (fun _ =>rfl) rfl (fun _ _ _ _ =>by kernel_rfl) apJ h
 | steal x =>exact aa8 (S:=SR1) (ps:=[.ref 27]) (rs:=[.sh .b]) (c:=42) (mk:=MV.steal) (fun _ =>rfl) rfl (fun _ _ _ _ =>by kernel_rfl) amK h
 | set x =>exact aa8 (S:=SR1) (ps:=[.ref 27]) (rs:=[.sh .b]) (c:=54) (mk:=MV.set) (fun _ =>rfl) rfl (fun _ _ _ _ =>by kernel_rfl) aox h
 | reset x =>exact aa8 (S:=SR1) (ps:=[.ref 27]) (rs:=[.sh .b]) (c:=43) (mk:=MV.reset) (fun _ =>rfl) rfl (fun _ _ _ _ =>by kernel_rfl) amD h
 | insert x =>exact aa8 (S:=SR1) (ps:=[.ref 27]) (rs:=[.sh .b]) (c:=36) (mk:=MV.insert) (fun _ =>rfl) rfl (fun _ _ _ _ =>by kernel_rfl) ajK h
 | remove x =>exact aa8 (S:=SR1) (ps:=[.ref 27]) (rs:=[.sh .b]) (c:=51) (mk:=MV.remove) (fun _ =>rfl) rfl (fun _ _ _ _ =>by kernel_rfl) ajJ h
 | sleep x =>exact aa8 (S:=SR1) (ps:=[.ref 27]) (rs:=[.sh .b]) (c:=32) (mk:=MV.sleep) (fun _ =>rfl) rfl (fun _ _ _ _ =>by kernel_rfl) aoh h
 | wake x =>exact aa8 (S:=SR1) (ps:=[.ref 27]) (rs:=[.sh .b]) (c:=38) (mk:=MV.wake) (fun _ =>rfl) rfl (fun _ _ _ _ =>by kernel_rfl) apB h
 | raise x =>exact aa8 (S:=SR1) (ps:=[.ref 27]) (rs:=[.sh .b]) (c:=55) (mk:=MV.raise) (fun _ =>rfl) rfl (fun _ _ _ _ =>by kernel_rfl) ant h
 | probe x =>exact aa8 (S:=SR1) (ps:=[.ref 27]) (rs:=[.sh .b]) (c:=46) (mk:=MV.probe) (fun _ =>rfl) rfl (fun _ _ _ _ =>by kernel_rfl) am2 h
 | _ =>cases h
theorem ato:CO Tryz.prog arB:=ajN (S:=SR1) (i:=0) (ps:=[.ref 27]) (rs:=[.sh .b]) (spec:=fun m xs =>ajk m xs.1) aaz
noncomputable def aeY (m:MV):Option ((Int×Int×Unit)×(MV×Unit)) :=
 match m with
 | .alloc x =>some ((x.o.code,x.o.value,()),(MV.alloc x,()))
 | .publish x =>some ((x.o.code,x.o.value,()),(MV.publish x,()))
 | .claim x =>some ((x.o.code,x.o.value,()),(MV.claim x,()))
 | .attempt x =>some ((x.o.code,x.o.value,()),(MV.attempt x,()))
 | .release x =>some ((x.o.code,x.o.value,()),(MV.release x,()))
 | .opush x =>some ((x.o.code,x.o.value,()),(MV.opush x,()))
 | .opop x =>some ((x.o.code,x.o.value,()),(MV.opop x,()))
 | .steal x =>some ((x.o.code,x.o.value,()),(MV.steal x,()))
 | .set x =>some ((x.o.code,x.o.value,()),(MV.set x,()))
 | .reset x =>some ((x.o.code,x.o.value,()),(MV.reset x,()))
 | .insert x =>some ((x.o.code,x.o.value,()),(MV.insert x,()))
 | .remove x =>some ((x.o.code,x.o.value,()),(MV.remove x,()))
 | .sleep x =>some ((x.o.code,x.o.value,()),(MV.sleep x,()))
 | .wake x =>some ((x.o.code,x.o.value,()),(MV.wake x,()))
 | .raise x =>some ((x.o.code,x.o.value,()),(MV.raise x,()))
 | .probe x =>some ((x.o.code,x.o.value,()),(MV.probe x,()))
 | _ =>none
noncomputable abbrev amW:Con SR1:=⟨1000000001,[.mch],[.sh sI_,.sh sI_],fun x =>aeY x.1⟩
theorem aan (m:MV) (xs:alp SR1 []) (out:alr SR1 [.sh sI_,.sh sI_]×(MV×aj0 SR1 [])) (h:aeY m=some out):aqR SR1 Tryz.prog 1 [] [.sh sI_,.sh sI_] m xs out:=by
 cases m with
 | alloc x =>exact aa8 (S:=SR1) (ps:=[]) (rs:=[.sh sI_,.sh sI_]) (c:=35) (mk:=MV.alloc) (f:=150) (sp:=fun x =>some ((x.1.o.code,x.1.o.value,()),(x.1,()))) (fun _ =>rfl) rfl (fun _ _ _ _ =>by kernel_rfl) (acy [aaZ] ⟨aaR,trivial⟩ fun x =>by kernel_rfl) h
 | publish x =>exact aa8 (S:=SR1) (ps:=[]) (rs:=[.sh sI_,.sh sI_]) (c:=50) (mk:=MV.publish) (f:=150) (sp:=fun x =>some ((x.1.o.code,x.1.o.value,()),(x.1,()))) (fun _ =>rfl) rfl (fun _ _ _ _ =>by kernel_rfl) (acy [aaZ] ⟨aaR,trivial⟩ fun x =>by kernel_rfl) h
 | claim x =>exact aa8 (S:=SR1) (ps:=[]) (rs:=[.sh sI_,.sh sI_]) (c:=45) (mk:=MV.claim) (f:=150) (sp:=fun x =>some ((x.1.o.code,x.1.o.value,()),(x.1,()))) (fun _ =>rfl) rfl (fun _ _ _ _ =>by kernel_rfl) (acy [aaZ] ⟨aaR,trivial⟩ fun x =>by kernel_rfl) h
 | attempt x =>exact aa8 (S:=SR1) (ps:=[]) (rs:=[.sh sI_,.sh sI_]) (c:=34) (mk:=MV.attempt) (f:=150) (sp:=fun x =>some ((x.1.o.code,x.1.o.value,()),(x.1,()))) (fun _ =>rfl) rfl (fun _ _ _ _ =>by kernel_rfl) (acy [aaZ] ⟨aaR,trivial⟩ fun x =>by kernel_rfl) h
 | release x =>exact aa8 (S:=SR1) (ps:=[]) (rs:=[.sh sI_,.sh sI_]) (c:=37) (mk:=MV.release) (f:=150) (sp:=fun x =>some ((x.1.o.code,x.1.o.value,()),(x.1,()))) (fun _ =>rfl) rfl (fun _ _ _ _ =>by kernel_rfl) (acy [aaZ] ⟨aaR,trivial⟩ fun x =>by kernel_rfl) h
 | opush x =>exact aa8 (S:=SR1) (ps:=[]) (rs:=[.sh sI_,.sh sI_]) (c:=53) (mk:=MV.opush) (f:=150) (sp:=fun x =>some ((x.1.o.code,x.1.o.value,()),(x.1,()))) (fun _ =>rfl) rfl (fun _ _ _ _ =>by kernel_rfl) (acy [aaZ] ⟨aaR,trivial⟩ fun x =>by kernel_rfl) h
 | opop x =>exact aa8 (S:=SR1) (ps:=[]) (rs:=[.sh sI_,.sh sI_]) (c:=52) (mk:=MV.opop) (f:=150) (sp:=fun x =>some ((x.1.o.code,x.1.o.value,()),(x.1,()))) (fun _ =>rfl) rfl (fun _ _ _ _ =>by kernel_rfl) (acy [aaZ] ⟨aaR,trivial⟩ fun x =>by kernel_rfl) h
 | steal x =>exact aa8 (S:=SR1) (ps:=[]) (rs:=[.sh sI_,.sh sI_]) (c:=42) (mk:=MV.steal) (f:=150) (sp:=fun x =>some ((x.1.o.code,x.1.o.value,()),(x.1,()))) (fun _ =>rfl) rfl (fun _ _ _ _ =>by kernel_rfl) (acy [aaZ] ⟨aaR,trivial⟩ fun x =>by kernel_rfl) h
 | set x =>exact aa8 (S:=SR1) (ps:=[]) (rs:=[.sh sI_,.sh sI_]) (c:=54) (mk:=MV.set) (f:=150) (sp:=fun x =>some ((x.1.o.code,x.1.o.value,()),(x.1,()))) (fun _ =>rfl) rfl (fun _ _ _ _ =>by kernel_rfl) (acy [aaZ] ⟨aaR,trivial⟩ fun x =>by kernel_rfl) h
 | reset x =>exact aa8 (S:=SR1) (ps:=[]) (rs:=[.sh sI_,.sh sI_]) (c:=43) (mk:=MV.reset) (f:=150) (sp:=fun x =>some ((x.1.o.code,x.1.o.value,()),(x.1,()))) (fun _ =>rfl) rfl (fun _ _ _ _ =>by kernel_rfl) (acy [aaZ] ⟨aaR,trivial⟩ fun x =>by kernel_rfl) h
 | insert x =>exact aa8 (S:=SR1) (ps:=[]) (rs:=[.sh sI_,.sh sI_]) (c:=36) (mk:=MV.insert) (f:=150) (sp:=fun x =>some ((x.1.o.code,x.1.o.value,()),(x.1,()))) (fun _ =>rfl) rfl (fun _ _ _ _ =>by kernel_rfl) (acy [aaZ] ⟨aaR,trivial⟩ fun x =>by kernel_rfl) h
 | remove x =>exact aa8 (S:=SR1) (ps:=[]) (rs:=[.sh sI_,.sh sI_]) (c:=51) (mk:=MV.remove) (f:=150) (sp:=fun x =>some ((x.1.o.code,x.1.o.value,()),(x.1,()))) (fun _ =>rfl) rfl (fun _ _ _ _ =>by kernel_rfl) (acy [aaZ] ⟨aaR,trivial⟩ fun x =>by kernel_rfl) h
 | sleep x =>exact aa8 (S:=SR1) (ps:=[]) (rs:=[.sh sI_,.sh sI_]) (c:=32) (mk:=MV.sleep) (f:=150) (sp:=fun x =>some ((x.1.o.code,x.1.o.value,()),(x.1,()))) (fun _ =>rfl) rfl (fun _ _ _ _ =>by kernel_rfl) (acy [aaZ] ⟨aaR,trivial⟩ fun x =>by kernel_rfl) h
 | wake x =>exact aa8 (S:=SR1) (ps:=[]) (rs:=[.sh sI_,.sh sI_]) (c:=38) (mk:=MV.wake) (f:=150) (sp:=fun x =>some ((x.1.o.code,x.1.o.value,()),(x.1,()))) (fun _ =>rfl) rfl (fun _ _ _ _ =>by kernel_rfl) (acy [aaZ] ⟨aaR,trivial⟩ fun x =>by kernel_rfl) h
 | raise x =>exact aa8 (S:=SR1) (ps:=[]) (rs:=[.sh sI_,.sh sI_]) (c:=55) (mk:=MV.raise) (f:=150) (sp:=fun x =>some ((x.1.o.code,x.1.o.value,()),(x.1,()))) (fun _ =>rfl) rfl (fun _ _ _ _ =>by kernel_rfl) (acy [aaZ] ⟨aaR,trivial⟩ fun x =>by kernel_rfl) h
 | probe x =>exact aa8 (S:=SR1) (ps:=[]) (rs:=[.sh sI_,.sh sI_]) (c:=46) (mk:=MV.probe) (f:=150) (sp:=fun x =>some ((x.1.o.code,x.1.o.value,()),(x.1,()))) (fun _ =>rfl) rfl (fun _ _ _ _ =>by kernel_rfl) (acy [aaZ] ⟨aaR,trivial⟩ fun x =>by kernel_rfl) h
 | _ =>cases h
theorem apu:CO Tryz.prog amW:=ajN (S:=SR1) (i:=1) (ps:=[]) (rs:=[.sh sI_,.sh sI_]) (spec:=fun m _ =>aeY m) aan
noncomputable def apI (y0:QV) (y1:Int):Option ((MV×Unit)×(Unit)) :=
 some ((MV.opush (⟨⟨false,0,0⟩,y0,y1,1,0⟩:OPushV),()),())
noncomputable abbrev apG:Con SR1:=⟨245,[.val 14,.sh sI_],[.sh .mach],fun x =>apI x.1 x.2.1⟩
theorem atW:CO Tryz.prog apG:=aak aaj Tryz.func245 [] trivial [] trivial (fun _ =>[]) [] fun x =>by kernel_rfl
noncomputable def ajW (y0:Int) (y1:Int):Option ((MV×Unit)×(Unit)) :=
 some ((MV.set (⟨⟨false,0,0⟩,y0,y1⟩:SetV),()),())
noncomputable abbrev aqx:Con SR1:=⟨246,[.sh sI_,.sh sI_],[.sh .mach],fun x =>ajW x.1 x.2.1⟩
theorem auE:CO Tryz.prog aqx:=aak aaj Tryz.func246 [] trivial [] trivial (fun _ =>[]) [] fun x =>by kernel_rfl
noncomputable def acA (y0:(LPushV MV)) (y1:EnvP):Option ((Bool×Unit)×((LPushV MV)×EnvP×Unit)) :=
 (aav y0.o).bind fun r1 =>
 if r1.1.1=true then
 some ((true,()),(({ y0 with o:=r1.2.1 }:(LPushV MV)),y1,()))
 else
 if (SR1.spl y0.inside).isNone=true then
 (agY y1.l y0.worker y0.level).bind fun r2 =>
 if y0.value=y0.value then
 (apI r2.1.1 y0.value).bind fun r3 =>
 (ajk r3.1.1 y1).bind fun r4 =>
 if (!r4.1.1)=true then
 some ((false,()),(({ y0 with o:=r1.2.1,inside:=r4.2.1 }:(LPushV MV)),r4.2.2.1,()))
 else
 (aeY r4.2.1).bind fun r5 =>
 if r5.1.1=3 then
 (abh r1.2.1 3 0).bind fun r6 =>
 some ((r6.1.1,()),(({ y0 with o:=r6.2.1,inside:=r5.2.1 }:(LPushV MV)),r4.2.2.1,()))
 else
 if y0.line=2 then
 (abh r1.2.1 0 0).bind fun r7 =>
 some ((r7.1.1,()),(({ y0 with o:=r7.2.1,inside:=r5.2.1 }:(LPushV MV)),r4.2.2.1,()))
 else
 (ahs r4.2.2.1.l y0.worker).bind fun r8 =>
 if y0.level=y0.level then
 (ajW r8.1.1 y0.level).bind fun r9 =>
 some ((false,()),(({ y0 with o:=r1.2.1,line:=2,inside:=r9.1.1 }:(LPushV MV)),r4.2.2.1,()))
 else none
 else none
 else
 (ajk y0.inside y1).bind fun r10 =>
 if (!r10.1.1)=true then
 some ((false,()),(({ y0 with o:=r1.2.1,inside:=r10.2.1 }:(LPushV MV)),r10.2.2.1,()))
 else
 (aeY r10.2.1).bind fun r11 =>
 if r11.1.1=3 then
 (abh r1.2.1 3 0).bind fun r12 =>
 some ((r12.1.1,()),(({ y0 with o:=r12.2.1,inside:=r11.2.1 }:(LPushV MV)),r10.2.2.1,()))
 else
 if y0.line=2 then
 (abh r1.2.1 0 0).bind fun r13 =>
 some ((r13.1.1,()),(({ y0 with o:=r13.2.1,inside:=r11.2.1 }:(LPushV MV)),r10.2.2.1,()))
 else
 (ahs r10.2.2.1.l y0.worker).bind fun r14 =>
 if y0.level=y0.level then
 (ajW r14.1.1 y0.level).bind fun r15 =>
 some ((false,()),(({ y0 with o:=r1.2.1,line:=2,inside:=r15.1.1 }:(LPushV MV)),r10.2.2.1,()))
 else none
noncomputable abbrev aon:Con SR1:=⟨244,[.ref 47,.ref 27],[.sh .b],fun x =>acA x.1 x.2.1⟩
theorem ani:CO Tryz.prog aon:=aak aaj Tryz.func244 [abn,akb,apG,arB,amW,acN,agZ,aqx] ⟨aa6,ajx,atW,ato,apu,abz,agJ,auE,trivial⟩ [] trivial (fun _ =>[]) [] fun x =>by kernel_rfl
noncomputable def ar6 (y0:QV):Option ((MV×Unit)×(Unit)) :=
 some ((MV.opop (⟨⟨false,0,0⟩,y0,1,0,0⟩:OPopV),()),())
noncomputable abbrev aq7:Con SR1:=⟨234,[.val 14],[.sh .mach],fun x =>ar6 x.1⟩
theorem avl:CO Tryz.prog aq7:=aak aaj Tryz.func234 [] trivial [] trivial (fun _ =>[]) [] fun x =>by kernel_rfl
noncomputable def ais (y0:(LPopV MV)) (y1:EnvP):Option ((Bool×Unit)×((LPopV MV)×EnvP×Unit)) :=
 (ahs y1.l y0.worker).bind fun r1 =>
 (acG y1.m r1.1.1).bind fun r2 =>
 if r2.1.1=0 then
 (abh y0.o 2 0).bind fun r3 =>
 some ((r3.1.1,()),(({ y0 with o:=r3.2.1 }:(LPopV MV)),({ y1 with m:=r2.2.1 }:EnvP),()))
 else
 (ag8 r2.1.1).bind fun r4 =>
 (agY y1.l y0.worker r4.1.1).bind fun r5 =>
 (ar6 r5.1.1).bind fun r6 =>
 some ((false,()),(({ y0 with level:=r4.1.1,line:=2,inside:=r6.1.1 }:(LPopV MV)),({ y1 with m:=r2.2.1 }:EnvP),()))
noncomputable abbrev ajF:Con SR1:=⟨232,[.ref 44,.ref 27],[.sh .b],fun x =>ais x.1 x.2.1⟩
theorem aop:CO Tryz.prog ajF:=aak aaj Tryz.func232 [agZ,acM,acN,avf,akb,aq7] ⟨agJ,abT,abz,awz,ajx,avl,trivial⟩ [] trivial (fun _ =>[]) [] fun x =>by kernel_rfl
noncomputable def ag7 (y0:Int) (y1:Int) (y2:QV):Option ((MV×Unit)×(Unit)) :=
 some ((MV.reset (⟨⟨false,0,0⟩,y0,y1,y2,1,0⟩:ResetV),()),())
noncomputable abbrev aiL:Con SR1:=⟨142,[.sh sI_,.sh sI_,.val 14],[.sh .mach],fun x =>ag7 x.1 x.2.1 x.2.2.1⟩
theorem akX:CO Tryz.prog aiL:=aak aaj Tryz.func142 [] trivial [] trivial (fun _ =>[]) [] fun x =>by kernel_rfl
noncomputable def ada (y0:(LPopV MV)) (y1:EnvP):Option ((Bool×Unit)×((LPopV MV)×EnvP×Unit)) :=
 (aav y0.o).bind fun r1 =>
 if r1.1.1=true then
 some ((true,()),(({ y0 with o:=r1.2.1 }:(LPopV MV)),y1,()))
 else
 if y0.line=1 then
 (ais ({ y0 with o:=r1.2.1 }:(LPopV MV)) y1).bind fun r2 =>
 some ((r2.1.1,()),(r2.2.1,r2.2.2.1,()))
 else
 (ajk y0.inside y1).bind fun r3 =>
 if (!r3.1.1)=true then
 some ((false,()),(({ y0 with o:=r1.2.1,inside:=r3.2.1 }:(LPopV MV)),r3.2.2.1,()))
 else
 (aeY r3.2.1).bind fun r4 =>
 if y0.line=3 then
 some ((false,()),(({ y0 with o:=r1.2.1,line:=1,inside:=MV.nil }:(LPopV MV)),r3.2.2.1,()))
 else
 if r4.1.1=1 then
 (abh r1.2.1 1 r4.1.2.1).bind fun r5 =>
 some ((r5.1.1,()),(({ y0 with o:=r5.2.1,inside:=r4.2.1 }:(LPopV MV)),r3.2.2.1,()))
 else
 (ahs r3.2.2.1.l y0.worker).bind fun r6 =>
 if y0.level=y0.level then
 if y0.worker=y0.worker then
 if r3.2.2.1.l.workers=r3.2.2.1.l.workers then
 if r3.2.2.1.l.levels=r3.2.2.1.l.levels then
 if r3.2.2.1.l.classes=r3.2.2.1.l.classes then
 if r3.2.2.1.l.tasks=r3.2.2.1.l.tasks then
 if r3.2.2.1.l.deque=r3.2.2.1.l.deque then
 if r3.2.2.1.l.heap=r3.2.2.1.l.heap then
 if r3.2.2.1.l.sleepers=r3.2.2.1.l.sleepers then
 if r3.2.2.1.l.epochs=r3.2.2.1.l.epochs then
 if r3.2.2.1.l.bitmaps=r3.2.2.1.l.bitmaps then
 if r3.2.2.1.l.queues=r3.2.2.1.l.queues then
 if r3.2.2.1.l.table=r3.2.2.1.l.table then
 if y0.level=y0.level then
 (agY r3.2.2.1.l y0.worker y0.level).bind fun r7 =>
 if y0.level=y0.level then
 (ag7 r6.1.1 y0.level r7.1.1).bind fun r8 =>
 some ((false,()),(({ y0 with o:=r1.2.1,line:=3,inside:=r8.1.1 }:(LPopV MV)),r3.2.2.1,()))
 else none
 else none
 else none
 else none
 else none
 else none
 else none
 else none
 else none
 else none
 else none
 else none
 else none
 else none
 else none
noncomputable abbrev apT:Con SR1:=⟨231,[.ref 44,.ref 27],[.sh .b],fun x =>ada x.1 x.2.1⟩
theorem aoo:CO Tryz.prog apT:=aak aaj Tryz.func231 [abn,ajF,arB,amW,acN,agZ,akb,aiL] ⟨aa6,aop,ato,apu,abz,agJ,ajx,akX,trivial⟩ [] trivial (fun _ =>[]) [] fun x =>by kernel_rfl
noncomputable def adW (m:MV) (e:EnvP):Option ((Bool×Unit)×(MV×EnvP×Unit)) :=
 match m with
 | .alloc x =>(ab2 x e).bind fun o =>some (o.1,(MV.alloc o.2.1,o.2.2))
 | .publish x =>(abO x e).bind fun o =>some (o.1,(MV.publish o.2.1,o.2.2))
 | .claim x =>(adh x e).bind fun o =>some (o.1,(MV.claim o.2.1,o.2.2))
 | .attempt x =>(acR x e).bind fun o =>some (o.1,(MV.attempt o.2.1,o.2.2))
 | .release x =>(acQ x e).bind fun o =>some (o.1,(MV.release o.2.1,o.2.2))
 | .opush x =>(adF x e).bind fun o =>some (o.1,(MV.opush o.2.1,o.2.2))
 | .opop x =>(ad9 x e).bind fun o =>some (o.1,(MV.opop o.2.1,o.2.2))
 | .steal x =>(adg x e).bind fun o =>some (o.1,(MV.steal o.2.1,o.2.2))
 | .set x =>(adJ x e).bind fun o =>some (o.1,(MV.set o.2.1,o.2.2))
 | .reset x =>(acU x e).bind fun o =>some (o.1,(MV.reset o.2.1,o.2.2))
 | .insert x =>(abH x e).bind fun o =>some (o.1,(MV.insert o.2.1,o.2.2))
 | .remove x =>(abG x e).bind fun o =>some (o.1,(MV.remove o.2.1,o.2.2))
 | .sleep x =>(ac9 x e).bind fun o =>some (o.1,(MV.sleep o.2.1,o.2.2))
 | .wake x =>(adz x e).bind fun o =>some (o.1,(MV.wake o.2.1,o.2.2))
 | .raise x =>(acB x e).bind fun o =>some (o.1,(MV.raise o.2.1,o.2.2))
 | .probe x =>(abk x e).bind fun o =>some (o.1,(MV.probe o.2.1,o.2.2))
 | .lpush x =>(acA x e).bind fun o =>some (o.1,(MV.lpush o.2.1,o.2.2))
 | .lpop x =>(ada x e).bind fun o =>some (o.1,(MV.lpop o.2.1,o.2.2))
 | _ =>none
noncomputable abbrev aif:Con SR1:=⟨1000000000,[.mch,.ref 27],[.sh .b],fun x =>adW x.1 x.2.1⟩
theorem alx (m:MV) (xs:alp SR1 [.ref 27]) (out:alr SR1 [.sh .b]×(MV×aj0 SR1 [.ref 27])) (h:adW m xs.1=some out):aqR SR1 Tryz.prog 0 [.ref 27] [.sh .b] m xs out:=by
 cases m with
 | alloc x =>exact aaz (.alloc x) xs out h
 | publish x =>exact aaz (.publish x) xs out h
 | claim x =>exact aaz (.claim x) xs out h
 | attempt x =>exact aaz (.attempt x) xs out h
 | release x =>exact aaz (.release x) xs out h
 | opush x =>exact aaz (.opush x) xs out h
 | opop x =>exact aaz (.opop x) xs out h
 | steal x =>exact aaz (.steal x) xs out h
 | set x =>exact aaz (.set x) xs out h
 | reset x =>exact aaz (.reset x) xs out h
 | insert x =>exact aaz (.insert x) xs out h
 | remove x =>exact aaz (.remove x) xs out h
 | sleep x =>exact aaz (.sleep x) xs out h
 | wake x =>exact aaz (.wake x) xs out h
 | raise x =>exact aaz (.raise x) xs out h
 | probe x =>exact aaz (.probe x) xs out h
 | lpush x =>exact aa8 (S:=SR1) (ps:=[.ref 27]) (rs:=[.sh .b]) (c:=47) (mk:=MV.lpush) (fun _ =>rfl) rfl (fun _ _ _ _ =>by kernel_rfl) ani h
 | lpop x =>exact aa8 (S:=SR1) (ps:=[.ref 27]) (rs:=[.sh .b]) (c:=44) (mk:=MV.lpop) (fun _ =>rfl) rfl (fun _ _ _ _ =>by kernel_rfl) aoo h
 | _ =>cases h
theorem ahE:CO Tryz.prog aif:=ajN (S:=SR1) (i:=0) (ps:=[.ref 27]) (rs:=[.sh .b]) (spec:=fun m xs =>adW m xs.1) alx
noncomputable def abv (m:MV):Option ((Int×Int×Unit)×(MV×Unit)) :=
 match m with
 | .alloc x =>some ((x.o.code,x.o.value,()),(MV.alloc x,()))
 | .publish x =>some ((x.o.code,x.o.value,()),(MV.publish x,()))
 | .claim x =>some ((x.o.code,x.o.value,()),(MV.claim x,()))
 | .attempt x =>some ((x.o.code,x.o.value,()),(MV.attempt x,()))
 | .release x =>some ((x.o.code,x.o.value,()),(MV.release x,()))
 | .opush x =>some ((x.o.code,x.o.value,()),(MV.opush x,()))
 | .opop x =>some ((x.o.code,x.o.value,()),(MV.opop x,()))
 | .steal x =>some ((x.o.code,x.o.value,()),(MV.steal x,()))
 | .set x =>some ((x.o.code,x.o.value,()),(MV.set x,()))
 | .reset x =>some ((x.o.code,x.o.value,()),(MV.reset x,()))
 | .insert x =>some ((x.o.code,x.o.value,()),(MV.insert x,()))
 | .remove x =>some ((x.o.code,x.o.value,()),(MV.remove x,()))
 | .sleep x =>some ((x.o.code,x.o.value,()),(MV.sleep x,()))
 | .wake x =>some ((x.o.code,x.o.value,()),(MV.wake x,()))
 | .raise x =>some ((x.o.code,x.o.value,()),(MV.raise x,()))
 | .probe x =>some ((x.o.code,x.o.value,()),(MV.probe x,()))
 | .lpush x =>some ((x.o.code,x.o.value,()),(MV.lpush x,()))
 | .lpop x =>some ((x.o.code,x.o.value,()),(MV.lpop x,()))
 | _ =>none
noncomputable abbrev afm:Con SR1:=⟨1000000001,[.mch],[.sh sI_,.sh sI_],fun x =>abv x.1⟩
theorem ahQ (m:MV) (xs:alp SR1 []) (out:alr SR1 [.sh sI_,.sh sI_]×(MV×aj0 SR1 [])) (h:abv m=some out):aqR SR1 Tryz.prog 1 [] [.sh sI_,.sh sI_] m xs out:=by
 cases m with
 | alloc x =>exact aan (.alloc x) xs out h
 | publish x =>exact aan (.publish x) xs out h
 | claim x =>exact aan (.claim x) xs out h
 | attempt x =>exact aan (.attempt x) xs out h
 | release x =>exact aan (.release x) xs out h
 | opush x =>exact aan (.opush x) xs out h
 | opop x =>exact aan (.opop x) xs out h
 | steal x =>exact aan (.steal x) xs out h
 | set x =>exact aan (.set x) xs out h
 | reset x =>exact aan (.reset x) xs out h
 | insert x =>exact aan (.insert x) xs out h
 | remove x =>exact aan (.remove x) xs out h
 | sleep x =>exact aan (.sleep x) xs out h
 | wake x =>exact aan (.wake x) xs out h
 | raise x =>exact aan (.raise x) xs out h
 | probe x =>exact aan (.probe x) xs out h
 | lpush x =>exact aa8 (S:=SR1) (ps:=[]) (rs:=[.sh sI_,.sh sI_]) (c:=47) (mk:=MV.lpush) (f:=150) (sp:=fun x =>some ((x.1.o.code,x.1.o.value,()),(x.1,()))) (fun _ =>rfl) rfl (fun _ _ _ _ =>by kernel_rfl) (acy [aaZ] ⟨aaR,trivial⟩ fun x =>by kernel_rfl) h
 | lpop x =>exact aa8 (S:=SR1) (ps:=[]) (rs:=[.sh sI_,.sh sI_]) (c:=44) (mk:=MV.lpop) (f:=150) (sp:=fun x =>some ((x.1.o.code,x.1.o.value,()),(x.1,()))) (fun _ =>rfl) rfl (fun _ _ _ _ =>by kernel_rfl) (acy [aaZ] ⟨aaR,trivial⟩ fun x =>by kernel_rfl) h
 | _ =>cases h
theorem afl:CO Tryz.prog afm:=ajN (S:=SR1) (i:=1) (ps:=[]) (rs:=[.sh sI_,.sh sI_]) (spec:=fun m _ =>abv m) ahQ
noncomputable def anu (y0:Int) (y1:Int) (y2:Int):Option ((MV×Unit)×(Unit)) :=
 some ((MV.raise (⟨⟨false,0,0⟩,y0,y1,y2,1,0⟩:RaiseV),()),())
noncomputable abbrev an1:Con SR1:=⟨259,[.sh sI_,.sh sI_,.sh sI_],[.sh .mach],fun x =>anu x.1 x.2.1 x.2.2.1⟩
theorem asV:CO Tryz.prog an1:=aak aaj Tryz.func259 [] trivial [] trivial (fun _ =>[]) [] fun x =>by kernel_rfl
end
end Go.Proofs.YtdnimkpfgjcjeaaGreat
