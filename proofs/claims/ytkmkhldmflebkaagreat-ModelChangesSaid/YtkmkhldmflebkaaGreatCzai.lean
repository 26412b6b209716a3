/- Configurations in the evaluator's form. The reference: memory,layout. The reference: numbers. The reference: machines. Plain safety: what it means that an answer is there; numbers; the leaf functions always answer. The machines of the reference,said plainly: what a line does with the memory,the records,the events and its frame. No program occurs here. -/
import Derived.Test.YtkmkhldmflebkaaGreatCzah
set_option linter.all false
namespace Go.Proofs.YtkmkhldmflebkaaGreat
section
open Go Go.RowKit
set_option maxRecDepth 100000
variable [Tb]
abbrev ash (xs:List VwV) (i:Int):VwV:=atL (dfR 60:TR 60) xs i
abbrev aaa (xs:List TkV) (i:Int):TkV:=atL (dfR 61:TR 61) xs i
abbrev aac (xs:List WlV) (i:Int):WlV:=atL (dfR 62:TR 62) xs i
abbrev abi (xs:List KyV) (i:Int):KyV:=atL (dfR 63:TR 63) xs i
abbrev asg (xs:List VwV) (i:Int):VwV:=atL (dfR 66:TR 66) xs i
abbrev aoB (xs:List UseV) (i:Int):UseV:=atL (dfR 67:TR 67) xs i
abbrev aeA (xs:List KyV) (i:Int):KyV:=atL (dfR 68:TR 68) xs i
abbrev aah (xs:List TkP) (i:Int):TkP:=atL (dfR 70:TR 70) xs i
abbrev aam (xs:List WkP) (i:Int):WkP:=atL (dfR 71:TR 71) xs i
abbrev ws7 (xs:List RecV) (i:Int):List RecV:=xs.set i.toNat (aat xs i)
abbrev abD (xs:List TkP) (i:Int):List TkP:=xs.set i.toNat (aah xs i)
abbrev ad3 (xs:List TkP) (i:Int) (f:TkP→TkP):List TkP:=xs.set i.toNat (f (aah xs i))
abbrev aa6 (xs:List WkP) (i:Int):List WkP:=xs.set i.toNat (aam xs i)
abbrev ad1 (xs:List WkP) (i:Int) (f:WkP→WkP):List WkP:=xs.set i.toNat (f (aam xs i))
noncomputable def abR (r:CodV) (k:Int):Option ((Int×Unit)×(CodV×Unit)) :=
 if r.at_<((r.inn.length:Nat):Int) then
  if 0≤r.at_∧r.at_<((r.inn.length:Nat):Int) then
   if k≠0 then
   some (((Int.tmod (wi (agF r.inn r.at_)) k),()),(({ r with at_:=wi (r.at_+1) }:CodV),()))
   else none
  else none
 else
 some ((0,()),(({ r with at_:=wi (r.at_+1) }:CodV),()))
noncomputable abbrev alK:Con SR1:=⟨28,[.ref 19,.sh sI_],[.sh sI_],fun x =>abR x.1 x.2.1⟩
theorem ao8:CO Tryz.prog alK:=aaC aaB Tryz.func28 [] trivial [] trivial (fun _ =>[]) [] fun x =>by kernel_rfl
noncomputable def aj7 (b:List Int):Option ((Cfg×Unit)×(Unit)) :=
 (abR (⟨b,[],0,false⟩:CodV) 4).bind fun r1 =>
 (abR r1.2.1 4).bind fun r2 =>
 (abR r2.2.1 (if wi (1+r2.1.1)<3 then wi (1+r2.1.1) else 3)).bind fun r3 =>
 (abR r3.2.1 12).bind fun r4 =>
 (abR r4.2.1 4).bind fun r5 =>
 (abR r5.2.1 4).bind fun r6 =>
 (abR r6.2.1 (wi (1+r5.1.1))).bind fun r7 =>
 (abR r7.2.1 6).bind fun r8 =>
 (abR r8.2.1 8).bind fun r9 =>
 (abR r9.2.1 4).bind fun r10 =>
 (lpF (σ:=Int×CodV×Cfg×Unit) (β:=Int×CodV×Cfg×Unit) (fun self13 x11 =>
  if x11.1<(wi (1+r10.1.1)) then
   (abR x11.2.1 6).bind fun r14 =>
   (lpF (σ:=List Ins×Int×CodV×Unit) (β:=List Ins×Int×CodV×Unit) (fun self17 x15 =>
   if 0<x15.2.1 then
   (abR x15.2.2.1 3).bind fun r18 =>
   if r18.1.1=0 then
   (abR r18.2.1 4).bind fun r19 =>
   if (((x15.1.length+([(⟨r18.1.1,wi (1+r19.1.1),0⟩:Ins)]:List Ins).length:Nat)):Int)<1000000000000 then
   self17 (x15.1++([(⟨r18.1.1,wi (1+r19.1.1),0⟩:Ins)]),wi (x15.2.1-1),r19.2.1,())
   else none
   else
   if r18.1.1=1 then
   (abR r18.2.1 (wi (1+r10.1.1))).bind fun r20 =>
   (abR r20.2.1 x11.2.2.1.levels).bind fun r21 =>
   if (((x15.1.length+([(⟨r18.1.1,r20.1.1,r21.1.1⟩:Ins)]:List Ins).length:Nat)):Int)<1000000000000 then
   self17 (x15.1++([(⟨r18.1.1,r20.1.1,r21.1.1⟩:Ins)]),wi (x15.2.1-1),r21.2.1,())
   else none
   else
   (abR r18.2.1 4).bind fun r22 =>
   if (((x15.1.length+([(⟨r18.1.1,r22.1.1,0⟩:Ins)]:List Ins).length:Nat)):Int)<1000000000000 then
   self17 (x15.1++([(⟨r18.1.1,r22.1.1,0⟩:Ins)]),wi (x15.2.1-1),r22.2.1,())
   else none
   else
   some (x15.1,x15.2.1,x15.2.2.1,())
   ) 18446744073709551616 ([],r14.1.1,r14.2.1,())).bind fun z16 =>
   if (((x11.2.2.1.progs.length+([z16.1]:List (List Ins)).length:Nat)):Int)<100000000000 then
   self13 (wi (x11.1+1),z16.2.2.1,({ x11.2.2.1 with progs:=x11.2.2.1.progs++([z16.1]) }:Cfg),())
   else none
  else
  some (x11.1,x11.2.1,x11.2.2.1,())
 ) 18446744073709551616 (0,r10.2.1,(⟨wi (1+r1.1.1),wi (1+r2.1.1),wi (1+r3.1.1),wi (1+r4.1.1),wi (1+r5.1.1),wi (1+r6.1.1),wi (1+r7.1.1),r8.1.1,wi (1+r9.1.1),[],[]⟩:Cfg),())).bind fun z12 =>
 (abR z12.2.1 6).bind fun r23 =>
 (lpF (σ:=Int×CodV×Cfg×Unit) (β:=Int×CodV×Cfg×Unit) (fun self26 x24 =>
  if 0<x24.1 then
   (abR x24.2.1 (wi (1+r10.1.1))).bind fun r27 =>
   (abR r27.2.1 x24.2.2.1.levels).bind fun r28 =>
   (abR r28.2.1 16).bind fun r29 =>
   if (((x24.2.2.1.subs.length+([(⟨r27.1.1,r28.1.1,r29.1.1⟩:Sub)]:List Sub).length:Nat)):Int)<1000000000000 then
   self26 (wi (x24.1-1),r29.2.1,({ x24.2.2.1 with subs:=x24.2.2.1.subs++([(⟨r27.1.1,r28.1.1,r29.1.1⟩:Sub)]) }:Cfg),())
   else none
  else
  some (x24.1,x24.2.1,x24.2.2.1,())
 ) 18446744073709551616 (r23.1.1,r23.2.1,z12.2.2.1,())).bind fun z25 =>
 some ((z25.2.2.1,()),())
noncomputable abbrev alL:Con SR1:=⟨15,[.sh (.ro 17)],[.val 13],fun x =>aj7 x.1⟩
theorem ao9:CO Tryz.prog alL:=aaC aaB Tryz.func15 [alK] ⟨ao8,trivial⟩ [] trivial (fun _ =>[]) [(12,.loop [.rg 6 sI_,.rg 3 (.own 19),.rg 4 (.own 20)] 18446744073709551616 0),(16,.loop [.rg 7 (.row 3),.rg 8 sI_,.rg 3 (.own 19)] 18446744073709551616 2),(29,.loop [.rg 10 sI_,.rg 3 (.own 19),.rg 4 (.own 20)] 18446744073709551616 5)] fun x =>by kernel_rfl
noncomputable def akR (b:List Int):Option ((Cfg×Unit)×(Unit)) :=
 (aj7 b).bind fun r1 =>
 some ((r1.1.1,()),())
noncomputable abbrev akQ:Con SR1:=⟨8,[.sh (.ro 17)],[.val 13],fun x =>akR x.1⟩
theorem alT:CO Tryz.prog akQ:=aaC aaB Tryz.func8 [alL] ⟨ao9,trivial⟩ [] trivial (fun _ =>[]) [] fun x =>by kernel_rfl
noncomputable def aqI (b:List Int) (l:List (List Int)):Option ((Bool×Unit)×(Unit)) :=
 (lpF (σ:=Int×Unit) (β:=(Int×Unit)⊕((Bool×Unit)×(Unit))) (fun self3 x1 =>
  if x1.1<((l.length:Nat):Int) then
   if 0≤x1.1∧x1.1<((l.length:Nat):Int) then
   if 400<(((atL [] l x1.1).length:Nat):Int) then
   Option.map Sum.inr (
   some ((false,()),())
   )
   else
   self3 (wi (x1.1+1),())
   else none
  else
  some (Sum.inl (x1.1,()))
 ) 18446744073709551616 (0,())).bind fun z2 =>match z2 with
 | .inr o4 =>some o4
 | .inl z2 =>
 some ((decide (((b.length:Nat):Int)≤400),()),())
noncomputable abbrev aqH:Con SR1:=⟨7,[.sh (.ro 17),.sh (.rr 1)],[.sh .b],fun x =>aqI x.1 x.2.1⟩
theorem at4:CO Tryz.prog aqH:=aaC aaB Tryz.func7 [] trivial [] trivial (fun _ =>[]) [(2,.loopR [.rg 5 sI_] 18446744073709551616 0)] fun x =>by kernel_rfl
noncomputable def aBA (m:MemV) (a:Int):Option ((Bool×Unit)×(MemV×Unit)) :=
 if 0≤a then
  some ((decide (a<((m.cells.length:Nat):Int)),()),(m,()))
 else
 some ((false,()),(m,()))
noncomputable abbrev axd:Con SR1:=⟨181,[.ref 9,.sh sI_],[.sh .b],fun x =>aBA x.1 x.2.1⟩
theorem ayc:CO Tryz.prog axd:=aaC aaB Tryz.func181 [] trivial [] trivial (fun _ =>[]) [] fun x =>by kernel_rfl
noncomputable def aaN (m:MemV) (kind:Int) (a:Int) (v:Int) (w:Int):Option ((Int×Bool×Unit)×(MemV×Unit)) :=
 (aBA m a).bind fun r1 =>
 if (!r1.1.1)=true then
  some ((0,false,()),(r1.2.1,()))
 else
 if 0≤a∧a<((r1.2.1.cells.length:Nat):Int) then
  if kind=2 then
   if 0≤a∧a<((r1.2.1.cells.length:Nat):Int) then
   some ((ahL r1.2.1.cells a,true,()),((⟨r1.2.1.cells.set a.toNat v,⟨kind,a,ahL r1.2.1.cells a,v⟩,wi (r1.2.1.count+1)⟩:MemV),()))
   else none
  else
  if kind=3 then
   if (ahL r1.2.1.cells a)=v then
   if 0≤a∧a<((r1.2.1.cells.length:Nat):Int) then
   some ((ahL r1.2.1.cells a,decide ((ahL r1.2.1.cells a)=v),()),((⟨r1.2.1.cells.set a.toNat w,⟨kind,a,ahL r1.2.1.cells a,w⟩,wi (r1.2.1.count+1)⟩:MemV),()))
   else none
   else
   if 0≤a∧a<((r1.2.1.cells.length:Nat):Int) then
   some ((ahL r1.2.1.cells a,decide ((ahL r1.2.1.cells a)=v),()),((⟨r1.2.1.cells.set a.toNat (ahL r1.2.1.cells a),⟨kind,a,ahL r1.2.1.cells a,ahL r1.2.1.cells a⟩,wi (r1.2.1.count+1)⟩:MemV),()))
   else none
  else
  if kind=4 then
   if 0≤a∧a<((r1.2.1.cells.length:Nat):Int) then
   some ((ahL r1.2.1.cells a,true,()),((⟨r1.2.1.cells.set a.toNat (orU (ahL r1.2.1.cells a) v),⟨kind,a,ahL r1.2.1.cells a,orU (ahL r1.2.1.cells a) v⟩,wi (r1.2.1.count+1)⟩:MemV),()))
   else none
  else
  if kind=5 then
   if 0≤a∧a<((r1.2.1.cells.length:Nat):Int) then
   some ((ahL r1.2.1.cells a,true,()),((⟨r1.2.1.cells.set a.toNat (aCl (ahL r1.2.1.cells a) v),⟨kind,a,ahL r1.2.1.cells a,aCl (ahL r1.2.1.cells a) v⟩,wi (r1.2.1.count+1)⟩:MemV),()))
   else none
  else
  if kind=6 then
   if 0≤a∧a<((r1.2.1.cells.length:Nat):Int) then
   some ((ahL r1.2.1.cells a,true,()),((⟨r1.2.1.cells.set a.toNat (wu ((ahL r1.2.1.cells a)+v)),⟨kind,a,ahL r1.2.1.cells a,wu ((ahL r1.2.1.cells a)+v)⟩,wi (r1.2.1.count+1)⟩:MemV),()))
   else none
  else
  if 0≤a∧a<((r1.2.1.cells.length:Nat):Int) then
   some ((ahL r1.2.1.cells a,true,()),((⟨r1.2.1.cells.set a.toNat (ahL r1.2.1.cells a),⟨kind,a,ahL r1.2.1.cells a,ahL r1.2.1.cells a⟩,wi (r1.2.1.count+1)⟩:MemV),()))
  else none
 else none
noncomputable abbrev acW:Con SR1:=⟨153,[.ref 9,.sh sI_,.sh sI_,.sh sU_,.sh sU_],[.sh sU_,.sh .b],fun x =>aaN x.1 x.2.1 x.2.2.1 x.2.2.2.1 x.2.2.2.2.1⟩
theorem acn:CO Tryz.prog acW:=aaC aaB Tryz.func153 [axd] ⟨ayc,trivial⟩ [] trivial (fun _ =>[]) [] fun x =>by kernel_rfl
noncomputable def agU (a:Int) (b:Int) (c:Int) (d:Int):Option ((Int×Unit)×(Unit)) :=
 if b<0 then
  some (((-1),()),())
 else
 if c≤b then
  some (((-1),()),())
 else
 some ((wi (a+(wi (b*d))),()),())
noncomputable abbrev afS:Con SR1:=⟨148,[.sh sI_,.sh sI_,.sh sI_,.sh sI_],[.sh sI_],fun x =>agU x.1 x.2.1 x.2.2.1 x.2.2.2.1⟩
theorem afR:CO Tryz.prog afS:=aaC aaB Tryz.func148 [] trivial [] trivial (fun _ =>[]) [] fun x =>by kernel_rfl
noncomputable def aiB (c:Cfg):Option ((Int×Unit)×(Unit)) :=
 some ((wi ((wi ((wi (4+c.heap))+c.classes))+(wi (2*c.workers))),()),())
noncomputable abbrev ahm:Con SR1:=⟨82,[.val 13],[.sh sI_],fun x =>aiB x.1⟩
theorem ah3:CO Tryz.prog ahm:=aaC aaB Tryz.func82 [] trivial [] trivial (fun _ =>[]) [] fun x =>by kernel_rfl
noncomputable def afF (c:Cfg) (a:Int) (b:Int):Option ((QV×Unit)×(Unit)) :=
 if a<0 then
  some (((⟨(-1),(-1),(-1),0⟩:QV),()),())
 else
 if c.workers≤a then
  some (((⟨(-1),(-1),(-1),0⟩:QV),()),())
 else
 if b<0 then
  some (((⟨(-1),(-1),(-1),0⟩:QV),()),())
 else
 if c.levels≤b then
  some (((⟨(-1),(-1),(-1),0⟩:QV),()),())
 else
 (aiB c).bind fun r1 =>
 if c.deque=c.deque then
  if c.levels=c.levels then
   some (((⟨wi (r1.1.1+(wi ((wi ((wi (a*c.levels))+b))*(wi (2+c.deque))))),wi ((wi (r1.1.1+(wi ((wi ((wi (a*c.levels))+b))*(wi (2+c.deque))))))+1),wi ((wi (r1.1.1+(wi ((wi ((wi (a*c.levels))+b))*(wi (2+c.deque))))))+2),c.deque⟩:QV),()),())
  else none
 else none
noncomputable abbrev aky:Con SR1:=⟨100,[.val 13,.sh sI_,.sh sI_],[.val 14],fun x =>afF x.1 x.2.1 x.2.2.1⟩
theorem alH:CO Tryz.prog aky:=aaC aaB Tryz.func100 [ahm] ⟨ah3,trivial⟩ [] trivial (fun _ =>[]) [] fun x =>by kernel_rfl
noncomputable def ajM (c:Cfg) (a:Int) (b:Int):Option ((Int×Unit)×(Unit)) :=
 (aiB c).bind fun r1 =>
 if c.tasks=c.tasks then
  if c.deque=c.deque then
   if c.levels=c.levels then
   if c.workers=c.workers then
   (agU (wi (r1.1.1+(wi ((wi (c.workers*c.levels))*(wi (2+c.deque)))))) a c.tasks 5).bind fun r2 =>
   if r2.1.1<0 then
   some (((-1),()),())
   else
   some ((wi (r2.1.1+b),()),())
   else none
   else none
  else none
 else none
noncomputable abbrev ahl:Con SR1:=⟨182,[.val 13,.sh sI_,.sh sI_],[.sh sI_],fun x =>ajM x.1 x.2.1 x.2.2.1⟩
theorem agR:CO Tryz.prog ahl:=aaC aaB Tryz.func182 [ahm,afS] ⟨ah3,afR,trivial⟩ [] trivial (fun _ =>[]) [] fun x =>by kernel_rfl
noncomputable def agw (c:Cfg) (a:Int):Option ((Int×Unit)×(Unit)) :=
 (agU 4 a c.heap 1).bind fun r1 =>
 some ((r1.1.1,()),())
noncomputable abbrev amC:Con SR1:=⟨159,[.val 13,.sh sI_],[.sh sI_],fun x =>agw x.1 x.2.1⟩
theorem anV:CO Tryz.prog amC:=aaC aaB Tryz.func159 [afS] ⟨afR,trivial⟩ [] trivial (fun _ =>[]) [] fun x =>by kernel_rfl
noncomputable def adX (c:Cfg) (a:Int):Option ((Int×Unit)×(Unit)) :=
 (ajM c a 0).bind fun r1 =>
 some ((r1.1.1,()),())
noncomputable abbrev aej:Con SR1:=⟨167,[.val 13,.sh sI_],[.sh sI_],fun x =>adX x.1 x.2.1⟩
theorem ad6:CO Tryz.prog aej:=aaC aaB Tryz.func167 [ahl] ⟨agR,trivial⟩ [] trivial (fun _ =>[]) [] fun x =>by kernel_rfl
noncomputable def adY (c:Cfg) (a:Int):Option ((Int×Unit)×(Unit)) :=
 (ajM c a 1).bind fun r1 =>
 some ((r1.1.1,()),())
noncomputable abbrev afb:Con SR1:=⟨165,[.val 13,.sh sI_],[.sh sI_],fun x =>adY x.1 x.2.1⟩
theorem aeP:CO Tryz.prog afb:=aaC aaB Tryz.func165 [ahl] ⟨agR,trivial⟩ [] trivial (fun _ =>[]) [] fun x =>by kernel_rfl
noncomputable def adu (c:Cfg) (a:Int):Option ((Int×Unit)×(Unit)) :=
 (agU (wi ((wi ((wi (4+c.heap))+c.classes))+c.workers)) a c.workers 1).bind fun r1 =>
 some ((r1.1.1,()),())
noncomputable abbrev aeQ:Con SR1:=⟨101,[.val 13,.sh sI_],[.sh sI_],fun x =>adu x.1 x.2.1⟩
theorem afc:CO Tryz.prog aeQ:=aaC aaB Tryz.func101 [afS] ⟨afR,trivial⟩ [] trivial (fun _ =>[]) [] fun x =>by kernel_rfl
noncomputable def akA (c:Cfg):Option ((Int×Unit)×(Unit)) :=
 (aiB c).bind fun r1 =>
 if c.tasks=c.tasks then
  if c.deque=c.deque then
   if c.levels=c.levels then
   if c.workers=c.workers then
   some ((wi ((wi (r1.1.1+(wi ((wi (c.workers*c.levels))*(wi (2+c.deque))))))+(wi (5*c.tasks))),()),())
   else none
   else none
  else none
 else none
noncomputable abbrev anX:Con SR1:=⟨59,[.val 13],[.sh sI_],fun x =>akA x.1⟩
theorem arM:CO Tryz.prog anX:=aaC aaB Tryz.func59 [ahm] ⟨ah3,trivial⟩ [] trivial (fun _ =>[]) [] fun x =>by kernel_rfl
noncomputable def afE (c:Cfg) (a:Int):Option ((Int×Unit)×(Unit)) :=
 (ajM c a 4).bind fun r1 =>
 some ((r1.1.1,()),())
noncomputable abbrev aiA:Con SR1:=⟨166,[.val 13,.sh sI_],[.sh sI_],fun x =>afE x.1 x.2.1⟩
theorem aja:CO Tryz.prog aiA:=aaC aaB Tryz.func166 [ahl] ⟨agR,trivial⟩ [] trivial (fun _ =>[]) [] fun x =>by kernel_rfl
noncomputable def ah2 (c:Cfg) (a:Int):Option ((Int×Unit)×(Unit)) :=
 (ajM c a 3).bind fun r1 =>
 some ((r1.1.1,()),())
noncomputable abbrev akx:Con SR1:=⟨168,[.val 13,.sh sI_],[.sh sI_],fun x =>ah2 x.1 x.2.1⟩
theorem alG:CO Tryz.prog akx:=aaC aaB Tryz.func168 [ahl] ⟨agR,trivial⟩ [] trivial (fun _ =>[]) [] fun x =>by kernel_rfl
noncomputable def aeO (c:Cfg) (a:Int):Option ((Int×Unit)×(Unit)) :=
 (agU (wi (4+c.heap)) a c.classes 1).bind fun r1 =>
 some ((r1.1.1,()),())
noncomputable abbrev agT:Con SR1:=⟨169,[.val 13,.sh sI_],[.sh sI_],fun x =>aeO x.1 x.2.1⟩
theorem aiz:CO Tryz.prog agT:=aaC aaB Tryz.func169 [afS] ⟨afR,trivial⟩ [] trivial (fun _ =>[]) [] fun x =>by kernel_rfl
noncomputable def ajb (c:Cfg) (a:Int):Option ((Int×Unit)×(Unit)) :=
 (agU (wi ((wi (4+c.heap))+c.classes)) a c.workers 1).bind fun r1 =>
 some ((r1.1.1,()),())
noncomputable abbrev akz:Con SR1:=⟨170,[.val 13,.sh sI_],[.sh sI_],fun x =>ajb x.1 x.2.1⟩
theorem alJ:CO Tryz.prog akz:=aaC aaB Tryz.func170 [afS] ⟨afR,trivial⟩ [] trivial (fun _ =>[]) [] fun x =>by kernel_rfl
noncomputable def alI (c:Cfg) (a:Int):Option ((Int×Unit)×(Unit)) :=
 (ajM c a 2).bind fun r1 =>
 some ((r1.1.1,()),())
noncomputable abbrev amD:Con SR1:=⟨175,[.val 13,.sh sI_],[.sh sI_],fun x =>alI x.1 x.2.1⟩
theorem anW:CO Tryz.prog amD:=aaC aaB Tryz.func175 [ahl] ⟨agR,trivial⟩ [] trivial (fun _ =>[]) [] fun x =>by kernel_rfl
noncomputable def afd (a:Int):Option ((Int×Unit)×(Unit)) :=
 (lpF (σ:=Int×Int×Unit) (β:=Int×Int×Unit) (fun self3 x1 =>
  if 0<x1.1 then
   self3 (wi (x1.1-1),wu (x1.2.1*2),())
  else
  some (x1.1,x1.2.1,())
 ) 18446744073709551616 (a,1,())).bind fun z2 =>
 some ((z2.2.1,()),())
noncomputable abbrev agW:Con SR1:=⟨154,[.sh sI_],[.sh sU_],fun x =>afd x.1⟩
theorem aho:CO Tryz.prog agW:=aaC aaB Tryz.func154 [] trivial [] trivial (fun _ =>[]) [(2,.loop [.rg 0 sI_,.rg 3 sU_] 18446744073709551616 0)] fun x =>by kernel_rfl
noncomputable def an0 (a:Int) (b:Int):Option ((Bool×Unit)×(Unit)) :=
 if 0≤b then
  if b<64 then
   (afd b).bind fun r1 =>
   if r1.1.1≠0 then
   some ((decide ((Int.tmod (wu (Int.tdiv a r1.1.1)) 2)=1),()),())
   else none
  else
  some ((false,()),())
 else
 some ((false,()),())
noncomputable abbrev amH:Con SR1:=⟨156,[.sh sU_,.sh sI_],[.sh .b],fun x =>an0 x.1 x.2.1⟩
theorem amG:CO Tryz.prog amH:=aaC aaB Tryz.func156 [agW] ⟨aho,trivial⟩ [] trivial (fun _ =>[]) [] fun x =>by kernel_rfl
noncomputable def aqu (a:Int) (b:Int) (c:Int):Option ((Int×Bool×Unit)×(Unit)) :=
 if a<0 then
  some ((0,false,()),())
 else
 if 16777215<a then
  some ((0,false,()),())
 else
 if b<0 then
  some ((0,false,()),())
 else
 if 16777215<b then
  some ((0,false,()),())
 else
 if c<0 then
  some ((0,false,()),())
 else
 if 65535<c then
  some ((0,false,()),())
 else
 (afd 24).bind fun r1 =>
 (afd 16).bind fun r2 =>
 some ((wu ((wu ((wu ((wu ((wu (a))*r1.1.1))+(wu (b))))*r2.1.1))+(wu (c))),true,()),())
noncomputable abbrev aqt:Con SR1:=⟨157,[.sh sI_,.sh sI_,.sh sI_],[.sh sU_,.sh .b],fun x =>aqu x.1 x.2.1 x.2.2.1⟩
theorem atl:CO Tryz.prog aqt:=aaC aaB Tryz.func157 [agW] ⟨aho,trivial⟩ [] trivial (fun _ =>[]) [] fun x =>by kernel_rfl
noncomputable def aj9 (a:Int):Option ((Int×Int×Int×Unit)×(Unit)) :=
 (afd 40).bind fun r1 =>
 if r1.1.1≠0 then
  (afd 16).bind fun r2 =>
  if r2.1.1≠0 then
   (afd 24).bind fun r3 =>
   if r3.1.1≠0 then
   (afd 16).bind fun r4 =>
   if r4.1.1≠0 then
   some ((wi (wu (Int.tdiv a r1.1.1)),wi ((Int.tmod (wu (Int.tdiv a r2.1.1)) r3.1.1)),wi ((Int.tmod a r4.1.1)),()),())
   else none
   else none
  else none
 else none
noncomputable abbrev alN:Con SR1:=⟨160,[.sh sU_],[.sh sI_,.sh sI_,.sh sI_],fun x =>aj9 x.1⟩
theorem apb:CO Tryz.prog alN:=aaC aaB Tryz.func160 [agW] ⟨aho,trivial⟩ [] trivial (fun _ =>[]) [] fun x =>by kernel_rfl
noncomputable def aiF (a:Int):Option ((Int×Unit)×(Unit)) :=
 if a<0 then
  some ((0,()),())
 else
 if 63<a then
  some ((0,()),())
 else
 (afd a).bind fun r1 =>
 some ((r1.1.1,()),())
noncomputable abbrev aiE:Con SR1:=⟨111,[.sh sI_],[.sh sU_],fun x =>aiF x.1⟩
theorem aiD:CO Tryz.prog aiE:=aaC aaB Tryz.func111 [agW] ⟨aho,trivial⟩ [] trivial (fun _ =>[]) [] fun x =>by kernel_rfl
noncomputable def ajN (a:Int):Option ((Int×Unit)×(Unit)) :=
 (lpF (σ:=Int×Unit) (β:=(Int×Unit)⊕((Int×Unit)×(Unit))) (fun self3 x1 =>
  if 0≤x1.1 then
   (an0 a x1.1).bind fun r4 =>
   if r4.1.1=true then
   Option.map Sum.inr (
   some ((x1.1,()),())
   )
   else
   self3 (wi (x1.1-1),())
  else
  some (Sum.inl (x1.1,()))
 ) 18446744073709551616 (63,())).bind fun z2 =>match z2 with
 | .inr o5 =>some o5
 | .inl z2 =>
 some (((-1),()),())
noncomputable abbrev amE:Con SR1:=⟨115,[.sh sU_],[.sh sI_],fun x =>ajN x.1⟩
theorem anY:CO Tryz.prog amE:=aaC aaB Tryz.func115 [amH] ⟨amG,trivial⟩ [] trivial (fun _ =>[]) [(2,.loopR [.rg 3 sI_] 18446744073709551616 0)] fun x =>by kernel_rfl
noncomputable def avX (a:Int) (b:Int):Option ((Int×Unit)×(Unit)) :=
 (lpF (σ:=Int×Int×Unit) (β:=(Int×Int×Unit)⊕((Int×Unit)×(Unit))) (fun self3 x1 =>
  if x1.2.1<64 then
   (an0 a x1.2.1).bind fun r4 =>
   if (!r4.1.1)=true then
   self3 (x1.1,wi (x1.2.1+1),())
   else
   if x1.1=0 then
   Option.map Sum.inr (
   some ((x1.2.1,()),())
   )
   else
   self3 (wi (x1.1-1),wi (x1.2.1+1),())
  else
  some (Sum.inl (x1.1,x1.2.1,()))
 ) 18446744073709551616 (b,0,())).bind fun z2 =>match z2 with
 | .inr o5 =>some o5
 | .inl z2 =>
 some (((-1),()),())
noncomputable abbrev atm:Con SR1:=⟨183,[.sh sU_,.sh sI_],[.sh sI_],fun x =>avX x.1 x.2.1⟩
theorem avW:CO Tryz.prog atm:=aaC aaB Tryz.func183 [amH] ⟨amG,trivial⟩ [] trivial (fun _ =>[]) [(2,.loopR [.rg 1 sI_,.rg 5 sI_] 18446744073709551616 0)] fun x =>by kernel_rfl
noncomputable def avZ (a:Int):Option ((Int×Unit)×(Unit)) :=
 (avX a 0).bind fun r1 =>
 some ((r1.1.1,()),())
noncomputable abbrev atn:Con SR1:=⟨172,[.sh sU_],[.sh sI_],fun x =>avZ x.1⟩
theorem avY:CO Tryz.prog atn:=aaC aaB Tryz.func172 [atm] ⟨avW,trivial⟩ [] trivial (fun _ =>[]) [] fun x =>by kernel_rfl
noncomputable def amF (a:Int) (b:Int) (c:Int):Option ((Int×Unit)×(Unit)) :=
 if b<1 then
  some ((0,()),())
 else
 if 64<b then
  some ((0,()),())
 else
 if a<0 then
  some ((0,()),())
 else
 if b≤a then
  some ((0,()),())
 else
 if c<1 then
  some ((0,()),())
 else
 if 8<c then
  some ((0,()),())
 else
 if b≠0 then
  some ((wi (Int.tdiv (wi (a*c)) b),()),())
 else none
noncomputable abbrev anZ:Con SR1:=⟨171,[.sh sI_,.sh sI_,.sh sI_],[.sh sI_],fun x =>amF x.1 x.2.1 x.2.2.1⟩
theorem arP:CO Tryz.prog anZ:=aaC aaB Tryz.func171 [] trivial [] trivial (fun _ =>[]) [] fun x =>by kernel_rfl
noncomputable def aiC (a:Int) (b:Int):Option ((Int×Unit)×(Unit)) :=
 if b<1 then
  some ((0,()),())
 else
 if b≠0 then
  if (Int.tmod a b)<0 then
   if b≠0 then
   some ((wi ((Int.tmod a b)+b),()),())
   else none
  else
  if b≠0 then
   some (((Int.tmod a b),()),())
  else none
 else none
noncomputable abbrev ahn:Con SR1:=⟨23,[.sh sI_,.sh sI_],[.sh sI_],fun x =>aiC x.1 x.2.1⟩
theorem agV:CO Tryz.prog ahn:=aaC aaB Tryz.func23 [] trivial [] trivial (fun _ =>[]) [] fun x =>by kernel_rfl
noncomputable def ath (a:Int):Option ((MemV×Unit)×(Unit)) :=
 if (if 0<(if 131072<a then 131072 else a) then (if 131072<a then 131072 else a) else 0)=(if 0<(if 131072<a then 131072 else a) then (if 131072<a then 131072 else a) else 0) then
  if 0≤(if 0<(if 131072<a then 131072 else a) then (if 131072<a then 131072 else a) else 0)∧(if 0<(if 131072<a then 131072 else a) then (if 131072<a then 131072 else a) else 0)≤1099511627776 then
   some (((⟨List.replicate ((if 0<(if 131072<a then 131072 else a) then (if 131072<a then 131072 else a) else 0):Int).toNat (0:Int),⟨0,0,0,0⟩,0⟩:MemV),()),())
  else none
 else none
noncomputable abbrev atg:Con SR1:=⟨58,[.sh sI_],[.val 9],fun x =>ath x.1⟩
theorem avT:CO Tryz.prog atg:=aaC aaB Tryz.func58 [] trivial [] trivial (fun _ =>[]) [] fun x =>by kernel_rfl
noncomputable def af6 (a:Int) (b:Int):Option ((RecV×Unit)×(Unit)) :=
 some (((⟨a,b,0,0,(-1),[],false⟩:RecV),()),())
noncomputable abbrev aiv:Con SR1:=⟨60,[.sh sI_,.sh sI_],[.val 7],fun x =>af6 x.1 x.2.1⟩
theorem ai9:CO Tryz.prog aiv:=aaC aaB Tryz.func60 [] trivial [] trivial (fun _ =>[]) [] fun x =>by kernel_rfl
noncomputable def arC (cf:Cfg):Option ((EnvV×Unit)×(Unit)) :=
 (akA cf).bind fun r1 =>
 if cf.workers=cf.workers then
  if cf.levels=cf.levels then
   if cf.classes=cf.classes then
   if cf.tasks=cf.tasks then
   if cf.deque=cf.deque then
   if cf.heap=cf.heap then
   if cf.batch=cf.batch then
   if cf.age=cf.age then
   if cf.patience=cf.patience then
   (ath r1.1.1).bind fun r2 =>
   if cf.workers=cf.workers then
   if cf.levels=cf.levels then
   if cf.classes=cf.classes then
   if cf.tasks=cf.tasks then
   if cf.deque=cf.deque then
   if cf.heap=cf.heap then
   if cf.batch=cf.batch then
   if cf.age=cf.age then
   if cf.patience=cf.patience then
   (lpF (σ:=Int×EnvV×Unit) (β:=Int×EnvV×Unit) (fun self5 x3 =>
   if x3.1<cf.tasks then
   (af6 0 (-1)).bind fun r6 =>
   if (((x3.2.1.recs.length+([r6.1.1]:List RecV).length:Nat)):Int)<100000000000 then
   self5 (wi (x3.1+1),({ x3.2.1 with recs:=x3.2.1.recs++([r6.1.1]) }:EnvV),())
   else none
   else
   some (x3.1,x3.2.1,())
   ) 18446744073709551616 (0,(⟨cf,r2.1.1,0,0,[],[]⟩:EnvV),())).bind fun z4 =>
   some ((z4.2.1,()),())
   else none
   else none
   else none
   else none
   else none
   else none
   else none
   else none
   else none
   else none
   else none
   else none
   else none
   else none
   else none
   else none
  else none
 else none
noncomputable abbrev ata:Con SR1:=⟨29,[.val 13],[.sh (.own 12)],fun x =>arC x.1⟩
theorem avR:CO Tryz.prog ata:=aaC aaB Tryz.func29 [anX,atg,aiv] ⟨arM,avT,ai9,trivial⟩ [] trivial (fun _ =>[]) [(3,.loop [.rg 4 sI_,.rg 3 (.own 12)] 18446744073709551616 0)] fun x =>by kernel_rfl
noncomputable def ait (f:FrV):Option ((MaV×Unit)×(Unit)) :=
 if f.kind=22 then
  some (((⟨[({ f with line:=1,d:=(-1) }:FrV)],false,0,0⟩:MaV),()),())
 else
 some (((⟨[({ f with line:=1 }:FrV)],false,0,0⟩:MaV),()),())
noncomputable abbrev aqn:Con SR1:=⟨30,[.val 8],[.sh (.own 11)],fun x =>ait x.1⟩
theorem atb:CO Tryz.prog aqn:=aaC aaB Tryz.func30 [] trivial [] trivial (fun _ =>[]) [] fun x =>by kernel_rfl
noncomputable def afs (f:FrV):Option ((FrV×Bool×Unit)×(FrV×Unit)) :=
 if f.line=2 then
  some (((⟨8,0,⟨0,0,0,0⟩,f.a,0,0,0,0,0,0,0,0,0,0,[]⟩:FrV),true,()),(f,()))
 else
 if f.line=3 then
  some (((⟨11,0,⟨0,0,0,0⟩,f.a,0,0,0,0,0,0,0,0,0,0,[]⟩:FrV),true,()),(f,()))
 else
 if f.line=5 then
  some (((⟨5,0,⟨0,0,0,0⟩,f.a,f.t,f.n,0,0,0,0,0,0,0,0,[]⟩:FrV),true,()),(f,()))
 else
 if f.line=6 then
  some (((⟨9,0,⟨0,0,0,0⟩,0,0,0,0,0,0,0,0,0,0,0,[]⟩:FrV),true,()),(f,()))
 else
 if f.line=7 then
  some (((⟨20,0,⟨0,0,0,0⟩,f.a,f.j,0,0,0,0,0,0,0,0,0,[]⟩:FrV),true,()),(f,()))
 else
 some (((⟨0,0,⟨0,0,0,0⟩,0,0,0,0,0,0,0,0,0,0,0,[]⟩:FrV),false,()),(f,()))
noncomputable abbrev ahO:Con SR1:=⟨103,[.ref 8],[.val 8,.sh .b],fun x =>afs x.1⟩
theorem akt:CO Tryz.prog ahO:=aaC aaB Tryz.func103 [] trivial [] trivial (fun _ =>[]) [] fun x =>by kernel_rfl
noncomputable def aj6 (e:EnvV) (f:FrV):Option ((Unit)×(EnvV×FrV×Unit)) :=
 if f.line≠1 then
  some ((()),(e,f,()))
 else
 if 0≤wi (((f.l.length:Nat):Int)-1)∧wi (((f.l.length:Nat):Int)-1)<((f.l.length:Nat):Int) then
  if 0≤(aaf f.l (wi (((f.l.length:Nat):Int)-1))) then
   if (aaf f.l (wi (((f.l.length:Nat):Int)-1)))<e.c.tasks then
   if ¬ ((aaf f.l (wi (((f.l.length:Nat):Int)-1)))<((e.recs.length:Nat):Int)) then
   some ((()),(e,({ f with line:=23 }:FrV),()))
   else
   if 0≤aaf f.l (wi (((f.l.length:Nat):Int)-1))∧aaf f.l (wi (((f.l.length:Nat):Int)-1))<((e.recs.length:Nat):Int) then
   if 0≤aaf f.l (wi (((f.l.length:Nat):Int)-1))∧aaf f.l (wi (((f.l.length:Nat):Int)-1))<(((e.recs.set (aaf f.l (wi (((f.l.length:Nat):Int)-1))).toNat (aat e.recs (aaf f.l (wi (((f.l.length:Nat):Int)-1))))).length:Nat):Int) then
   if ((aat (e.recs.set (aaf f.l (wi (((f.l.length:Nat):Int)-1))).toNat (aat e.recs (aaf f.l (wi (((f.l.length:Nat):Int)-1))))) (aaf f.l (wi (((f.l.length:Nat):Int)-1)))).prog)<0 then
   if ((aat e.recs (aaf f.l (wi (((f.l.length:Nat):Int)-1)))).waiting)≠(-1) then
   some ((()),(({ e with recs:=e.recs.set (aaf f.l (wi (((f.l.length:Nat):Int)-1))).toNat (aat e.recs (aaf f.l (wi (((f.l.length:Nat):Int)-1)))) }:EnvV),({ f with line:=2 }:FrV),()))
   else
   if ((aat e.recs (aaf f.l (wi (((f.l.length:Nat):Int)-1)))).pc)<0 then
   some ((()),(({ e with recs:=e.recs.set (aaf f.l (wi (((f.l.length:Nat):Int)-1))).toNat (aat e.recs (aaf f.l (wi (((f.l.length:Nat):Int)-1)))) }:EnvV),({ f with line:=17 }:FrV),()))
   else
   if 0≤((aat e.recs (aaf f.l (wi (((f.l.length:Nat):Int)-1)))).pc) then
   some ((()),(({ e with recs:=e.recs.set (aaf f.l (wi (((f.l.length:Nat):Int)-1))).toNat (aat e.recs (aaf f.l (wi (((f.l.length:Nat):Int)-1)))) }:EnvV),({ f with line:=17 }:FrV),()))
   else
   none
   else
   if ((e.c.progs.length:Nat):Int)≤((aat (e.recs.set (aaf f.l (wi (((f.l.length:Nat):Int)-1))).toNat (aat e.recs (aaf f.l (wi (((f.l.length:Nat):Int)-1))))) (aaf f.l (wi (((f.l.length:Nat):Int)-1)))).prog) then
   if ((aat e.recs (aaf f.l (wi (((f.l.length:Nat):Int)-1)))).waiting)≠(-1) then
   some ((()),(({ e with recs:=e.recs.set (aaf f.l (wi (((f.l.length:Nat):Int)-1))).toNat (aat e.recs (aaf f.l (wi (((f.l.length:Nat):Int)-1)))) }:EnvV),({ f with line:=2 }:FrV),()))
   else
   if ((aat e.recs (aaf f.l (wi (((f.l.length:Nat):Int)-1)))).pc)<0 then
   some ((()),(({ e with recs:=e.recs.set (aaf f.l (wi (((f.l.length:Nat):Int)-1))).toNat (aat e.recs (aaf f.l (wi (((f.l.length:Nat):Int)-1)))) }:EnvV),({ f with line:=17 }:FrV),()))
   else
   if 0≤((aat e.recs (aaf f.l (wi (((f.l.length:Nat):Int)-1)))).pc) then
   some ((()),(({ e with recs:=e.recs.set (aaf f.l (wi (((f.l.length:Nat):Int)-1))).toNat (aat e.recs (aaf f.l (wi (((f.l.length:Nat):Int)-1)))) }:EnvV),({ f with line:=17 }:FrV),()))
   else
   none
   else
   if 0≤(aat (e.recs.set (aaf f.l (wi (((f.l.length:Nat):Int)-1))).toNat (aat e.recs (aaf f.l (wi (((f.l.length:Nat):Int)-1))))) (aaf f.l (wi (((f.l.length:Nat):Int)-1)))).prog∧(aat (e.recs.set (aaf f.l (wi (((f.l.length:Nat):Int)-1))).toNat (aat e.recs (aaf f.l (wi (((f.l.length:Nat):Int)-1))))) (aaf f.l (wi (((f.l.length:Nat):Int)-1)))).prog<((e.c.progs.length:Nat):Int) then
   if ((aat e.recs (aaf f.l (wi (((f.l.length:Nat):Int)-1)))).waiting)≠(-1) then
   some ((()),(({ e with recs:=e.recs.set (aaf f.l (wi (((f.l.length:Nat):Int)-1))).toNat (aat e.recs (aaf f.l (wi (((f.l.length:Nat):Int)-1)))) }:EnvV),({ f with line:=2 }:FrV),()))
   else
   if ((aat e.recs (aaf f.l (wi (((f.l.length:Nat):Int)-1)))).pc)<0 then
   some ((()),(({ e with recs:=e.recs.set (aaf f.l (wi (((f.l.length:Nat):Int)-1))).toNat (aat e.recs (aaf f.l (wi (((f.l.length:Nat):Int)-1)))) }:EnvV),({ f with line:=17 }:FrV),()))
   else
   if (((atL [] e.c.progs ((aat (e.recs.set (aaf f.l (wi (((f.l.length:Nat):Int)-1))).toNat (aat e.recs (aaf f.l (wi (((f.l.length:Nat):Int)-1))))) (aaf f.l (wi (((f.l.length:Nat):Int)-1)))).prog)).length:Nat):Int)≤((aat e.recs (aaf f.l (wi (((f.l.length:Nat):Int)-1)))).pc) then
   some ((()),(({ e with recs:=e.recs.set (aaf f.l (wi (((f.l.length:Nat):Int)-1))).toNat (aat e.recs (aaf f.l (wi (((f.l.length:Nat):Int)-1)))) }:EnvV),({ f with line:=17 }:FrV),()))
   else
   if 0≤(aat e.recs (aaf f.l (wi (((f.l.length:Nat):Int)-1)))).pc∧(aat e.recs (aaf f.l (wi (((f.l.length:Nat):Int)-1)))).pc<(((atL [] e.c.progs ((aat (e.recs.set (aaf f.l (wi (((f.l.length:Nat):Int)-1))).toNat (aat e.recs (aaf f.l (wi (((f.l.length:Nat):Int)-1))))) (aaf f.l (wi (((f.l.length:Nat):Int)-1)))).prog)).length:Nat):Int) then
   if ((acA (atL [] e.c.progs ((aat (e.recs.set (aaf f.l (wi (((f.l.length:Nat):Int)-1))).toNat (aat e.recs (aaf f.l (wi (((f.l.length:Nat):Int)-1))))) (aaf f.l (wi (((f.l.length:Nat):Int)-1)))).prog)) ((aat e.recs (aaf f.l (wi (((f.l.length:Nat):Int)-1)))).pc)).op)=0 then
   some ((()),(({ e with recs:=e.recs.set (aaf f.l (wi (((f.l.length:Nat):Int)-1))).toNat (aat e.recs (aaf f.l (wi (((f.l.length:Nat):Int)-1)))) }:EnvV),({ f with line:=3 }:FrV),()))
   else
   if 0≤(aat e.recs (aaf f.l (wi (((f.l.length:Nat):Int)-1)))).pc∧(aat e.recs (aaf f.l (wi (((f.l.length:Nat):Int)-1)))).pc<(((atL [] e.c.progs ((aat (e.recs.set (aaf f.l (wi (((f.l.length:Nat):Int)-1))).toNat (aat e.recs (aaf f.l (wi (((f.l.length:Nat):Int)-1))))) (aaf f.l (wi (((f.l.length:Nat):Int)-1)))).prog)).length:Nat):Int) then
   if ((acA (atL [] e.c.progs ((aat (e.recs.set (aaf f.l (wi (((f.l.length:Nat):Int)-1))).toNat (aat e.recs (aaf f.l (wi (((f.l.length:Nat):Int)-1))))) (aaf f.l (wi (((f.l.length:Nat):Int)-1)))).prog)) ((aat e.recs (aaf f.l (wi (((f.l.length:Nat):Int)-1)))).pc)).op)=1 then
   some ((()),(({ e with recs:=e.recs.set (aaf f.l (wi (((f.l.length:Nat):Int)-1))).toNat (aat e.recs (aaf f.l (wi (((f.l.length:Nat):Int)-1)))) }:EnvV),({ f with line:=5 }:FrV),()))
   else
   if 0≤(aat e.recs (aaf f.l (wi (((f.l.length:Nat):Int)-1)))).pc∧(aat e.recs (aaf f.l (wi (((f.l.length:Nat):Int)-1)))).pc<(((atL [] e.c.progs ((aat (e.recs.set (aaf f.l (wi (((f.l.length:Nat):Int)-1))).toNat (aat e.recs (aaf f.l (wi (((f.l.length:Nat):Int)-1))))) (aaf f.l (wi (((f.l.length:Nat):Int)-1)))).prog)).length:Nat):Int) then
   if ((acA (atL [] e.c.progs ((aat (e.recs.set (aaf f.l (wi (((f.l.length:Nat):Int)-1))).toNat (aat e.recs (aaf f.l (wi (((f.l.length:Nat):Int)-1))))) (aaf f.l (wi (((f.l.length:Nat):Int)-1)))).prog)) ((aat e.recs (aaf f.l (wi (((f.l.length:Nat):Int)-1)))).pc)).a)<((((aat e.recs (aaf f.l (wi (((f.l.length:Nat):Int)-1)))).kids).length:Nat):Int) then
   if 0≤(aat e.recs (aaf f.l (wi (((f.l.length:Nat):Int)-1)))).pc∧(aat e.recs (aaf f.l (wi (((f.l.length:Nat):Int)-1)))).pc<(((atL [] e.c.progs ((aat (e.recs.set (aaf f.l (wi (((f.l.length:Nat):Int)-1))).toNat (aat e.recs (aaf f.l (wi (((f.l.length:Nat):Int)-1))))) (aaf f.l (wi (((f.l.length:Nat):Int)-1)))).prog)).length:Nat):Int) then
   if 0≤(acA (atL [] e.c.progs ((aat (e.recs.set (aaf f.l (wi (((f.l.length:Nat):Int)-1))).toNat (aat e.recs (aaf f.l (wi (((f.l.length:Nat):Int)-1))))) (aaf f.l (wi (((f.l.length:Nat):Int)-1)))).prog)) ((aat e.recs (aaf f.l (wi (((f.l.length:Nat):Int)-1)))).pc)).a∧(acA (atL [] e.c.progs ((aat (e.recs.set (aaf f.l (wi (((f.l.length:Nat):Int)-1))).toNat (aat e.recs (aaf f.l (wi (((f.l.length:Nat):Int)-1))))) (aaf f.l (wi (((f.l.length:Nat):Int)-1)))).prog)) ((aat e.recs (aaf f.l (wi (((f.l.length:Nat):Int)-1)))).pc)).a<((((aat e.recs (aaf f.l (wi (((f.l.length:Nat):Int)-1)))).kids).length:Nat):Int) then
   if (aaf ((aat e.recs (aaf f.l (wi (((f.l.length:Nat):Int)-1)))).kids) ((acA (atL [] e.c.progs ((aat (e.recs.set (aaf f.l (wi (((f.l.length:Nat):Int)-1))).toNat (aat e.recs (aaf f.l (wi (((f.l.length:Nat):Int)-1))))) (aaf f.l (wi (((f.l.length:Nat):Int)-1)))).prog)) ((aat e.recs (aaf f.l (wi (((f.l.length:Nat):Int)-1)))).pc)).a))≠(-1) then
   if 0≤(aat e.recs (aaf f.l (wi (((f.l.length:Nat):Int)-1)))).pc∧(aat e.recs (aaf f.l (wi (((f.l.length:Nat):Int)-1)))).pc<(((atL [] e.c.progs ((aat (e.recs.set (aaf f.l (wi (((f.l.length:Nat):Int)-1))).toNat (aat e.recs (aaf f.l (wi (((f.l.length:Nat):Int)-1))))) (aaf f.l (wi (((f.l.length:Nat):Int)-1)))).prog)).length:Nat):Int) then
   if 0≤(acA (atL [] e.c.progs ((aat (e.recs.set (aaf f.l (wi (((f.l.length:Nat):Int)-1))).toNat (aat e.recs (aaf f.l (wi (((f.l.length:Nat):Int)-1))))) (aaf f.l (wi (((f.l.length:Nat):Int)-1)))).prog)) ((aat e.recs (aaf f.l (wi (((f.l.length:Nat):Int)-1)))).pc)).a∧(acA (atL [] e.c.progs ((aat (e.recs.set (aaf f.l (wi (((f.l.length:Nat):Int)-1))).toNat (aat e.recs (aaf f.l (wi (((f.l.length:Nat):Int)-1))))) (aaf f.l (wi (((f.l.length:Nat):Int)-1)))).prog)) ((aat e.recs (aaf f.l (wi (((f.l.length:Nat):Int)-1)))).pc)).a<((((aat e.recs (aaf f.l (wi (((f.l.length:Nat):Int)-1)))).kids).length:Nat):Int) then
   some ((()),(({ e with recs:=e.recs.set (aaf f.l (wi (((f.l.length:Nat):Int)-1))).toNat (aat e.recs (aaf f.l (wi (((f.l.length:Nat):Int)-1)))) }:EnvV),({ f with line:=10,j:=aaf ((aat e.recs (aaf f.l (wi (((f.l.length:Nat):Int)-1)))).kids) ((acA (atL [] e.c.progs ((aat (e.recs.set (aaf f.l (wi (((f.l.length:Nat):Int)-1))).toNat (aat e.recs (aaf f.l (wi (((f.l.length:Nat):Int)-1))))) (aaf f.l (wi (((f.l.length:Nat):Int)-1)))).prog)) ((aat e.recs (aaf f.l (wi (((f.l.length:Nat):Int)-1)))).pc)).a) }:FrV),()))
   else none
   else none
   else
   some ((()),(({ e with recs:=e.recs.set (aaf f.l (wi (((f.l.length:Nat):Int)-1))).toNat (aat e.recs (aaf f.l (wi (((f.l.length:Nat):Int)-1)))) }:EnvV),({ f with line:=4 }:FrV),()))
   else none
   else none
   else
   some ((()),(({ e with recs:=e.recs.set (aaf f.l (wi (((f.l.length:Nat):Int)-1))).toNat (aat e.recs (aaf f.l (wi (((f.l.length:Nat):Int)-1)))) }:EnvV),({ f with line:=4 }:FrV),()))
   else none
   else none
   else none
   else none
   else none
   else none
   else
   some ((()),(e,({ f with line:=23 }:FrV),()))
  else
  some ((()),(e,({ f with line:=23 }:FrV),()))
 else none
noncomputable abbrev alE:Con SR1:=⟨149,[.ref 12,.ref 8],[],fun x =>aj6 x.1 x.2.1⟩
noncomputable def ao6:List (Nat×Func):=[(173,Tryz.f173),(102,Tryz.f102),(174,Tryz.f174)]
theorem ao7:CO Tryz.prog alE:=aaC aaB Tryz.func149 [] trivial ao6 ⟨Tryz.func173,Tryz.func102,Tryz.func174,trivial⟩ (fun _ =>[]) [] fun x =>by kernel_rfl
noncomputable def ahh (e:EnvV) (f:FrV):Option ((FrV×Bool×Unit)×(EnvV×FrV×Unit)) :=
 (aj6 e f).bind fun r1 =>
 if r1.2.2.1.line=5 then
  some (((⟨12,0,⟨0,0,0,0⟩,0,0,0,0,0,0,0,0,0,0,0,[]⟩:FrV),true,()),(r1.2.1,r1.2.2.1,()))
 else
 if r1.2.2.1.line=6 then
  some (((⟨13,0,⟨0,0,0,0⟩,r1.2.2.1.n,r1.2.2.1.d,0,0,0,0,0,0,0,0,0,[]⟩:FrV),true,()),(r1.2.1,r1.2.2.1,()))
 else
 if r1.2.2.1.line=7 then
  some (((⟨5,0,⟨0,0,0,0⟩,r1.2.2.1.a,r1.2.2.1.d,r1.2.2.1.n,0,0,0,0,0,0,0,0,[]⟩:FrV),true,()),(r1.2.1,r1.2.2.1,()))
 else
 if r1.2.2.1.line=8 then
  some (((⟨20,0,⟨0,0,0,0⟩,r1.2.2.1.a,r1.2.2.1.d,0,0,0,0,0,0,0,0,0,[]⟩:FrV),true,()),(r1.2.1,r1.2.2.1,()))
 else
 if r1.2.2.1.line=9 then
  if r1.2.2.1.line=9 then
   some (((⟨14,0,⟨0,0,0,0⟩,r1.2.2.1.a,r1.2.2.1.n,0,0,0,0,0,0,0,0,0,[]⟩:FrV),true,()),(r1.2.1,r1.2.2.1,()))
  else
  if r1.2.2.1.line=14 then
   some (((⟨17,0,⟨0,0,0,0⟩,r1.2.2.1.a,r1.2.2.1.j,r1.2.2.1.t,0,0,0,0,0,0,0,0,[]⟩:FrV),true,()),(r1.2.1,r1.2.2.1,()))
  else
  if r1.2.2.1.line=20 then
   some (((⟨15,0,⟨0,0,0,0⟩,r1.2.2.1.a,r1.2.2.1.n,0,0,0,0,0,0,0,0,0,[]⟩:FrV),true,()),(r1.2.1,r1.2.2.1,()))
  else
  if r1.2.2.1.line=21 then
   some (((⟨20,0,⟨0,0,0,0⟩,r1.2.2.1.a,r1.2.2.1.t,0,0,0,0,0,0,0,0,0,[]⟩:FrV),true,()),(r1.2.1,r1.2.2.1,()))
  else
  some (((⟨0,0,⟨0,0,0,0⟩,0,0,0,0,0,0,0,0,0,0,0,[]⟩:FrV),false,()),(r1.2.1,r1.2.2.1,()))
 else
 if r1.2.2.1.line=22 then
  some (((⟨14,0,⟨0,0,0,0⟩,r1.2.2.1.a,r1.2.2.1.n,0,0,0,0,0,0,0,0,0,[]⟩:FrV),true,()),(r1.2.1,r1.2.2.1,()))
 else
 if r1.2.2.1.line=14 then
  some (((⟨17,0,⟨0,0,0,0⟩,r1.2.2.1.a,r1.2.2.1.j,r1.2.2.1.t,0,0,0,0,0,0,0,0,[]⟩:FrV),true,()),(r1.2.1,r1.2.2.1,()))
 else
 if r1.2.2.1.line=20 then
  some (((⟨15,0,⟨0,0,0,0⟩,r1.2.2.1.a,r1.2.2.1.n,0,0,0,0,0,0,0,0,0,[]⟩:FrV),true,()),(r1.2.1,r1.2.2.1,()))
 else
 if r1.2.2.1.line=21 then
  some (((⟨20,0,⟨0,0,0,0⟩,r1.2.2.1.a,r1.2.2.1.t,0,0,0,0,0,0,0,0,0,[]⟩:FrV),true,()),(r1.2.1,r1.2.2.1,()))
 else
 some (((⟨0,0,⟨0,0,0,0⟩,0,0,0,0,0,0,0,0,0,0,0,[]⟩:FrV),false,()),(r1.2.1,r1.2.2.1,()))
noncomputable abbrev ajI:Con SR1:=⟨104,[.ref 12,.ref 8],[.val 8,.sh .b],fun x =>ahh x.1 x.2.1⟩
theorem amv:CO Tryz.prog ajI:=aaC aaB Tryz.func104 [alE] ⟨ao7,trivial⟩ [] trivial (fun _ =>[]) [] fun x =>by kernel_rfl
noncomputable def ahg (a:Int) (b:Int):Option ((FrV×Unit)×(Unit)) :=
 some (((⟨24,0,⟨0,0,0,0⟩,a,b,0,0,0,0,0,0,0,0,0,[b]⟩:FrV),()),())
noncomputable abbrev ajH:Con SR1:=⟨150,[.sh sI_,.sh sI_],[.val 8],fun x =>ahg x.1 x.2.1⟩
theorem amu:CO Tryz.prog ajH:=aaC aaB Tryz.func150 [] trivial [] trivial (fun _ =>[]) [] fun x =>by kernel_rfl
noncomputable def aeJ (e:EnvV) (f:FrV):Option ((FrV×Bool×Unit)×(EnvV×FrV×Unit)) :=
 if f.line=1 then
  if e.c.age=0 then
   some (((⟨23,0,⟨0,0,0,0⟩,f.a,0,0,0,0,0,0,0,0,0,0,[]⟩:FrV),true,()),(e,({ f with line:=2 }:FrV),()))
  else
  if f.line=1 then
   some (((⟨18,0,⟨0,0,0,0⟩,f.a,f.j,0,0,0,0,0,0,0,0,0,[]⟩:FrV),true,()),(e,f,()))
  else
  if f.line=2 then
   some (((⟨23,0,⟨0,0,0,0⟩,f.a,0,0,0,0,0,0,0,0,0,0,[]⟩:FrV),true,()),(e,f,()))
  else
  if f.line=3 then
   some (((⟨22,0,⟨0,0,0,0⟩,f.a,0,(-1),0,0,0,0,0,0,0,0,[]⟩:FrV),true,()),(e,f,()))
  else
  if f.line=4 then
   some (((⟨21,0,⟨0,0,0,0⟩,f.a,0,0,0,0,0,0,0,0,0,0,[]⟩:FrV),true,()),(e,f,()))
  else
  if f.line=5 then
   (afF e.c f.i f.d).bind fun r1 =>
   some (((⟨2,0,r1.1.1,0,0,0,0,0,0,0,0,0,0,0,[]⟩:FrV),true,()),(e,f,()))
  else
  if f.line=6 then
   some (((⟨14,0,⟨0,0,0,0⟩,f.a,f.n,0,0,0,0,0,0,0,0,0,[]⟩:FrV),true,()),(e,f,()))
  else
  if f.line=7 then
   (ahg f.a f.n).bind fun r2 =>
   some ((r2.1.1,true,()),(e,f,()))
  else
  if f.line=8 then
   some (((⟨19,0,⟨0,0,0,0⟩,f.a,0,0,0,0,0,0,0,0,0,0,[]⟩:FrV),true,()),(e,f,()))
  else
  (adu e.c f.i).bind fun r3 =>
  if f.d=f.d then
   if f.i=f.i then
   if e.c.workers=e.c.workers then
   if e.c.levels=e.c.levels then
   if e.c.classes=e.c.classes then
   if e.c.tasks=e.c.tasks then
   if e.c.deque=e.c.deque then
   if e.c.heap=e.c.heap then
   if e.c.batch=e.c.batch then
   if e.c.age=e.c.age then
   if e.c.patience=e.c.patience then
   if f.d=f.d then
   (afF e.c f.i f.d).bind fun r4 =>
   if f.d=f.d then
   some (((⟨4,0,r4.1.1,r3.1.1,f.d,0,0,0,0,0,0,0,0,0,[]⟩:FrV),true,()),(e,f,()))
   else none
   else none
   else none
   else none
   else none
   else none
   else none
   else none
   else none
   else none
   else none
   else none
  else none
 else
 if f.line=1 then
  some (((⟨18,0,⟨0,0,0,0⟩,f.a,f.j,0,0,0,0,0,0,0,0,0,[]⟩:FrV),true,()),(e,f,()))
 else
 if f.line=2 then
  some (((⟨23,0,⟨0,0,0,0⟩,f.a,0,0,0,0,0,0,0,0,0,0,[]⟩:FrV),true,()),(e,f,()))
 else
 if f.line=3 then
  some (((⟨22,0,⟨0,0,0,0⟩,f.a,0,(-1),0,0,0,0,0,0,0,0,[]⟩:FrV),true,()),(e,f,()))
 else
 if f.line=4 then
  some (((⟨21,0,⟨0,0,0,0⟩,f.a,0,0,0,0,0,0,0,0,0,0,[]⟩:FrV),true,()),(e,f,()))
 else
 if f.line=5 then
  (afF e.c f.i f.d).bind fun r5 =>
  some (((⟨2,0,r5.1.1,0,0,0,0,0,0,0,0,0,0,0,[]⟩:FrV),true,()),(e,f,()))
 else
 if f.line=6 then
  some (((⟨14,0,⟨0,0,0,0⟩,f.a,f.n,0,0,0,0,0,0,0,0,0,[]⟩:FrV),true,()),(e,f,()))
 else
 if f.line=7 then
  (ahg f.a f.n).bind fun r6 =>
  some ((r6.1.1,true,()),(e,f,()))
 else
 if f.line=8 then
  some (((⟨19,0,⟨0,0,0,0⟩,f.a,0,0,0,0,0,0,0,0,0,0,[]⟩:FrV),true,()),(e,f,()))
 else
 (adu e.c f.i).bind fun r7 =>
 if f.d=f.d then
  if f.i=f.i then
   if e.c.workers=e.c.workers then
   if e.c.levels=e.c.levels then
   if e.c.classes=e.c.classes then
   if e.c.tasks=e.c.tasks then
   if e.c.deque=e.c.deque then
   if e.c.heap=e.c.heap then
   if e.c.batch=e.c.batch then
   if e.c.age=e.c.age then
   if e.c.patience=e.c.patience then
   if f.d=f.d then
   (afF e.c f.i f.d).bind fun r8 =>
   if f.d=f.d then
   some (((⟨4,0,r8.1.1,r7.1.1,f.d,0,0,0,0,0,0,0,0,0,[]⟩:FrV),true,()),(e,f,()))
   else none
   else none
   else none
   else none
   else none
   else none
   else none
   else none
   else none
   else none
   else none
  else none
 else none
noncomputable abbrev agP:Con SR1:=⟨105,[.ref 12,.ref 8],[.val 8,.sh .b],fun x =>aeJ x.1 x.2.1⟩
theorem ajV:CO Tryz.prog agP:=aaC aaB Tryz.func105 [aky,ajH,aeQ] ⟨alH,amu,afc,trivial⟩ [] trivial (fun _ =>[]) [] fun x =>by kernel_rfl
noncomputable def aeK (e:EnvV) (f:FrV):Option ((FrV×Bool×Unit)×(EnvV×FrV×Unit)) :=
 if ((e.c.subs.length:Nat):Int)≤f.i then
  some (((⟨0,0,⟨0,0,0,0⟩,0,0,0,0,0,0,0,0,0,0,0,[]⟩:FrV),false,()),(e,f,()))
 else
 if 0≤f.i∧f.i<((e.c.subs.length:Nat):Int) then
  if ((acK e.c.subs f.i).prog)=((acK e.c.subs f.i).prog) then
   if ((acK e.c.subs f.i).level)=((acK e.c.subs f.i).level) then
   if ((acK e.c.subs f.i).deadline)=((acK e.c.subs f.i).deadline) then
   if f.i=f.i then
   if f.line=1 then
   some (((⟨7,0,⟨0,0,0,0⟩,e.c.workers,0,0,0,0,0,0,0,0,0,0,[]⟩:FrV),true,()),(e,f,()))
   else
   if f.line=3 then
   some (((⟨12,0,⟨0,0,0,0⟩,0,0,0,0,0,0,0,0,0,0,0,[]⟩:FrV),true,()),(e,f,()))
   else
   if f.line=6 then
   some (((⟨10,0,⟨0,0,0,0⟩,(acK e.c.subs f.i).deadline,f.n,0,0,0,0,0,0,0,0,0,[]⟩:FrV),true,()),(e,f,()))
   else
   if f.line=8 then
   some (((⟨9,0,⟨0,0,0,0⟩,0,0,0,0,0,0,0,0,0,0,0,[]⟩:FrV),true,()),(e,f,()))
   else
   if f.line=9 then
   some (((⟨20,0,⟨0,0,0,0⟩,e.c.workers,(acK e.c.subs f.i).level,0,0,0,0,0,0,0,0,0,[]⟩:FrV),true,()),(e,f,()))
   else
   some (((⟨0,0,⟨0,0,0,0⟩,0,0,0,0,0,0,0,0,0,0,0,[]⟩:FrV),false,()),(e,f,()))
   else none
   else none
   else none
  else none
 else none
noncomputable abbrev agQ:Con SR1:=⟨106,[.ref 12,.ref 8],[.val 8,.sh .b],fun x =>aeK x.1 x.2.1⟩
theorem ajW:CO Tryz.prog agQ:=aaC aaB Tryz.func106 [] trivial [] trivial (fun _ =>[]) [] fun x =>by kernel_rfl
noncomputable def ah1 (e:EnvV) (f:FrV):Option ((FrV×Bool×Unit)×(EnvV×FrV×Unit)) :=
 if f.kind=5 then
  if f.line=1 then
   (afF e.c f.a f.b).bind fun r1 =>
   if f.d=f.d then
   some (((⟨0,0,r1.1.1,f.d,0,0,0,0,0,0,0,0,0,0,[]⟩:FrV),true,()),(e,f,()))
   else none
  else
  (adu e.c f.a).bind fun r2 =>
  if f.b=f.b then
   some (((⟨3,0,⟨0,0,0,0⟩,r2.1.1,f.b,0,0,0,0,0,0,0,0,0,[]⟩:FrV),true,()),(e,f,()))
  else none
 else
 if f.kind=6 then
  if f.line=2 then
   (afF e.c f.a f.i).bind fun r3 =>
   some (((⟨1,0,r3.1.1,0,0,0,0,0,0,0,0,0,0,0,[]⟩:FrV),true,()),(e,f,()))
  else
  if f.line=3 then
   (adu e.c f.a).bind fun r4 =>
   if f.i=f.i then
   if f.a=f.a then
   if e.c.workers=e.c.workers then
   if e.c.levels=e.c.levels then
   if e.c.classes=e.c.classes then
   if e.c.tasks=e.c.tasks then
   if e.c.deque=e.c.deque then
   if e.c.heap=e.c.heap then
   if e.c.batch=e.c.batch then
   if e.c.age=e.c.age then
   if e.c.patience=e.c.patience then
   if f.i=f.i then
   (afF e.c f.a f.i).bind fun r5 =>
   if f.i=f.i then
   some (((⟨4,0,r5.1.1,r4.1.1,f.i,0,0,0,0,0,0,0,0,0,[]⟩:FrV),true,()),(e,f,()))
   else none
   else none
   else none
   else none
   else none
   else none
   else none
   else none
   else none
   else none
   else none
   else none
   else none
  else
  some (((⟨0,0,⟨0,0,0,0⟩,0,0,0,0,0,0,0,0,0,0,0,[]⟩:FrV),false,()),(e,f,()))
 else
 if f.kind=15 then
  if f.line=4 then
   some (((⟨5,0,⟨0,0,0,0⟩,f.a,f.t,f.b,0,0,0,0,0,0,0,0,[]⟩:FrV),true,()),(e,f,()))
  else
  some (((⟨0,0,⟨0,0,0,0⟩,0,0,0,0,0,0,0,0,0,0,0,[]⟩:FrV),false,()),(e,f,()))
 else
 if f.kind=17 then
  if f.line=1 then
   if 0≤f.b then
   if f.b<e.c.tasks then
   if f.b<((e.recs.length:Nat):Int) then
   if 0≤f.d then
   if f.d<e.c.levels then
   some ((({ f with kind:=16,line:=0,q:=⟨0,0,0,0⟩,i:=0,j:=0,n:=0,t:=0,u:=0,v:=0,w:=0,x:=0,l:=[] }:FrV),true,()),(e,f,()))
   else
   if f.line=3 then
   some (((⟨5,0,⟨0,0,0,0⟩,f.a,f.d,f.b,0,0,0,0,0,0,0,0,[]⟩:FrV),true,()),(e,f,()))
   else
   some (((⟨0,0,⟨0,0,0,0⟩,0,0,0,0,0,0,0,0,0,0,0,[]⟩:FrV),false,()),(e,f,()))
   else
   if f.line=3 then
   some (((⟨5,0,⟨0,0,0,0⟩,f.a,f.d,f.b,0,0,0,0,0,0,0,0,[]⟩:FrV),true,()),(e,f,()))
   else
   some (((⟨0,0,⟨0,0,0,0⟩,0,0,0,0,0,0,0,0,0,0,0,[]⟩:FrV),false,()),(e,f,()))
   else
   if f.line=3 then
   some (((⟨5,0,⟨0,0,0,0⟩,f.a,f.d,f.b,0,0,0,0,0,0,0,0,[]⟩:FrV),true,()),(e,f,()))
   else
   some (((⟨0,0,⟨0,0,0,0⟩,0,0,0,0,0,0,0,0,0,0,0,[]⟩:FrV),false,()),(e,f,()))
   else
   if f.line=3 then
   some (((⟨5,0,⟨0,0,0,0⟩,f.a,f.d,f.b,0,0,0,0,0,0,0,0,[]⟩:FrV),true,()),(e,f,()))
   else
   some (((⟨0,0,⟨0,0,0,0⟩,0,0,0,0,0,0,0,0,0,0,0,[]⟩:FrV),false,()),(e,f,()))
   else
   if f.line=3 then
   some (((⟨5,0,⟨0,0,0,0⟩,f.a,f.d,f.b,0,0,0,0,0,0,0,0,[]⟩:FrV),true,()),(e,f,()))
   else
   some (((⟨0,0,⟨0,0,0,0⟩,0,0,0,0,0,0,0,0,0,0,0,[]⟩:FrV),false,()),(e,f,()))
  else
  if f.line=3 then
   some (((⟨5,0,⟨0,0,0,0⟩,f.a,f.d,f.b,0,0,0,0,0,0,0,0,[]⟩:FrV),true,()),(e,f,()))
  else
  some (((⟨0,0,⟨0,0,0,0⟩,0,0,0,0,0,0,0,0,0,0,0,[]⟩:FrV),false,()),(e,f,()))
 else
 if f.kind=18 then
  if f.line=6 then
   some (((⟨5,0,⟨0,0,0,0⟩,f.a,f.t,f.b,0,0,0,0,0,0,0,0,[]⟩:FrV),true,()),(e,f,()))
  else
  some (((⟨0,0,⟨0,0,0,0⟩,0,0,0,0,0,0,0,0,0,0,0,[]⟩:FrV),false,()),(e,f,()))
 else
 if f.kind=22 then
  (afs f).bind fun r6 =>
  some ((r6.1.1,r6.1.2.1,()),(e,r6.2.1,()))
 else
 if f.kind=23 then
  if f.line=1 then
   some (((⟨6,0,⟨0,0,0,0⟩,f.a,0,0,0,0,0,0,0,0,0,0,[]⟩:FrV),true,()),(e,f,()))
  else
  some (((⟨14,0,⟨0,0,0,0⟩,f.a,f.n,0,0,0,0,0,0,0,0,0,[]⟩:FrV),true,()),(e,f,()))
 else
 if f.kind=24 then
  (ahh e f).bind fun r7 =>
  some ((r7.1.1,r7.1.2.1,()),(r7.2.1,r7.2.2.1,()))
 else
 if f.kind=25 then
  (aeJ e f).bind fun r8 =>
  some ((r8.1.1,r8.1.2.1,()),(r8.2.1,r8.2.2.1,()))
 else
 if f.kind=26 then
  (aeK e f).bind fun r9 =>
  some ((r9.1.1,r9.1.2.1,()),(r9.2.1,r9.2.2.1,()))
 else
 some (((⟨0,0,⟨0,0,0,0⟩,0,0,0,0,0,0,0,0,0,0,0,[]⟩:FrV),false,()),(e,f,()))
noncomputable abbrev anP:Con SR1:=⟨83,[.ref 12,.ref 8],[.val 8,.sh .b],fun x =>ah1 x.1 x.2.1⟩
noncomputable def arE:List (Nat×Func):=[(102,Tryz.f102)]
theorem arF:CO Tryz.prog anP:=aaC aaB Tryz.func83 [aky,aeQ,ahO,ajI,agP,agQ] ⟨alH,afc,akt,amv,ajV,ajW,trivial⟩ arE ⟨Tryz.func102,trivial⟩ (fun _ =>[]) [] fun x =>by kernel_rfl
noncomputable def aqm (e:EnvV) (f:FrV):Option ((ResV×Unit)×(EnvV×FrV×Unit)) :=
 if f.line=1 then
  (aaN e.m 1 f.q.bottom 0 0).bind fun r1 =>
  some (((⟨false,0,0⟩:ResV),()),(({ e with m:=r1.2.1 }:EnvV),({ f with line:=wi (f.line+1),u:=r1.1.1 }:FrV),()))
 else
 if f.line=2 then
  (aaN e.m 1 f.q.top 0 0).bind fun r2 =>
  if f.q.cap=f.q.cap then
   if f.q.cap≤(wi (wu (f.u-r2.1.1))) then
   some (((⟨true,3,0⟩:ResV),()),(({ e with m:=r2.2.1 }:EnvV),({ f with v:=r2.1.1 }:FrV),()))
   else
   some (((⟨false,0,0⟩:ResV),()),(({ e with m:=r2.2.1 }:EnvV),({ f with line:=wi (f.line+1),v:=r2.1.1 }:FrV),()))
  else none
 else
 if f.line=3 then
  if f.q.cap<1 then
   if f.a=f.a then
   (aaN e.m 2 (-1) (wu (f.a)) 0).bind fun r3 =>
   some (((⟨false,0,0⟩:ResV),()),(({ e with m:=r3.2.1 }:EnvV),({ f with line:=wi (f.line+1) }:FrV),()))
   else none
  else
  if (wu (f.q.cap))≠0 then
   if f.a=f.a then
   (aaN e.m 2 (wi (f.q.ring+(wi ((Int.tmod f.u (wu (f.q.cap))))))) (wu (f.a)) 0).bind fun r4 =>
   some (((⟨false,0,0⟩:ResV),()),(({ e with m:=r4.2.1 }:EnvV),({ f with line:=wi (f.line+1) }:FrV),()))
   else none
  else none
 else
 (aaN e.m 2 f.q.bottom (wu (f.u+1)) 0).bind fun r5 =>
 some (((⟨true,0,0⟩:ResV),()),(({ e with m:=r5.2.1 }:EnvV),f,()))
noncomputable abbrev aql:Con SR1:=⟨107,[.ref 12,.ref 8],[.val 10],fun x =>aqm x.1 x.2.1⟩
noncomputable def as6:List (Nat×Func):=[(114,Tryz.f114),(151,Tryz.f151),(112,Tryz.f112),(152,Tryz.f152),(117,Tryz.f117)]
theorem as7:CO Tryz.prog aql:=aaC aaB Tryz.func107 [acW] ⟨acn,trivial⟩ as6 ⟨Tryz.func114,Tryz.func151,Tryz.func112,Tryz.func152,Tryz.func117,trivial⟩ (fun _ =>[]) [] fun x =>by kernel_rfl
noncomputable def avQ (e:EnvV) (f:FrV):Option ((ResV×Unit)×(EnvV×FrV×Unit)) :=
 if f.line=1 then
  (aaN e.m 1 f.q.bottom 0 0).bind fun r1 =>
  some (((⟨false,0,0⟩:ResV),()),(({ e with m:=r1.2.1 }:EnvV),({ f with line:=wi (f.line+1),u:=r1.1.1 }:FrV),()))
 else
 if f.line=2 then
  (aaN e.m 1 f.q.top 0 0).bind fun r2 =>
  if (wi (wu (f.u-r2.1.1)))≤0 then
   some (((⟨true,2,0⟩:ResV),()),(({ e with m:=r2.2.1 }:EnvV),({ f with v:=r2.1.1 }:FrV),()))
  else
  some (((⟨false,0,0⟩:ResV),()),(({ e with m:=r2.2.1 }:EnvV),({ f with line:=wi (f.line+1),v:=r2.1.1 }:FrV),()))
 else
 if f.line=3 then
  (aaN e.m 2 f.q.bottom (wu (f.u-1)) 0).bind fun r3 =>
  some (((⟨false,0,0⟩:ResV),()),(({ e with m:=r3.2.1 }:EnvV),({ f with line:=wi (f.line+1) }:FrV),()))
 else
 if f.line=4 then
  (aaN e.m 1 f.q.top 0 0).bind fun r4 =>
  if (wi (wu ((wu (f.u-1))-r4.1.1)))=0 then
   some (((⟨false,0,0⟩:ResV),()),(({ e with m:=r4.2.1 }:EnvV),({ f with line:=6,v:=r4.1.1 }:FrV),()))
  else
  if (wi (wu ((wu (f.u-1))-r4.1.1)))<0 then
   some (((⟨false,0,0⟩:ResV),()),(({ e with m:=r4.2.1 }:EnvV),({ f with line:=9,v:=r4.1.1 }:FrV),()))
  else
  some (((⟨false,0,0⟩:ResV),()),(({ e with m:=r4.2.1 }:EnvV),({ f with line:=wi (f.line+1),v:=r4.1.1 }:FrV),()))
 else
 if f.line=5 then
  if f.line=5 then
   if f.q.cap<1 then
   (aaN e.m 1 (-1) 0 0).bind fun r5 =>
   some (((⟨true,1,wi (r5.1.1)⟩:ResV),()),(({ e with m:=r5.2.1 }:EnvV),f,()))
   else
   if (wu (f.q.cap))≠0 then
   (aaN e.m 1 (wi (f.q.ring+(wi ((Int.tmod (wu (f.u-1)) (wu (f.q.cap))))))) 0 0).bind fun r6 =>
   some (((⟨true,1,wi (r6.1.1)⟩:ResV),()),(({ e with m:=r6.2.1 }:EnvV),f,()))
   else none
  else
  if f.line=6 then
   (aaN e.m 3 f.q.top f.v (wu (f.v+1))).bind fun r7 =>
   if (!r7.1.2.1)=true then
   some (((⟨false,0,0⟩:ResV),()),(({ e with m:=r7.2.1 }:EnvV),({ f with line:=9 }:FrV),()))
   else
   some (((⟨false,0,0⟩:ResV),()),(({ e with m:=r7.2.1 }:EnvV),({ f with line:=wi (f.line+1) }:FrV),()))
  else
  if f.line=7 then
   (aaN e.m 2 f.q.bottom f.u 0).bind fun r8 =>
   some (((⟨false,0,0⟩:ResV),()),(({ e with m:=r8.2.1 }:EnvV),({ f with line:=wi (f.line+1) }:FrV),()))
  else
  (aaN e.m 2 f.q.bottom f.u 0).bind fun r9 =>
  some (((⟨true,2,0⟩:ResV),()),(({ e with m:=r9.2.1 }:EnvV),f,()))
 else
 if f.line=8 then
  if f.q.cap<1 then
   (aaN e.m 1 (-1) 0 0).bind fun r10 =>
   some (((⟨true,1,wi (r10.1.1)⟩:ResV),()),(({ e with m:=r10.2.1 }:EnvV),f,()))
  else
  if (wu (f.q.cap))≠0 then
   (aaN e.m 1 (wi (f.q.ring+(wi ((Int.tmod (wu (f.u-1)) (wu (f.q.cap))))))) 0 0).bind fun r11 =>
   some (((⟨true,1,wi (r11.1.1)⟩:ResV),()),(({ e with m:=r11.2.1 }:EnvV),f,()))
  else none
 else
 if f.line=6 then
  (aaN e.m 3 f.q.top f.v (wu (f.v+1))).bind fun r12 =>
  if (!r12.1.2.1)=true then
   some (((⟨false,0,0⟩:ResV),()),(({ e with m:=r12.2.1 }:EnvV),({ f with line:=9 }:FrV),()))
  else
  some (((⟨false,0,0⟩:ResV),()),(({ e with m:=r12.2.1 }:EnvV),({ f with line:=wi (f.line+1) }:FrV),()))
 else
 if f.line=7 then
  (aaN e.m 2 f.q.bottom f.u 0).bind fun r13 =>
  some (((⟨false,0,0⟩:ResV),()),(({ e with m:=r13.2.1 }:EnvV),({ f with line:=wi (f.line+1) }:FrV),()))
 else
 (aaN e.m 2 f.q.bottom f.u 0).bind fun r14 =>
 some (((⟨true,2,0⟩:ResV),()),(({ e with m:=r14.2.1 }:EnvV),f,()))
noncomputable abbrev as8:Con SR1:=⟨108,[.ref 12,.ref 8],[.val 10],fun x =>avQ x.1 x.2.1⟩
noncomputable def avO:List (Nat×Func):=[(114,Tryz.f114),(151,Tryz.f151),(112,Tryz.f112),(117,Tryz.f117),(152,Tryz.f152),(116,Tryz.f116)]
theorem avP:CO Tryz.prog as8:=aaC aaB Tryz.func108 [acW] ⟨acn,trivial⟩ avO ⟨Tryz.func114,Tryz.func151,Tryz.func112,Tryz.func117,Tryz.func152,Tryz.func116,trivial⟩ (fun _ =>[]) [] fun x =>by kernel_rfl
noncomputable def amt (e:EnvV) (f:FrV):Option ((ResV×Unit)×(EnvV×FrV×Unit)) :=
 if f.line=1 then
  (aaN e.m 1 f.q.top 0 0).bind fun r1 =>
  some (((⟨false,0,0⟩:ResV),()),(({ e with m:=r1.2.1 }:EnvV),({ f with line:=wi (f.line+1),v:=r1.1.1 }:FrV),()))
 else
 if f.line=2 then
  (aaN e.m 1 f.q.bottom 0 0).bind fun r2 =>
  if (wi (wu (r2.1.1-f.v)))≤0 then
   some (((⟨true,2,0⟩:ResV),()),(({ e with m:=r2.2.1 }:EnvV),({ f with u:=r2.1.1 }:FrV),()))
  else
  some (((⟨false,0,0⟩:ResV),()),(({ e with m:=r2.2.1 }:EnvV),({ f with line:=wi (f.line+1),u:=r2.1.1 }:FrV),()))
 else
 if f.line=3 then
  if f.q.cap<1 then
   (aaN e.m 1 (-1) 0 0).bind fun r3 =>
   some (((⟨false,0,0⟩:ResV),()),(({ e with m:=r3.2.1 }:EnvV),({ f with line:=wi (f.line+1),w:=r3.1.1 }:FrV),()))
  else
  if (wu (f.q.cap))≠0 then
   (aaN e.m 1 (wi (f.q.ring+(wi ((Int.tmod f.v (wu (f.q.cap))))))) 0 0).bind fun r4 =>
   some (((⟨false,0,0⟩:ResV),()),(({ e with m:=r4.2.1 }:EnvV),({ f with line:=wi (f.line+1),w:=r4.1.1 }:FrV),()))
  else none
 else
 (aaN e.m 3 f.q.top f.v (wu (f.v+1))).bind fun r5 =>
 if r5.1.2.1=true then
  some (((⟨true,1,wi (f.w)⟩:ResV),()),(({ e with m:=r5.2.1 }:EnvV),f,()))
 else
 some (((⟨true,4,0⟩:ResV),()),(({ e with m:=r5.2.1 }:EnvV),f,()))
noncomputable abbrev anM:Con SR1:=⟨109,[.ref 12,.ref 8],[.val 10],fun x =>amt x.1 x.2.1⟩
noncomputable def arw:List (Nat×Func):=[(114,Tryz.f114),(151,Tryz.f151),(112,Tryz.f112),(152,Tryz.f152),(116,Tryz.f116)]
theorem arx:CO Tryz.prog anM:=aaC aaB Tryz.func109 [acW] ⟨acn,trivial⟩ arw ⟨Tryz.func114,Tryz.func151,Tryz.func112,Tryz.func152,Tryz.func116,trivial⟩ (fun _ =>[]) [] fun x =>by kernel_rfl
noncomputable def ahi (e:EnvV) (f:FrV):Option ((ResV×Unit)×(EnvV×FrV×Unit)) :=
 if f.line=1 then
  (aiF f.b).bind fun r1 =>
  if f.a=f.a then
   (aaN e.m 5 f.a (awO r1.1.1) 0).bind fun r2 =>
   some (((⟨false,0,0⟩:ResV),()),(({ e with m:=r2.2.1 }:EnvV),({ f with line:=wi (f.line+1) }:FrV),()))
  else none
 else
 if f.line=2 then
  (aaN e.m 1 f.q.bottom 0 0).bind fun r3 =>
  some (((⟨false,0,0⟩:ResV),()),(({ e with m:=r3.2.1 }:EnvV),({ f with line:=wi (f.line+1),u:=r3.1.1 }:FrV),()))
 else
 if f.line=3 then
  (aaN e.m 1 f.q.top 0 0).bind fun r4 =>
  if (wi (wu (f.u-r4.1.1)))≤0 then
   some (((⟨true,2,0⟩:ResV),()),(({ e with m:=r4.2.1 }:EnvV),({ f with v:=r4.1.1 }:FrV),()))
  else
  some (((⟨false,0,0⟩:ResV),()),(({ e with m:=r4.2.1 }:EnvV),({ f with line:=wi (f.line+1),v:=r4.1.1 }:FrV),()))
 else
 (aiF f.b).bind fun r5 =>
 if f.a=f.a then
  (aaN e.m 4 f.a r5.1.1 0).bind fun r6 =>
  some (((⟨true,1,0⟩:ResV),()),(({ e with m:=r6.2.1 }:EnvV),f,()))
 else none
noncomputable abbrev ajJ:Con SR1:=⟨113,[.ref 12,.ref 8],[.val 10],fun x =>ahi x.1 x.2.1⟩
noncomputable def amw:List (Nat×Func):=[(155,Tryz.f155),(114,Tryz.f114),(151,Tryz.f151),(112,Tryz.f112),(110,Tryz.f110)]
theorem amx:CO Tryz.prog ajJ:=aaC aaB Tryz.func113 [aiE,acW] ⟨aiD,acn,trivial⟩ amw ⟨Tryz.func155,Tryz.func114,Tryz.func151,Tryz.func112,Tryz.func110,trivial⟩ (fun _ =>[]) [] fun x =>by kernel_rfl
noncomputable def aiu (e:EnvV) (f:FrV):Option ((ResV×Unit)×(EnvV×FrV×Unit)) :=
 if f.line=1 then
  (aaN e.m 1 2 0 0).bind fun r1 =>
  if e.c.heap≤(wi (r1.1.1)) then
   some (((⟨true,3,0⟩:ResV),()),(({ e with m:=r1.2.1 }:EnvV),({ f with n:=wi (r1.1.1) }:FrV),()))
  else
  some (((⟨false,0,0⟩:ResV),()),(({ e with m:=r1.2.1 }:EnvV),({ f with line:=wi (f.line+1),n:=wi (r1.1.1) }:FrV),()))
 else
 if f.line=2 then
  (aaN e.m 6 3 1 0).bind fun r2 =>
  if f.b=f.b then
   if f.a=f.a then
   (aqu f.a (wi (r2.1.1)) f.b).bind fun r3 =>
   if (!r3.1.2.1)=true then
   some (((⟨true,4,0⟩:ResV),()),(({ e with m:=r2.2.1 }:EnvV),f,()))
   else
   if f.n≤0 then
   some (((⟨false,0,0⟩:ResV),()),(({ e with m:=r2.2.1 }:EnvV),({ f with line:=5,i:=f.n,w:=r3.1.1 }:FrV),()))
   else
   some (((⟨false,0,0⟩:ResV),()),(({ e with m:=r2.2.1 }:EnvV),({ f with line:=wi (f.line+1),i:=f.n,w:=r3.1.1 }:FrV),()))
   else none
  else none
 else
 if f.line=3 then
  (agw e.c (wi (Int.tdiv (wi (f.i-1)) 2))).bind fun r4 =>
  (aaN e.m 1 r4.1.1 0 0).bind fun r5 =>
  if r5.1.1≤f.w then
   some (((⟨false,0,0⟩:ResV),()),(({ e with m:=r5.2.1 }:EnvV),({ f with line:=5,x:=r5.1.1 }:FrV),()))
  else
  some (((⟨false,0,0⟩:ResV),()),(({ e with m:=r5.2.1 }:EnvV),({ f with line:=wi (f.line+1),x:=r5.1.1 }:FrV),()))
 else
 if f.line=4 then
  (agw e.c f.i).bind fun r6 =>
  if f.x=f.x then
   (aaN e.m 2 r6.1.1 f.x 0).bind fun r7 =>
   if (wi (Int.tdiv (wi (f.i-1)) 2))≤0 then
   some (((⟨false,0,0⟩:ResV),()),(({ e with m:=r7.2.1 }:EnvV),({ f with line:=5,i:=wi (Int.tdiv (wi (f.i-1)) 2) }:FrV),()))
   else
   some (((⟨false,0,0⟩:ResV),()),(({ e with m:=r7.2.1 }:EnvV),({ f with line:=3,i:=wi (Int.tdiv (wi (f.i-1)) 2) }:FrV),()))
  else none
 else
 if f.line=5 then
  (agw e.c f.i).bind fun r8 =>
  if f.w=f.w then
   (aaN e.m 2 r8.1.1 f.w 0).bind fun r9 =>
   some (((⟨false,0,0⟩:ResV),()),(({ e with m:=r9.2.1 }:EnvV),({ f with line:=wi (f.line+1) }:FrV),()))
  else none
 else
 (aaN e.m 2 2 (wu (wi (f.n+1))) 0).bind fun r10 =>
 some (((⟨true,0,0⟩:ResV),()),(({ e with m:=r10.2.1 }:EnvV),f,()))
noncomputable abbrev alB:Con SR1:=⟨118,[.ref 12,.ref 8],[.val 10],fun x =>aiu x.1 x.2.1⟩
noncomputable def ao0:List (Nat×Func):=[(114,Tryz.f114),(112,Tryz.f112),(158,Tryz.f158),(117,Tryz.f117)]
theorem ao1:CO Tryz.prog alB:=aaC aaB Tryz.func118 [acW,aqt,amC] ⟨acn,atl,anV,trivial⟩ ao0 ⟨Tryz.func114,Tryz.func112,Tryz.func158,Tryz.func117,trivial⟩ (fun _ =>[]) [] fun x =>by kernel_rfl
noncomputable def aaM (e:EnvV) (a:Int) (b:Int) (c:Int) (d:Int) (i:Int):Option ((Unit)×(EnvV×Unit)) :=
 if (((e.evs.length+([(⟨a,b,c,d,i⟩:Ev)]:List Ev).length:Nat)):Int)<1000000000000 then
  some ((()),(({ e with evs:=e.evs++([(⟨a,b,c,d,i⟩:Ev)]) }:EnvV),()))
 else none
noncomputable abbrev abm:Con SR1:=⟨130,[.ref 12,.sh sI_,.sh sI_,.sh sI_,.sh sI_,.sh sI_],[],fun x =>aaM x.1 x.2.1 x.2.2.1 x.2.2.2.1 x.2.2.2.2.1 x.2.2.2.2.2.1⟩
theorem abh:CO Tryz.prog abm:=aaC aaB Tryz.func130 [] trivial [] trivial (fun _ =>[]) [] fun x =>by kernel_rfl
noncomputable def abF (f:FrV):Option ((Int×Unit)×(FrV×Unit)) :=
 if f.w<f.v then
  some ((7,()),(f,()))
 else
 some ((8,()),(f,()))
noncomputable abbrev alz:Con SR1:=⟨162,[.ref 8],[.sh sI_],fun x =>abF x.1⟩
theorem aoZ:CO Tryz.prog alz:=aaC aaB Tryz.func162 [] trivial [] trivial (fun _ =>[]) [] fun x =>by kernel_rfl
end
section
open Go
theorem apZ {xs:List RecV} {i:Int} (h:0≤i∧i<(xs.length:Int)):ws7 xs i=xs:=by
 have h1:i.toNat<xs.length:=by omega
 have h2:xs[i.toNat]?=some (aat xs i):=ab2 h
 apply List.ext_getElem?
 intro j
 by_cases e:i.toNat=j
 ·subst e; show (xs.set i.toNat _)[i.toNat]?=_; rw [List.getElem?_set_self h1,h2]
 ·exact List.getElem?_set_ne e
section
variable {α β:Type} {o:Option α} {P Q:α→Prop} {x:α}
end
theorem aaG (x:Int):Rg (wi x):=by
 show -9223372036854775808≤IntKind.i64.wrap x∧IntKind.i64.wrap x≤9223372036854775807
 rw [IntKind.wrap_i64]; omega
theorem ab1 {σ β:Type} (F:(σ→Option β)→σ→Option β) (k:Nat) (x:σ):lpF F (k+1) x=F (lpF F k) x:=rfl
def axj (k old v w:Int):Int:=if k=2 then v else if k=3 then (if old=v then w else old) else if k=4 then orU old v else if k=5 then aCl old v else if k=6 then wu (old+v) else old
def acc (m:MemV) (k a v w:Int):(Int×Bool)×MemV :=
 if 0≤a∧a<(m.cells.length:Int) then
  ((ahL m.cells a,if k=3 then decide (ahL m.cells a=v) else true),⟨m.cells.set a.toNat (axj k (ahL m.cells a) v w),⟨k,a,ahL m.cells a,axj k (ahL m.cells a) v w⟩,wi (m.count+1)⟩)
 else ((0,false),m)
theorem abw (m:MemV) (k a v w:Int):aaN m k a v w=some (((acc m k a v w).1.1,(acc m k a v w).1.2,()),((acc m k a v w).2,())):=by
 unfold aaN aBA acc
 by_cases h0:0≤a
 ·by_cases h1:a<(m.cells.length:Int)
  ·simp only [h0,h1,if_true,Option.bind_some,decide_true,Bool.not_true,Bool.false_eq_true,if_false,and_self]
   by_cases k2:k=2
   ·subst k2; simp [axj]
   by_cases k3:k=3
   ·subst k3
    by_cases hv:ahL m.cells a=v<;>simp [axj,hv]
   by_cases k4:k=4
   ·subst k4; simp [axj]
   by_cases k5:k=5
   ·subst k5; simp [axj]
   by_cases k6:k=6
   ·subst k6; simp [axj]
   simp [axj,k2,k3,k4,k5,k6]
  ·simp [h0,h1]
 ·simp [h0]
theorem azk (m:MemV) (k a v w:Int):(acc m k a v w).2.cells.length=m.cells.length:=by
 unfold acc; split<;>simp
theorem aA5 {m:MemV} {k a v w:Int} (h:(acc m k a v w).1.2=true):0≤a∧a<(m.cells.length:Int):=by
 unfold acc at h; split at h
 ·assumption
 ·cases h
def ixA (a b c d:Int):Int:=if b<0 then -1 else if c≤b then -1 else wi (a+wi (b*d))
theorem afT (a b c d:Int):agU a b c d=some ((ixA a b c d,()),()):=by
 unfold agU ixA; split
 ·rfl
 ·split<;>rfl
def dqA (c:Cfg):Int:=wi ((wi ((wi (4+c.heap))+c.classes))+(wi (2*c.workers)))
theorem ah4 (c:Cfg):aiB c=some ((dqA c,()),()):=rfl
def aBB (c:Cfg) (a b:Int):Int:=wi (dqA c+(wi ((wi ((wi (a*c.levels))+b))*(wi (2+c.deque)))))
def aiG (c:Cfg) (a b:Int):QV:=if a<0 then ⟨-1,-1,-1,0⟩ else if c.workers≤a then ⟨-1,-1,-1,0⟩ else if b<0 then ⟨-1,-1,-1,0⟩ else if c.levels≤b then ⟨-1,-1,-1,0⟩ else ⟨aBB c a b,wi (aBB c a b+1),wi (aBB c a b+2),c.deque⟩
theorem aaY (c:Cfg) (a b:Int):afF c a b=some ((aiG c a b,()),()):=by
 unfold afF aiG
 simp only [ah4,Option.bind_some,if_true]
 repeat' split
 all_goals rfl
def aa0 (c:Cfg) (a b:Int):Int:=if ixA (wi (dqA c+(wi ((wi (c.workers*c.levels))*(wi (2+c.deque)))))) a c.tasks 5<0 then -1 else wi (ixA (wi (dqA c+(wi ((wi (c.workers*c.levels))*(wi (2+c.deque)))))) a c.tasks 5+b)
theorem agS (c:Cfg) (a b:Int):ajM c a b=some ((aa0 c a b,()),()):=by
 unfold ajM aa0
 simp only [ah4,afT,Option.bind_some,if_true]
 repeat' split
 all_goals rfl
theorem abA (c:Cfg) (a:Int):agw c a=some ((ixA 4 a c.heap 1,()),()):=by unfold agw; simp only [afT,Option.bind_some]
theorem abb (c:Cfg) (a:Int):adX c a=some ((aa0 c a 0,()),()):=by unfold adX; simp only [agS,Option.bind_some]
theorem abd (c:Cfg) (a:Int):adY c a=some ((aa0 c a 1,()),()):=by unfold adY; simp only [agS,Option.bind_some]
theorem abB (c:Cfg) (a:Int):alI c a=some ((aa0 c a 2,()),()):=by unfold alI; simp only [agS,Option.bind_some]
theorem aba (c:Cfg) (a:Int):ah2 c a=some ((aa0 c a 3,()),()):=by unfold ah2; simp only [agS,Option.bind_some]
theorem abc (c:Cfg) (a:Int):afE c a=some ((aa0 c a 4,()),()):=by unfold afE; simp only [agS,Option.bind_some]
def abX (c:Cfg) (a:Int):Int:=ixA (wi ((wi ((wi (4+c.heap))+c.classes))+c.workers)) a c.workers 1
theorem aaD (c:Cfg) (a:Int):adu c a=some ((abX c a,()),()):=by unfold adu; simp only [afT,Option.bind_some]; rfl
def auR (c:Cfg):Int:=wi ((wi (dqA c+(wi ((wi (c.workers*c.levels))*(wi (2+c.deque))))))+(wi (5*c.tasks)))
theorem arN (c:Cfg):akA c=some ((auR c,()),()):=by unfold akA; simp only [ah4,Option.bind_some,if_true]; rfl
theorem aaH (c:Cfg) (a:Int):aeO c a=some ((ixA (wi (4+c.heap)) a c.classes 1,()),()):=by unfold aeO; simp only [afT,Option.bind_some]
theorem abe (c:Cfg) (a:Int):ajb c a=some ((ixA (wi ((wi (4+c.heap))+c.classes)) a c.workers 1,()),()):=by unfold ajb; simp only [afT,Option.bind_some]
theorem avr {c:Cfg} {t k:Int} (h:0≤aa0 c t k):0≤t∧t<c.tasks:=by
 unfold aa0 at h
 split at h
 ·omega
 ·rename_i h1
  unfold ixA at h1
  repeat' split at h1
  all_goals omega
def apf (n:Nat) (y:Int):Int:=match n with
 | 0 =>y
 | n+1 =>apf n (wu (y*2))
theorem alO {F:(Int×Int×Unit→Option (Int×Int×Unit))→Int×Int×Unit→Option (Int×Int×Unit)} (hF:F=fun self x =>if 0<x.1 then self (wi (x.1-1),wu (x.2.1*2),()) else some (x.1,x.2.1,())):∀ (n k:Nat) (y:Int),n≤64→n<k→lpF F k ((n:Int),y,())=some (0,apf n y,())
 | 0,k+1,y,_,_ =>by rw [ab1,congrFun (congrFun hF _) _]; simp [apf]
 | n+1,k+1,y,hn,hk =>by
  rw [ab1,congrFun (congrFun hF _) _]
  have e:wi (((n+1:Nat):Int)-1)=(n:Int):=by rw [aa2 (aae (by omega))]; omega
  simp only [e]
  rw [if_pos (by omega)]
  exact alO hF n k _ (by omega) (by omega)
theorem ad7 {a:Int} (h0:0≤a) (h1:a≤64):afd a=some ((apf a.toNat 1,()),()):=by
 unfold afd
 have:=alO rfl a.toNat 18446744073709551616 1 (by omega) (by omega)
 rw [show ((a.toNat:Nat):Int)=a by omega] at this
 rw [this]; rfl
theorem atx:(List.range 64).all (fun k =>decide (apf k 1=2 ^ k))=true:=by decide +kernel
theorem ayg {k:Nat} (h:k<64):apf k 1=2 ^ k:=by
 have:=List.all_eq_true.1 atx k (by simp; omega)
 simpa using this
theorem akF {k:Nat} (h:k<64):apf k 1≠0:=by
 rw [ayg h]
 have:(0:Int)<2 ^ k:=Int.pow_pos (by omega)
 omega
def axw (a b:Int):Bool:=if 0≤b∧b<64 then decide (Int.tmod (wu (Int.tdiv a (apf b.toNat 1))) 2=1) else false
theorem abS (a b:Int):an0 a b=some ((axw a b,()),()):=by
 unfold an0 axw
 by_cases h0:0≤b
 ·by_cases h1:b<64
  ·simp only [h0,h1,if_true,and_self,ad7 h0 (by omega:b≤64),Option.bind_some]
   rw [if_pos (akF (by omega))]
  ·simp [h0,h1]
 ·simp [h0]
def akK (a:Int):Int:=if 0≤a∧a≤63 then apf a.toNat 1 else 0
theorem aa3 (a:Int):aiF a=some ((akK a,()),()):=by
 unfold aiF akK
 by_cases h0:a<0
 ·rw [if_pos h0,if_neg (by omega)]
 ·rw [if_neg h0]
  by_cases h1:63<a
  ·rw [if_pos h1,if_neg (by omega)]
  ·rw [if_neg h1,if_pos (by omega),ad7 (by omega) (by omega)]; rfl
def arS (a b c:Int):Int×Bool:=if a<0∨16777215<a∨b<0∨16777215<b∨c<0∨65535<c then (0,false) else (wu ((wu ((wu ((wu ((wu (a))*apf 24 1))+(wu (b))))*apf 16 1))+(wu (c))),true)
theorem abC (a b c:Int):aqu a b c=some (((arS a b c).1,(arS a b c).2,()),()):=by
 unfold aqu arS
 simp only [ad7 (show (0:Int)≤24 by omega) (by omega),ad7 (show (0:Int)≤16 by omega) (by omega),Option.bind_some]
 repeat' split
 all_goals first | rfl | omega
def afC (a:Int):Int×Int×Int:=(wi (wu (Int.tdiv a (apf 40 1))),wi ((Int.tmod (wu (Int.tdiv a (apf 16 1))) (apf 24 1))),wi ((Int.tmod a (apf 16 1))))
theorem aaV (a:Int):aj9 a=some (((afC a).1,(afC a).2.1,(afC a).2.2,()),()):=by
 unfold aj9 afC
 simp only [ad7 (show (0:Int)≤24 by omega) (by omega),ad7 (show (0:Int)≤16 by omega) (by omega),ad7 (show (0:Int)≤40 by omega) (by omega),Option.bind_some]
 rw [if_pos (akF (by decide)),if_pos (akF (by decide)),if_pos (akF (by decide)),if_pos (akF (by decide))]
 rfl
def amW (a:Int):Nat→Int
 | 0 =>-1
 | n+1 =>if axw a n=true then n else amW a n
def aif (a:Int):Int:=amW a 64
theorem aok {a:Int} {F:(Int×Unit→Option ((Int×Unit)⊕((Int×Unit)×Unit)))→Int×Unit→Option ((Int×Unit)⊕((Int×Unit)×Unit))}
  (hF:F=fun self x =>if 0≤x.1 then (an0 a x.1).bind fun r =>if r.1.1=true then Option.map Sum.inr (some ((x.1,()),())) else self (wi (x.1-1),()) else some (Sum.inl (x.1,()))) :
  ∀ (n k:Nat),n≤64→n<k→((lpF F k ((n:Int)-1,())).bind fun z =>match z with | .inr o =>some o | .inl _ =>some ((((-1:Int),()),()):(Int×Unit)×Unit))=some ((amW a n,()),())
 | 0,k+1,_,_ =>by rw [ab1,congrFun (congrFun hF _) _]; rfl
 | n+1,k+1,hn,hk =>by
  rw [ab1,congrFun (congrFun hF _) _]
  have e:(((n+1:Nat):Int)-1)=(n:Int):=by omega
  have e2:wi ((n:Int)-1)=(n:Int)-1:=aa2 (aae (by omega))
  simp only [e,abS,Option.bind_some,e2]
  rw [if_pos (by omega)]
  by_cases hb:axw a n=true
  ·simp [hb,amW]
  ·simp only [hb,Bool.false_eq_true,if_false,amW]
   exact aok hF n k (by omega) (by omega)
theorem aa4 (a:Int):ajN a=some ((aif a,()),()):=by
 unfold ajN
 exact aok (a:=a) rfl 64 18446744073709551616 (by omega) (by omega)
theorem aqO (a:Int):∀ n:Nat,n≤64 → -1≤amW a n∧amW a n<n
 | 0,_ =>by simp [amW]
 | n+1,h =>by
  have:=aqO a n (by omega)
  unfold amW; split<;>omega
theorem awv (a:Int):-1≤aif a∧aif a≤63:=by
 have:=aqO a 64 (by omega)
 unfold aif; omega
def awl (a:Int):Nat→Int
 | 0 =>-1
 | n+1 =>if axw a ((63-n:Nat):Int)=true then ((63-n:Nat):Int) else awl a n
def ayy (a:Int):Int:=awl a 64
theorem aqE {a:Int} {F:(Int×Int×Unit→Option ((Int×Int×Unit)⊕((Int×Unit)×Unit)))→Int×Int×Unit→Option ((Int×Int×Unit)⊕((Int×Unit)×Unit))}
  (hF:F=fun self x =>if x.2.1<64 then (an0 a x.2.1).bind fun r =>if (!r.1.1)=true then self (x.1,wi (x.2.1+1),()) else if x.1=0 then Option.map Sum.inr (some ((x.2.1,()),())) else self (wi (x.1-1),wi (x.2.1+1),()) else some (Sum.inl (x.1,x.2.1,()))) :
  ∀ (n k:Nat),n≤64→n<k→((lpF F k (0,((64-n:Nat):Int),())).bind fun z =>match z with | .inr o =>some o | .inl _ =>some ((((-1:Int),()),()):(Int×Unit)×Unit))=some ((awl a n,()),())
 | 0,k+1,_,_ =>by rw [ab1,congrFun (congrFun hF _) _]; rfl
 | n+1,k+1,hn,hk =>by
  rw [ab1,congrFun (congrFun hF _) _]
  have e:(((64-(n+1):Nat)):Int)=((63-n:Nat):Int):=by omega
  have e2:wi (((63-n:Nat):Int)+1)=((64-n:Nat):Int):=by rw [aa2 (aae (by omega))]; omega
  simp only [e,abS,Option.bind_some,e2]
  rw [if_pos (by omega)]
  by_cases hb:axw a ((63-n:Nat):Int)=true
  ·simp [hb,awl]
  ·have hb':axw a ((63-n:Nat):Int)=false:=by simpa using hb
   simp only [hb',Bool.not_false,if_true,awl,Bool.false_eq_true,if_false]
   exact aqE hF n k (by omega) (by omega)
theorem ab0 (a:Int):avZ a=some ((ayy a,()),()):=by
 unfold avZ
 have:avX a 0=some ((ayy a,()),()):=by
  unfold avX
  exact aqE (a:=a) rfl 64 18446744073709551616 (by omega) (by omega)
 rw [this]; rfl
theorem atT (a:Int):∀ n:Nat,n≤64 → -1≤awl a n∧awl a n<64
 | 0,_ =>by simp [awl]
 | n+1,h =>by
  have:=atT a n (by omega)
  unfold awl; split<;>omega
theorem ayx (a:Int):-1≤ayy a∧ayy a≤63:=by
 have:=atT a 64 (by omega)
 unfold ayy; omega
def acy (a b:Int):Int:=if b<1 then 0 else if Int.tmod a b<0 then wi (Int.tmod a b+b) else Int.tmod a b
theorem abn (a b:Int):aiC a b=some ((acy a b,()),()):=by
 unfold aiC acy
 by_cases h:b<1
 ·rw [if_pos h,if_pos h]
 ·rw [if_neg h,if_neg h]
  have hb:b≠0:=by omega
  rw [if_pos hb]
  by_cases h2:Int.tmod a b<0
  ·rw [if_pos h2,if_pos h2,if_pos hb]
  ·rw [if_neg h2,if_neg h2,if_pos hb]
theorem am8 {a b:Int} (h1:1≤b) (h2:b≤1000000000000):0≤acy a b∧acy a b<b:=by
 unfold acy
 have h3:=Int.tmod_lt_of_pos a (b:=b) (by omega)
 have h4:=Int.lt_tmod_of_pos a (b:=b) (by omega)
 rw [if_neg (by omega)]
 split
 ·rw [aa2 (aae (by omega))]; omega
 ·omega
theorem aux {a b:Int} (h2:b≤1000000000000):Rg (acy a b):=by
 by_cases h:1≤b
 ·have:=am8 (a:=a) h h2; exact aae (by omega)
 ·unfold acy; rw [if_pos (by omega)]; exact aae (by omega)
def auN (a b c:Int):Int:=if b<1∨64<b∨a<0∨b≤a∨c<1∨8<c then 0 else wi (Int.tdiv (wi (a*c)) b)
theorem abf (a b c:Int):amF a b c=some ((auN a b c,()),()):=by
 unfold amF auN
 repeat' split
 all_goals first | rfl | omega
theorem amf {a b:Int} (h1:1≤b) (h2:b≤1000000000000):Rg (Int.tmod a b):=by
 have h3:=Int.tmod_lt_of_pos a (b:=b) (by omega)
 have h4:=Int.lt_tmod_of_pos a (b:=b) (by omega)
 exact aae (by omega)
def EnvV.ac (e:EnvV) (k a v w:Int):EnvV:={ e with m:=(acc e.m k a v w).2 }
def EnvV.rd (e:EnvV) (k a v w:Int):Int:=(acc e.m k a v w).1.1
def EnvV.hit (e:EnvV) (k a v w:Int):Bool:=(acc e.m k a v w).1.2
def EnvV.em (e:EnvV) (k w t o l:Int):EnvV:={ e with evs:=e.evs++[⟨k,w,t,o,l⟩] }
def EnvV.rc (e:EnvV) (t:Int):RecV:=aat e.recs t
def EnvV.put (e:EnvV) (t:Int) (r:RecV):EnvV:={ e with recs:=e.recs.set t.toNat r }
def acm (e:EnvV) (t:Int):Prop:=0≤t∧t<e.c.tasks∧t<(e.recs.length:Int)
instance (e : EnvV) (t : Int) : Decidable (acm e t) := inferInstanceAs (Decidable (_ ∧ _ ∧ _))
def EnvV.prog (e:EnvV) (t:Int):List Ins:=if (e.rc t).prog<0∨(e.c.progs.length:Int)≤(e.rc t).prog then [] else atL [] e.c.progs (e.rc t).prog
def EnvV.ins (e:EnvV) (t:Int):Ins:=acA (e.prog t) (e.rc t).pc
abbrev Lf:=ResV×EnvV×FrV
def go (e:EnvV) (f:FrV):Lf:=(⟨false,0,0⟩,e,f)
def fin (c v:Int) (e:EnvV) (f:FrV):Lf:=(⟨true,c,v⟩,e,f)
def aek (o:Lf):(ResV×Unit)×(EnvV×FrV×Unit):=((o.1,()),(o.2.1,o.2.2,()))
def aeI (q:QV) (i:Int):Int:=if q.cap<1 then -1 else wi (q.ring+wi (Int.tmod i (wu q.cap)))
def szV (b t:Int):Int:=wi (wu (b-t))
abbrev EnvV.ld (e:EnvV) (a:Int):Int:=e.rd 1 a 0 0
abbrev EnvV.lm (e:EnvV) (a:Int):EnvV:=e.ac 1 a 0 0
abbrev EnvV.sm (e:EnvV) (a v:Int):EnvV:=e.ac 2 a v 0
def acP (c:Cfg) (a:Int):Int:=ixA (wi ((wi (4+c.heap))+c.classes)) a c.workers 1
def adh (c:Cfg) (a:Int):Int:=ixA (wi (4+c.heap)) a c.classes 1
def acB (c:Cfg) (a:Int):Int:=ixA 4 a c.heap 1
def arQ (e:EnvV) (f:FrV):Lf :=
 if f.line=1 then go (e.lm f.q.bottom) { f with line:=2,u:=e.ld f.q.bottom }
 else if f.line=2 then
  if f.q.cap≤szV f.u (e.ld f.q.top) then fin 3 0 (e.lm f.q.top) { f with v:=e.ld f.q.top } else go (e.lm f.q.top) { f with line:=3,v:=e.ld f.q.top }
 else if f.line=3 then go (e.sm (aeI f.q f.u) (wu f.a)) { f with line:=4 }
 else fin 0 0 (e.sm f.q.bottom (wu (f.u+1))) f
def azs (e:EnvV) (f:FrV):Lf :=
 if f.line=1 then go (e.lm f.q.bottom) { f with line:=2,u:=e.ld f.q.bottom }
 else if f.line=2 then
  if szV f.u (e.ld f.q.top)≤0 then fin 2 0 (e.lm f.q.top) { f with v:=e.ld f.q.top } else go (e.lm f.q.top) { f with line:=3,v:=e.ld f.q.top }
 else if f.line=3 then go (e.sm f.q.bottom (wu (f.u-1))) { f with line:=4 }
 else if f.line=4 then
  if szV (wu (f.u-1)) (e.ld f.q.top)=0 then go (e.lm f.q.top) { f with line:=6,v:=e.ld f.q.top }
  else if szV (wu (f.u-1)) (e.ld f.q.top)<0 then go (e.lm f.q.top) { f with line:=9,v:=e.ld f.q.top }
  else go (e.lm f.q.top) { f with line:=5,v:=e.ld f.q.top }
 else if f.line=5∨f.line=8 then fin 1 (wi (e.ld (aeI f.q (wu (f.u-1))))) (e.lm (aeI f.q (wu (f.u-1)))) f
 else if f.line=6 then
  if e.hit 3 f.q.top f.v (wu (f.v+1))=true then go (e.ac 3 f.q.top f.v (wu (f.v+1))) { f with line:=7 } else go (e.ac 3 f.q.top f.v (wu (f.v+1))) { f with line:=9 }
 else if f.line=7 then go (e.sm f.q.bottom f.u) { f with line:=8 }
 else fin 2 0 (e.sm f.q.bottom f.u) f
def alp (e:EnvV) (f:FrV):Lf :=
 if f.line=1 then go (e.lm f.q.top) { f with line:=2,v:=e.ld f.q.top }
 else if f.line=2 then
  if szV (e.ld f.q.bottom) f.v≤0 then fin 2 0 (e.lm f.q.bottom) { f with u:=e.ld f.q.bottom } else go (e.lm f.q.bottom) { f with line:=3,u:=e.ld f.q.bottom }
 else if f.line=3 then go (e.lm (aeI f.q f.v)) { f with line:=4,w:=e.ld (aeI f.q f.v) }
 else if e.hit 3 f.q.top f.v (wu (f.v+1))=true then fin 1 (wi f.w) (e.ac 3 f.q.top f.v (wu (f.v+1))) f else fin 4 0 (e.ac 3 f.q.top f.v (wu (f.v+1))) f
def al4 (e:EnvV) (f:FrV):Lf :=
 if f.line=1 then go (e.ac 5 f.a (awO (akK f.b)) 0) { f with line:=2 }
 else if f.line=2 then go (e.lm f.q.bottom) { f with line:=3,u:=e.ld f.q.bottom }
 else if f.line=3 then
  if szV f.u (e.ld f.q.top)≤0 then fin 2 0 (e.lm f.q.top) { f with v:=e.ld f.q.top } else go (e.lm f.q.top) { f with line:=4,v:=e.ld f.q.top }
 else fin 1 0 (e.ac 4 f.a (akK f.b) 0) f
def ajp (e:EnvV) (f:FrV):Lf :=
 if f.line=1 then
  if e.c.heap≤wi (e.ld 2) then fin 3 0 (e.lm 2) { f with n:=wi (e.ld 2) } else go (e.lm 2) { f with line:=2,n:=wi (e.ld 2) }
 else if f.line=2 then
  if (arS f.a (wi (e.rd 6 3 1 0)) f.b).2=true then
   if f.n≤0 then go (e.ac 6 3 1 0) { f with line:=5,i:=f.n,w:=(arS f.a (wi (e.rd 6 3 1 0)) f.b).1 } else go (e.ac 6 3 1 0) { f with line:=3,i:=f.n,w:=(arS f.a (wi (e.rd 6 3 1 0)) f.b).1 }
  else fin 4 0 (e.ac 6 3 1 0) f
 else if f.line=3 then
  if e.ld (acB e.c (wi (Int.tdiv (wi (f.i-1)) 2)))≤f.w then go (e.lm (acB e.c (wi (Int.tdiv (wi (f.i-1)) 2)))) { f with line:=5,x:=e.ld (acB e.c (wi (Int.tdiv (wi (f.i-1)) 2))) }
  else go (e.lm (acB e.c (wi (Int.tdiv (wi (f.i-1)) 2)))) { f with line:=4,x:=e.ld (acB e.c (wi (Int.tdiv (wi (f.i-1)) 2))) }
 else if f.line=4 then
  if wi (Int.tdiv (wi (f.i-1)) 2)≤0 then go (e.sm (acB e.c f.i) f.x) { f with line:=5,i:=wi (Int.tdiv (wi (f.i-1)) 2) } else go (e.sm (acB e.c f.i) f.x) { f with line:=3,i:=wi (Int.tdiv (wi (f.i-1)) 2) }
 else if f.line=5 then go (e.sm (acB e.c f.i) f.w) { f with line:=6 }
 else fin 0 0 (e.sm 2 (wu (wi (f.n+1)))) f
def acx (f:FrV):Int:=if f.w<f.v then 7 else 8
def ai6 (e:EnvV) (f:FrV):Lf :=
 if f.line=1 then
  if wi (e.ld 2)≤0 then fin 2 0 (e.lm 2) { f with n:=wi (e.ld 2) } else go (e.lm 2) { f with line:=2,n:=wi (e.ld 2) }
 else if f.line=2 then go (e.lm (acB e.c 0)) { f with line:=3,u:=e.ld (acB e.c 0) }
 else if f.line=3 then go (e.lm (acB e.c (wi (f.n-1)))) { f with line:=4,v:=e.ld (acB e.c (wi (f.n-1))) }
 else if f.line=4 then
  if f.n=1 then fin 1 (afC f.u).2.2 ((e.sm 2 (wu (wi (f.n-1)))).em 13 f.a (afC f.u).2.2 0 0) f
  else if 1<wi (f.n-1) then go ((e.sm 2 (wu (wi (f.n-1)))).em 13 f.a (afC f.u).2.2 0 0) { f with line:=5,i:=0 }
  else go ((e.sm 2 (wu (wi (f.n-1)))).em 13 f.a (afC f.u).2.2 0 0) { f with line:=8,i:=0 }
 else if f.line=5 then
  if wi (f.n-1)≤wi (wi (2*f.i)+2) then go (e.lm (acB e.c (wi (wi (2*f.i)+1)))) { f with line:=acx { f with w:=e.ld (acB e.c (wi (wi (2*f.i)+1))) },j:=wi (wi (2*f.i)+1),w:=e.ld (acB e.c (wi (wi (2*f.i)+1))) }
  else go (e.lm (acB e.c (wi (wi (2*f.i)+1)))) { f with line:=6,j:=wi (wi (2*f.i)+1),w:=e.ld (acB e.c (wi (wi (2*f.i)+1))) }
 else if f.line=6 then
  if e.ld (acB e.c (wi (wi (2*f.i)+2)))<f.w then go (e.lm (acB e.c (wi (wi (2*f.i)+2)))) { f with line:=acx { f with w:=e.ld (acB e.c (wi (wi (2*f.i)+2))) },j:=wi (wi (2*f.i)+2),w:=e.ld (acB e.c (wi (wi (2*f.i)+2))) }
  else go (e.lm (acB e.c (wi (wi (2*f.i)+2)))) { f with line:=acx f }
 else if f.line=7 then
  if wi (wi (2*f.j)+1)<wi (f.n-1) then go (e.sm (acB e.c f.i) f.w) { f with line:=5,i:=f.j } else go (e.sm (acB e.c f.i) f.w) { f with line:=8,i:=f.j }
 else fin 1 (afC f.u).2.2 (e.sm (acB e.c f.i) f.v) f
def al5 (e:EnvV) (f:FrV):Lf :=
 if e.hit 3 (aa0 e.c f.b 0) 1 2=true then
  fin 1 f.b ((((e.ac 3 (aa0 e.c f.b 0) 1 2).put f.b { e.rc f.b with started:=true })).em (if (e.rc f.b).started=true then 9 else 5) f.a f.b 0 0) f
 else fin 4 0 ((e.ac 3 (aa0 e.c f.b 0) 1 2).em 15 f.a f.b 0 0) f
def aiY (e:EnvV) (f:FrV):Lf :=
 if acm e (wi (e.rd 6 0 1 0)) then fin 1 (wi (e.rd 6 0 1 0)) (e.ac 6 0 1 0) f else fin 3 0 (e.ac 6 0 1 0) f
def ahp (e:EnvV) (f:FrV):Lf :=
 if ¬ acm e f.a then fin 4 0 e f
 else if f.line=1 then go (e.sm (aa0 e.c f.a 1) (wu f.b)) { f with line:=2 }
 else if f.line=2 then go (e.sm (aa0 e.c f.a 4) (wu e.now)) { f with line:=3 }
 else fin 0 0 (e.sm (aa0 e.c f.a 0) 1) f
def ajt (e:EnvV) (f:FrV):Lf :=
 if ¬ acm e f.b then fin 4 0 e f
 else if f.line=1 then go (e.sm (aa0 e.c f.b 4) (wu e.now)) { f with line:=2 }
 else if f.line=2 then go (e.sm (aa0 e.c f.b 0) 1) { f with line:=3 }
 else go (e.lm (aa0 e.c f.b 1)) { f with line:=wi (f.line+1),t:=wi (e.ld (aa0 e.c f.b 1)) }
def alx (e:EnvV) (f:FrV):Lf :=
 if ¬ acm e f.b∨f.d<0∨e.c.levels≤f.d then fin 4 0 e f
 else if f.line=1 then
  if f.d≤wi (e.ld (aa0 e.c f.b 1)) then fin 0 0 (e.lm (aa0 e.c f.b 1)) { f with u:=e.ld (aa0 e.c f.b 1) } else go (e.lm (aa0 e.c f.b 1)) { f with line:=2,u:=e.ld (aa0 e.c f.b 1) }
 else if e.hit 3 (aa0 e.c f.b 1) f.u (wu f.d)=true then fin 1 0 ((e.ac 3 (aa0 e.c f.b 1) f.u (wu f.d)).em 11 f.a f.b 0 f.d) f
 else go (e.ac 3 (aa0 e.c f.b 1) f.u (wu f.d)) { f with line:=1 }
def arb (e:EnvV) (f:FrV):Lf :=
 if ¬ acm e f.b∨f.d<0∨e.c.levels≤f.d then fin 4 0 e f
 else if f.line=2 then
  if e.ld (aa0 e.c f.b 0)=1 then go (e.lm (aa0 e.c f.b 0)) { f with line:=3 } else go (e.lm (aa0 e.c f.b 0)) { f with line:=4 }
 else if e.ld (aa0 e.c f.b 3)=0 then fin 0 0 (e.lm (aa0 e.c f.b 3)) f
 else go (e.lm (aa0 e.c f.b 3)) { f with line:=1,b:=wi (wu (e.ld (aa0 e.c f.b 3)-1)) }
def aln (e:EnvV) (f:FrV):Lf :=
 if ¬ acm e f.b∨e.c.age=0 then fin 0 0 e f
 else if f.line=1 then
  if e.ld (aa0 e.c f.b 0)=1 then go (e.lm (aa0 e.c f.b 0)) { f with line:=2 } else fin 0 0 (e.lm (aa0 e.c f.b 0)) f
 else if f.line=2 then
  if wi (e.now-wi (e.ld (aa0 e.c f.b 4)))<e.c.age then fin 0 0 (e.lm (aa0 e.c f.b 4)) f else go (e.lm (aa0 e.c f.b 4)) { f with line:=3 }
 else if f.line=3 then
  if wi (e.c.levels-1)≤wi (e.ld (aa0 e.c f.b 1)) then fin 0 0 (e.lm (aa0 e.c f.b 1)) { f with t:=wi (wi (e.ld (aa0 e.c f.b 1))+1),u:=e.ld (aa0 e.c f.b 1) }
  else go (e.lm (aa0 e.c f.b 1)) { f with line:=4,t:=wi (wi (e.ld (aa0 e.c f.b 1))+1),u:=e.ld (aa0 e.c f.b 1) }
 else if f.line=4 then
  if e.hit 3 (aa0 e.c f.b 1) f.u (wu (f.u+1))=true then go ((e.ac 3 (aa0 e.c f.b 1) f.u (wu (f.u+1))).em 12 f.a f.b 0 f.t) { f with line:=5 } else fin 4 0 (e.ac 3 (aa0 e.c f.b 1) f.u (wu (f.u+1))) f
 else go (e.sm (aa0 e.c f.b 4) (wu e.now)) { f with line:=wi (f.line+1) }
def alr (e:EnvV) (f:FrV):Lf :=
 if f.line=1 then go (e.lm (acP e.c f.a)) { f with line:=2,u:=e.ld (acP e.c f.a) }
 else if f.line=2 then go (e.ac 4 (adh e.c (acy f.a e.c.classes)) (akK f.a) 0) { f with line:=3 }
 else if f.line=3 then
  if e.ld 2=0 then go (e.lm 2) { f with line:=4,n:=0 } else go (e.lm 2) { f with line:=7,n:=0 }
 else if f.line=4 then
  if e.ld (abX e.c f.n)=0 then
   if wi (f.n+1)<e.c.workers then go (e.lm (abX e.c f.n)) { f with line:=4,n:=wi (f.n+1) }
   else go ((e.lm (abX e.c f.n)).em 16 f.a 0 0 0) { f with line:=5,n:=wi (f.n+1),t:=e.now }
  else go (e.lm (abX e.c f.n)) { f with line:=7,n:=wi (f.n+1) }
 else if f.line=5 then
  if e.ld (acP e.c f.a)=f.u then
   if e.c.patience≤wi (e.now-f.t) then go ((e.lm (acP e.c f.a)).em 17 f.a 0 2 0) { f with line:=6 } else go (e.lm (acP e.c f.a)) { f with line:=5 }
  else go ((e.lm (acP e.c f.a)).em 17 f.a 0 1 0) { f with line:=6 }
 else if f.line=6 then fin 1 0 (e.ac 5 (adh e.c (acy f.a e.c.classes)) (awO (akK f.a)) 0) f
 else fin 5 0 (e.ac 5 (adh e.c (acy f.a e.c.classes)) (awO (akK f.a)) 0) f
def ad5 (e:EnvV) (f:FrV):Int:=adh e.c (acy (wi (auN f.b e.c.levels e.c.classes+f.j)) e.c.classes)
def arc (e:EnvV) (f:FrV):Lf :=
 if f.line=1 then
  if e.ld (ad5 e f)=0 then
   if e.c.classes≤wi (f.j+1) then fin 2 0 (e.lm (ad5 e f)) { f with j:=wi (f.j+1) } else go (e.lm (ad5 e f)) { f with j:=wi (f.j+1) }
  else go (e.lm (ad5 e f)) { f with line:=2,n:=ayy (e.ld (ad5 e f)) }
 else if f.line=2 then
  if axw (e.rd 5 (ad5 e f) (awO (akK f.n)) 0) f.n=true then go (e.ac 5 (ad5 e f) (awO (akK f.n)) 0) { f with line:=3 } else fin 4 0 (e.ac 5 (ad5 e f) (awO (akK f.n)) 0) f
 else fin 1 f.n ((e.ac 6 (acP e.c f.n) 1 0).em 18 f.a 0 f.n 0) f
def al0 (e:EnvV) (f:FrV):Lf :=
 if f.line=1 then
  if wi (e.ld 2)≤0 then fin 2 0 (e.lm 2) f else go (e.lm 2) { f with line:=2 }
 else go (e.lm (aa0 e.c f.n 1)) { f with line:=5,t:=wi (e.ld (aa0 e.c f.n 1)) }
def aa7 (l:List Int):Int:=l.getLast?.getD 0
def ad4 (e:EnvV) (f:FrV):Lf:=if f.l.length=1 then fin 0 0 e { f with line:=1,l:=f.l.dropLast } else go e { f with line:=1,l:=f.l.dropLast }
def aig (e:EnvV) (f:FrV) (t:Int):Lf :=
 if f.line=17 then go (e.sm (aa0 e.c t 0) 4) { f with line:=18 }
 else if f.line=18 then
  if e.hit 3 (aa0 e.c t 2) 0 4294967296=true then ad4 ((e.ac 3 (aa0 e.c t 2) 0 4294967296).em 10 f.a t 0 0) f
  else go ((e.ac 3 (aa0 e.c t 2) 0 4294967296).em 10 f.a t 0 0) { f with line:=19 }
 else if acm e (wi (wu (e.ld (aa0 e.c t 2)-1))) then go (e.lm (aa0 e.c t 2)) { f with line:=20,n:=wi (wu (e.ld (aa0 e.c t 2)-1)) }
 else ad4 (e.lm (aa0 e.c t 2)) { f with n:=wi (wu (e.ld (aa0 e.c t 2)-1)) }
def aza (r:RecV) (i:Ins):RecV := 
 if wi ((if r.left=0 then i.a else r.left)-1)=0 then { r with pc:=wi (r.pc+1),left:=wi ((if r.left=0 then i.a else r.left)-1) } else { r with left:=wi ((if r.left=0 then i.a else r.left)-1) }
def ax0 (e:EnvV) (f:FrV):Lf :=
 if f.line=23 then fin 4 0 e f
 else if f.line=2 then go ((e.sm (aa0 e.c (aa7 f.l) 3) 0).put (aa7 f.l) { e.rc (aa7 f.l) with waiting := -1 }) { f with line:=1 }
 else if f.line=3 then go (e.put (aa7 f.l) (aza (e.rc (aa7 f.l)) (e.ins (aa7 f.l)))) { f with line:=1 }
 else if f.line=4 then go (e.put (aa7 f.l) { e.rc (aa7 f.l) with pc:=wi ((e.rc (aa7 f.l)).pc+1) }) { f with line:=1 }
 else if f.line=10 then go ((e.sm (aa0 e.c (aa7 f.l) 3) (wu (wi (f.j+1)))).put (aa7 f.l) { e.rc (aa7 f.l) with pc:=wi ((e.rc (aa7 f.l)).pc+1),waiting:=f.j }) { f with line:=11 }
 else if f.line=11 then go (e.sm (aa0 e.c (aa7 f.l) 0) 3) { f with line:=12 }
 else if f.line=12 then
  if e.hit 3 (aa0 e.c f.j 2) 0 (wu (wi (aa7 f.l+1)))=true then go ((e.ac 3 (aa0 e.c f.j 2) 0 (wu (wi (aa7 f.l+1)))).em 6 f.a (aa7 f.l) f.j 0) { f with line:=13 }
  else go (e.ac 3 (aa0 e.c f.j 2) 0 (wu (wi (aa7 f.l+1)))) { f with line:=15 }
 else if f.line=13 then go (e.lm (aa0 e.c (aa7 f.l) 1)) { f with line:=14,t:=wi (e.ld (aa0 e.c (aa7 f.l) 1)) }
 else if f.line=15 then go (e.sm (aa0 e.c (aa7 f.l) 0) 2) { f with line:=16 }
 else if f.line=16 then go (((e.sm (aa0 e.c (aa7 f.l) 3) 0).put (aa7 f.l) { e.rc (aa7 f.l) with waiting := -1 }).em 8 f.a (aa7 f.l) f.j 0) { f with line:=1 }
 else aig e f (aa7 f.l)
def EnvV.sub (e:EnvV) (i:Int):Sub:=acK e.c.subs i
def ajv (e:EnvV) (f:FrV):Lf :=
 if (e.c.subs.length:Int)≤f.i then fin 0 0 e f
 else if f.line=2 then
  if e.c.heap≤wi (e.ld 2) then go ((e.lm 2).em 2 e.c.workers 0 f.i 1) { f with line:=8,b:=0 } else go (e.lm 2) { f with line:=3,b:=0 }
 else if f.line=4 then go (e.sm (aa0 e.c f.n 1) (wu (e.sub f.i).level)) { f with line:=5 }
 else if f.line=5 then go (e.sm (aa0 e.c f.n 4) (wu e.now)) { f with line:=6 }
 else go (e.sm (aa0 e.c f.n 0) 1) { f with line:=wi (f.line+1) }
end
end Go.Proofs.YtkmkhldmflebkaaGreat
